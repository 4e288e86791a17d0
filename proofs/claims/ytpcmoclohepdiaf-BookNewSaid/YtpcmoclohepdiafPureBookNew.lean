/- Chapter 7, BookNew. -/
import Derived.Test.YtpcmoclohepdiafStmBookNew
namespace Go.Proofs.Ytpcmoclohepdiaf.Pure
open Go.RowKit Go.Proofs.Ytpcmoclohepdiaf.PBookNew Go.Proofs.YtpcmoclohepdiafW.PrintWords
theorem BookNew : Go.Proofs.Ytpcmoclohepdiaf.PBookNew.corrielaw07_BookNew.Pure := by
  unfold corrielaw07_BookNew.Pure
  intros
  rfl
end Go.Proofs.Ytpcmoclohepdiaf.Pure
