/- Chapter 7, BookNobody. -/
import Derived.Test.YtpcmoclohepdiafStmBookNobody
namespace Go.Proofs.Ytpcmoclohepdiaf.Pure
open Go.RowKit Go.Proofs.Ytpcmoclohepdiaf.PBookNobody Go.Proofs.YtpcmoclohepdiafW.PrintWords
theorem BookNobody : Go.Proofs.Ytpcmoclohepdiaf.PBookNobody.corrielaw07_BookNobody.Pure := by
  unfold corrielaw07_BookNobody.Pure
  intros
  rfl
end Go.Proofs.Ytpcmoclohepdiaf.Pure
