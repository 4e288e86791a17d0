/- Chapter 8, WorldHeads. -/
import Derived.Test.YtpcmoclohepdiagStmWorldHeads
namespace Go.Proofs.Ytpcmoclohepdiag.Pure
open Go.RowKit Go.Proofs.Ytpcmoclohepdiag.PWorldHeads Go.Proofs.YtpcmoclohepdiagW.PrintWords
theorem WorldHeads : Go.Proofs.Ytpcmoclohepdiag.PWorldHeads.corrielaw08_WorldHeads.Pure := by
  unfold corrielaw08_WorldHeads.Pure
  intros
  rfl
end Go.Proofs.Ytpcmoclohepdiag.Pure
