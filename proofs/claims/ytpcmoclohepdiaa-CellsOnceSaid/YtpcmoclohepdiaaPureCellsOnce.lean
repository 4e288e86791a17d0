/- Chapter 6, CellsOnce: of two swaps of the same old word one is done, if the new one isn't that. -/
import Derived.Test.YtpcmoclohepdiaaStmCellsOnce
namespace Go.Proofs.Ytpcmoclohepdiaa.Pure
open Go.RowKit Go.Proofs.Ytpcmoclohepdiaa.PCellsOnce Go.Proofs.YtpcmoclohepdiaaW.PrintWords
theorem CellsOnce : Go.Proofs.Ytpcmoclohepdiaa.PCellsOnce.corrielaw06_CellsOnce.Pure := by
  unfold corrielaw06_CellsOnce.Pure
  intros
  rfl
end Go.Proofs.Ytpcmoclohepdiaa.Pure
