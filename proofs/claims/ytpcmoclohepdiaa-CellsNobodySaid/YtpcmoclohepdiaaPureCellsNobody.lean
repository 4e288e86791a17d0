/- Chapter 6, CellsNobody: of cells that are nil nothing is told. -/
import Derived.Test.YtpcmoclohepdiaaStmCellsNobody
namespace Go.Proofs.Ytpcmoclohepdiaa.Pure
open Go.RowKit Go.Proofs.Ytpcmoclohepdiaa.PCellsNobody Go.Proofs.YtpcmoclohepdiaaW.PrintWords
theorem CellsNobody : Go.Proofs.Ytpcmoclohepdiaa.PCellsNobody.corrielaw06_CellsNobody.Pure := by
  unfold corrielaw06_CellsNobody.Pure
  intros
  rfl
end Go.Proofs.Ytpcmoclohepdiaa.Pure
