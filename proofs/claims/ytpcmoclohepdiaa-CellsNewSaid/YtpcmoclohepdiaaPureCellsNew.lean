/- Chapter 6, CellsNew: so many cells, all 0, or none. -/
import Derived.Test.YtpcmoclohepdiaaStmCellsNew
namespace Go.Proofs.Ytpcmoclohepdiaa.Pure
open Go.RowKit Go.Proofs.Ytpcmoclohepdiaa.PCellsNew Go.Proofs.YtpcmoclohepdiaaW.PrintWords
theorem CellsNew : Go.Proofs.Ytpcmoclohepdiaa.PCellsNew.corrielaw06_CellsNew.Pure := by
  unfold corrielaw06_CellsNew.Pure
  intros
  rfl
end Go.Proofs.Ytpcmoclohepdiaa.Pure
