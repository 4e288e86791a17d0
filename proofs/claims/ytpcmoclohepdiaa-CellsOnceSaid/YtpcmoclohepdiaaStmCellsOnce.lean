-- Written by a program of this session (wip/tools/rowgen.py)
import Derived.Test.YtpcmoclohepdiaaPCellsOncex1
namespace Go.Proofs.Ytpcmoclohepdiaa.PCellsOnce
open Go.RowKit Go.Proofs.YtpcmoclohepdiaaW.PrintWords
/-- The one pure statement of CellsOnce. -/
def corrielaw06_CellsOnce.Pure : Prop := ∀ (a0 : Int) (a1 : Int) (a2 : Int), (Lit.int .u64 a0).wf = true → (Lit.int .u64 a1).wf = true → (Lit.int .u64 a2).wf = true → corrielaw06_CellsOnce.f a0 a1 a2 = some true
end Go.Proofs.Ytpcmoclohepdiaa.PCellsOnce
