-- Written by a program of this session (wip/tools/rowgen.py)
import Derived.Test.YtpcmoclohepdiaaPCellsNobodyx1
namespace Go.Proofs.Ytpcmoclohepdiaa.PCellsNobody
open Go.RowKit Go.Proofs.YtpcmoclohepdiaaW.PrintWords
/-- The one pure statement of CellsNobody. -/
def corrielaw06_CellsNobody.Pure : Prop := ∀ (a0 : Int) (a1 : Int), (Lit.int .i64 a0).wf = true → (Lit.int .u64 a1).wf = true → corrielaw06_CellsNobody.f a0 a1 = some true
end Go.Proofs.Ytpcmoclohepdiaa.PCellsNobody
