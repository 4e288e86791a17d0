-- Written by a program of this session (wip/tools/rowgen.py)
import Derived.Test.YtpcmoclohepdiaaPCellsNewx1
namespace Go.Proofs.Ytpcmoclohepdiaa.PCellsNew
open Go.RowKit Go.Proofs.YtpcmoclohepdiaaW.PrintWords
/-- The one pure statement of CellsNew. -/
def corrielaw06_CellsNew.Pure : Prop := ∀ (a0 : Int) (a1 : Int), (Lit.int .i64 a0).wf = true → (Lit.int .i64 a1).wf = true → corrielaw06_CellsNew.f a0 a1 = some true
end Go.Proofs.Ytpcmoclohepdiaa.PCellsNew
