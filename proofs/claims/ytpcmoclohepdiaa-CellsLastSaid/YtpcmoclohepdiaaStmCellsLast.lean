-- Written by a program of this session (wip/tools/rowgen.py)
import Derived.Test.YtpcmoclohepdiaaPCellsLastx3
namespace Go.Proofs.Ytpcmoclohepdiaa.PCellsLast
open Go.RowKit Go.Proofs.YtpcmoclohepdiaaW.PrintWords
/-- The one pure statement of CellsLast. -/
def corrielaw06_CellsLast.Pure : Prop := ∀ (a0 : Int) (l1 : List (S47)) (a2_0 : Int) (a2_1 : Int), (Lit.int .u8 a0).wf = true → l1.length ≤ 9223372036854775807 → (∀ x_ ∈ l1, ((Lit.int .u8 x_.f0).wf = true ∧ (Lit.int .i64 x_.f1).wf = true ∧ (Lit.int .u64 x_.f2).wf = true ∧ (Lit.int .u64 x_.f3).wf = true)) → (Lit.int .u64 a2_0).wf = true → (Lit.int .u64 a2_1).wf = true → corrielaw06_CellsLast.f a0 l1 a2_0 a2_1 = some true
end Go.Proofs.Ytpcmoclohepdiaa.PCellsLast
