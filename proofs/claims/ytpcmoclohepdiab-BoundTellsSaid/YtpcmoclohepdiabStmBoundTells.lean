-- Written by a program of this session (wip/tools/rowgen.py)
import Derived.Test.YtpcmoclohepdiabPBoundTellsx4
namespace Go.Proofs.Ytpcmoclohepdiab.PBoundTells
open Go.RowKit Go.Proofs.YtpcmoclohepdiabW.PrintWords
/-- The one pure statement of BoundTells. -/
def corrielaw23_BoundTells.Pure : Prop := ∀ (a0_0 : Int) (a0_1 : Int) (a0_2 : Int) (a0_3 : Int) (a0_4 : Int) (a1 : Int) (a2 : Int), (Lit.int .i64 a0_0).wf = true → (Lit.int .i64 a0_1).wf = true → (Lit.int .i64 a0_2).wf = true → (Lit.int .i64 a0_3).wf = true → (Lit.int .i64 a0_4).wf = true → (Lit.int .u32 a1).wf = true → (Lit.int .u32 a2).wf = true → ∃ k, corrielaw23_BoundTells.f k a0_0 a0_1 a0_2 a0_3 a0_4 a1 a2 = some true
end Go.Proofs.Ytpcmoclohepdiab.PBoundTells
