-- Written by a program of this session (wip/tools/rowgen.py)
import Derived.Test.YtpcmoclohepdiabPBoundRisesx4
namespace Go.Proofs.Ytpcmoclohepdiab.PBoundRises
open Go.RowKit Go.Proofs.YtpcmoclohepdiabW.PrintWords
/-- The one pure statement of BoundRises. -/
def corrielaw23_BoundRises.Pure : Prop := ∀ (a0_0 : Int) (a0_1 : Int) (a0_2 : Int) (a0_3 : Int) (a0_4 : Int) (a1_0 : Int) (a1_1 : Int) (a2_0 : Int) (a2_1 : Int), (Lit.int .i64 a0_0).wf = true → (Lit.int .i64 a0_1).wf = true → (Lit.int .i64 a0_2).wf = true → (Lit.int .i64 a0_3).wf = true → (Lit.int .i64 a0_4).wf = true → (Lit.int .u16 a1_0).wf = true → (Lit.int .u16 a1_1).wf = true → (Lit.int .u16 a2_0).wf = true → (Lit.int .u16 a2_1).wf = true → ∃ k, corrielaw23_BoundRises.f k a0_0 a0_1 a0_2 a0_3 a0_4 a1_0 a1_1 a2_0 a2_1 = some true
end Go.Proofs.Ytpcmoclohepdiab.PBoundRises
