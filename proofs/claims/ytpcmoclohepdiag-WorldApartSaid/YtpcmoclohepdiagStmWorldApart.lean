-- Written by a program of this session (wip/tools/rowgen.py)
import Derived.Test.YtpcmoclohepdiagPWorldApartx6
namespace Go.Proofs.Ytpcmoclohepdiag.PWorldApart
open Go.RowKit Go.Proofs.YtpcmoclohepdiagW.PrintWords
/-- The one pure statement of WorldApart. -/
def corrielaw08_WorldApart.Pure : Prop := ∀ (a0_0 : Int) (a0_1 : Int) (a0_2 : Int) (a0_3 : Int) (a0_4 : Int) (a1_0 : Int) (a1_1 : Int) (a1_2 : Int) (a1_3 : Int) (a2_0 : Int) (a2_1 : Int), (Lit.int .i64 a0_0).wf = true → (Lit.int .i64 a0_1).wf = true → (Lit.int .i64 a0_2).wf = true → (Lit.int .i64 a0_3).wf = true → (Lit.int .i64 a0_4).wf = true → (Lit.int .u8 a1_0).wf = true → (Lit.int .u8 a1_1).wf = true → (Lit.int .u8 a1_2).wf = true → (Lit.int .u8 a1_3).wf = true → (Lit.int .u64 a2_0).wf = true → (Lit.int .u64 a2_1).wf = true → corrielaw08_WorldApart.f a0_0 a0_1 a0_2 a0_3 a0_4 a1_0 a1_1 a1_2 a1_3 a2_0 a2_1 = some true
end Go.Proofs.Ytpcmoclohepdiag.PWorldApart
