-- Written by a program of this session (wip/tools/rowgen.py)
import Derived.Test.YtpcmoclohepdiagPWorldNewx7
namespace Go.Proofs.Ytpcmoclohepdiag.PWorldNew
open Go.RowKit Go.Proofs.YtpcmoclohepdiagW.PrintWords
/-- The one pure statement of WorldNew. -/
def corrielaw08_WorldNew.Pure : Prop := ∀ (a0_0 : Int) (a0_1 : Int) (a0_2 : Int) (a0_3 : Int) (a0_4 : Int) (a1 : Int), (Lit.int .i64 a0_0).wf = true → (Lit.int .i64 a0_1).wf = true → (Lit.int .i64 a0_2).wf = true → (Lit.int .i64 a0_3).wf = true → (Lit.int .i64 a0_4).wf = true → (Lit.int .u8 a1).wf = true → corrielaw08_WorldNew.f a0_0 a0_1 a0_2 a0_3 a0_4 a1 = some true
end Go.Proofs.Ytpcmoclohepdiag.PWorldNew
