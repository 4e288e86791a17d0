-- Written by a program of this session (wip/tools/rowgen.py)
import Derived.Test.YtpcmoclohepdiagPWorldHeadsx8
namespace Go.Proofs.Ytpcmoclohepdiag.PWorldHeads
open Go.RowKit Go.Proofs.YtpcmoclohepdiagW.PrintWords
/-- The one pure statement of WorldHeads. -/
def corrielaw08_WorldHeads.Pure : Prop := ∀ (a0_0 : Int) (a0_1 : Int) (a0_2 : Int) (a0_3 : Int) (a0_4 : Int) (a1 : Int), (Lit.int .i64 a0_0).wf = true → (Lit.int .i64 a0_1).wf = true → (Lit.int .i64 a0_2).wf = true → (Lit.int .i64 a0_3).wf = true → (Lit.int .i64 a0_4).wf = true → (Lit.int .u64 a1).wf = true → corrielaw08_WorldHeads.f a0_0 a0_1 a0_2 a0_3 a0_4 a1 = some true
end Go.Proofs.Ytpcmoclohepdiag.PWorldHeads
