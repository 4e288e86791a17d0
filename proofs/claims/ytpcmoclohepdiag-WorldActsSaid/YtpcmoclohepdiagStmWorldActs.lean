-- Written by a program of this session (wip/tools/rowgen.py)
import Derived.Test.YtpcmoclohepdiagPWorldActsx11
namespace Go.Proofs.Ytpcmoclohepdiag.PWorldActs
open Go.RowKit Go.Proofs.YtpcmoclohepdiagW.PrintWords
/-- The one pure statement of WorldActs. -/
def corrielaw08_WorldActs.Pure : Prop := ∀ (a0_0 : Int) (a0_1 : Int) (a0_2 : Int) (a0_3 : Int) (a0_4 : Int) (l1 : List (S27)), (Lit.int .i64 a0_0).wf = true → (Lit.int .i64 a0_1).wf = true → (Lit.int .i64 a0_2).wf = true → (Lit.int .i64 a0_3).wf = true → (Lit.int .i64 a0_4).wf = true → l1.length ≤ 9223372036854775807 → (∀ x_ ∈ l1, ((Lit.int .u8 x_.f0).wf = true ∧ (Lit.int .i64 x_.f1).wf = true ∧ (Lit.int .u16 x_.f2).wf = true ∧ (Lit.int .u64 x_.f3).wf = true ∧ (Lit.int .u64 x_.f4).wf = true)) → corrielaw08_WorldActs.f a0_0 a0_1 a0_2 a0_3 a0_4 l1 = some true
end Go.Proofs.Ytpcmoclohepdiag.PWorldActs
