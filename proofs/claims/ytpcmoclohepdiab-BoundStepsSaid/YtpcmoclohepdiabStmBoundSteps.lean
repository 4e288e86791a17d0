-- Written by a program of this session (wip/tools/rowgen.py)
import Derived.Test.YtpcmoclohepdiabPBoundStepsx4
namespace Go.Proofs.Ytpcmoclohepdiab.PBoundSteps
open Go.RowKit Go.Proofs.YtpcmoclohepdiabW.PrintWords
/-- The one pure statement of BoundSteps. -/
def corrielaw23_BoundSteps.Pure : Prop := ∀ (a0_0 : Int) (a0_1 : Int) (a0_2 : Int) (a0_3 : Int) (a0_4 : Int) (l1 : List (S38)) (a2 : Int), (Lit.int .i64 a0_0).wf = true → (Lit.int .i64 a0_1).wf = true → (Lit.int .i64 a0_2).wf = true → (Lit.int .i64 a0_3).wf = true → (Lit.int .i64 a0_4).wf = true → l1.length ≤ 9223372036854775807 → (∀ y_ ∈ l1, ((Lit.int .i64 y_.f0).wf = true ∧ (Lit.int .i64 y_.f1).wf = true ∧ (Lit.int .i64 y_.f2).wf = true ∧ (Lit.int .i64 y_.f3).wf = true ∧ (Lit.int .i64 y_.f4).wf = true ∧ ((Lit.int .i64 y_.f5.f0).wf = true ∧ (Lit.int .u64 y_.f5.f1).wf = true ∧ (Lit.int .u64 y_.f5.f2).wf = true ∧ (Lit.int .i64 y_.f5.f3).wf = true) ∧ ((Lit.int .i64 y_.f6.f0).wf = true ∧ True ∧ (Lit.int .u64 y_.f6.f2).wf = true ∧ (∀ x_ ∈ y_.f6.f3, ((Lit.int .u64 x_.f0).wf = true ∧ (Lit.int .u64 x_.f1).wf = true))))) → (Lit.int .u8 a2).wf = true → ∃ k, corrielaw23_BoundSteps.f k a0_0 a0_1 a0_2 a0_3 a0_4 l1 a2 = some true
end Go.Proofs.Ytpcmoclohepdiab.PBoundSteps
