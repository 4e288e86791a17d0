-- Written by a program of this session (wip/tools/rowgen.py)
import Derived.Test.YtbhakljebcmocaaK5
namespace Go.Proofs.Ytbhakljebcmocaa.PBoundKeeps
open Go.RowKit Go.Proofs.YtbhakljebcmocaaW.PrintWords
/-- The one pure statement of BoundKeeps. -/
def corrielaw23_BoundKeeps.Pure : Prop := ∀ (a0_0 : Int) (a0_1 : Int) (a0_2 : Int) (a0_3 : Int) (a0_4 : Int) (l1 : List (List (S48))) (l2 : List Int), (Lit.int .i64 a0_0).wf = true → (Lit.int .i64 a0_1).wf = true → (Lit.int .i64 a0_2).wf = true → (Lit.int .i64 a0_3).wf = true → (Lit.int .i64 a0_4).wf = true → l1.length ≤ 9223372036854775807 → (∀ y_ ∈ l1, (∀ x_ ∈ y_, ((Lit.int .i64 x_.f0).wf = true ∧ (Lit.int .u64 x_.f1).wf = true ∧ (Lit.int .u64 x_.f2).wf = true ∧ (Lit.int .i64 x_.f3).wf = true))) → l2.length ≤ 9223372036854775807 → (∀ x_ ∈ l2, (Lit.int .i64 x_).wf = true) → corrielaw23_BoundKeeps.f a0_0 a0_1 a0_2 a0_3 a0_4 l1 l2 = some true
end Go.Proofs.Ytbhakljebcmocaa.PBoundKeeps
