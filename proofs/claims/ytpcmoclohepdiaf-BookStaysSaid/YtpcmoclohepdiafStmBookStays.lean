-- Written by a program of this session (wip/tools/rowgen.py)
import Derived.Test.YtpcmoclohepdiafPBookStaysx9
namespace Go.Proofs.Ytpcmoclohepdiaf.PBookStays
open Go.RowKit Go.Proofs.YtpcmoclohepdiafW.PrintWords
/-- The one pure statement of BookStays. -/
def corrielaw07_BookStays.Pure : Prop := ∀ (a0_0 : Int) (a0_1 : Int) (a0_2 : Int) (a0_3 : Int) (a0_4 : Int) (l1 : List (S58)) (l2 : List (S58)), (Lit.int .i64 a0_0).wf = true → (Lit.int .i64 a0_1).wf = true → (Lit.int .i64 a0_2).wf = true → (Lit.int .i64 a0_3).wf = true → (Lit.int .i64 a0_4).wf = true → l1.length ≤ 9223372036854775807 → (∀ x_ ∈ l1, (True ∧ (Lit.int .i64 x_.f1).wf = true ∧ (Lit.int .i64 x_.f2).wf = true ∧ ((Lit.int .i64 x_.f3.f0).wf = true ∧ (Lit.int .u64 x_.f3.f1).wf = true ∧ (Lit.int .u64 x_.f3.f2).wf = true ∧ (Lit.int .i64 x_.f3.f3).wf = true))) → l2.length ≤ 9223372036854775807 → (∀ x_ ∈ l2, (True ∧ (Lit.int .i64 x_.f1).wf = true ∧ (Lit.int .i64 x_.f2).wf = true ∧ ((Lit.int .i64 x_.f3.f0).wf = true ∧ (Lit.int .u64 x_.f3.f1).wf = true ∧ (Lit.int .u64 x_.f3.f2).wf = true ∧ (Lit.int .i64 x_.f3.f3).wf = true))) → corrielaw07_BookStays.f a0_0 a0_1 a0_2 a0_3 a0_4 l1 l2 = some true
end Go.Proofs.Ytpcmoclohepdiaf.PBookStays
