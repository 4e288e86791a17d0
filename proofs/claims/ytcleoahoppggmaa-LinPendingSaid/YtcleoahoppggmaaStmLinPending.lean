-- Written by a program of this session (wip/tools/rowgen.py)
import Derived.Test.YtcleoahoppggmaaPLinPendingx6
namespace Go.Proofs.Ytcleoahoppggmaa.PLinPending
open Go.RowKit Go.Proofs.YtcleoahoppggmaaW.PrintWords
/-- The one pure statement of LinPending. -/
def corrielaw21_LinPending.Pure : Prop := ∀ (l0 : List (S44)) (a1_0 : Int) (a1_1 : Int) (a1_2 : Int) (a1_3 : Int) (a2 : Int), l0.length ≤ 9223372036854775807 → (∀ y_ ∈ l0, ((Lit.int .i64 y_.f0).wf = true ∧ (Lit.int .i64 y_.f1).wf = true ∧ (Lit.int .i64 y_.f2).wf = true ∧ (Lit.int .i64 y_.f3).wf = true ∧ (Lit.int .i64 y_.f4).wf = true ∧ ((Lit.int .i64 y_.f5.f0).wf = true ∧ (Lit.int .u64 y_.f5.f1).wf = true ∧ (Lit.int .u64 y_.f5.f2).wf = true ∧ (Lit.int .i64 y_.f5.f3).wf = true) ∧ ((Lit.int .i64 y_.f6.f0).wf = true ∧ True ∧ (Lit.int .u64 y_.f6.f2).wf = true ∧ (∀ x_ ∈ y_.f6.f3, ((Lit.int .u64 x_.f0).wf = true ∧ (Lit.int .u64 x_.f1).wf = true))))) → (Lit.int .i64 a1_0).wf = true → (Lit.int .u64 a1_1).wf = true → (Lit.int .u64 a1_2).wf = true → (Lit.int .i64 a1_3).wf = true → (Lit.int .u8 a2).wf = true → corrielaw21_LinPending.f l0 a1_0 a1_1 a1_2 a1_3 a2 = some true
end Go.Proofs.Ytcleoahoppggmaa.PLinPending
