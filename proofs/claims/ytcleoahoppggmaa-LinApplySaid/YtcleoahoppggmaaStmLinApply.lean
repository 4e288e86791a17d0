-- Written by a program of this session (wip/tools/rowgen.py)
import Derived.Test.YtcleoahoppggmaaPLinApplyx8
namespace Go.Proofs.Ytcleoahoppggmaa.PLinApply
open Go.RowKit Go.Proofs.YtcleoahoppggmaaW.PrintWords
/-- The one pure statement of LinApply. -/
def corrielaw21_LinApply.Pure : Prop := ∀ (l0 : List (S53)) (a1_0 : Int) (a1_1 : Int) (a1_2 : Int) (a1_3 : Int), l0.length ≤ 9223372036854775807 → (∀ x_ ∈ l0, ((Lit.int .u64 x_.f0).wf = true ∧ (Lit.int .u64 x_.f1).wf = true)) → (Lit.int .i64 a1_0).wf = true → (Lit.int .u64 a1_1).wf = true → (Lit.int .u64 a1_2).wf = true → (Lit.int .i64 a1_3).wf = true → corrielaw21_LinApply.f l0 a1_0 a1_1 a1_2 a1_3 = some true
end Go.Proofs.Ytcleoahoppggmaa.PLinApply
