-- Written by a program of this session (wip/tools/rowgen.py)
import Derived.Test.YtcleoahoppggmaaPLinAlonex7
namespace Go.Proofs.Ytcleoahoppggmaa.PLinAlone
open Go.RowKit Go.Proofs.YtcleoahoppggmaaW.PrintWords
/-- The one pure statement of LinAlone. -/
def corrielaw21_LinAlone.Pure : Prop := ∀ (l0 : List (S25)) (l1 : List (S30)), l0.length ≤ 9223372036854775807 → (∀ x_ ∈ l0, ((Lit.int .i64 x_.f0).wf = true ∧ (Lit.int .u64 x_.f1).wf = true ∧ (Lit.int .u64 x_.f2).wf = true ∧ (Lit.int .i64 x_.f3).wf = true)) → l1.length ≤ 9223372036854775807 → (∀ y_ ∈ l1, ((Lit.int .i64 y_.f0).wf = true ∧ True ∧ (Lit.int .u64 y_.f2).wf = true ∧ (∀ x_ ∈ y_.f3, ((Lit.int .u64 x_.f0).wf = true ∧ (Lit.int .u64 x_.f1).wf = true)))) → corrielaw21_LinAlone.f l0 l1 = some true
end Go.Proofs.Ytcleoahoppggmaa.PLinAlone
