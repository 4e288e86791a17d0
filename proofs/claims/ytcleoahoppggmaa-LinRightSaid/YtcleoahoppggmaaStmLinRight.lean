-- Written by a program of this session (wip/tools/rowgen.py)
import Derived.Test.YtcleoahoppggmaaPLinRightx8
namespace Go.Proofs.Ytcleoahoppggmaa.PLinRight
open Go.RowKit Go.Proofs.YtcleoahoppggmaaW.PrintWords
/-- The one pure statement of LinRight. -/
def corrielaw21_LinRight.Pure : Prop := ∀ (l0 : List (S44)), l0.length ≤ 9223372036854775807 → (∀ y_ ∈ l0, ((Lit.int .i64 y_.f0).wf = true ∧ (Lit.int .i64 y_.f1).wf = true ∧ (Lit.int .i64 y_.f2).wf = true ∧ (Lit.int .i64 y_.f3).wf = true ∧ (Lit.int .i64 y_.f4).wf = true ∧ ((Lit.int .i64 y_.f5.f0).wf = true ∧ (Lit.int .u64 y_.f5.f1).wf = true ∧ (Lit.int .u64 y_.f5.f2).wf = true ∧ (Lit.int .i64 y_.f5.f3).wf = true) ∧ ((Lit.int .i64 y_.f6.f0).wf = true ∧ True ∧ (Lit.int .u64 y_.f6.f2).wf = true ∧ (∀ x_ ∈ y_.f6.f3, ((Lit.int .u64 x_.f0).wf = true ∧ (Lit.int .u64 x_.f1).wf = true))))) → corrielaw21_LinRight.f l0 = some true
end Go.Proofs.Ytcleoahoppggmaa.PLinRight
