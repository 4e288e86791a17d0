-- Written by a program of this session (wip/tools/rowgen.py)
import Derived.Test.YtahifbdggbeajabPMergeSortedx2
namespace Go.Proofs.Ytahifbdggbeajab.PMergeSorted
open Go.RowKit Go.Proofs.YtahifbdggbeajabW.PrintWords
/-- The one pure statement of MergeSorted. -/
def corrielaw17_MergeSorted.Pure : Prop := ∀ (l0 : List (List (S32))) (a1 : Int), l0.length ≤ 9223372036854775807 → (∀ y_ ∈ l0, (∀ x_ ∈ y_, ((Lit.int .u64 x_.f0).wf = true ∧ (Lit.int .u64 x_.f1).wf = true))) → (Lit.int .i64 a1).wf = true → ∃ k, corrielaw17_MergeSorted.f k l0 a1 = some true
end Go.Proofs.Ytahifbdggbeajab.PMergeSorted
