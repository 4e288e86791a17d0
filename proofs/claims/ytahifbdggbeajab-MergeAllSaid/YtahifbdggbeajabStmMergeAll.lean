-- Written by a program of this session (wip/tools/rowgen.py)
import Derived.Test.YtahifbdggbeajabPMergeAllx3
namespace Go.Proofs.Ytahifbdggbeajab.PMergeAll
open Go.RowKit Go.Proofs.YtahifbdggbeajabW.PrintWords
/-- The one pure statement of MergeAll. -/
def corrielaw17_MergeAll.Pure : Prop := ∀ (l0 : List (List (S32))) (a1_0 : Int) (a1_1 : Int), l0.length ≤ 9223372036854775807 → (∀ y_ ∈ l0, (∀ x_ ∈ y_, ((Lit.int .u64 x_.f0).wf = true ∧ (Lit.int .u64 x_.f1).wf = true))) → (Lit.int .u64 a1_0).wf = true → (Lit.int .u64 a1_1).wf = true → ∃ k, corrielaw17_MergeAll.f k l0 a1_0 a1_1 = some true
end Go.Proofs.Ytahifbdggbeajab.PMergeAll
