-- Written by a program of this session (wip/tools/rowgen.py)
import Derived.Test.YtahifbdggbeajabPMergeOnex3
namespace Go.Proofs.Ytahifbdggbeajab.PMergeOne
open Go.RowKit Go.Proofs.YtahifbdggbeajabW.PrintWords
/-- The one pure statement of MergeOne. -/
def corrielaw17_MergeOne.Pure : Prop := ∀ (l0 : List (S32)) (a1 : Int), l0.length ≤ 9223372036854775807 → (∀ x_ ∈ l0, ((Lit.int .u64 x_.f0).wf = true ∧ (Lit.int .u64 x_.f1).wf = true)) → (Lit.int .u8 a1).wf = true → ∃ k, corrielaw17_MergeOne.f k l0 a1 = some true
end Go.Proofs.Ytahifbdggbeajab.PMergeOne
