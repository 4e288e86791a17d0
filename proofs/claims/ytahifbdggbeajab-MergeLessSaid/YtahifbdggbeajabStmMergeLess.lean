-- Written by a program of this session (wip/tools/rowgen.py)
import Derived.Test.YtahifbdggbeajabPMergeLessx3
namespace Go.Proofs.Ytahifbdggbeajab.PMergeLess
open Go.RowKit Go.Proofs.YtahifbdggbeajabW.PrintWords
/-- The one pure statement of MergeLess. -/
def corrielaw17_MergeLess.Pure : Prop := ∀ (l0 : List (List (S32))) (a1_0 : Int) (a1_1 : Int), l0.length ≤ 9223372036854775807 → (∀ y_ ∈ l0, (∀ x_ ∈ y_, ((Lit.int .u64 x_.f0).wf = true ∧ (Lit.int .u64 x_.f1).wf = true))) → (Lit.int .u8 a1_0).wf = true → (Lit.int .u8 a1_1).wf = true → ∃ k, corrielaw17_MergeLess.f k l0 a1_0 a1_1 = some true
end Go.Proofs.Ytahifbdggbeajab.PMergeLess
