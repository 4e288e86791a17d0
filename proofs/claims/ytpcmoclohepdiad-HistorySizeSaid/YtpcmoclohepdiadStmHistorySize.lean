-- Written by a program of this session (wip/tools/rowgen.py)
import Derived.Test.YtpcmoclohepdiadPHistorySizex4
namespace Go.Proofs.Ytpcmoclohepdiad.PHistorySize
open Go.RowKit Go.Proofs.YtpcmoclohepdiadW.PrintWords
/-- The one pure statement of HistorySize. -/
def corrielaw19_HistorySize.Pure : Prop := ∀ (l0 : List (S31)) (a1 : Int), l0.length ≤ 9223372036854775807 → (∀ y_ ∈ l0, ((Lit.int .i64 y_.f0).wf = true ∧ (Lit.int .i64 y_.f1).wf = true ∧ (Lit.int .i64 y_.f2).wf = true ∧ (Lit.int .i64 y_.f3).wf = true ∧ (Lit.int .i64 y_.f4).wf = true ∧ ((Lit.int .i64 y_.f5.f0).wf = true ∧ (Lit.int .u64 y_.f5.f1).wf = true ∧ (Lit.int .u64 y_.f5.f2).wf = true ∧ (Lit.int .i64 y_.f5.f3).wf = true) ∧ ((Lit.int .i64 y_.f6.f0).wf = true ∧ True ∧ (Lit.int .u64 y_.f6.f2).wf = true ∧ (∀ x_ ∈ y_.f6.f3, ((Lit.int .u64 x_.f0).wf = true ∧ (Lit.int .u64 x_.f1).wf = true))))) → (Lit.int .u8 a1).wf = true → ∃ k, corrielaw19_HistorySize.f k l0 a1 = some true
end Go.Proofs.Ytpcmoclohepdiad.PHistorySize
