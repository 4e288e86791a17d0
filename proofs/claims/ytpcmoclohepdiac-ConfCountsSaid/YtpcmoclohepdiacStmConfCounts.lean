-- Written by a program of this session (wip/tools/rowgen.py)
import Derived.Test.YtpcmoclohepdiacPConfCountsx4
namespace Go.Proofs.Ytpcmoclohepdiac.PConfCounts
open Go.RowKit Go.Proofs.YtpcmoclohepdiacW.PrintWords
/-- The one pure statement of ConfCounts. -/
def corrielaw04_ConfCounts.Pure : Prop := ∀ (a0_0 : Int) (a0_1 : Int) (a0_2 : Int) (a0_3 : Int) (a0_4 : Int), (Lit.int .i64 a0_0).wf = true → (Lit.int .i64 a0_1).wf = true → (Lit.int .i64 a0_2).wf = true → (Lit.int .i64 a0_3).wf = true → (Lit.int .i64 a0_4).wf = true → ∃ k, corrielaw04_ConfCounts.f k a0_0 a0_1 a0_2 a0_3 a0_4 = some true
end Go.Proofs.Ytpcmoclohepdiac.PConfCounts
