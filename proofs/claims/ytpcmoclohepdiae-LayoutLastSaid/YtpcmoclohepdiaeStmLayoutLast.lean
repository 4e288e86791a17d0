-- Written by a program of this session (wip/tools/rowgen.py)
import Derived.Test.YtpcmoclohepdiaePLayoutLastx5
namespace Go.Proofs.Ytpcmoclohepdiae.PLayoutLast
open Go.RowKit Go.Proofs.YtpcmoclohepdiaeW.PrintWords
/-- The one pure statement of LayoutLast. -/
def corrielaw05_LayoutLast.Pure : Prop := ∀ (a0_0 : Int) (a0_1 : Int) (a0_2 : Int) (a0_3 : Int) (a0_4 : Int), (Lit.int .i64 a0_0).wf = true → (Lit.int .i64 a0_1).wf = true → (Lit.int .i64 a0_2).wf = true → (Lit.int .i64 a0_3).wf = true → (Lit.int .i64 a0_4).wf = true → ∃ k, corrielaw05_LayoutLast.f k a0_0 a0_1 a0_2 a0_3 a0_4 = some true
end Go.Proofs.Ytpcmoclohepdiae.PLayoutLast
