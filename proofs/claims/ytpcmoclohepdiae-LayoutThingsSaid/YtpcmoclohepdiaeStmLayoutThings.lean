-- Written by a program of this session (wip/tools/rowgen.py)
import Derived.Test.YtpcmoclohepdiaePLayoutThingsx5
namespace Go.Proofs.Ytpcmoclohepdiae.PLayoutThings
open Go.RowKit Go.Proofs.YtpcmoclohepdiaeW.PrintWords
/-- The one pure statement of LayoutThings. -/
def corrielaw05_LayoutThings.Pure : Prop := ∀ (a0_0 : Int) (a0_1 : Int) (a0_2 : Int) (a0_3 : Int) (a0_4 : Int) (a1 : Int) (a2 : Int), (Lit.int .i64 a0_0).wf = true → (Lit.int .i64 a0_1).wf = true → (Lit.int .i64 a0_2).wf = true → (Lit.int .i64 a0_3).wf = true → (Lit.int .i64 a0_4).wf = true → (Lit.int .i64 a1).wf = true → (Lit.int .i64 a2).wf = true → ∃ k, corrielaw05_LayoutThings.f k a0_0 a0_1 a0_2 a0_3 a0_4 a1 a2 = some true
end Go.Proofs.Ytpcmoclohepdiae.PLayoutThings
