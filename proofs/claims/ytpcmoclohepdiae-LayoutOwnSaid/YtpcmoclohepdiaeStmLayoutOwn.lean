-- Written by a program of this session (wip/tools/rowgen.py)
import Derived.Test.YtpcmoclohepdiaePLayoutOwnx4
namespace Go.Proofs.Ytpcmoclohepdiae.PLayoutOwn
open Go.RowKit Go.Proofs.YtpcmoclohepdiaeW.PrintWords
/-- The one pure statement of LayoutOwn. -/
def corrielaw05_LayoutOwn.Pure : Prop := ∀ (a0_0 : Int) (a0_1 : Int) (a0_2 : Int) (a0_3 : Int) (a0_4 : Int) (a1 : Int), (Lit.int .i64 a0_0).wf = true → (Lit.int .i64 a0_1).wf = true → (Lit.int .i64 a0_2).wf = true → (Lit.int .i64 a0_3).wf = true → (Lit.int .i64 a0_4).wf = true → (Lit.int .u16 a1).wf = true → ∃ k, corrielaw05_LayoutOwn.f k a0_0 a0_1 a0_2 a0_3 a0_4 a1 = some true
end Go.Proofs.Ytpcmoclohepdiae.PLayoutOwn
