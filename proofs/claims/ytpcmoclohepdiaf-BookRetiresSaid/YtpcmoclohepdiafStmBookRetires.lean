-- Written by a program of this session (wip/tools/rowgen.py)
import Derived.Test.YtpcmoclohepdiafPBookRetiresx5
namespace Go.Proofs.Ytpcmoclohepdiaf.PBookRetires
open Go.RowKit Go.Proofs.YtpcmoclohepdiafW.PrintWords
/-- The one pure statement of BookRetires. -/
def corrielaw07_BookRetires.Pure : Prop := ∀ (a0_0 : Int) (a0_1 : Int) (a0_2 : Int) (a0_3 : Int) (a0_4 : Int) (a1 : Int) (a2 : Int), (Lit.int .i64 a0_0).wf = true → (Lit.int .i64 a0_1).wf = true → (Lit.int .i64 a0_2).wf = true → (Lit.int .i64 a0_3).wf = true → (Lit.int .i64 a0_4).wf = true → (Lit.int .u8 a1).wf = true → (Lit.int .u8 a2).wf = true → corrielaw07_BookRetires.f a0_0 a0_1 a0_2 a0_3 a0_4 a1 a2 = some true
end Go.Proofs.Ytpcmoclohepdiaf.PBookRetires
