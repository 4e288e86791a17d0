-- Written by a program of this session (wip/tools/rowgen.py)
import Derived.Test.YtpcmoclohepdiafPBookNewx7
namespace Go.Proofs.Ytpcmoclohepdiaf.PBookNew
open Go.RowKit Go.Proofs.YtpcmoclohepdiafW.PrintWords
/-- The one pure statement of BookNew. -/
def corrielaw07_BookNew.Pure : Prop := ∀ (a0_0 : Int) (a0_1 : Int) (a0_2 : Int) (a0_3 : Int) (a0_4 : Int), (Lit.int .i64 a0_0).wf = true → (Lit.int .i64 a0_1).wf = true → (Lit.int .i64 a0_2).wf = true → (Lit.int .i64 a0_3).wf = true → (Lit.int .i64 a0_4).wf = true → corrielaw07_BookNew.f a0_0 a0_1 a0_2 a0_3 a0_4 = some true
end Go.Proofs.Ytpcmoclohepdiaf.PBookNew
