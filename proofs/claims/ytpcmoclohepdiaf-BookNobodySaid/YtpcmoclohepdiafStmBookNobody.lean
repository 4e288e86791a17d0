-- Written by a program of this session (wip/tools/rowgen.py)
import Derived.Test.YtpcmoclohepdiafPBookNobodyx5
namespace Go.Proofs.Ytpcmoclohepdiaf.PBookNobody
open Go.RowKit Go.Proofs.YtpcmoclohepdiafW.PrintWords
/-- The one pure statement of BookNobody. -/
def corrielaw07_BookNobody.Pure : Prop := ∀ (a0 : Int) (a1_0 : Int) (a1_1 : Int) (a1_2 : Int) (a1_3 : Int), (Lit.int .i64 a0).wf = true → (Lit.int .i64 a1_0).wf = true → (Lit.int .u64 a1_1).wf = true → (Lit.int .u64 a1_2).wf = true → (Lit.int .i64 a1_3).wf = true → corrielaw07_BookNobody.f a0 a1_0 a1_1 a1_2 a1_3 = some true
end Go.Proofs.Ytpcmoclohepdiaf.PBookNobody
