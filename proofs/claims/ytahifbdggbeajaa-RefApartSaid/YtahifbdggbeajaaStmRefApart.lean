-- Written by a program of this session (wip/tools/rowgen.py)
import Derived.Test.YtahifbdggbeajaaPRefApartx1
namespace Go.Proofs.Ytahifbdggbeajaa.PRefApart
open Go.RowKit Go.Proofs.YtahifbdggbeajaaW.PrintWords
/-- The one pure statement of RefApart. -/
def corrielaw01_RefApart.Pure : Prop := ∀ (a0 : Int) (a1 : Int) (a2_0 : Bool) (a2_1 : Bool), (Lit.int .u32 a0).wf = true → (Lit.int .u32 a1).wf = true → corrielaw01_RefApart.f a0 a1 a2_0 a2_1 = some true
end Go.Proofs.Ytahifbdggbeajaa.PRefApart
