/- Chapter 1, RefTells: of any word the node, whether it is marked, and it, marked, are as the document's answer says. -/
import Derived.Test.YtahifbdggbeajaaPRefTellsx1
import Derived.Test.YtahifbdggbeajaaPlainBits
namespace Go.Proofs.Ytahifbdggbeajaa.Pure
open Go.RowKit Go.Proofs.Ytahifbdggbeajaa.PRefTells Go.Proofs.Ytahifbdggbeajaa.Plain Go.Proofs.YtahifbdggbeajaaW.PrintWords Go.Proofs.YtahifbdggbeajaaW.PrintLast
theorem RefTells : corrielaw01_RefTells.Pure := by
  intro a hw
  have hb := bounds_u64 hw
  have ha : corrielaw01_awake.f = some true := by decide +kernel
  have t1 : Int.tdiv a 2 = a / 2 := Int.tdiv_eq_ediv_of_nonneg hb.1
  have t2 : Int.tmod a 2 = a % 2 := Int.tmod_eq_emod_of_nonneg hb.1
  have e1 : IntKind.u64.wrap (a / 2) = a / 2 := u64_eq (by omega) (by omega)
  unfold corrielaw01_RefTells.f ref_Index.f corrieref01_Index.f ref_Marked.f corrieref01_Marked.f ref_Mark.f corrieref01_Mark.f
  rw [ha]
  simp only [Option.bind_some, if_true, t1, t2, e1, and_one hb.1 hb.2, or_one hb.1 hb.2]
  rw [if_pos (by simp)]
  by_cases c : a % 2 = 0
  · rw [if_pos c]
    have e2 : IntKind.u64.wrap (a + 1) = a + 1 := u64_eq (by omega) (by omega)
    simp only [Option.bind_some, e2]; simp; omega
  · rw [if_neg c]
    simp only [Option.bind_some]; simp; omega
end Go.Proofs.Ytahifbdggbeajaa.Pure
