/- Chapter 1, RefPacks: any node, marked or not, is packed as the document's answer says. -/
import Derived.Test.YtahifbdggbeajaaPRefPacksx1
import Derived.Test.YtahifbdggbeajaaPlainBits
namespace Go.Proofs.Ytahifbdggbeajaa.Pure
open Go.RowKit Go.Proofs.Ytahifbdggbeajaa.PRefPacks Go.Proofs.Ytahifbdggbeajaa.Plain Go.Proofs.YtahifbdggbeajaaW.PrintWords Go.Proofs.YtahifbdggbeajaaW.PrintLast
theorem RefPacks : corrielaw01_RefPacks.Pure := by
  intro n mark hw
  have hb := bounds_i64 hw
  have ha : corrielaw01_awake.f = some true := by decide +kernel
  refine ⟨1, ?_⟩
  unfold corrielaw01_RefPacks.f
  rw [ha]
  simp only [Option.bind_some, if_true]
  unfold ref_Pack.f corrieref01_Pack.f
  by_cases c1 : n < 0
  · rw [if_pos c1, if_pos c1]; rfl
  · rw [if_neg c1, if_neg c1]
    by_cases c2 : n > 2147483647
    · rw [if_pos c2, decide_eq_true c2]; rfl
    · rw [if_neg c2, decide_eq_false c2]
      simp only [corrieref01_Pack.j0]
      have e1 : IntKind.u64.wrap n = n := u64_eq (by omega) (by omega)
      have e2 : IntKind.u64.wrap (2 * n) = 2 * n := u64_eq (by omega) (by omega)
      have e3 : IntKind.u64.wrap (2 * n + 1) = 2 * n + 1 := u64_eq (by omega) (by omega)
      cases mark
      · simp only [Bool.false_eq_true, if_false, Option.bind_some, e1, e2]
        rw [or_zero (by omega) (by omega)]
        simp; omega
      · simp only [if_true, Bool.false_eq_true, if_false, Option.bind_some, e1, e2, e3]
        rw [or_one (by omega) (by omega)]
        simp; omega
end Go.Proofs.Ytahifbdggbeajaa.Pure
