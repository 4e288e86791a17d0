/- Chapter 1, RefBack: nodes and marks are told there and back. -/
import Derived.Test.YtahifbdggbeajaaPRefBackx1
import Derived.Test.YtahifbdggbeajaaPlainBits
namespace Go.Proofs.Ytahifbdggbeajaa.Pure
open Go.RowKit Go.Proofs.Ytahifbdggbeajaa.PRefBack Go.Proofs.Ytahifbdggbeajaa.Plain Go.Proofs.YtahifbdggbeajaaW.PrintWords Go.Proofs.YtahifbdggbeajaaW.PrintLast
theorem RefBack : corrielaw01_RefBack.Pure := by
  intro a mark hw
  have hb := bounds_u32 hw
  have ha : corrielaw01_awake.f = some true := by decide +kernel
  have t2 : Int.tmod a 2147483648 = a % 2147483648 := Int.tmod_eq_emod_of_nonneg hb.1
  have e1 : wrap64 (a % 2147483648) = a % 2147483648 := wrap64_eq (by omega) (by omega)
  unfold corrielaw01_RefBack.f ref_Pack.f
  rw [ha, t2, e1]
  obtain ⟨n, hn⟩ : ∃ n, n = a % 2147483648 := ⟨_, rfl⟩
  rw [← hn]
  have h0 : 0 ≤ n := by omega
  have h1 : n < 2147483648 := by omega
  simp only [Option.bind_some, if_true]
  rw [if_neg (by omega), if_neg (by omega)]
  unfold ref_Index.f ref_Marked.f
  cases mark
  · simp only [Bool.false_eq_true, if_false, Option.bind_some]
    rw [or_zero (by omega) (by omega), and_one (by omega) (by omega), wrap64_eq (by omega) (by omega), if_pos (by omega)]
    simp
  · simp only [if_true, Option.bind_some]
    rw [or_one (by omega) (by omega), and_one (by omega) (by omega), wrap64_eq (by omega) (by omega), if_pos (by omega)]
    simp
end Go.Proofs.Ytahifbdggbeajaa.Pure
