/- Chapter 1, RefBack: nodes and marks are told there and back. -/
import Derived.Test.YtahifbdggbeajaaPRefBackx1
import Derived.Test.YtahifbdggbeajaaPlainBits
namespace Go.Proofs.Ytahifbdggbeajaa.Pure
open Go.RowKit Go.Proofs.Ytahifbdggbeajaa.PRefBack Go.Proofs.Ytahifbdggbeajaa.Plain Go.Proofs.YtahifbdggbeajaaW.PrintWords Go.Proofs.YtahifbdggbeajaaW.PrintLast
theorem pack_back (x : Int) (m : Bool) (h0 : 0 ≤ x) (h1 : x ≤ 2147483647) : ref_Pack.f x m = some (x * 2 + if m = true then 1 else 0) := by
  unfold ref_Pack.f
  rw [if_neg (by omega), if_neg (by omega)]
  cases m
  · simp only [Bool.false_eq_true, if_false]; rw [or_zero (by omega) (by omega)]; simp
  · simp only [if_true]; rw [or_one (by omega) (by omega)]; congr 1; omega
theorem index_back (y : Int) (h0 : 0 ≤ y) (h1 : y ≤ 18446744073709551615) : ref_Index.f y = some (y / 2) := by
  unfold ref_Index.f
  rw [wrap64_eq (by omega) (by omega)]
theorem marked_back (y : Int) (h0 : 0 ≤ y) (h1 : y ≤ 18446744073709551615) : ref_Marked.f y = some (y % 2 == 1) := by
  unfold ref_Marked.f
  rw [and_one h0 h1]
theorem RefBack : corrielaw01_RefBack.Pure := by
  intro a mark hw
  have hb := bounds_u32 hw
  have ha : corrielaw01_awake.f = some true := by decide +kernel
  have t2 : Int.tmod a 2147483648 = a % 2147483648 := Int.tmod_eq_emod_of_nonneg hb.1
  have e1 : wrap64 (a % 2147483648) = a % 2147483648 := wrap64_eq (by omega) (by omega)
  unfold corrielaw01_RefBack.f
  rw [ha, t2, e1]
  obtain ⟨n, hn⟩ : ∃ n, n = a % 2147483648 := ⟨_, rfl⟩
  rw [← hn, pack_back n mark (by omega) (by omega)]
  simp only [Option.bind_some, if_true]
  have hm : (0 : Int) ≤ (if mark = true then 1 else 0) ∧ (if mark = true then (1 : Int) else 0) ≤ 1 := by cases mark <;> simp
  rw [index_back _ (by omega) (by omega)]
  simp only [Option.bind_some]
  rw [if_pos (by omega), marked_back _ (by omega) (by omega)]
  cases mark <;> simp <;> omega
end Go.Proofs.Ytahifbdggbeajaa.Pure
