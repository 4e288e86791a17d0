/- Chapter 1, RefApart: two references are the same just if both their nodes, and their marks, are. -/
import Derived.Test.YtahifbdggbeajaaStmRefApart
import Derived.Test.YtahifbdggbeajaaPlainBits
namespace Go.Proofs.Ytahifbdggbeajaa.Pure
open Go.RowKit Go.Proofs.Ytahifbdggbeajaa.PRefApart Go.Proofs.Ytahifbdggbeajaa.Plain Go.Proofs.YtahifbdggbeajaaW.PrintWords
theorem pack_eq (x : Int) (m : Bool) (h0 : 0 ≤ x) (h1 : x ≤ 2147483647) : ref_Pack.f x m = some (x * 2 + if m = true then 1 else 0) := by
  unfold ref_Pack.f
  rw [if_neg (by omega), if_neg (by omega)]
  cases m
  · simp only [Bool.false_eq_true, if_false]; rw [or_zero (by omega) (by omega)]; simp
  · simp only [if_true]; rw [or_one (by omega) (by omega)]; congr 1; omega
theorem RefApart : corrielaw01_RefApart.Pure := by
  intro a b p q hwa hwb
  have ha := bounds_u32 hwa
  have hb := bounds_u32 hwb
  have hu : corrielaw01_awake.f = some true := by decide +kernel
  have t1 : Int.tmod a 2147483648 = a % 2147483648 := Int.tmod_eq_emod_of_nonneg ha.1
  have t2 : Int.tmod b 2147483648 = b % 2147483648 := Int.tmod_eq_emod_of_nonneg hb.1
  have e1 : wrap64 (a % 2147483648) = a % 2147483648 := wrap64_eq (by omega) (by omega)
  have e2 : wrap64 (b % 2147483648) = b % 2147483648 := wrap64_eq (by omega) (by omega)
  unfold corrielaw01_RefApart.f
  rw [hu, t1, t2, e1, e2]
  obtain ⟨x, hx⟩ : ∃ x, x = a % 2147483648 := ⟨_, rfl⟩
  obtain ⟨y, hy⟩ : ∃ y, y = b % 2147483648 := ⟨_, rfl⟩
  rw [← hx, ← hy, pack_eq x p (by omega) (by omega), pack_eq y q (by omega) (by omega)]
  simp only [Option.bind_some, if_true]
  by_cases c : x = y
  · subst c
    rw [if_pos rfl]
    cases p <;> cases q <;> simp <;> omega
  · rw [if_neg c]
    cases p <;> cases q <;> simp <;> omega
end Go.Proofs.Ytahifbdggbeajaa.Pure
