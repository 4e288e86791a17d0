/- Chapter 3, RouteSpread: a key that is as much more as takes the product one up is in the same bucket, or the next one. -/
import Derived.Test.YtahifbdggbeajacPRouteSpreadx1
import Derived.Test.YtahifbdggbeajacPlainBits
namespace Go.Proofs.Ytahifbdggbeajac.Pure.RouteSpread
open Go.RowKit Go.Proofs.Ytahifbdggbeajac.PRouteSpread Go.Proofs.Ytahifbdggbeajac.Plain Go.Proofs.YtahifbdggbeajacW.PrintWords Go.Proofs.YtahifbdggbeajacW.PrintLast Go.Proofs.YtahifbdggbeajacW.PrintMore
set_option linter.unusedVariables false
theorem shl_at (j : Nat) (h : j ≤ 6) : shl .i64 1 (j : Int) = 2 ^ j := by
  match j, h with
  | 0, _ => exact (by decide : shl .i64 1 0 = 2 ^ 0)
  | 1, _ => exact (by decide : shl .i64 1 1 = 2 ^ 1)
  | 2, _ => exact (by decide : shl .i64 1 2 = 2 ^ 2)
  | 3, _ => exact (by decide : shl .i64 1 3 = 2 ^ 3)
  | 4, _ => exact (by decide : shl .i64 1 4 = 2 ^ 4)
  | 5, _ => exact (by decide : shl .i64 1 5 = 2 ^ 5)
  | 6, _ => exact (by decide : shl .i64 1 6 = 2 ^ 6)
theorem may_step (k : Nat) (b : Int) (i : Nat) (hi : i < 7) : route_May.l0 (k + 1) b 7 (i : Int) = if b = 2 ^ i then some true else route_May.l0 k b 7 ((i + 1 : Nat) : Int) := by
  simp only [route_May.l0]
  rw [if_pos (by omega), if_pos (by omega), shl_at i (by omega), wrap64_eq (by omega) (by omega)]
  rfl
def isPow (b : Int) : Bool := decide (b = 1 ∨ b = 2 ∨ b = 4 ∨ b = 8 ∨ b = 16 ∨ b = 32 ∨ b = 64)
theorem may_eq (k : Nat) (b : Int) : route_May.f (k + 8) b = some (isPow b) := by
  have h0 : bits_Len.f 64 = some 7 := by decide
  unfold route_May.f
  rw [h0]
  simp only [Option.bind_some]
  show route_May.l0 (k + 7 + 1) b 7 ((0 : Nat) : Int) = _
  rw [may_step _ _ 0 (by omega), may_step _ _ 1 (by omega), may_step _ _ 2 (by omega), may_step _ _ 3 (by omega), may_step _ _ 4 (by omega), may_step _ _ 5 (by omega), may_step _ _ 6 (by omega)]
  have h7 : route_May.l0 (k + 1) b 7 ((7 : Nat) : Int) = some false := by simp only [route_May.l0]; rw [if_neg (by omega)]
  rw [h7]
  unfold isPow
  by_cases c0 : b = 1
  · subst c0; rfl
  by_cases c1 : b = 2
  · subst c1; rfl
  by_cases c2 : b = 4
  · subst c2; rfl
  by_cases c3 : b = 8
  · subst c3; rfl
  by_cases c4 : b = 16
  · subst c4; rfl
  by_cases c5 : b = 32
  · subst c5; rfl
  by_cases c6 : b = 64
  · subst c6; rfl
  simp [c0, c1, c2, c3, c4, c5, c6]
theorem bucket_eq (k : Nat) (a b : Int) : route_Bucket.f (k + 8) a b = if isPow b = true then route_top (IntKind.u64.wrap (a * 11400714819323198485)) b else some 0 := by
  unfold route_Bucket.f
  rw [may_eq]
  rfl
theorem top_0 (u : Int) (h0 : 0 ≤ u) (h1 : u ≤ 18446744073709551615) : route_top u 1 = some (u / 18446744073709551616) := by
  have h : route_top u 1 = some (wrap64 (u / 18446744073709551616)) := by simp [route_top]
  rw [h, wrap64_eq (by omega) (by omega)]
theorem top_1 (u : Int) (h0 : 0 ≤ u) (h1 : u ≤ 18446744073709551615) : route_top u 2 = some (u / 9223372036854775808) := by
  have h : route_top u 2 = some (wrap64 (u / 9223372036854775808)) := by simp [route_top]
  rw [h, wrap64_eq (by omega) (by omega)]
theorem top_2 (u : Int) (h0 : 0 ≤ u) (h1 : u ≤ 18446744073709551615) : route_top u 4 = some (u / 4611686018427387904) := by
  have h : route_top u 4 = some (wrap64 (u / 4611686018427387904)) := by simp [route_top]
  rw [h, wrap64_eq (by omega) (by omega)]
theorem top_3 (u : Int) (h0 : 0 ≤ u) (h1 : u ≤ 18446744073709551615) : route_top u 8 = some (u / 2305843009213693952) := by
  have h : route_top u 8 = some (wrap64 (u / 2305843009213693952)) := by simp [route_top]
  rw [h, wrap64_eq (by omega) (by omega)]
theorem top_4 (u : Int) (h0 : 0 ≤ u) (h1 : u ≤ 18446744073709551615) : route_top u 16 = some (u / 1152921504606846976) := by
  have h : route_top u 16 = some (wrap64 (u / 1152921504606846976)) := by simp [route_top]
  rw [h, wrap64_eq (by omega) (by omega)]
theorem top_5 (u : Int) (h0 : 0 ≤ u) (h1 : u ≤ 18446744073709551615) : route_top u 32 = some (u / 576460752303423488) := by
  have h : route_top u 32 = some (wrap64 (u / 576460752303423488)) := by simp [route_top]
  rw [h, wrap64_eq (by omega) (by omega)]
theorem top_6 (u : Int) (h0 : 0 ≤ u) (h1 : u ≤ 18446744073709551615) : route_top u 64 = some (u / 288230376151711744) := by
  have h : route_top u 64 = some (wrap64 (u / 288230376151711744)) := by simp [route_top]
  rw [h, wrap64_eq (by omega) (by omega)]
theorem awake_true : corrielaw03_awake.f 20 = some true := by decide +kernel
theorem spread (a : Int) (h0 : 0 ≤ a) (h1 : a ≤ 18446744073709551615) : IntKind.u64.wrap (IntKind.u64.wrap (a + 17428512612931826493) * 11400714819323198485) = (IntKind.u64.wrap (a * 11400714819323198485) + 1) % 18446744073709551616 := by
  simp only [u64_mod]
  omega
theorem proof : corrielaw03_RouteSpread.Pure := by
  intro a p hwa hwp
  have ha := bounds_u64 hwa
  have hp := bounds_u8 hwp
  refine ⟨20, ?_⟩
  have hU0 : 0 ≤ IntKind.u64.wrap (a * 11400714819323198485) := by rw [u64_mod]; omega
  have hU1 : IntKind.u64.wrap (a * 11400714819323198485) ≤ 18446744073709551615 := by rw [u64_mod]; omega
  have hs := spread a ha.1 ha.2
  have ht : Int.tmod p 7 = p % 7 := Int.tmod_eq_emod_of_nonneg hp.1
  unfold corrielaw03_RouteSpread.f
  rw [awake_true, ht]
  obtain ⟨t, hT⟩ : ∃ t, t = p % 7 := ⟨_, rfl⟩
  rw [← hT]
  simp only [Option.bind_some, if_true]
  rw [if_pos (by omega)]
  have h1 : 0 ≤ t := by omega
  have h2 : t ≤ 6 := by omega
  clear hT ht
  obtain ⟨u, hu⟩ : ∃ u, u = IntKind.u64.wrap (a * 11400714819323198485) := ⟨_, rfl⟩
  obtain ⟨v, hv⟩ : ∃ v, v = IntKind.u64.wrap (IntKind.u64.wrap (a + 17428512612931826493) * 11400714819323198485) := ⟨_, rfl⟩
  simp only [bucket_eq 12]
  rw [← hv] at hs ⊢
  rw [← hu] at hs hU0 hU1 ⊢
  have hV0 : 0 ≤ v := by omega
  have hV1 : v ≤ 18446744073709551615 := by omega
  have hUV : v = u + 1 ∨ (u = 18446744073709551615 ∧ v = 0) := by omega
  clear hs hu hv
  rcases (by omega : t = 0 ∨ t = 1 ∨ t = 2 ∨ t = 3 ∨ t = 4 ∨ t = 5 ∨ t = 6) with rfl | rfl | rfl | rfl | rfl | rfl | rfl
  · rw [show shl .i64 1 0 = 1 by decide]
    have hp : isPow 1 = true := by decide
    rw [hp, if_pos rfl, if_pos rfl, top_0 _ hU0 hU1, top_0 _ hV0 hV1]
    simp only [Option.bind_some]
    split
    · rfl
    · rename_i hne
      rw [if_neg (by decide), wrap64_eq (by omega) (by omega), Int.tmod_eq_emod_of_nonneg (by omega)]
      congr 1
      rw [beq_iff_eq]
      rcases hUV with h | ⟨h, h'⟩ <;> omega
  · rw [show shl .i64 1 1 = 2 by decide]
    have hp : isPow 2 = true := by decide
    rw [hp, if_pos rfl, if_pos rfl, top_1 _ hU0 hU1, top_1 _ hV0 hV1]
    simp only [Option.bind_some]
    split
    · rfl
    · rename_i hne
      rw [if_neg (by decide), wrap64_eq (by omega) (by omega), Int.tmod_eq_emod_of_nonneg (by omega)]
      congr 1
      rw [beq_iff_eq]
      rcases hUV with h | ⟨h, h'⟩ <;> omega
  · rw [show shl .i64 1 2 = 4 by decide]
    have hp : isPow 4 = true := by decide
    rw [hp, if_pos rfl, if_pos rfl, top_2 _ hU0 hU1, top_2 _ hV0 hV1]
    simp only [Option.bind_some]
    split
    · rfl
    · rename_i hne
      rw [if_neg (by decide), wrap64_eq (by omega) (by omega), Int.tmod_eq_emod_of_nonneg (by omega)]
      congr 1
      rw [beq_iff_eq]
      rcases hUV with h | ⟨h, h'⟩ <;> omega
  · rw [show shl .i64 1 3 = 8 by decide]
    have hp : isPow 8 = true := by decide
    rw [hp, if_pos rfl, if_pos rfl, top_3 _ hU0 hU1, top_3 _ hV0 hV1]
    simp only [Option.bind_some]
    split
    · rfl
    · rename_i hne
      rw [if_neg (by decide), wrap64_eq (by omega) (by omega), Int.tmod_eq_emod_of_nonneg (by omega)]
      congr 1
      rw [beq_iff_eq]
      rcases hUV with h | ⟨h, h'⟩ <;> omega
  · rw [show shl .i64 1 4 = 16 by decide]
    have hp : isPow 16 = true := by decide
    rw [hp, if_pos rfl, if_pos rfl, top_4 _ hU0 hU1, top_4 _ hV0 hV1]
    simp only [Option.bind_some]
    split
    · rfl
    · rename_i hne
      rw [if_neg (by decide), wrap64_eq (by omega) (by omega), Int.tmod_eq_emod_of_nonneg (by omega)]
      congr 1
      rw [beq_iff_eq]
      rcases hUV with h | ⟨h, h'⟩ <;> omega
  · rw [show shl .i64 1 5 = 32 by decide]
    have hp : isPow 32 = true := by decide
    rw [hp, if_pos rfl, if_pos rfl, top_5 _ hU0 hU1, top_5 _ hV0 hV1]
    simp only [Option.bind_some]
    split
    · rfl
    · rename_i hne
      rw [if_neg (by decide), wrap64_eq (by omega) (by omega), Int.tmod_eq_emod_of_nonneg (by omega)]
      congr 1
      rw [beq_iff_eq]
      rcases hUV with h | ⟨h, h'⟩ <;> omega
  · rw [show shl .i64 1 6 = 64 by decide]
    have hp : isPow 64 = true := by decide
    rw [hp, if_pos rfl, if_pos rfl, top_6 _ hU0 hU1, top_6 _ hV0 hV1]
    simp only [Option.bind_some]
    split
    · rfl
    · rename_i hne
      rw [if_neg (by decide), wrap64_eq (by omega) (by omega), Int.tmod_eq_emod_of_nonneg (by omega)]
      congr 1
      rw [beq_iff_eq]
      rcases hUV with h | ⟨h, h'⟩ <;> omega
end Go.Proofs.Ytahifbdggbeajac.Pure.RouteSpread
namespace Go.Proofs.Ytahifbdggbeajac.Pure
theorem RouteSpread : Go.Proofs.Ytahifbdggbeajac.PRouteSpread.corrielaw03_RouteSpread.Pure := RouteSpread.proof
end Go.Proofs.Ytahifbdggbeajac.Pure
