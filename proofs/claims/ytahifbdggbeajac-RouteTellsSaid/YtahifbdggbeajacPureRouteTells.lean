/- Chapter 3, RouteTells: any key's bucket, of any buckets, and whether there may be so many, are as the document's answer says. -/
import Derived.Test.YtahifbdggbeajacPRouteTellsx1
import Derived.Test.YtahifbdggbeajacPlainBits
namespace Go.Proofs.Ytahifbdggbeajac.Pure.RouteTells
open Go.RowKit Go.Proofs.Ytahifbdggbeajac.PRouteTells Go.Proofs.Ytahifbdggbeajac.Plain Go.Proofs.YtahifbdggbeajacW.PrintWords Go.Proofs.YtahifbdggbeajacW.PrintLast Go.Proofs.YtahifbdggbeajacW.PrintMore
set_option linter.unusedVariables false
theorem shl_at (j : Nat) (h : j ≤ 6) : shl .i64 1 (j : Int) = 2 ^ j := by
  match j, h with
  | 0, _ => exact (by decide : shl .i64 1 0 = 2 ^ 0)
  | 1, _ => exact (by decide : shl .i64 1 1 = 2 ^ 1)
  | 2, _ => exact (by decide : shl .i64 1 2 = 2 ^ 2)
  | 3, _ => exact (by decide : shl .i64 1 3 = 2 ^ 3)
  | 4, _ => exact (by decide : shl .i64 1 4 = 2 ^ 4)
  | 5, _ => exact (by decide : shl .i64 1 5 = 2 ^ 5)
  | 6, _ => exact (by decide : shl .i64 1 6 = 2 ^ 6)
theorem may_step (k : Nat) (b : Int) (i : Nat) (hi : i < 7) : route_May.l0 (k + 1) b 7 (i : Int) = if b = 2 ^ i then some true else route_May.l0 k b 7 ((i + 1 : Nat) : Int) := by
  simp only [route_May.l0]
  rw [if_pos (by omega), if_pos (by omega), shl_at i (by omega), wrap64_eq (by omega) (by omega)]
  rfl
def isPow (b : Int) : Bool := decide (b = 1 ∨ b = 2 ∨ b = 4 ∨ b = 8 ∨ b = 16 ∨ b = 32 ∨ b = 64)
theorem may_eq (k : Nat) (b : Int) : route_May.f (k + 8) b = some (isPow b) := by
  have h0 : bits_Len.f 64 = some 7 := by decide
  unfold route_May.f
  rw [h0]
  simp only [Option.bind_some]
  show route_May.l0 (k + 7 + 1) b 7 ((0 : Nat) : Int) = _
  rw [may_step _ _ 0 (by omega), may_step _ _ 1 (by omega), may_step _ _ 2 (by omega), may_step _ _ 3 (by omega), may_step _ _ 4 (by omega), may_step _ _ 5 (by omega), may_step _ _ 6 (by omega)]
  have h7 : route_May.l0 (k + 1) b 7 ((7 : Nat) : Int) = some false := by simp only [route_May.l0]; rw [if_neg (by omega)]
  rw [h7]
  unfold isPow
  by_cases c0 : b = 1
  · subst c0; rfl
  by_cases c1 : b = 2
  · subst c1; rfl
  by_cases c2 : b = 4
  · subst c2; rfl
  by_cases c3 : b = 8
  · subst c3; rfl
  by_cases c4 : b = 16
  · subst c4; rfl
  by_cases c5 : b = 32
  · subst c5; rfl
  by_cases c6 : b = 64
  · subst c6; rfl
  simp [c0, c1, c2, c3, c4, c5, c6]
theorem bucket_eq (k : Nat) (a b : Int) : route_Bucket.f (k + 8) a b = if isPow b = true then route_top (IntKind.u64.wrap (a * 11400714819323198485)) b else some 0 := by
  unfold route_Bucket.f
  rw [may_eq]
  rfl
theorem top_0 (u : Int) (h0 : 0 ≤ u) (h1 : u ≤ 18446744073709551615) : route_top u 1 = some (u / 18446744073709551616) := by
  have h : route_top u 1 = some (wrap64 (u / 18446744073709551616)) := by simp [route_top]
  rw [h, wrap64_eq (by omega) (by omega)]
theorem top_1 (u : Int) (h0 : 0 ≤ u) (h1 : u ≤ 18446744073709551615) : route_top u 2 = some (u / 9223372036854775808) := by
  have h : route_top u 2 = some (wrap64 (u / 9223372036854775808)) := by simp [route_top]
  rw [h, wrap64_eq (by omega) (by omega)]
theorem top_2 (u : Int) (h0 : 0 ≤ u) (h1 : u ≤ 18446744073709551615) : route_top u 4 = some (u / 4611686018427387904) := by
  have h : route_top u 4 = some (wrap64 (u / 4611686018427387904)) := by simp [route_top]
  rw [h, wrap64_eq (by omega) (by omega)]
theorem top_3 (u : Int) (h0 : 0 ≤ u) (h1 : u ≤ 18446744073709551615) : route_top u 8 = some (u / 2305843009213693952) := by
  have h : route_top u 8 = some (wrap64 (u / 2305843009213693952)) := by simp [route_top]
  rw [h, wrap64_eq (by omega) (by omega)]
theorem top_4 (u : Int) (h0 : 0 ≤ u) (h1 : u ≤ 18446744073709551615) : route_top u 16 = some (u / 1152921504606846976) := by
  have h : route_top u 16 = some (wrap64 (u / 1152921504606846976)) := by simp [route_top]
  rw [h, wrap64_eq (by omega) (by omega)]
theorem top_5 (u : Int) (h0 : 0 ≤ u) (h1 : u ≤ 18446744073709551615) : route_top u 32 = some (u / 576460752303423488) := by
  have h : route_top u 32 = some (wrap64 (u / 576460752303423488)) := by simp [route_top]
  rw [h, wrap64_eq (by omega) (by omega)]
theorem top_6 (u : Int) (h0 : 0 ≤ u) (h1 : u ≤ 18446744073709551615) : route_top u 64 = some (u / 288230376151711744) := by
  have h : route_top u 64 = some (wrap64 (u / 288230376151711744)) := by simp [route_top]
  rw [h, wrap64_eq (by omega) (by omega)]
theorem awake_true : corrielaw03_awake.f 20 = some true := by decide +kernel
theorem ref_0 (k : Nat) (h c : Int) (h0 : 0 ≤ h) (h1 : h ≤ 18446744073709551615) : corrieref03_Bucket.l0 (k + 1) h c 1 = some (c * 1 + h / 18446744073709551616) := by
  simp only [corrieref03_Bucket.l0]
  rw [if_neg (by decide)]
  congr 1
  omega
theorem ref_1 (k : Nat) (h c : Int) (h0 : 0 ≤ h) (h1 : h ≤ 18446744073709551615) (c0 : 0 ≤ c) (c1 : c ≤ 1048576) : corrieref03_Bucket.l0 (k + 2) h c 2 = some (c * 2 + h / 9223372036854775808) := by
  show corrieref03_Bucket.l0 (k + 1 + 1) h c 2 = _
  unfold corrieref03_Bucket.l0
  rw [if_pos (by decide), show wrap64 (Int.tdiv 2 2) = 1 by unfold wrap64; decide, wrap64_eq (n := 2 * c) (by omega) (by omega)]
  have e : IntKind.u64.wrap (2 * h) = 2 * h % 18446744073709551616 := u64_mod _
  by_cases b : h ≥ 9223372036854775808
  · rw [if_pos b, wrap64_eq (by omega) (by omega), e, ref_0 k _ _ (by omega) (by omega)]
    congr 1
    omega
  · rw [if_neg b, e, ref_0 k _ _ (by omega) (by omega)]
    congr 1
    omega
theorem ref_2 (k : Nat) (h c : Int) (h0 : 0 ≤ h) (h1 : h ≤ 18446744073709551615) (c0 : 0 ≤ c) (c1 : c ≤ 262144) : corrieref03_Bucket.l0 (k + 3) h c 4 = some (c * 4 + h / 4611686018427387904) := by
  show corrieref03_Bucket.l0 (k + 2 + 1) h c 4 = _
  unfold corrieref03_Bucket.l0
  rw [if_pos (by decide), show wrap64 (Int.tdiv 4 2) = 2 by unfold wrap64; decide, wrap64_eq (n := 2 * c) (by omega) (by omega)]
  have e : IntKind.u64.wrap (2 * h) = 2 * h % 18446744073709551616 := u64_mod _
  by_cases b : h ≥ 9223372036854775808
  · rw [if_pos b, wrap64_eq (by omega) (by omega), e, ref_1 k _ _ (by omega) (by omega) (by omega) (by omega)]
    congr 1
    omega
  · rw [if_neg b, e, ref_1 k _ _ (by omega) (by omega) (by omega) (by omega)]
    congr 1
    omega
theorem ref_3 (k : Nat) (h c : Int) (h0 : 0 ≤ h) (h1 : h ≤ 18446744073709551615) (c0 : 0 ≤ c) (c1 : c ≤ 65536) : corrieref03_Bucket.l0 (k + 4) h c 8 = some (c * 8 + h / 2305843009213693952) := by
  show corrieref03_Bucket.l0 (k + 3 + 1) h c 8 = _
  unfold corrieref03_Bucket.l0
  rw [if_pos (by decide), show wrap64 (Int.tdiv 8 2) = 4 by unfold wrap64; decide, wrap64_eq (n := 2 * c) (by omega) (by omega)]
  have e : IntKind.u64.wrap (2 * h) = 2 * h % 18446744073709551616 := u64_mod _
  by_cases b : h ≥ 9223372036854775808
  · rw [if_pos b, wrap64_eq (by omega) (by omega), e, ref_2 k _ _ (by omega) (by omega) (by omega) (by omega)]
    congr 1
    omega
  · rw [if_neg b, e, ref_2 k _ _ (by omega) (by omega) (by omega) (by omega)]
    congr 1
    omega
theorem ref_4 (k : Nat) (h c : Int) (h0 : 0 ≤ h) (h1 : h ≤ 18446744073709551615) (c0 : 0 ≤ c) (c1 : c ≤ 16384) : corrieref03_Bucket.l0 (k + 5) h c 16 = some (c * 16 + h / 1152921504606846976) := by
  show corrieref03_Bucket.l0 (k + 4 + 1) h c 16 = _
  unfold corrieref03_Bucket.l0
  rw [if_pos (by decide), show wrap64 (Int.tdiv 16 2) = 8 by unfold wrap64; decide, wrap64_eq (n := 2 * c) (by omega) (by omega)]
  have e : IntKind.u64.wrap (2 * h) = 2 * h % 18446744073709551616 := u64_mod _
  by_cases b : h ≥ 9223372036854775808
  · rw [if_pos b, wrap64_eq (by omega) (by omega), e, ref_3 k _ _ (by omega) (by omega) (by omega) (by omega)]
    congr 1
    omega
  · rw [if_neg b, e, ref_3 k _ _ (by omega) (by omega) (by omega) (by omega)]
    congr 1
    omega
theorem ref_5 (k : Nat) (h c : Int) (h0 : 0 ≤ h) (h1 : h ≤ 18446744073709551615) (c0 : 0 ≤ c) (c1 : c ≤ 4096) : corrieref03_Bucket.l0 (k + 6) h c 32 = some (c * 32 + h / 576460752303423488) := by
  show corrieref03_Bucket.l0 (k + 5 + 1) h c 32 = _
  unfold corrieref03_Bucket.l0
  rw [if_pos (by decide), show wrap64 (Int.tdiv 32 2) = 16 by unfold wrap64; decide, wrap64_eq (n := 2 * c) (by omega) (by omega)]
  have e : IntKind.u64.wrap (2 * h) = 2 * h % 18446744073709551616 := u64_mod _
  by_cases b : h ≥ 9223372036854775808
  · rw [if_pos b, wrap64_eq (by omega) (by omega), e, ref_4 k _ _ (by omega) (by omega) (by omega) (by omega)]
    congr 1
    omega
  · rw [if_neg b, e, ref_4 k _ _ (by omega) (by omega) (by omega) (by omega)]
    congr 1
    omega
theorem ref_6 (k : Nat) (h c : Int) (h0 : 0 ≤ h) (h1 : h ≤ 18446744073709551615) (c0 : 0 ≤ c) (c1 : c ≤ 1024) : corrieref03_Bucket.l0 (k + 7) h c 64 = some (c * 64 + h / 288230376151711744) := by
  show corrieref03_Bucket.l0 (k + 6 + 1) h c 64 = _
  unfold corrieref03_Bucket.l0
  rw [if_pos (by decide), show wrap64 (Int.tdiv 64 2) = 32 by unfold wrap64; decide, wrap64_eq (n := 2 * c) (by omega) (by omega)]
  have e : IntKind.u64.wrap (2 * h) = 2 * h % 18446744073709551616 := u64_mod _
  by_cases b : h ≥ 9223372036854775808
  · rw [if_pos b, wrap64_eq (by omega) (by omega), e, ref_5 k _ _ (by omega) (by omega) (by omega) (by omega)]
    congr 1
    omega
  · rw [if_neg b, e, ref_5 k _ _ (by omega) (by omega) (by omega) (by omega)]
    congr 1
    omega
theorem proof : corrielaw03_RouteTells.Pure := by
  intro a b hwa hwb
  refine ⟨20, ?_⟩
  have hU0 : 0 ≤ IntKind.u64.wrap (a * 11400714819323198485) := by rw [u64_mod]; omega
  have hU1 : IntKind.u64.wrap (a * 11400714819323198485) ≤ 18446744073709551615 := by rw [u64_mod]; omega
  unfold corrielaw03_RouteTells.f corrieref03_Bucket.f
  rw [awake_true, may_eq 12, bucket_eq 12]
  have hm : corrieref03_May.f b = some (isPow b) := by
    unfold corrieref03_May.f isPow
    repeat' split
    all_goals first | (subst_vars; rfl) | (congr 1; rw [Bool.eq_iff_iff]; simp [*])
  rw [hm]
  simp only [Option.bind_some, if_true]
  rw [if_pos (by simp)]
  by_cases hq : isPow b = true
  · have hb : b = 1 ∨ b = 2 ∨ b = 4 ∨ b = 8 ∨ b = 16 ∨ b = 32 ∨ b = 64 := by simpa [isPow] using hq
    rw [if_pos hq]
    clear hq hm
    rcases hb with rfl | rfl | rfl | rfl | rfl | rfl | rfl
    · have hp : isPow 1 = true := by decide
      rw [hp, if_pos rfl, top_0 _ hU0 hU1, ref_0 19 _ 0 hU0 hU1]
      simp
    · have hp : isPow 2 = true := by decide
      rw [hp, if_pos rfl, top_1 _ hU0 hU1, ref_1 18 _ 0 hU0 hU1 (by omega) (by omega)]
      simp
    · have hp : isPow 4 = true := by decide
      rw [hp, if_pos rfl, top_2 _ hU0 hU1, ref_2 17 _ 0 hU0 hU1 (by omega) (by omega)]
      simp
    · have hp : isPow 8 = true := by decide
      rw [hp, if_pos rfl, top_3 _ hU0 hU1, ref_3 16 _ 0 hU0 hU1 (by omega) (by omega)]
      simp
    · have hp : isPow 16 = true := by decide
      rw [hp, if_pos rfl, top_4 _ hU0 hU1, ref_4 15 _ 0 hU0 hU1 (by omega) (by omega)]
      simp
    · have hp : isPow 32 = true := by decide
      rw [hp, if_pos rfl, top_5 _ hU0 hU1, ref_5 14 _ 0 hU0 hU1 (by omega) (by omega)]
      simp
    · have hp : isPow 64 = true := by decide
      rw [hp, if_pos rfl, top_6 _ hU0 hU1, ref_6 13 _ 0 hU0 hU1 (by omega) (by omega)]
      simp
  · rw [if_neg hq, if_neg hq]
    simp
end Go.Proofs.Ytahifbdggbeajac.Pure.RouteTells
namespace Go.Proofs.Ytahifbdggbeajac.Pure
theorem RouteTells : Go.Proofs.Ytahifbdggbeajac.PRouteTells.corrielaw03_RouteTells.Pure := RouteTells.proof
end Go.Proofs.Ytahifbdggbeajac.Pure
