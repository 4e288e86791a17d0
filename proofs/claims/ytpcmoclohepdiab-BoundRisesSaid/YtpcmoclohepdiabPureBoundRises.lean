/- Chapter 23, BoundRises: more threads, a greater size, and more inserts never make a bound less; each is above 0. -/
import Derived.Test.YtpcmoclohepdiabStmBoundRises
import Derived.Test.YtpcmoclohepdiabPlainBits
namespace Go.Proofs.Ytpcmoclohepdiab.Pure.BoundRises
open Go.RowKit Go.Proofs.Ytpcmoclohepdiab.PBoundRises Go.Proofs.Ytpcmoclohepdiab.Plain Go.Proofs.YtpcmoclohepdiabW.PrintWords Go.Proofs.YtpcmoclohepdiabW.PrintLast Go.Proofs.YtpcmoclohepdiabW.PrintMore
set_option linter.unusedVariables false
set_option linter.unusedSimpArgs false
def isPow (b : Int) : Bool := decide (b = 1 ∨ b = 2 ∨ b = 4 ∨ b = 8 ∨ b = 16 ∨ b = 32 ∨ b = 64)
theorem isPow_le {b : Int} (h : isPow b = true) : 1 ≤ b ∧ b ≤ 64 := by
  have : b = 1 ∨ b = 2 ∨ b = 4 ∨ b = 8 ∨ b = 16 ∨ b = 32 ∨ b = 64 := by simpa [isPow] using h
  omega
theorem rpow_eq (b : Int) : corrieref03_May.f b = some (isPow b) := by
  unfold corrieref03_May.f isPow
  repeat' split
  all_goals first | (subst_vars; rfl) | (congr 1; rw [Bool.eq_iff_iff]; simp [*])
def Ok (t b i f c : Int) : Prop := (1 ≤ t ∧ t ≤ 8) ∧ isPow b = true ∧ (0 ≤ i ∧ i ≤ 256) ∧ (0 ≤ f ∧ f ≤ 65536) ∧ (1 ≤ c ∧ c ≤ 256)
instance (t b i f c : Int) : Decidable (Ok t b i f c) := by unfold Ok; infer_instance
theorem rmay_eq (k : Nat) (t b i f c : Int) : corrieref04_May.f (k + 1) t b i f c = some (if Ok t b i f c then 0 else 1) := by
  unfold corrieref04_May.f
  rw [rpow_eq]
  simp only [corrieref04_May.j0, Option.bind_some, if_true]
  by_cases h1 : t < 1
  · rw [if_pos h1, if_neg (fun h => by have := h.1; omega)]
  rw [if_neg h1]
  by_cases h2 : t > 8
  · rw [if_pos h2, if_neg (fun h => by have := h.1; omega)]
  rw [if_neg h2]
  cases hb : isPow b
  · rw [if_pos (by rfl), if_neg (fun h => by have := h.2.1; rw [hb] at this; cases this)]
  rw [if_neg (by decide)]
  by_cases h3 : i < 0
  · rw [if_pos h3, if_neg (fun h => by have := h.2.2.1; omega)]
  rw [if_neg h3]
  by_cases h4 : i > 256
  · rw [if_pos h4, if_neg (fun h => by have := h.2.2.1; omega)]
  rw [if_neg h4]
  by_cases h5 : f < 0
  · rw [if_pos h5, if_neg (fun h => by have := h.2.2.2.1; omega)]
  rw [if_neg h5]
  by_cases h6 : f > 65536
  · rw [if_pos h6, if_neg (fun h => by have := h.2.2.2.1; omega)]
  rw [if_neg h6]
  by_cases h7 : c < 1
  · rw [if_pos h7, if_neg (fun h => by have := h.2.2.2.2; omega)]
  rw [if_neg h7]
  by_cases h8 : c > 256
  · rw [if_pos h8, if_neg (fun h => by have := h.2.2.2.2; omega)]
  rw [if_neg h8, if_pos ⟨⟨by omega, by omega⟩, hb, ⟨by omega, by omega⟩, ⟨by omega, by omega⟩, by omega, by omega⟩]
theorem sum2 (k : Nat) (a b : Int) : bound_sum.f (k + 3) [a, b] = some (wrap64 (wrap64 (0 + a) + b)) := by
  have w1 : wrap64 1 = 1 := by unfold wrap64; decide
  have w2 : wrap64 2 = 2 := by unfold wrap64; decide
  simp [bound_sum.f, bound_sum.l0, rd, w1, w2]
theorem sum3 (k : Nat) (a b c : Int) : bound_sum.f (k + 4) [a, b, c] = some (wrap64 (wrap64 (wrap64 (0 + a) + b) + c)) := by
  have w1 : wrap64 1 = 1 := by unfold wrap64; decide
  have w2 : wrap64 2 = 2 := by unfold wrap64; decide
  have w3 : wrap64 3 = 3 := by unfold wrap64; decide
  simp [bound_sum.f, bound_sum.l0, rd, w1, w2, w3]
theorem sum5 (k : Nat) (a b c d e : Int) : bound_sum.f (k + 6) [a, b, c, d, e] = some (wrap64 (wrap64 (wrap64 (wrap64 (wrap64 (0 + a) + b) + c) + d) + e)) := by
  have w1 : wrap64 1 = 1 := by unfold wrap64; decide
  have w2 : wrap64 2 = 2 := by unfold wrap64; decide
  have w3 : wrap64 3 = 3 := by unfold wrap64; decide
  have w4 : wrap64 4 = 4 := by unfold wrap64; decide
  have w5 : wrap64 5 = 5 := by unfold wrap64; decide
  simp [bound_sum.f, bound_sum.l0, rd, w1, w2, w3, w4, w5]
theorem point_step (k : Nat) (a n m x : Int) (j : Int) (t b i f c : Int) (h : j < 4) : bound_Point.l0 (k + 1) a n m x j t b i f c = bound_Point.l0 k a n m (wrap64 (x * m)) (wrap64 (j + 1)) t b i f c := by
  simp only [bound_Point.l0]
  rw [if_pos h]
theorem point_last (k : Nat) (a n m x : Int) (t b i f c : Int) : bound_Point.l0 (k + 5) a n m x 4 t b i f c = some (wrap64 (wrap64 (0 + f) + wrap64 (x * wrap64 (wrap64 (wrap64 (0 + a) + n) + wrap64 (m * m))))) := by
  simp only [bound_Point.l0]
  rw [if_neg (by decide), sum3 k]
  simp only [Option.bind_some]
  rw [sum2 (k + 1)]
  rfl
def prod (m : Int) : Int := wrap64 (wrap64 (wrap64 (wrap64 (1024 * m) * m) * m) * m)
theorem point_eq (k : Nat) (t b i f c a n : Int) : bound_Point.f (k + 9) t b i f c a n = some (wrap64 (wrap64 (0 + f) + wrap64 (prod (wrap64 (t + 1)) * wrap64 (wrap64 (wrap64 (0 + a) + n) + wrap64 (wrap64 (t + 1) * wrap64 (t + 1)))))) := by
  have w1 : wrap64 (0 + 1) = 1 := by unfold wrap64; decide
  have w2 : wrap64 (1 + 1) = 2 := by unfold wrap64; decide
  have w3 : wrap64 (2 + 1) = 3 := by unfold wrap64; decide
  have w4 : wrap64 (3 + 1) = 4 := by unfold wrap64; decide
  unfold bound_Point.f
  rw [point_step _ _ _ _ _ 0 _ _ _ _ _ (by decide), w1, point_step _ _ _ _ _ 1 _ _ _ _ _ (by decide), w2, point_step _ _ _ _ _ 2 _ _ _ _ _ (by decide), w3, point_step _ _ _ _ _ 3 _ _ _ _ _ (by decide), w4, point_last k]
  rfl
theorem scan_eq (k : Nat) (t b i f c a n : Int) : bound_Scan.f (k + 6) t b i f c a n = some (wrap64 (64 * wrap64 (wrap64 (wrap64 (wrap64 (wrap64 (0 + b) + a) + t) + n) + 1))) := by
  unfold bound_Scan.f
  rw [sum5 k]
  rfl
theorem zero_add_w {x : Int} (h : 0 ≤ x) (h2 : x ≤ 4294967296) : wrap64 (0 + x) = x := by
  rw [Int.zero_add]
  exact wrap64_eq (by omega) (by omega)
theorem prod_bnd {P Q a n : Int} (hP : 1 ≤ P ∧ P ≤ 6718464) (hQ : 1 ≤ Q ∧ Q ≤ 81) (ha : 0 ≤ a ∧ a ≤ 131070) (hn : 0 ≤ n ∧ n ≤ 131070) : 1 ≤ P * (a + n + Q) ∧ P * (a + n + Q) ≤ 6718464 * 262221 := by
  have h1 : 0 < P * (a + n + Q) := Int.mul_pos (by omega) (by omega)
  have h2 : P * (a + n + Q) ≤ 6718464 * 262221 := Int.mul_le_mul hP.2 (by omega) (by omega) (by omega)
  omega
theorem point_val (k : Nat) {t b i f c a n M P Q : Int} (hM : wrap64 (t + 1) = M) (hP : prod M = P) (hQ : wrap64 (M * M) = Q) (hP0 : 1 ≤ P ∧ P ≤ 6718464) (hQ0 : 1 ≤ Q ∧ Q ≤ 81) (hf : 0 ≤ f ∧ f ≤ 65536) (ha : 0 ≤ a ∧ a ≤ 131070) (hn : 0 ≤ n ∧ n ≤ 131070) : bound_Point.f (k + 9) t b i f c a n = some (f + P * (a + n + Q)) := by
  have hb := prod_bnd hP0 hQ0 ha hn
  rw [point_eq, hM, hP, hQ, zero_add_w hf.1 (by omega), zero_add_w ha.1 (by omega), wrap64_eq (n := a + n) (by omega) (by omega), wrap64_eq (n := a + n + Q) (by omega) (by omega), wrap64_eq (n := P * (a + n + Q)) (by omega) (by omega), wrap64_eq (n := f + P * (a + n + Q)) (by omega) (by omega)]
theorem scan_val (k : Nat) {t b i f c a n : Int} (ht : 1 ≤ t ∧ t ≤ 8) (hb : 1 ≤ b ∧ b ≤ 64) (ha : 0 ≤ a ∧ a ≤ 131070) (hn : 0 ≤ n ∧ n ≤ 131070) : bound_Scan.f (k + 6) t b i f c a n = some (64 * (b + a + t + n + 1)) := by
  rw [scan_eq, zero_add_w (by omega) (by omega), wrap64_eq (n := b + a) (by omega) (by omega), wrap64_eq (n := b + a + t) (by omega) (by omega), wrap64_eq (n := b + a + t + n) (by omega) (by omega), wrap64_eq (n := b + a + t + n + 1) (by omega) (by omega), wrap64_eq (by omega) (by omega)]
theorem fin {t b i f c a n x y D M P Q M2 P2 Q2 : Int} (hM : wrap64 (t + 1) = M) (hP : prod M = P) (hQ : wrap64 (M * M) = Q) (hD : (if 8 < wrap64 (t + 1) then 8 else wrap64 (t + 1)) = D) (hM2 : wrap64 (D + 1) = M2) (hP2 : prod M2 = P2) (hQ2 : wrap64 (M2 * M2) = Q2) (hPP : 1 ≤ P ∧ P ≤ P2 ∧ P2 ≤ 6718464) (hQQ : 1 ≤ Q ∧ Q ≤ Q2 ∧ Q2 ≤ 81) (ht : 1 ≤ t ∧ t ≤ D ∧ D ≤ 8) (hb : 1 ≤ b ∧ b ≤ 64) (hf : 0 ≤ f ∧ f ≤ 65536) (ha : 0 ≤ a ∧ a ≤ x ∧ x ≤ 131070) (hn : 0 ≤ n ∧ n ≤ y ∧ y ≤ 131070) :
    ((bound_Point.f 20 t b i f c a n).bind fun v0 => (bound_Scan.f 20 t b i f c a n).bind fun v1 => (bound_Point.f 20 (if 8 < wrap64 (t + 1) then 8 else wrap64 (t + 1)) b i f c x y).bind fun v2 => (bound_Scan.f 20 (if 8 < wrap64 (t + 1) then 8 else wrap64 (t + 1)) b i f c x y).bind fun v3 => if 0 < v0 ∧ 0 < v1 ∧ v0 ≤ v2 ∧ v1 ≤ v3 then some true else none) = some true := by
  rw [hD, point_val 11 hM hP hQ ⟨hPP.1, by omega⟩ ⟨hQQ.1, by omega⟩ hf ⟨ha.1, by omega⟩ ⟨hn.1, by omega⟩, point_val 11 hM2 hP2 hQ2 ⟨by omega, hPP.2.2⟩ ⟨by omega, hQQ.2.2⟩ hf ⟨by omega, ha.2.2⟩ ⟨by omega, hn.2.2⟩, scan_val 14 ⟨ht.1, by omega⟩ hb ⟨ha.1, by omega⟩ ⟨hn.1, by omega⟩, scan_val 14 ⟨by omega, ht.2.2⟩ hb ⟨by omega, ha.2.2⟩ ⟨by omega, hn.2.2⟩]
  simp only [Option.bind_some]
  have b1 := prod_bnd (P := P) (Q := Q) ⟨hPP.1, by omega⟩ ⟨hQQ.1, by omega⟩ ⟨ha.1, by omega⟩ ⟨hn.1, by omega⟩
  have b2 : P * (a + n + Q) ≤ P2 * (x + y + Q2) := Int.mul_le_mul hPP.2.1 (by omega) (by omega) (by omega)
  rw [if_pos ⟨by omega, by omega, by omega, by omega⟩]
theorem proof : corrielaw23_BoundRises.Pure := by
  intro t b i f c n0 n1 p q _ _ _ _ _ hn0 hn1 hp hq
  refine ⟨20, ?_⟩
  have hn0 := bounds_u16 hn0
  have hn1 := bounds_u16 hn1
  have hp := bounds_u16 hp
  have hq := bounds_u16 hq
  unfold corrielaw23_BoundRises.f
  rw [rmay_eq 19]
  simp only [Option.bind_some]
  by_cases h : Ok t b i f c
  · have hb := isPow_le h.2.1
    have hf := h.2.2.2.1
    rw [if_pos (if_pos h), wrap64_eq (n := n0) (by omega) (by omega), wrap64_eq (n := n1) (by omega) (by omega), wrap64_eq (n := p) (by omega) (by omega), wrap64_eq (n := q) (by omega) (by omega), wrap64_eq (n := n0 + p) (by omega) (by omega), wrap64_eq (n := n1 + q) (by omega) (by omega)]
    have ht : t = 1 ∨ t = 2 ∨ t = 3 ∨ t = 4 ∨ t = 5 ∨ t = 6 ∨ t = 7 ∨ t = 8 := by have := h.1; omega
    have ha : 0 ≤ n0 ∧ n0 ≤ n0 + p ∧ n0 + p ≤ 131070 := ⟨by omega, by omega, by omega⟩
    have hy : 0 ≤ n1 ∧ n1 ≤ n1 + q ∧ n1 + q ≤ 131070 := ⟨by omega, by omega, by omega⟩
    clear h
    rcases ht with rfl | rfl | rfl | rfl | rfl | rfl | rfl | rfl
    · exact fin (D := 2) (M := 2) (P := 16384) (Q := 4) (M2 := 3) (P2 := 82944) (Q2 := 9) (by unfold wrap64; decide) (by unfold prod wrap64; decide) (by unfold wrap64; decide) (by unfold wrap64; decide) (by unfold wrap64; decide) (by unfold prod wrap64; decide) (by unfold wrap64; decide) (by decide) (by decide) (by decide) hb hf ha hy
    · exact fin (D := 3) (M := 3) (P := 82944) (Q := 9) (M2 := 4) (P2 := 262144) (Q2 := 16) (by unfold wrap64; decide) (by unfold prod wrap64; decide) (by unfold wrap64; decide) (by unfold wrap64; decide) (by unfold wrap64; decide) (by unfold prod wrap64; decide) (by unfold wrap64; decide) (by decide) (by decide) (by decide) hb hf ha hy
    · exact fin (D := 4) (M := 4) (P := 262144) (Q := 16) (M2 := 5) (P2 := 640000) (Q2 := 25) (by unfold wrap64; decide) (by unfold prod wrap64; decide) (by unfold wrap64; decide) (by unfold wrap64; decide) (by unfold wrap64; decide) (by unfold prod wrap64; decide) (by unfold wrap64; decide) (by decide) (by decide) (by decide) hb hf ha hy
    · exact fin (D := 5) (M := 5) (P := 640000) (Q := 25) (M2 := 6) (P2 := 1327104) (Q2 := 36) (by unfold wrap64; decide) (by unfold prod wrap64; decide) (by unfold wrap64; decide) (by unfold wrap64; decide) (by unfold wrap64; decide) (by unfold prod wrap64; decide) (by unfold wrap64; decide) (by decide) (by decide) (by decide) hb hf ha hy
    · exact fin (D := 6) (M := 6) (P := 1327104) (Q := 36) (M2 := 7) (P2 := 2458624) (Q2 := 49) (by unfold wrap64; decide) (by unfold prod wrap64; decide) (by unfold wrap64; decide) (by unfold wrap64; decide) (by unfold wrap64; decide) (by unfold prod wrap64; decide) (by unfold wrap64; decide) (by decide) (by decide) (by decide) hb hf ha hy
    · exact fin (D := 7) (M := 7) (P := 2458624) (Q := 49) (M2 := 8) (P2 := 4194304) (Q2 := 64) (by unfold wrap64; decide) (by unfold prod wrap64; decide) (by unfold wrap64; decide) (by unfold wrap64; decide) (by unfold wrap64; decide) (by unfold prod wrap64; decide) (by unfold wrap64; decide) (by decide) (by decide) (by decide) hb hf ha hy
    · exact fin (D := 8) (M := 8) (P := 4194304) (Q := 64) (M2 := 9) (P2 := 6718464) (Q2 := 81) (by unfold wrap64; decide) (by unfold prod wrap64; decide) (by unfold wrap64; decide) (by unfold wrap64; decide) (by unfold wrap64; decide) (by unfold prod wrap64; decide) (by unfold wrap64; decide) (by decide) (by decide) (by decide) hb hf ha hy
    · exact fin (D := 8) (M := 9) (P := 6718464) (Q := 81) (M2 := 9) (P2 := 6718464) (Q2 := 81) (by unfold wrap64; decide) (by unfold prod wrap64; decide) (by unfold wrap64; decide) (by unfold wrap64; decide) (by unfold wrap64; decide) (by unfold prod wrap64; decide) (by unfold wrap64; decide) (by decide) (by decide) (by decide) hb hf ha hy
  · rw [if_neg (by rw [if_neg h]; decide)]
end Go.Proofs.Ytpcmoclohepdiab.Pure.BoundRises
namespace Go.Proofs.Ytpcmoclohepdiab.Pure
theorem BoundRises : Go.Proofs.Ytpcmoclohepdiab.PBoundRises.corrielaw23_BoundRises.Pure := BoundRises.proof
end Go.Proofs.Ytpcmoclohepdiab.Pure
