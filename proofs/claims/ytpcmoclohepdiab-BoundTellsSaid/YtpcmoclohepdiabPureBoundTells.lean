/- Chapter 23, BoundTells: within how many steps calls end: the document's numbers, of whatever layout, size and inserts. -/
import Derived.Test.YtpcmoclohepdiabStmBoundTells
import Derived.Test.YtpcmoclohepdiabPlainBits
namespace Go.Proofs.Ytpcmoclohepdiab.Pure.BoundTells
open Go.RowKit Go.Proofs.Ytpcmoclohepdiab.PBoundTells Go.Proofs.Ytpcmoclohepdiab.Plain Go.Proofs.YtpcmoclohepdiabW.PrintWords Go.Proofs.YtpcmoclohepdiabW.PrintLast Go.Proofs.YtpcmoclohepdiabW.PrintMore
set_option linter.unusedVariables false
set_option linter.unusedSimpArgs false
def isPow (b : Int) : Bool := decide (b = 1 ∨ b = 2 ∨ b = 4 ∨ b = 8 ∨ b = 16 ∨ b = 32 ∨ b = 64)
theorem isPow_le {b : Int} (h : isPow b = true) : 1 ≤ b ∧ b ≤ 64 := by
  have : b = 1 ∨ b = 2 ∨ b = 4 ∨ b = 8 ∨ b = 16 ∨ b = 32 ∨ b = 64 := by simpa [isPow] using h
  omega
theorem rpow_eq (b : Int) : corrieref03_May.f b = some (isPow b) := by
  unfold corrieref03_May.f isPow
  repeat' split
  all_goals first | (subst_vars; rfl) | (congr 1; rw [Bool.eq_iff_iff]; simp [*])
def Ok (t b i f c : Int) : Prop := (1 ≤ t ∧ t ≤ 8) ∧ isPow b = true ∧ (0 ≤ i ∧ i ≤ 256) ∧ (0 ≤ f ∧ f ≤ 65536) ∧ (1 ≤ c ∧ c ≤ 256)
instance (t b i f c : Int) : Decidable (Ok t b i f c) := by unfold Ok; infer_instance
theorem rmay_eq (k : Nat) (t b i f c : Int) : corrieref04_May.f (k + 1) t b i f c = some (if Ok t b i f c then 0 else 1) := by
  unfold corrieref04_May.f
  rw [rpow_eq]
  simp only [corrieref04_May.j0, Option.bind_some, if_true]
  by_cases h1 : t < 1
  · rw [if_pos h1, if_neg (fun h => by have := h.1; omega)]
  rw [if_neg h1]
  by_cases h2 : t > 8
  · rw [if_pos h2, if_neg (fun h => by have := h.1; omega)]
  rw [if_neg h2]
  cases hb : isPow b
  · rw [if_pos (by rfl), if_neg (fun h => by have := h.2.1; rw [hb] at this; cases this)]
  rw [if_neg (by decide)]
  by_cases h3 : i < 0
  · rw [if_pos h3, if_neg (fun h => by have := h.2.2.1; omega)]
  rw [if_neg h3]
  by_cases h4 : i > 256
  · rw [if_pos h4, if_neg (fun h => by have := h.2.2.1; omega)]
  rw [if_neg h4]
  by_cases h5 : f < 0
  · rw [if_pos h5, if_neg (fun h => by have := h.2.2.2.1; omega)]
  rw [if_neg h5]
  by_cases h6 : f > 65536
  · rw [if_pos h6, if_neg (fun h => by have := h.2.2.2.1; omega)]
  rw [if_neg h6]
  by_cases h7 : c < 1
  · rw [if_pos h7, if_neg (fun h => by have := h.2.2.2.2; omega)]
  rw [if_neg h7]
  by_cases h8 : c > 256
  · rw [if_pos h8, if_neg (fun h => by have := h.2.2.2.2; omega)]
  rw [if_neg h8, if_pos ⟨⟨by omega, by omega⟩, hb, ⟨by omega, by omega⟩, ⟨by omega, by omega⟩, by omega, by omega⟩]
theorem sum2 (k : Nat) (a b : Int) : bound_sum.f (k + 3) [a, b] = some (wrap64 (wrap64 (0 + a) + b)) := by
  have w1 : wrap64 1 = 1 := by unfold wrap64; decide
  have w2 : wrap64 2 = 2 := by unfold wrap64; decide
  simp [bound_sum.f, bound_sum.l0, rd, w1, w2]
theorem sum3 (k : Nat) (a b c : Int) : bound_sum.f (k + 4) [a, b, c] = some (wrap64 (wrap64 (wrap64 (0 + a) + b) + c)) := by
  have w1 : wrap64 1 = 1 := by unfold wrap64; decide
  have w2 : wrap64 2 = 2 := by unfold wrap64; decide
  have w3 : wrap64 3 = 3 := by unfold wrap64; decide
  simp [bound_sum.f, bound_sum.l0, rd, w1, w2, w3]
theorem sum5 (k : Nat) (a b c d e : Int) : bound_sum.f (k + 6) [a, b, c, d, e] = some (wrap64 (wrap64 (wrap64 (wrap64 (wrap64 (0 + a) + b) + c) + d) + e)) := by
  have w1 : wrap64 1 = 1 := by unfold wrap64; decide
  have w2 : wrap64 2 = 2 := by unfold wrap64; decide
  have w3 : wrap64 3 = 3 := by unfold wrap64; decide
  have w4 : wrap64 4 = 4 := by unfold wrap64; decide
  have w5 : wrap64 5 = 5 := by unfold wrap64; decide
  simp [bound_sum.f, bound_sum.l0, rd, w1, w2, w3, w4, w5]
theorem point_step (k : Nat) (a n m x : Int) (j : Int) (t b i f c : Int) (h : j < 4) : bound_Point.l0 (k + 1) a n m x j t b i f c = bound_Point.l0 k a n m (wrap64 (x * m)) (wrap64 (j + 1)) t b i f c := by
  simp only [bound_Point.l0]
  rw [if_pos h]
theorem point_last (k : Nat) (a n m x : Int) (t b i f c : Int) : bound_Point.l0 (k + 5) a n m x 4 t b i f c = some (wrap64 (wrap64 (0 + f) + wrap64 (x * wrap64 (wrap64 (wrap64 (0 + a) + n) + wrap64 (m * m))))) := by
  simp only [bound_Point.l0]
  rw [if_neg (by decide), sum3 k]
  simp only [Option.bind_some]
  rw [sum2 (k + 1)]
  rfl
def prod (m : Int) : Int := wrap64 (wrap64 (wrap64 (wrap64 (1024 * m) * m) * m) * m)
theorem point_eq (k : Nat) (t b i f c a n : Int) : bound_Point.f (k + 9) t b i f c a n = some (wrap64 (wrap64 (0 + f) + wrap64 (prod (wrap64 (t + 1)) * wrap64 (wrap64 (wrap64 (0 + a) + n) + wrap64 (wrap64 (t + 1) * wrap64 (t + 1)))))) := by
  have w1 : wrap64 (0 + 1) = 1 := by unfold wrap64; decide
  have w2 : wrap64 (1 + 1) = 2 := by unfold wrap64; decide
  have w3 : wrap64 (2 + 1) = 3 := by unfold wrap64; decide
  have w4 : wrap64 (3 + 1) = 4 := by unfold wrap64; decide
  unfold bound_Point.f
  rw [point_step _ _ _ _ _ 0 _ _ _ _ _ (by decide), w1, point_step _ _ _ _ _ 1 _ _ _ _ _ (by decide), w2, point_step _ _ _ _ _ 2 _ _ _ _ _ (by decide), w3, point_step _ _ _ _ _ 3 _ _ _ _ _ (by decide), w4, point_last k]
  rfl
theorem rpoint_eq (t b i f c a n : Int) : corrieref23_Point.f t b i f c a n = some (wrap64 (f + wrap64 (prod (wrap64 (t + 1)) * wrap64 (wrap64 (a + n) + wrap64 (wrap64 (t + 1) * wrap64 (t + 1)))))) := rfl
theorem scan_eq (k : Nat) (t b i f c a n : Int) : bound_Scan.f (k + 6) t b i f c a n = some (wrap64 (64 * wrap64 (wrap64 (wrap64 (wrap64 (wrap64 (0 + b) + a) + t) + n) + 1))) := by
  unfold bound_Scan.f
  rw [sum5 k]
  rfl
theorem rscan_eq (t b i f c a n : Int) : corrieref23_Scan.f t b i f c a n = some (wrap64 (64 * wrap64 (wrap64 (wrap64 (wrap64 (b + a) + t) + n) + 1))) := rfl
theorem zero_add_w {x : Int} (h : 0 ≤ x) (h2 : x ≤ 4294967296) : wrap64 (0 + x) = x := by
  rw [Int.zero_add]
  exact wrap64_eq (by omega) (by omega)
theorem mod_bnd {x : Int} (h : (Lit.int .u32 x).wf = true) : 0 ≤ wrap64 (Int.tmod x 1048577) ∧ wrap64 (Int.tmod x 1048577) ≤ 1048576 := by
  have hx : 0 ≤ x := (bounds_u32 h).1
  have e : Int.tmod x 1048577 = x % 1048577 := Int.tmod_eq_emod_of_nonneg hx
  rw [e]
  have h1 := Int.emod_nonneg x (show (1048577 : Int) ≠ 0 by decide)
  have h2 := Int.emod_lt_of_pos x (show (0 : Int) < 1048577 by decide)
  rw [wrap64_eq (by omega) (by omega)]
  exact ⟨h1, by omega⟩
theorem proof : corrielaw23_BoundTells.Pure := by
  intro t b i f c x y _ _ _ _ _ hx hy
  refine ⟨20, ?_⟩
  have hx := mod_bnd hx
  have hy := mod_bnd hy
  unfold corrielaw23_BoundTells.f
  generalize wrap64 (Int.tmod x 1048577) = a at hx ⊢
  generalize wrap64 (Int.tmod y 1048577) = n at hy ⊢
  rw [show corrielaw23_awake.f = some true from rfl, rmay_eq 19]
  simp only [Option.bind_some]
  by_cases h : Ok t b i f c
  · have hb := isPow_le h.2.1
    rw [if_pos (if_pos h), if_pos trivial, point_eq 11, rpoint_eq, scan_eq 14, rscan_eq]
    rw [zero_add_w (x := f) h.2.2.2.1.1 (by have := h.2.2.2.1.2; omega), zero_add_w (x := a) hx.1 (by have := hx.2; omega), zero_add_w (x := b) (by have := hb.1; omega) (by have := hb.2; omega)]
    simp only [Option.bind_some]
    rw [if_pos trivial]
    simp
  · rw [if_neg (by rw [if_neg h]; decide)]
end Go.Proofs.Ytpcmoclohepdiab.Pure.BoundTells
namespace Go.Proofs.Ytpcmoclohepdiab.Pure
theorem BoundTells : Go.Proofs.Ytpcmoclohepdiab.PBoundTells.corrielaw23_BoundTells.Pure := BoundTells.proof
end Go.Proofs.Ytpcmoclohepdiab.Pure
