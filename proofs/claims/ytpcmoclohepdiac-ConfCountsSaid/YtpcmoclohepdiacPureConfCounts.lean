/- Chapter 4, ConfCounts: of a layout that may be each operation has two nodes, beside the heads and none; a call more has two more for each thread. -/
import Derived.Test.YtpcmoclohepdiacStmConfCounts
import Derived.Test.YtpcmoclohepdiacPlainBits
namespace Go.Proofs.Ytpcmoclohepdiac.Pure.ConfCounts
open Go.RowKit Go.Proofs.Ytpcmoclohepdiac.PConfCounts Go.Proofs.Ytpcmoclohepdiac.Plain Go.Proofs.YtpcmoclohepdiacW.PrintWords Go.Proofs.YtpcmoclohepdiacW.PrintLast Go.Proofs.YtpcmoclohepdiacW.PrintMore
set_option linter.unusedVariables false
set_option linter.unusedSimpArgs false
theorem shl_at (j : Nat) (h : j ≤ 6) : shl .i64 1 (j : Int) = 2 ^ j := by
  match j, h with
  | 0, _ => exact (by decide : shl .i64 1 0 = 2 ^ 0)
  | 1, _ => exact (by decide : shl .i64 1 1 = 2 ^ 1)
  | 2, _ => exact (by decide : shl .i64 1 2 = 2 ^ 2)
  | 3, _ => exact (by decide : shl .i64 1 3 = 2 ^ 3)
  | 4, _ => exact (by decide : shl .i64 1 4 = 2 ^ 4)
  | 5, _ => exact (by decide : shl .i64 1 5 = 2 ^ 5)
  | 6, _ => exact (by decide : shl .i64 1 6 = 2 ^ 6)
theorem may_step (k : Nat) (b : Int) (i : Nat) (hi : i < 7) : route_May.l0 (k + 1) b 7 (i : Int) = if b = 2 ^ i then some true else route_May.l0 k b 7 ((i + 1 : Nat) : Int) := by
  simp only [route_May.l0]
  rw [if_pos (by omega), if_pos (by omega), shl_at i (by omega), wrap64_eq (by omega) (by omega)]
  rfl
def isPow (b : Int) : Bool := decide (b = 1 ∨ b = 2 ∨ b = 4 ∨ b = 8 ∨ b = 16 ∨ b = 32 ∨ b = 64)
theorem isPow_le {b : Int} (h : isPow b = true) : 1 ≤ b ∧ b ≤ 64 := by
  have : b = 1 ∨ b = 2 ∨ b = 4 ∨ b = 8 ∨ b = 16 ∨ b = 32 ∨ b = 64 := by simpa [isPow] using h
  omega
theorem may_eq (k : Nat) (b : Int) : route_May.f (k + 8) b = some (isPow b) := by
  have h0 : bits_Len.f 64 = some 7 := by decide
  unfold route_May.f
  rw [h0]
  simp only [Option.bind_some]
  show route_May.l0 (k + 7 + 1) b 7 ((0 : Nat) : Int) = _
  rw [may_step _ _ 0 (by omega), may_step _ _ 1 (by omega), may_step _ _ 2 (by omega), may_step _ _ 3 (by omega), may_step _ _ 4 (by omega), may_step _ _ 5 (by omega), may_step _ _ 6 (by omega)]
  have h7 : route_May.l0 (k + 1) b 7 ((7 : Nat) : Int) = some false := by simp only [route_May.l0]; rw [if_neg (by omega)]
  rw [h7]
  unfold isPow
  by_cases c0 : b = 1
  · subst c0; rfl
  by_cases c1 : b = 2
  · subst c1; rfl
  by_cases c2 : b = 4
  · subst c2; rfl
  by_cases c3 : b = 8
  · subst c3; rfl
  by_cases c4 : b = 16
  · subst c4; rfl
  by_cases c5 : b = 32
  · subst c5; rfl
  by_cases c6 : b = 64
  · subst c6; rfl
  simp [c0, c1, c2, c3, c4, c5, c6]
theorem rpow_eq (b : Int) : corrieref03_May.f b = some (isPow b) := by
  unfold corrieref03_May.f isPow
  repeat' split
  all_goals first | (subst_vars; rfl) | (congr 1; rw [Bool.eq_iff_iff]; simp [*])
def Ok (t b i f c : Int) : Prop := (1 ≤ t ∧ t ≤ 8) ∧ isPow b = true ∧ (0 ≤ i ∧ i ≤ 256) ∧ (0 ≤ f ∧ f ≤ 65536) ∧ (1 ≤ c ∧ c ≤ 256)
instance (t b i f c : Int) : Decidable (Ok t b i f c) := by unfold Ok; infer_instance
theorem within_eq (a l h : Int) : conf_within.f a l h = some (decide (l ≤ a ∧ a ≤ h)) := by
  unfold conf_within.f
  by_cases c : a ≥ l
  · rw [if_pos c]; congr 1; rw [Bool.eq_iff_iff]; simp; omega
  · rw [if_neg c]; congr 1; symm; rw [decide_eq_false_iff_not]; omega
theorem all_eq (k : Nat) (a b c d e : Bool) : conf_all.f (k + 6) [a, b, c, d, e] = some (a && (b && (c && (d && e)))) := by
  have w0 : wrap64 1 = 1 := by unfold wrap64; decide
  have w1 : wrap64 2 = 2 := by unfold wrap64; decide
  have w2 : wrap64 3 = 3 := by unfold wrap64; decide
  have w3 : wrap64 4 = 4 := by unfold wrap64; decide
  have w4 : wrap64 5 = 5 := by unfold wrap64; decide
  cases a <;> cases b <;> cases c <;> cases d <;> cases e <;> simp [conf_all.f, conf_all.l0, rdOf, w0, w1, w2, w3, w4]
theorem cmay_eq (k : Nat) (t b i f c : Int) : conf_May.f (k + 8) t b i f c = some (if Ok t b i f c then 0 else 1) := by
  unfold conf_May.f
  rw [within_eq, may_eq, within_eq, within_eq, within_eq]
  simp only [Option.bind_some]
  rw [show k + 8 = (k + 2) + 6 from rfl, all_eq]
  simp only [Option.bind_some]
  by_cases h : Ok t b i f c
  · rw [if_pos h]
    obtain ⟨h1, h2, h3, h4, h5⟩ := h
    rw [decide_eq_true h1, h2, decide_eq_true h3, decide_eq_true h4, decide_eq_true h5]
    rfl
  · rw [if_neg h, if_neg]
    intro hh
    simp only [Bool.and_eq_true, decide_eq_true_eq] at hh
    exact h ⟨hh.1, hh.2.1, hh.2.2.1, hh.2.2.2.1, hh.2.2.2.2⟩
theorem rmay_eq (k : Nat) (t b i f c : Int) : corrieref04_May.f (k + 1) t b i f c = some (if Ok t b i f c then 0 else 1) := by
  unfold corrieref04_May.f
  rw [rpow_eq]
  simp only [corrieref04_May.j0, Option.bind_some, if_true]
  by_cases h1 : t < 1
  · rw [if_pos h1, if_neg (fun h => by have := h.1; omega)]
  rw [if_neg h1]
  by_cases h2 : t > 8
  · rw [if_pos h2, if_neg (fun h => by have := h.1; omega)]
  rw [if_neg h2]
  cases hb : isPow b
  · rw [if_pos (by rfl), if_neg (fun h => by have := h.2.1; rw [hb] at this; cases this)]
  rw [if_neg (by decide)]
  by_cases h3 : i < 0
  · rw [if_pos h3, if_neg (fun h => by have := h.2.2.1; omega)]
  rw [if_neg h3]
  by_cases h4 : i > 256
  · rw [if_pos h4, if_neg (fun h => by have := h.2.2.1; omega)]
  rw [if_neg h4]
  by_cases h5 : f < 0
  · rw [if_pos h5, if_neg (fun h => by have := h.2.2.2.1; omega)]
  rw [if_neg h5]
  by_cases h6 : f > 65536
  · rw [if_pos h6, if_neg (fun h => by have := h.2.2.2.1; omega)]
  rw [if_neg h6]
  by_cases h7 : c < 1
  · rw [if_pos h7, if_neg (fun h => by have := h.2.2.2.2; omega)]
  rw [if_neg h7]
  by_cases h8 : c > 256
  · rw [if_pos h8, if_neg (fun h => by have := h.2.2.2.2; omega)]
  rw [if_neg h8, if_pos ⟨⟨by omega, by omega⟩, hb, ⟨by omega, by omega⟩, ⟨by omega, by omega⟩, by omega, by omega⟩]
theorem mul_le {t c : Int} (h1 : 1 ≤ t) (h2 : t ≤ 8) (h3 : 1 ≤ c) (h4 : c ≤ 256) : 1 ≤ t * c ∧ t ≤ t * c ∧ t * c ≤ 2048 := by
  have ha : t * 1 ≤ t * c := Int.mul_le_mul_of_nonneg_left h3 (by omega)
  have hb : t * c ≤ 8 * c := Int.mul_le_mul_of_nonneg_right h2 (by omega)
  omega
theorem ops_eq (k : Nat) (t b i f c : Int) : conf_Ops.f (k + 8) t b i f c = some (if Ok t b i f c then t * c else 0) := by
  unfold conf_Ops.f
  rw [cmay_eq]
  simp only [Option.bind_some]
  by_cases h : Ok t b i f c
  · simp only [if_pos h]
    have hm := mul_le h.1.1 h.1.2 h.2.2.2.2.1 h.2.2.2.2.2
    rw [if_pos trivial, wrap64_eq (by omega) (by omega)]
  · simp only [if_neg h]
    rw [if_neg (by decide)]
theorem nodes_eq (k : Nat) (t b i f c : Int) : conf_Nodes.f (k + 8) t b i f c = some (if Ok t b i f c then 1 + b + 2 * (t * c) else 0) := by
  unfold conf_Nodes.f
  rw [cmay_eq, ops_eq]
  simp only [Option.bind_some]
  by_cases h : Ok t b i f c
  · simp only [if_pos h]
    have hm := mul_le h.1.1 h.1.2 h.2.2.2.2.1 h.2.2.2.2.2
    have hb := isPow_le h.2.1
    rw [if_pos trivial, wrap64_eq (n := 1 + b) (by omega) (by omega), wrap64_eq (n := 2 * (t * c)) (by omega) (by omega), wrap64_eq (by omega) (by omega)]
  · simp only [if_neg h]
    rw [if_neg (by decide)]
theorem awake_true : corrielaw04_awake.f = some true := rfl
theorem proof : corrielaw04_ConfCounts.Pure := by
  intro t b i f c _ _ _ _ hc
  have hc := bounds_i64 hc
  refine ⟨20, ?_⟩
  unfold corrielaw04_ConfCounts.f
  rw [rmay_eq 19]
  simp only [Option.bind_some]
  by_cases h : Ok t b i f c
  · have hm := mul_le h.1.1 h.1.2 h.2.2.2.2.1 h.2.2.2.2.2
    have hb := isPow_le h.2.1
    obtain ⟨h1, h2, h3, h4, h5⟩ := h
    have h : Ok t b i f c := ⟨h1, h2, h3, h4, h5⟩
    rw [if_pos h, if_pos rfl, wrap64_eq (n := c + 1) (by omega) (by omega)]
    simp only [cmay_eq 12, nodes_eq 12, ops_eq 12, Option.bind_some]
    rw [if_pos h, if_pos h, wrap64_eq (n := 1 + b) (by omega) (by omega), wrap64_eq (n := 2 * (t * c)) (by omega) (by omega), wrap64_eq (n := 1 + b + 2 * (t * c)) (by omega) (by omega), if_pos rfl, if_pos (by omega)]
    by_cases h' : c < 256
    · have k : Ok t b i f (c + 1) := ⟨h1, h2, h3, h4, by omega, by omega⟩
      have e : t * (c + 1) = t * c + t := by rw [Int.mul_add, Int.mul_one]
      rw [if_pos k, if_pos rfl, if_pos h', if_pos k, e, wrap64_eq (n := 2 * t) (by omega) (by omega), wrap64_eq (by omega) (by omega), if_pos (by omega)]
    · have k : ¬ Ok t b i f (c + 1) := fun k => by have := k.2.2.2.2; omega
      rw [if_neg k, if_neg (by decide), if_pos h']
  · rw [if_neg h, if_neg (by decide)]
end Go.Proofs.Ytpcmoclohepdiac.Pure.ConfCounts
namespace Go.Proofs.Ytpcmoclohepdiac.Pure
theorem ConfCounts : Go.Proofs.Ytpcmoclohepdiac.PConfCounts.corrielaw04_ConfCounts.Pure := ConfCounts.proof
end Go.Proofs.Ytpcmoclohepdiac.Pure
