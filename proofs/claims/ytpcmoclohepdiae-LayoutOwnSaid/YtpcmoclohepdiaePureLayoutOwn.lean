/- Chapter 5, LayoutOwn: each cell is one thing's: of any number of cells just one of a node, an operation and a thread. -/
import Derived.Test.YtpcmoclohepdiaeStmLayoutOwn
import Derived.Test.YtpcmoclohepdiaePlainBits
namespace Go.Proofs.Ytpcmoclohepdiae.Pure.LayoutOwn
open Go.RowKit Go.Proofs.Ytpcmoclohepdiae.PLayoutOwn Go.Proofs.Ytpcmoclohepdiae.Plain Go.Proofs.YtpcmoclohepdiaeW.PrintWords Go.Proofs.YtpcmoclohepdiaeW.PrintLast Go.Proofs.YtpcmoclohepdiaeW.PrintMore
set_option linter.unusedVariables false
set_option linter.unusedSimpArgs false
theorem shl_at (j : Nat) (h : j ≤ 6) : shl .i64 1 (j : Int) = 2 ^ j := by
  match j, h with
  | 0, _ => exact (by decide : shl .i64 1 0 = 2 ^ 0)
  | 1, _ => exact (by decide : shl .i64 1 1 = 2 ^ 1)
  | 2, _ => exact (by decide : shl .i64 1 2 = 2 ^ 2)
  | 3, _ => exact (by decide : shl .i64 1 3 = 2 ^ 3)
  | 4, _ => exact (by decide : shl .i64 1 4 = 2 ^ 4)
  | 5, _ => exact (by decide : shl .i64 1 5 = 2 ^ 5)
  | 6, _ => exact (by decide : shl .i64 1 6 = 2 ^ 6)
theorem may_step (k : Nat) (b : Int) (i : Nat) (hi : i < 7) : route_May.l0 (k + 1) b 7 (i : Int) = if b = 2 ^ i then some true else route_May.l0 k b 7 ((i + 1 : Nat) : Int) := by
  simp only [route_May.l0]
  rw [if_pos (by omega), if_pos (by omega), shl_at i (by omega), wrap64_eq (by omega) (by omega)]
  rfl
def isPow (b : Int) : Bool := decide (b = 1 ∨ b = 2 ∨ b = 4 ∨ b = 8 ∨ b = 16 ∨ b = 32 ∨ b = 64)
theorem isPow_le {b : Int} (h : isPow b = true) : 1 ≤ b ∧ b ≤ 64 := by
  have : b = 1 ∨ b = 2 ∨ b = 4 ∨ b = 8 ∨ b = 16 ∨ b = 32 ∨ b = 64 := by simpa [isPow] using h
  omega
theorem may_eq (k : Nat) (b : Int) : route_May.f (k + 8) b = some (isPow b) := by
  have h0 : bits_Len.f 64 = some 7 := by decide
  unfold route_May.f
  rw [h0]
  simp only [Option.bind_some]
  show route_May.l0 (k + 7 + 1) b 7 ((0 : Nat) : Int) = _
  rw [may_step _ _ 0 (by omega), may_step _ _ 1 (by omega), may_step _ _ 2 (by omega), may_step _ _ 3 (by omega), may_step _ _ 4 (by omega), may_step _ _ 5 (by omega), may_step _ _ 6 (by omega)]
  have h7 : route_May.l0 (k + 1) b 7 ((7 : Nat) : Int) = some false := by simp only [route_May.l0]; rw [if_neg (by omega)]
  rw [h7]
  unfold isPow
  by_cases c0 : b = 1
  · subst c0; rfl
  by_cases c1 : b = 2
  · subst c1; rfl
  by_cases c2 : b = 4
  · subst c2; rfl
  by_cases c3 : b = 8
  · subst c3; rfl
  by_cases c4 : b = 16
  · subst c4; rfl
  by_cases c5 : b = 32
  · subst c5; rfl
  by_cases c6 : b = 64
  · subst c6; rfl
  simp [c0, c1, c2, c3, c4, c5, c6]
theorem rpow_eq (b : Int) : corrieref03_May.f b = some (isPow b) := by
  unfold corrieref03_May.f isPow
  repeat' split
  all_goals first | (subst_vars; rfl) | (congr 1; rw [Bool.eq_iff_iff]; simp [*])
def Ok (t b i f c : Int) : Prop := (1 ≤ t ∧ t ≤ 8) ∧ isPow b = true ∧ (0 ≤ i ∧ i ≤ 256) ∧ (0 ≤ f ∧ f ≤ 65536) ∧ (1 ≤ c ∧ c ≤ 256)
instance (t b i f c : Int) : Decidable (Ok t b i f c) := by unfold Ok; infer_instance
theorem within_eq (a l h : Int) : conf_within.f a l h = some (decide (l ≤ a ∧ a ≤ h)) := by
  unfold conf_within.f
  by_cases c : a ≥ l
  · rw [if_pos c]; congr 1; rw [Bool.eq_iff_iff]; simp; omega
  · rw [if_neg c]; congr 1; symm; rw [decide_eq_false_iff_not]; omega
theorem all_eq (k : Nat) (a b c d e : Bool) : conf_all.f (k + 6) [a, b, c, d, e] = some (a && (b && (c && (d && e)))) := by
  have w0 : wrap64 1 = 1 := by unfold wrap64; decide
  have w1 : wrap64 2 = 2 := by unfold wrap64; decide
  have w2 : wrap64 3 = 3 := by unfold wrap64; decide
  have w3 : wrap64 4 = 4 := by unfold wrap64; decide
  have w4 : wrap64 5 = 5 := by unfold wrap64; decide
  cases a <;> cases b <;> cases c <;> cases d <;> cases e <;> simp [conf_all.f, conf_all.l0, rdOf, w0, w1, w2, w3, w4]
theorem cmay_eq (k : Nat) (t b i f c : Int) : conf_May.f (k + 8) t b i f c = some (if Ok t b i f c then 0 else 1) := by
  unfold conf_May.f
  rw [within_eq, may_eq, within_eq, within_eq, within_eq]
  simp only [Option.bind_some]
  rw [show k + 8 = (k + 2) + 6 from rfl, all_eq]
  simp only [Option.bind_some]
  by_cases h : Ok t b i f c
  · rw [if_pos h]
    obtain ⟨h1, h2, h3, h4, h5⟩ := h
    rw [decide_eq_true h1, h2, decide_eq_true h3, decide_eq_true h4, decide_eq_true h5]
    rfl
  · rw [if_neg h, if_neg]
    intro hh
    simp only [Bool.and_eq_true, decide_eq_true_eq] at hh
    exact h ⟨hh.1, hh.2.1, hh.2.2.1, hh.2.2.2.1, hh.2.2.2.2⟩
theorem rmay_eq (k : Nat) (t b i f c : Int) : corrieref04_May.f (k + 1) t b i f c = some (if Ok t b i f c then 0 else 1) := by
  unfold corrieref04_May.f
  rw [rpow_eq]
  simp only [corrieref04_May.j0, Option.bind_some, if_true]
  by_cases h1 : t < 1
  · rw [if_pos h1, if_neg (fun h => by have := h.1; omega)]
  rw [if_neg h1]
  by_cases h2 : t > 8
  · rw [if_pos h2, if_neg (fun h => by have := h.1; omega)]
  rw [if_neg h2]
  cases hb : isPow b
  · rw [if_pos (by rfl), if_neg (fun h => by have := h.2.1; rw [hb] at this; cases this)]
  rw [if_neg (by decide)]
  by_cases h3 : i < 0
  · rw [if_pos h3, if_neg (fun h => by have := h.2.2.1; omega)]
  rw [if_neg h3]
  by_cases h4 : i > 256
  · rw [if_pos h4, if_neg (fun h => by have := h.2.2.1; omega)]
  rw [if_neg h4]
  by_cases h5 : f < 0
  · rw [if_pos h5, if_neg (fun h => by have := h.2.2.2.1; omega)]
  rw [if_neg h5]
  by_cases h6 : f > 65536
  · rw [if_pos h6, if_neg (fun h => by have := h.2.2.2.1; omega)]
  rw [if_neg h6]
  by_cases h7 : c < 1
  · rw [if_pos h7, if_neg (fun h => by have := h.2.2.2.2; omega)]
  rw [if_neg h7]
  by_cases h8 : c > 256
  · rw [if_pos h8, if_neg (fun h => by have := h.2.2.2.2; omega)]
  rw [if_neg h8, if_pos ⟨⟨by omega, by omega⟩, hb, ⟨by omega, by omega⟩, ⟨by omega, by omega⟩, by omega, by omega⟩]
theorem mul_le {t c : Int} (h1 : 1 ≤ t) (h2 : t ≤ 8) (h3 : 1 ≤ c) (h4 : c ≤ 256) : 1 ≤ t * c ∧ t ≤ t * c ∧ t * c ≤ 2048 := by
  have ha : t * 1 ≤ t * c := Int.mul_le_mul_of_nonneg_left h3 (by omega)
  have hb : t * c ≤ 8 * c := Int.mul_le_mul_of_nonneg_right h2 (by omega)
  omega
theorem ops_eq (k : Nat) (t b i f c : Int) : conf_Ops.f (k + 8) t b i f c = some (if Ok t b i f c then t * c else 0) := by
  unfold conf_Ops.f
  rw [cmay_eq]
  simp only [Option.bind_some]
  by_cases h : Ok t b i f c
  · simp only [if_pos h]
    have hm := mul_le h.1.1 h.1.2 h.2.2.2.2.1 h.2.2.2.2.2
    rw [if_pos trivial, wrap64_eq (by omega) (by omega)]
  · simp only [if_neg h]
    rw [if_neg (by decide)]
theorem nodes_eq (k : Nat) (t b i f c : Int) : conf_Nodes.f (k + 8) t b i f c = some (if Ok t b i f c then 1 + b + 2 * (t * c) else 0) := by
  unfold conf_Nodes.f
  rw [cmay_eq, ops_eq]
  simp only [Option.bind_some]
  by_cases h : Ok t b i f c
  · simp only [if_pos h]
    have hm := mul_le h.1.1 h.1.2 h.2.2.2.2.1 h.2.2.2.2.2
    have hb := isPow_le h.2.1
    rw [if_pos trivial, wrap64_eq (n := 1 + b) (by omega) (by omega), wrap64_eq (n := 2 * (t * c)) (by omega) (by omega), wrap64_eq (by omega) (by omega)]
  · simp only [if_neg h]
    rw [if_neg (by decide)]
theorem threads_eq (k : Nat) (t b i f c : Int) : layout_threads.f (k + 8) t b i f c = some (if Ok t b i f c then t else 0) := by
  unfold layout_threads.f
  rw [cmay_eq]
  simp only [Option.bind_some]
  by_cases h : Ok t b i f c
  · simp only [if_pos h]; rfl
  · simp only [if_neg h]; rfl
theorem rops_eq (k : Nat) (t b i f c : Int) : corrieref04_Ops.f (k + 1) t b i f c = some (if Ok t b i f c then t * c else 0) := by
  unfold corrieref04_Ops.f
  rw [rmay_eq]
  simp only [Option.bind_some]
  by_cases h : Ok t b i f c
  · simp only [if_pos h]
    have hm := mul_le h.1.1 h.1.2 h.2.2.2.2.1 h.2.2.2.2.2
    rw [if_pos trivial, wrap64_eq (by omega) (by omega)]
  · simp only [if_neg h]
    rw [if_neg (by decide)]
theorem rnodes_eq (k : Nat) (t b i f c : Int) : corrieref04_Nodes.f (k + 1) t b i f c = some (if Ok t b i f c then 1 + b + 2 * (t * c) else 0) := by
  unfold corrieref04_Nodes.f
  rw [rmay_eq]
  simp only [Option.bind_some]
  by_cases h : Ok t b i f c
  · simp only [if_pos h]
    have hm := mul_le h.1.1 h.1.2 h.2.2.2.2.1 h.2.2.2.2.2
    have hb := isPow_le h.2.1
    have e : 2 * t * c = 2 * (t * c) := Int.mul_assoc 2 t c
    have ht := h.1
    rw [if_pos trivial, wrap64_eq (n := 1 + b) (by omega) (by omega), wrap64_eq (n := 2 * t) (by omega) (by omega), e, wrap64_eq (n := 2 * (t * c)) (by omega) (by omega), wrap64_eq (by omega) (by omega)]
  · simp only [if_neg h]
    rw [if_neg (by decide)]
theorem bnds {t b i f c : Int} (h : Ok t b i f c) : 1 ≤ t ∧ t ≤ 8 ∧ 1 ≤ b ∧ b ≤ 64 ∧ 1 ≤ c ∧ c ≤ 256 ∧ 1 ≤ t * c ∧ t ≤ t * c ∧ t * c ≤ 2048 := by
  have hm := mul_le h.1.1 h.1.2 h.2.2.2.2.1 h.2.2.2.2.2
  have hb := isPow_le h.2.1
  have h5 := h.2.2.2.2
  have h1 := h.1
  omega
theorem rlen_eq (k : Nat) (t b i f c : Int) : corrieref05_Len.f (k + 1) t b i f c = some (if Ok t b i f c then 1 + b + 2 * (t * c) + t * c + t else 0) := by
  unfold corrieref05_Len.f
  rw [rmay_eq, rops_eq, rnodes_eq]
  simp only [Option.bind_some]
  by_cases h : Ok t b i f c
  · have hb := bnds h
    simp only [if_pos h, if_true]
    rw [wrap64_eq (n := 1 + b + 2 * (t * c) + t * c) (by omega) (by omega), wrap64_eq (by omega) (by omega)]
  · simp only [if_neg h]
    rw [if_neg (by decide)]
theorem next_eq (k : Nat) (t b i f c n : Int) : layout_Next.f (k + 8) t b i f c n = some (if Ok t b i f c ∧ 0 ≤ n ∧ n < 1 + b + 2 * (t * c) then n else -1) := by
  unfold layout_Next.f
  rw [nodes_eq]
  simp only [Option.bind_some]
  by_cases h : Ok t b i f c
  · simp only [if_pos h]
    simp only [h, true_and]
    by_cases g : n < 0
    · rw [if_pos g, if_neg (by omega)]
    · rw [if_neg g]
      by_cases g2 : n ≥ 1 + b + 2 * (t * c)
      · rw [if_pos g2, if_neg (by omega)]
      · rw [if_neg g2, if_pos (by omega)]
  · simp only [if_neg h]
    simp only [h, false_and, if_false]
    by_cases g : n < 0
    · rw [if_pos g]
    · rw [if_neg g, if_pos (by omega)]
theorem word_eq (k : Nat) (t b i f c n : Int) : layout_Word.f (k + 8) t b i f c n = some (if Ok t b i f c ∧ 0 ≤ n ∧ n < t * c then 1 + b + 2 * (t * c) + n else -1) := by
  unfold layout_Word.f
  rw [ops_eq, nodes_eq]
  simp only [Option.bind_some]
  by_cases h : Ok t b i f c
  · have hb := bnds h
    simp only [if_pos h]
    simp only [h, true_and]
    by_cases g : n < 0
    · rw [if_pos g, if_neg (by omega)]
    · rw [if_neg g]
      by_cases g2 : n ≥ t * c
      · rw [if_pos g2, if_neg (by omega)]
      · rw [if_neg g2, if_pos (by omega), wrap64_eq (by omega) (by omega)]
  · simp only [if_neg h]
    simp only [h, false_and, if_false]
    by_cases g : n < 0
    · rw [if_pos g]
    · rw [if_neg g, if_pos (by omega)]
theorem ann_eq (k : Nat) (t b i f c n : Int) : layout_Ann.f (k + 8) t b i f c n = some (if Ok t b i f c ∧ 0 ≤ n ∧ n < t then 1 + b + 2 * (t * c) + t * c + n else -1) := by
  unfold layout_Ann.f
  rw [threads_eq, ops_eq, nodes_eq]
  simp only [Option.bind_some]
  by_cases h : Ok t b i f c
  · have hb := bnds h
    simp only [if_pos h]
    simp only [h, true_and]
    by_cases g : n < 0
    · rw [if_pos g, if_neg (by omega)]
    · rw [if_neg g]
      by_cases g2 : n ≥ t
      · rw [if_pos g2, if_neg (by omega)]
      · rw [if_neg g2, if_pos (by omega), wrap64_eq (n := 1 + b + 2 * (t * c) + t * c) (by omega) (by omega), wrap64_eq (by omega) (by omega)]
  · simp only [if_neg h]
    simp only [h, false_and, if_false]
    by_cases g : n < 0
    · rw [if_pos g]
    · rw [if_neg g, if_pos (by omega)]
theorem proof : corrielaw05_LayoutOwn.Pure := by
  intro t b i f c a _ _ _ _ _ ha
  have ha := bounds_u16 ha
  refine ⟨20, ?_⟩
  unfold corrielaw05_LayoutOwn.f
  rw [rmay_eq 19]
  simp only [Option.bind_some]
  by_cases h : Ok t b i f c
  · have hb := bnds h
    rw [if_pos h, if_pos rfl]
    simp only [rlen_eq 19, rnodes_eq 19, rops_eq 19, Option.bind_some]
    simp only [if_pos h]
    rw [if_pos (by omega), wrap64_eq (n := a) (by omega) (by omega), Int.tmod_eq_emod_of_nonneg ha.1]
    obtain ⟨n, hn⟩ : ∃ n, n = 1 + b + 2 * (t * c) + t * c + t := ⟨_, rfl⟩
    rw [← hn]
    obtain ⟨x, hx⟩ : ∃ x, x = a % n := ⟨_, rfl⟩
    have h0 : 0 ≤ x := by rw [hx]; exact Int.emod_nonneg _ (by omega)
    have h1 : x < n := by rw [hx]; exact Int.emod_lt_of_pos _ (by omega)
    rw [← hx, wrap64_eq (n := x - (1 + b + 2 * (t * c))) (by omega) (by omega), wrap64_eq (n := x - (1 + b + 2 * (t * c)) - t * c) (by omega) (by omega)]
    rw [next_eq 12, word_eq 12, ann_eq 12]
    simp only [Option.bind_some]
    simp only [h, true_and]
    by_cases g : x < 1 + b + 2 * (t * c)
    · have e1 : (if 0 ≤ x ∧ x < 1 + b + 2 * (t * c) then x else -1) = x := if_pos ⟨h0, g⟩
      have e2 : (if 0 ≤ x - (1 + b + 2 * (t * c)) ∧ x - (1 + b + 2 * (t * c)) < t * c then 1 + b + 2 * (t * c) + (x - (1 + b + 2 * (t * c))) else -1) = -1 := if_neg (by omega)
      have e3 : (if 0 ≤ x - (1 + b + 2 * (t * c)) - t * c ∧ x - (1 + b + 2 * (t * c)) - t * c < t then 1 + b + 2 * (t * c) + t * c + (x - (1 + b + 2 * (t * c)) - t * c) else -1) = -1 := if_neg (by omega)
      rw [e1, e2, e3, if_pos rfl, if_pos (by omega), if_pos (by omega)]
    · have e1 : (if 0 ≤ x ∧ x < 1 + b + 2 * (t * c) then x else -1) = -1 := if_neg (by omega)
      rw [e1, if_neg (by omega)]
      by_cases g2 : x - (1 + b + 2 * (t * c)) < t * c
      · have e2 : (if 0 ≤ x - (1 + b + 2 * (t * c)) ∧ x - (1 + b + 2 * (t * c)) < t * c then 1 + b + 2 * (t * c) + (x - (1 + b + 2 * (t * c))) else -1) = x := by rw [if_pos (by omega)]; omega
        have e3 : (if 0 ≤ x - (1 + b + 2 * (t * c)) - t * c ∧ x - (1 + b + 2 * (t * c)) - t * c < t then 1 + b + 2 * (t * c) + t * c + (x - (1 + b + 2 * (t * c)) - t * c) else -1) = -1 := if_neg (by omega)
        rw [e2, e3, if_pos rfl, if_pos (by omega)]
      · have e2 : (if 0 ≤ x - (1 + b + 2 * (t * c)) ∧ x - (1 + b + 2 * (t * c)) < t * c then 1 + b + 2 * (t * c) + (x - (1 + b + 2 * (t * c))) else -1) = -1 := if_neg (by omega)
        have e3 : (if 0 ≤ x - (1 + b + 2 * (t * c)) - t * c ∧ x - (1 + b + 2 * (t * c)) - t * c < t then 1 + b + 2 * (t * c) + t * c + (x - (1 + b + 2 * (t * c)) - t * c) else -1) = x := by rw [if_pos (by omega)]; omega
        rw [e2, e3, if_neg (by omega), if_pos rfl]
  · rw [if_neg h, if_neg (by decide)]
end Go.Proofs.Ytpcmoclohepdiae.Pure.LayoutOwn
namespace Go.Proofs.Ytpcmoclohepdiae.Pure
theorem LayoutOwn : Go.Proofs.Ytpcmoclohepdiae.PLayoutOwn.corrielaw05_LayoutOwn.Pure := LayoutOwn.proof
end Go.Proofs.Ytpcmoclohepdiae.Pure
