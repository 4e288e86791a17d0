/- Chapter 5, LayoutApart: no two threads have a node, or an operation, in common, and no node is a head's; an operation is told back by its thread. -/
import Derived.Test.YtpcmoclohepdiaeStmLayoutApart
import Derived.Test.YtpcmoclohepdiaePlainBits
namespace Go.Proofs.Ytpcmoclohepdiae.Pure.LayoutApart
open Go.RowKit Go.Proofs.Ytpcmoclohepdiae.PLayoutApart Go.Proofs.Ytpcmoclohepdiae.Plain Go.Proofs.YtpcmoclohepdiaeW.PrintWords Go.Proofs.YtpcmoclohepdiaeW.PrintLast Go.Proofs.YtpcmoclohepdiaeW.PrintMore
set_option linter.unusedVariables false
set_option linter.unusedSimpArgs false
theorem shl_at (j : Nat) (h : j ≤ 6) : shl .i64 1 (j : Int) = 2 ^ j := by
  match j, h with
  | 0, _ => exact (by decide : shl .i64 1 0 = 2 ^ 0)
  | 1, _ => exact (by decide : shl .i64 1 1 = 2 ^ 1)
  | 2, _ => exact (by decide : shl .i64 1 2 = 2 ^ 2)
  | 3, _ => exact (by decide : shl .i64 1 3 = 2 ^ 3)
  | 4, _ => exact (by decide : shl .i64 1 4 = 2 ^ 4)
  | 5, _ => exact (by decide : shl .i64 1 5 = 2 ^ 5)
  | 6, _ => exact (by decide : shl .i64 1 6 = 2 ^ 6)
theorem may_step (k : Nat) (b : Int) (i : Nat) (hi : i < 7) : route_May.l0 (k + 1) b 7 (i : Int) = if b = 2 ^ i then some true else route_May.l0 k b 7 ((i + 1 : Nat) : Int) := by
  simp only [route_May.l0]
  rw [if_pos (by omega), if_pos (by omega), shl_at i (by omega), wrap64_eq (by omega) (by omega)]
  rfl
def isPow (b : Int) : Bool := decide (b = 1 ∨ b = 2 ∨ b = 4 ∨ b = 8 ∨ b = 16 ∨ b = 32 ∨ b = 64)
theorem isPow_le {b : Int} (h : isPow b = true) : 1 ≤ b ∧ b ≤ 64 := by
  have : b = 1 ∨ b = 2 ∨ b = 4 ∨ b = 8 ∨ b = 16 ∨ b = 32 ∨ b = 64 := by simpa [isPow] using h
  omega
theorem may_eq (k : Nat) (b : Int) : route_May.f (k + 8) b = some (isPow b) := by
  have h0 : bits_Len.f 64 = some 7 := by decide
  unfold route_May.f
  rw [h0]
  simp only [Option.bind_some]
  show route_May.l0 (k + 7 + 1) b 7 ((0 : Nat) : Int) = _
  rw [may_step _ _ 0 (by omega), may_step _ _ 1 (by omega), may_step _ _ 2 (by omega), may_step _ _ 3 (by omega), may_step _ _ 4 (by omega), may_step _ _ 5 (by omega), may_step _ _ 6 (by omega)]
  have h7 : route_May.l0 (k + 1) b 7 ((7 : Nat) : Int) = some false := by simp only [route_May.l0]; rw [if_neg (by omega)]
  rw [h7]
  unfold isPow
  by_cases c0 : b = 1
  · subst c0; rfl
  by_cases c1 : b = 2
  · subst c1; rfl
  by_cases c2 : b = 4
  · subst c2; rfl
  by_cases c3 : b = 8
  · subst c3; rfl
  by_cases c4 : b = 16
  · subst c4; rfl
  by_cases c5 : b = 32
  · subst c5; rfl
  by_cases c6 : b = 64
  · subst c6; rfl
  simp [c0, c1, c2, c3, c4, c5, c6]
theorem rpow_eq (b : Int) : corrieref03_May.f b = some (isPow b) := by
  unfold corrieref03_May.f isPow
  repeat' split
  all_goals first | (subst_vars; rfl) | (congr 1; rw [Bool.eq_iff_iff]; simp [*])
def Ok (t b i f c : Int) : Prop := (1 ≤ t ∧ t ≤ 8) ∧ isPow b = true ∧ (0 ≤ i ∧ i ≤ 256) ∧ (0 ≤ f ∧ f ≤ 65536) ∧ (1 ≤ c ∧ c ≤ 256)
instance (t b i f c : Int) : Decidable (Ok t b i f c) := by unfold Ok; infer_instance
theorem within_eq (a l h : Int) : conf_within.f a l h = some (decide (l ≤ a ∧ a ≤ h)) := by
  unfold conf_within.f
  by_cases c : a ≥ l
  · rw [if_pos c]; congr 1; rw [Bool.eq_iff_iff]; simp; omega
  · rw [if_neg c]; congr 1; symm; rw [decide_eq_false_iff_not]; omega
theorem all_eq (k : Nat) (a b c d e : Bool) : conf_all.f (k + 6) [a, b, c, d, e] = some (a && (b && (c && (d && e)))) := by
  have w0 : wrap64 1 = 1 := by unfold wrap64; decide
  have w1 : wrap64 2 = 2 := by unfold wrap64; decide
  have w2 : wrap64 3 = 3 := by unfold wrap64; decide
  have w3 : wrap64 4 = 4 := by unfold wrap64; decide
  have w4 : wrap64 5 = 5 := by unfold wrap64; decide
  cases a <;> cases b <;> cases c <;> cases d <;> cases e <;> simp [conf_all.f, conf_all.l0, rdOf, w0, w1, w2, w3, w4]
theorem cmay_eq (k : Nat) (t b i f c : Int) : conf_May.f (k + 8) t b i f c = some (if Ok t b i f c then 0 else 1) := by
  unfold conf_May.f
  rw [within_eq, may_eq, within_eq, within_eq, within_eq]
  simp only [Option.bind_some]
  rw [show k + 8 = (k + 2) + 6 from rfl, all_eq]
  simp only [Option.bind_some]
  by_cases h : Ok t b i f c
  · rw [if_pos h]
    obtain ⟨h1, h2, h3, h4, h5⟩ := h
    rw [decide_eq_true h1, h2, decide_eq_true h3, decide_eq_true h4, decide_eq_true h5]
    rfl
  · rw [if_neg h, if_neg]
    intro hh
    simp only [Bool.and_eq_true, decide_eq_true_eq] at hh
    exact h ⟨hh.1, hh.2.1, hh.2.2.1, hh.2.2.2.1, hh.2.2.2.2⟩
theorem rmay_eq (k : Nat) (t b i f c : Int) : corrieref04_May.f (k + 1) t b i f c = some (if Ok t b i f c then 0 else 1) := by
  unfold corrieref04_May.f
  rw [rpow_eq]
  simp only [corrieref04_May.j0, Option.bind_some, if_true]
  by_cases h1 : t < 1
  · rw [if_pos h1, if_neg (fun h => by have := h.1; omega)]
  rw [if_neg h1]
  by_cases h2 : t > 8
  · rw [if_pos h2, if_neg (fun h => by have := h.1; omega)]
  rw [if_neg h2]
  cases hb : isPow b
  · rw [if_pos (by rfl), if_neg (fun h => by have := h.2.1; rw [hb] at this; cases this)]
  rw [if_neg (by decide)]
  by_cases h3 : i < 0
  · rw [if_pos h3, if_neg (fun h => by have := h.2.2.1; omega)]
  rw [if_neg h3]
  by_cases h4 : i > 256
  · rw [if_pos h4, if_neg (fun h => by have := h.2.2.1; omega)]
  rw [if_neg h4]
  by_cases h5 : f < 0
  · rw [if_pos h5, if_neg (fun h => by have := h.2.2.2.1; omega)]
  rw [if_neg h5]
  by_cases h6 : f > 65536
  · rw [if_pos h6, if_neg (fun h => by have := h.2.2.2.1; omega)]
  rw [if_neg h6]
  by_cases h7 : c < 1
  · rw [if_pos h7, if_neg (fun h => by have := h.2.2.2.2; omega)]
  rw [if_neg h7]
  by_cases h8 : c > 256
  · rw [if_pos h8, if_neg (fun h => by have := h.2.2.2.2; omega)]
  rw [if_neg h8, if_pos ⟨⟨by omega, by omega⟩, hb, ⟨by omega, by omega⟩, ⟨by omega, by omega⟩, by omega, by omega⟩]
theorem mul_le {t c : Int} (h1 : 1 ≤ t) (h2 : t ≤ 8) (h3 : 1 ≤ c) (h4 : c ≤ 256) : 1 ≤ t * c ∧ t ≤ t * c ∧ t * c ≤ 2048 := by
  have ha : t * 1 ≤ t * c := Int.mul_le_mul_of_nonneg_left h3 (by omega)
  have hb : t * c ≤ 8 * c := Int.mul_le_mul_of_nonneg_right h2 (by omega)
  omega
theorem ops_eq (k : Nat) (t b i f c : Int) : conf_Ops.f (k + 8) t b i f c = some (if Ok t b i f c then t * c else 0) := by
  unfold conf_Ops.f
  rw [cmay_eq]
  simp only [Option.bind_some]
  by_cases h : Ok t b i f c
  · simp only [if_pos h]
    have hm := mul_le h.1.1 h.1.2 h.2.2.2.2.1 h.2.2.2.2.2
    rw [if_pos trivial, wrap64_eq (by omega) (by omega)]
  · simp only [if_neg h]
    rw [if_neg (by decide)]
theorem nodes_eq (k : Nat) (t b i f c : Int) : conf_Nodes.f (k + 8) t b i f c = some (if Ok t b i f c then 1 + b + 2 * (t * c) else 0) := by
  unfold conf_Nodes.f
  rw [cmay_eq, ops_eq]
  simp only [Option.bind_some]
  by_cases h : Ok t b i f c
  · simp only [if_pos h]
    have hm := mul_le h.1.1 h.1.2 h.2.2.2.2.1 h.2.2.2.2.2
    have hb := isPow_le h.2.1
    rw [if_pos trivial, wrap64_eq (n := 1 + b) (by omega) (by omega), wrap64_eq (n := 2 * (t * c)) (by omega) (by omega), wrap64_eq (by omega) (by omega)]
  · simp only [if_neg h]
    rw [if_neg (by decide)]
theorem threads_eq (k : Nat) (t b i f c : Int) : layout_threads.f (k + 8) t b i f c = some (if Ok t b i f c then t else 0) := by
  unfold layout_threads.f
  rw [cmay_eq]
  simp only [Option.bind_some]
  by_cases h : Ok t b i f c
  · simp only [if_pos h]; rfl
  · simp only [if_neg h]; rfl
theorem bnds {t b i f c : Int} (h : Ok t b i f c) : 1 ≤ t ∧ t ≤ 8 ∧ 1 ≤ b ∧ b ≤ 64 ∧ 1 ≤ c ∧ c ≤ 256 ∧ 1 ≤ t * c ∧ t ≤ t * c ∧ t * c ≤ 2048 := by
  have hm := mul_le h.1.1 h.1.2 h.2.2.2.2.1 h.2.2.2.2.2
  have hb := isPow_le h.2.1
  have h5 := h.2.2.2.2
  have h1 := h.1
  omega
theorem sc_le {s t c : Int} (h0 : 0 ≤ s) (h1 : s < t) (h2 : t ≤ 8) (h3 : 1 ≤ c) (h4 : c ≤ 256) : 0 ≤ s * c ∧ s * c + c ≤ t * c ∧ t * c ≤ 2048 := by
  have ha : 0 * c ≤ s * c := Int.mul_le_mul_of_nonneg_right h0 (by omega)
  have hb : (s + 1) * c ≤ t * c := Int.mul_le_mul_of_nonneg_right (by omega) (by omega)
  have hc : t * c ≤ 8 * c := Int.mul_le_mul_of_nonneg_right h2 (by omega)
  rw [Int.add_mul, Int.one_mul] at hb
  omega
theorem head_eq (k : Nat) (t b i f c n : Int) : layout_Head.f (k + 8) t b i f c n = some (if Ok t b i f c ∧ 0 ≤ n ∧ n < b then 1 + n else -1) := by
  unfold layout_Head.f
  rw [threads_eq]
  simp only [Option.bind_some]
  by_cases h : Ok t b i f c
  · have hb := bnds h
    simp only [if_pos h]
    simp only [h, true_and]
    rw [if_neg (by omega)]
    by_cases g : n < 0
    · rw [if_pos g, if_neg (by omega)]
    · rw [if_neg g]
      by_cases g2 : n ≥ b
      · rw [if_pos g2, if_neg (by omega)]
      · rw [if_neg g2, if_pos (by omega), wrap64_eq (by omega) (by omega)]
  · simp only [if_neg h]
    simp only [h, false_and, if_false, if_true]
theorem node_eq (k : Nat) (t b i f c s n : Int) (hc0 : -4611686018427387904 ≤ c) (hc1 : c ≤ 4611686018427387903) : layout_Node.f (k + 8) t b i f c s n = some (if Ok t b i f c ∧ (0 ≤ s ∧ s < t) ∧ 0 ≤ n ∧ n < 2 * c then 1 + b + 2 * (s * c) + n else -1) := by
  unfold layout_Node.f layout_of.f
  rw [threads_eq]
  simp only [Option.bind_some]
  by_cases h : Ok t b i f c
  · have hb := bnds h
    simp only [if_pos h]
    simp only [h, true_and]
    rw [wrap64_eq (n := 2 * c) (by omega) (by omega)]
    by_cases g : n < 0
    · rw [if_pos g, if_neg (by omega)]
    rw [if_neg g]
    by_cases g2 : n ≥ 2 * c
    · rw [if_pos g2, if_neg (by omega)]
    rw [if_neg g2]
    by_cases g3 : s < 0
    · rw [if_pos g3, if_neg (by omega)]
    rw [if_neg g3]
    by_cases g4 : s ≥ t
    · rw [if_pos g4, if_neg (by omega)]
    have hs := sc_le (s := s) (t := t) (c := c) (by omega) (by omega) (by omega) (by omega) (by omega)
    have e : s * (2 * c) = 2 * (s * c) := by rw [Int.mul_left_comm]
    rw [if_neg g4, if_pos (by omega), e, wrap64_eq (n := 1 + b) (by omega) (by omega), wrap64_eq (n := 2 * (s * c)) (by omega) (by omega), wrap64_eq (n := 1 + b + 2 * (s * c)) (by omega) (by omega), wrap64_eq (by omega) (by omega)]
  · simp only [if_neg h]
    simp only [h, false_and, if_false]
    split
    · rfl
    · split
      · rfl
      · split
        · rfl
        · rw [if_pos (by omega)]
theorem op_eq (k : Nat) (t b i f c s n : Int) : layout_Op.f (k + 8) t b i f c s n = some (if Ok t b i f c ∧ (0 ≤ s ∧ s < t) ∧ 0 ≤ n ∧ n < c then s * c + n else -1) := by
  unfold layout_Op.f layout_of.f
  rw [threads_eq]
  simp only [Option.bind_some]
  by_cases h : Ok t b i f c
  · have hb := bnds h
    simp only [if_pos h]
    simp only [h, true_and]
    by_cases g : n < 0
    · rw [if_pos g, if_neg (by omega)]
    rw [if_neg g]
    by_cases g2 : n ≥ c
    · rw [if_pos g2, if_neg (by omega)]
    rw [if_neg g2]
    by_cases g3 : s < 0
    · rw [if_pos g3, if_neg (by omega)]
    rw [if_neg g3]
    by_cases g4 : s ≥ t
    · rw [if_pos g4, if_neg (by omega)]
    have hs := sc_le (s := s) (t := t) (c := c) (by omega) (by omega) (by omega) (by omega) (by omega)
    rw [if_neg g4, if_pos (by omega), wrap64_eq (n := s * c) (by omega) (by omega), wrap64_eq (n := 0 + s * c) (by omega) (by omega), wrap64_eq (by omega) (by omega)]
    congr 1
    omega
  · simp only [if_neg h]
    simp only [h, false_and, if_false]
    split
    · rfl
    · split
      · rfl
      · split
        · rfl
        · rw [if_pos (by omega)]
theorem thread_eq (k : Nat) (t b i f c n : Int) : layout_Thread.f (k + 8) t b i f c n = some (if Ok t b i f c ∧ 0 ≤ n ∧ n < t * c then n / c else -1) := by
  unfold layout_Thread.f
  rw [ops_eq]
  simp only [Option.bind_some]
  by_cases h : Ok t b i f c
  · have hb := bnds h
    simp only [if_pos h]
    simp only [h, true_and]
    by_cases g : n < 0
    · rw [if_pos g, if_neg (by omega)]
    · rw [if_neg g]
      by_cases g2 : n ≥ t * c
      · rw [if_pos g2, if_neg (by omega)]
      · have hd : 0 ≤ n / c ∧ n / c ≤ n := ⟨Int.ediv_nonneg (by omega) (by omega), Int.ediv_le_self _ (by omega)⟩
        rw [if_neg g2, if_neg (by omega), if_pos (by omega), Int.tdiv_eq_ediv_of_nonneg (by omega), wrap64_eq (by omega) (by omega)]
  · simp only [if_neg h]
    simp only [h, false_and, if_false]
    by_cases g : n < 0
    · rw [if_pos g]
    · rw [if_neg g, if_pos (by omega)]
theorem uniq {s t n m c : Int} (hn : 0 ≤ n) (hn2 : n < c) (hm : 0 ≤ m) (hm2 : m < c) (h : s * c + n = t * c + m) : s = t ∧ n = m := by
  have h1 : (n + s * c) / c = n / c + s := Int.add_mul_ediv_right n s (by omega)
  have h2 : (m + t * c) / c = m / c + t := Int.add_mul_ediv_right m t (by omega)
  rw [Int.ediv_eq_zero_of_lt hn hn2] at h1
  rw [Int.ediv_eq_zero_of_lt hm hm2] at h2
  rw [show n + s * c = m + t * c by omega] at h1
  have : s = t := by omega
  subst this
  exact ⟨rfl, by omega⟩
theorem proof : corrielaw05_LayoutApart.Pure := by
  intro t b i f c p q x y _ _ _ _ _ hp hq hx hy
  have hp := bounds_u8 hp
  have hq := bounds_u8 hq
  have hx := bounds_u16 hx
  have hy := bounds_u16 hy
  refine ⟨20, ?_⟩
  unfold corrielaw05_LayoutApart.f
  rw [rmay_eq 19]
  simp only [Option.bind_some]
  by_cases h : Ok t b i f c
  · have hb := bnds h
    rw [if_pos h, if_pos rfl, if_pos (by omega), if_pos (by omega)]
    rw [wrap64_eq (n := p) (by omega) (by omega), wrap64_eq (n := q) (by omega) (by omega), wrap64_eq (n := x) (by omega) (by omega), wrap64_eq (n := y) (by omega) (by omega), wrap64_eq (n := b - 1) (by omega) (by omega)]
    rw [Int.tmod_eq_emod_of_nonneg hp.1, Int.tmod_eq_emod_of_nonneg hq.1, Int.tmod_eq_emod_of_nonneg hx.1, Int.tmod_eq_emod_of_nonneg hy.1]
    obtain ⟨s, hs⟩ : ∃ s, s = p % t := ⟨_, rfl⟩
    obtain ⟨u, hu⟩ : ∃ u, u = q % t := ⟨_, rfl⟩
    obtain ⟨n, hn⟩ : ∃ n, n = x % c := ⟨_, rfl⟩
    obtain ⟨m, hm⟩ : ∃ m, m = y % c := ⟨_, rfl⟩
    rw [← hs, ← hu, ← hn, ← hm]
    have s0 : 0 ≤ s := by rw [hs]; exact Int.emod_nonneg _ (by omega)
    have s1 : s < t := by rw [hs]; exact Int.emod_lt_of_pos _ (by omega)
    have u0 : 0 ≤ u := by rw [hu]; exact Int.emod_nonneg _ (by omega)
    have u1 : u < t := by rw [hu]; exact Int.emod_lt_of_pos _ (by omega)
    have n0 : 0 ≤ n := by rw [hn]; exact Int.emod_nonneg _ (by omega)
    have n1 : n < c := by rw [hn]; exact Int.emod_lt_of_pos _ (by omega)
    have m0 : 0 ≤ m := by rw [hm]; exact Int.emod_nonneg _ (by omega)
    have m1 : m < c := by rw [hm]; exact Int.emod_lt_of_pos _ (by omega)
    have hsc := sc_le (s := s) (t := t) (c := c) s0 s1 (by omega) (by omega) (by omega)
    have huc := sc_le (s := u) (t := t) (c := c) u0 u1 (by omega) (by omega) (by omega)
    have N1 : layout_Node.f 20 t b i f c s n = some (1 + b + 2 * (s * c) + n) := by rw [node_eq 12 _ _ _ _ _ _ _ (by omega) (by omega), if_pos ⟨h, ⟨s0, s1⟩, n0, by omega⟩]
    have N2 : layout_Node.f 20 t b i f c u m = some (1 + b + 2 * (u * c) + m) := by rw [node_eq 12 _ _ _ _ _ _ _ (by omega) (by omega), if_pos ⟨h, ⟨u0, u1⟩, m0, by omega⟩]
    have O1 : layout_Op.f 20 t b i f c s n = some (s * c + n) := by rw [op_eq 12, if_pos ⟨h, ⟨s0, s1⟩, n0, n1⟩]
    have O2 : layout_Op.f 20 t b i f c u m = some (u * c + m) := by rw [op_eq 12, if_pos ⟨h, ⟨u0, u1⟩, m0, m1⟩]
    have H1 : layout_Head.f 20 t b i f c (b - 1) = some b := by rw [head_eq 12, if_pos ⟨h, by omega, by omega⟩]; congr 1; omega
    have hd : (s * c + n) / c = s := by
      have h1 : (n + s * c) / c = n / c + s := Int.add_mul_ediv_right n s (by omega)
      rw [Int.ediv_eq_zero_of_lt n0 n1] at h1
      rw [show s * c + n = n + s * c by omega]
      omega
    have T1 : layout_Thread.f 20 t b i f c (s * c + n) = some s := by rw [thread_eq 12, if_pos ⟨h, by omega, by omega⟩, hd]
    have kN : (1 + b + 2 * (s * c) + n = 1 + b + 2 * (u * c) + m) → s = u ∧ n = m := fun e => by
      have e2 : s * (2 * c) + n = u * (2 * c) + m := by rw [Int.mul_left_comm s, Int.mul_left_comm u]; omega
      exact uniq n0 (by omega) m0 (by omega) e2
    have kO : (s * c + n = u * c + m) → s = u ∧ n = m := fun e => uniq n0 n1 m0 m1 e
    simp only [N1, N2, O1, O2, H1, T1, Option.bind_some]
    by_cases c1 : s = u
    · subst c1
      rw [if_pos rfl]
      by_cases c2 : n = m
      · subst c2
        rw [if_pos rfl, if_pos (by simp), if_pos (by simp), if_pos (by omega), if_pos trivial]
      · rw [if_neg c2, if_pos (by rw [beq_eq_false_iff_ne]; intro e; exact c2 (kN e).2), if_pos (by rw [beq_eq_false_iff_ne]; intro e; exact c2 (kO e).2), if_pos (by omega), if_pos trivial]
    · rw [if_neg c1, if_pos (by rw [beq_eq_false_iff_ne]; intro e; exact c1 (kN e).1), if_pos (by rw [beq_eq_false_iff_ne]; intro e; exact c1 (kO e).1), if_pos (by omega), if_pos trivial]
  · rw [if_neg h, if_neg (by decide)]
end Go.Proofs.Ytpcmoclohepdiae.Pure.LayoutApart
namespace Go.Proofs.Ytpcmoclohepdiae.Pure
theorem LayoutApart : Go.Proofs.Ytpcmoclohepdiae.PLayoutApart.corrielaw05_LayoutApart.Pure := LayoutApart.proof
end Go.Proofs.Ytpcmoclohepdiae.Pure
