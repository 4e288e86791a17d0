/- Chapter 23, BoundSteps: with no steps events keep to any bound; an event that has more than its own doesn't. -/
import Derived.Test.YtpcmoclohepdiabStmBoundSteps
import Derived.Test.YtpcmoclohepdiabPlainBits
namespace Go.Proofs.Ytpcmoclohepdiab.Pure.BoundSteps
open Go.RowKit Go.Proofs.Ytpcmoclohepdiab.PBoundSteps Go.Proofs.Ytpcmoclohepdiab.Plain Go.Proofs.YtpcmoclohepdiabW.PrintWords Go.Proofs.YtpcmoclohepdiabW.PrintLast Go.Proofs.YtpcmoclohepdiabW.PrintMore
set_option linter.unusedVariables false
set_option linter.unusedSimpArgs false
def isPow (b : Int) : Bool := decide (b = 1 ∨ b = 2 ∨ b = 4 ∨ b = 8 ∨ b = 16 ∨ b = 32 ∨ b = 64)
theorem isPow_le {b : Int} (h : isPow b = true) : 1 ≤ b ∧ b ≤ 64 := by
  have : b = 1 ∨ b = 2 ∨ b = 4 ∨ b = 8 ∨ b = 16 ∨ b = 32 ∨ b = 64 := by simpa [isPow] using h
  omega
theorem rpow_eq (b : Int) : corrieref03_May.f b = some (isPow b) := by
  unfold corrieref03_May.f isPow
  repeat' split
  all_goals first | (subst_vars; rfl) | (congr 1; rw [Bool.eq_iff_iff]; simp [*])
def Ok (t b i f c : Int) : Prop := (1 ≤ t ∧ t ≤ 8) ∧ isPow b = true ∧ (0 ≤ i ∧ i ≤ 256) ∧ (0 ≤ f ∧ f ≤ 65536) ∧ (1 ≤ c ∧ c ≤ 256)
instance (t b i f c : Int) : Decidable (Ok t b i f c) := by unfold Ok; infer_instance
theorem rmay_eq (k : Nat) (t b i f c : Int) : corrieref04_May.f (k + 1) t b i f c = some (if Ok t b i f c then 0 else 1) := by
  unfold corrieref04_May.f
  rw [rpow_eq]
  simp only [corrieref04_May.j0, Option.bind_some, if_true]
  by_cases h1 : t < 1
  · rw [if_pos h1, if_neg (fun h => by have := h.1; omega)]
  rw [if_neg h1]
  by_cases h2 : t > 8
  · rw [if_pos h2, if_neg (fun h => by have := h.1; omega)]
  rw [if_neg h2]
  cases hb : isPow b
  · rw [if_pos (by rfl), if_neg (fun h => by have := h.2.1; rw [hb] at this; cases this)]
  rw [if_neg (by decide)]
  by_cases h3 : i < 0
  · rw [if_pos h3, if_neg (fun h => by have := h.2.2.1; omega)]
  rw [if_neg h3]
  by_cases h4 : i > 256
  · rw [if_pos h4, if_neg (fun h => by have := h.2.2.1; omega)]
  rw [if_neg h4]
  by_cases h5 : f < 0
  · rw [if_pos h5, if_neg (fun h => by have := h.2.2.2.1; omega)]
  rw [if_neg h5]
  by_cases h6 : f > 65536
  · rw [if_pos h6, if_neg (fun h => by have := h.2.2.2.1; omega)]
  rw [if_neg h6]
  by_cases h7 : c < 1
  · rw [if_pos h7, if_neg (fun h => by have := h.2.2.2.2; omega)]
  rw [if_neg h7]
  by_cases h8 : c > 256
  · rw [if_pos h8, if_neg (fun h => by have := h.2.2.2.2; omega)]
  rw [if_neg h8, if_pos ⟨⟨by omega, by omega⟩, hb, ⟨by omega, by omega⟩, ⟨by omega, by omega⟩, by omega, by omega⟩]
theorem sum2 (k : Nat) (a b : Int) : bound_sum.f (k + 3) [a, b] = some (wrap64 (wrap64 (0 + a) + b)) := by
  have w1 : wrap64 1 = 1 := by unfold wrap64; decide
  have w2 : wrap64 2 = 2 := by unfold wrap64; decide
  simp [bound_sum.f, bound_sum.l0, rd, w1, w2]
theorem sum3 (k : Nat) (a b c : Int) : bound_sum.f (k + 4) [a, b, c] = some (wrap64 (wrap64 (wrap64 (0 + a) + b) + c)) := by
  have w1 : wrap64 1 = 1 := by unfold wrap64; decide
  have w2 : wrap64 2 = 2 := by unfold wrap64; decide
  have w3 : wrap64 3 = 3 := by unfold wrap64; decide
  simp [bound_sum.f, bound_sum.l0, rd, w1, w2, w3]
theorem sum5 (k : Nat) (a b c d e : Int) : bound_sum.f (k + 6) [a, b, c, d, e] = some (wrap64 (wrap64 (wrap64 (wrap64 (wrap64 (0 + a) + b) + c) + d) + e)) := by
  have w1 : wrap64 1 = 1 := by unfold wrap64; decide
  have w2 : wrap64 2 = 2 := by unfold wrap64; decide
  have w3 : wrap64 3 = 3 := by unfold wrap64; decide
  have w4 : wrap64 4 = 4 := by unfold wrap64; decide
  have w5 : wrap64 5 = 5 := by unfold wrap64; decide
  simp [bound_sum.f, bound_sum.l0, rd, w1, w2, w3, w4, w5]
theorem point_step (k : Nat) (a n m x : Int) (j : Int) (t b i f c : Int) (h : j < 4) : bound_Point.l0 (k + 1) a n m x j t b i f c = bound_Point.l0 k a n m (wrap64 (x * m)) (wrap64 (j + 1)) t b i f c := by
  simp only [bound_Point.l0]
  rw [if_pos h]
theorem point_last (k : Nat) (a n m x : Int) (t b i f c : Int) : bound_Point.l0 (k + 5) a n m x 4 t b i f c = some (wrap64 (wrap64 (0 + f) + wrap64 (x * wrap64 (wrap64 (wrap64 (0 + a) + n) + wrap64 (m * m))))) := by
  simp only [bound_Point.l0]
  rw [if_neg (by decide), sum3 k]
  simp only [Option.bind_some]
  rw [sum2 (k + 1)]
  rfl
def prod (m : Int) : Int := wrap64 (wrap64 (wrap64 (wrap64 (1024 * m) * m) * m) * m)
theorem point_eq (k : Nat) (t b i f c a n : Int) : bound_Point.f (k + 9) t b i f c a n = some (wrap64 (wrap64 (0 + f) + wrap64 (prod (wrap64 (t + 1)) * wrap64 (wrap64 (wrap64 (0 + a) + n) + wrap64 (wrap64 (t + 1) * wrap64 (t + 1)))))) := by
  have w1 : wrap64 (0 + 1) = 1 := by unfold wrap64; decide
  have w2 : wrap64 (1 + 1) = 2 := by unfold wrap64; decide
  have w3 : wrap64 (2 + 1) = 3 := by unfold wrap64; decide
  have w4 : wrap64 (3 + 1) = 4 := by unfold wrap64; decide
  unfold bound_Point.f
  rw [point_step _ _ _ _ _ 0 _ _ _ _ _ (by decide), w1, point_step _ _ _ _ _ 1 _ _ _ _ _ (by decide), w2, point_step _ _ _ _ _ 2 _ _ _ _ _ (by decide), w3, point_step _ _ _ _ _ 3 _ _ _ _ _ (by decide), w4, point_last k]
  rfl
theorem scan_eq (k : Nat) (t b i f c a n : Int) : bound_Scan.f (k + 6) t b i f c a n = some (wrap64 (64 * wrap64 (wrap64 (wrap64 (wrap64 (wrap64 (0 + b) + a) + t) + n) + 1))) := by
  unfold bound_Scan.f
  rw [sum5 k]
  rfl
theorem zero_add_w {x : Int} (h : 0 ≤ x) (h2 : x ≤ 4294967296) : wrap64 (0 + x) = x := by
  rw [Int.zero_add]
  exact wrap64_eq (by omega) (by omega)
theorem prod_bnd {P Q a n : Int} (hP : 1 ≤ P ∧ P ≤ 6718464) (hQ : 1 ≤ Q ∧ Q ≤ 81) (ha : 0 ≤ a ∧ a ≤ 131070) (hn : 0 ≤ n ∧ n ≤ 131070) : 1 ≤ P * (a + n + Q) ∧ P * (a + n + Q) ≤ 6718464 * 262221 := by
  have h1 : 0 < P * (a + n + Q) := Int.mul_pos (by omega) (by omega)
  have h2 : P * (a + n + Q) ≤ 6718464 * 262221 := Int.mul_le_mul hP.2 (by omega) (by omega) (by omega)
  omega
theorem point_val (k : Nat) {t b i f c a n M P Q : Int} (hM : wrap64 (t + 1) = M) (hP : prod M = P) (hQ : wrap64 (M * M) = Q) (hP0 : 1 ≤ P ∧ P ≤ 6718464) (hQ0 : 1 ≤ Q ∧ Q ≤ 81) (hf : 0 ≤ f ∧ f ≤ 65536) (ha : 0 ≤ a ∧ a ≤ 131070) (hn : 0 ≤ n ∧ n ≤ 131070) : bound_Point.f (k + 9) t b i f c a n = some (f + P * (a + n + Q)) := by
  have hb := prod_bnd hP0 hQ0 ha hn
  rw [point_eq, hM, hP, hQ, zero_add_w hf.1 (by omega), zero_add_w ha.1 (by omega), wrap64_eq (n := a + n) (by omega) (by omega), wrap64_eq (n := a + n + Q) (by omega) (by omega), wrap64_eq (n := P * (a + n + Q)) (by omega) (by omega), wrap64_eq (n := f + P * (a + n + Q)) (by omega) (by omega)]
theorem scan_val (k : Nat) {t b i f c a n : Int} (ht : 1 ≤ t ∧ t ≤ 8) (hb : 1 ≤ b ∧ b ≤ 64) (ha : 0 ≤ a ∧ a ≤ 131070) (hn : 0 ≤ n ∧ n ≤ 131070) : bound_Scan.f (k + 6) t b i f c a n = some (64 * (b + a + t + n + 1)) := by
  rw [scan_eq, zero_add_w (by omega) (by omega), wrap64_eq (n := b + a) (by omega) (by omega), wrap64_eq (n := b + a + t) (by omega) (by omega), wrap64_eq (n := b + a + t + n) (by omega) (by omega), wrap64_eq (n := b + a + t + n + 1) (by omega) (by omega), wrap64_eq (by omega) (by omega)]
def cN (p : S38 → Bool) : List S38 → Int
  | [] => 0
  | x :: t => (if p x = true then 1 else 0) + cN p t
theorem cN_bnd (p : S38 → Bool) (l : List S38) : 0 ≤ cN p l ∧ cN p l ≤ l.length := by
  induction l with
  | nil => exact ⟨Int.le_refl _, Int.le_refl _⟩
  | cons x t ih =>
    simp only [cN, List.length_cons]
    split <;> omega
theorem rd_at (l : List S38) (i : Nat) (h : i < l.length) : l.drop i = rd_T38 l (i : Int) :: l.drop (i + 1) := by
  rw [List.drop_eq_getElem_cons h]
  unfold rd_T38
  simp [List.getD, h]
theorem cast_succ (i : Nat) (h : i < 4000000) : wrap64 ((i : Int) + 1) = ((i + 1 : Nat) : Int) := by
  rw [wrap64_eq (by omega) (by omega)]
  omega
theorem history_Size_c1_eq (kd at_ : Int) (l : List S38) (hl : l.length ≤ 1000000) : ∀ (d i : Nat) (n : Int) (k : Nat), l.length - i = d → i ≤ l.length → 0 ≤ n → n + d ≤ 2000000 → d < k → history_Size_c1.l0 kd at_ k l (i : Int) n = some (n + cN (fun x => history_Size11.f x kd at_) (l.drop i)) := by
  intro d
  induction d with
  | zero =>
    intro i n k hd hi hn hb hk
    obtain ⟨k, rfl⟩ : ∃ q, k = q + 1 := ⟨k - 1, by omega⟩
    simp only [history_Size_c1.l0]
    rw [if_neg (by omega), List.drop_eq_nil_of_le (by omega)]
    simp [cN]
  | succ d ih =>
    intro i n k hd hi hn hb hk
    obtain ⟨k, rfl⟩ : ∃ q, k = q + 1 := ⟨k - 1, by omega⟩
    simp only [history_Size_c1.l0]
    rw [if_pos (by omega), if_pos (by omega), rd_at l i (by omega), cast_succ i (by omega)]
    simp only [cN]
    by_cases c : history_Size11.f (rd_T38 l (i : Int)) kd at_ = true
    · rw [if_pos c, if_pos c, wrap64_eq (n := n + 1) (by omega) (by omega), ih (i + 1) (n + 1) k (by omega) (by omega) (by omega) (by omega) (by omega)]
      congr 1
      omega
    · rw [if_neg c, if_neg c, ih (i + 1) n k (by omega) (by omega) (by omega) (by omega) (by omega)]
      congr 1
      omega
theorem history_Size_c2_eq (at_ : Int) (l : List S38) (hl : l.length ≤ 1000000) : ∀ (d i : Nat) (n : Int) (k : Nat), l.length - i = d → i ≤ l.length → 0 ≤ n → n + d ≤ 2000000 → d < k → history_Size_c2.l0 at_ k l (i : Int) n = some (n + cN (fun x => history_Size2.f x at_) (l.drop i)) := by
  intro d
  induction d with
  | zero =>
    intro i n k hd hi hn hb hk
    obtain ⟨k, rfl⟩ : ∃ q, k = q + 1 := ⟨k - 1, by omega⟩
    simp only [history_Size_c2.l0]
    rw [if_neg (by omega), List.drop_eq_nil_of_le (by omega)]
    simp [cN]
  | succ d ih =>
    intro i n k hd hi hn hb hk
    obtain ⟨k, rfl⟩ : ∃ q, k = q + 1 := ⟨k - 1, by omega⟩
    simp only [history_Size_c2.l0]
    rw [if_pos (by omega), if_pos (by omega), rd_at l i (by omega), cast_succ i (by omega)]
    simp only [cN]
    by_cases c : history_Size2.f (rd_T38 l (i : Int)) at_ = true
    · rw [if_pos c, if_pos c, wrap64_eq (n := n + 1) (by omega) (by omega), ih (i + 1) (n + 1) k (by omega) (by omega) (by omega) (by omega) (by omega)]
      congr 1
      omega
    · rw [if_neg c, if_neg c, ih (i + 1) n k (by omega) (by omega) (by omega) (by omega) (by omega)]
      congr 1
      omega
def over (x : S38) (a : Int) : Bool := decide (x.f3 ≥ 0 ∧ x.f3 < a)
def gain (a : Int) (x : S38) : Int := (if over x a = true ∧ x.f6.f1 = true ∧ x.f5.f0 = 1 then 1 else 0) - (if over x a = true ∧ x.f6.f1 = true ∧ x.f5.f0 = 2 then 1 else 0) + (if ¬ over x a = true ∧ x.f2 ≤ a then 1 else 0)
def gains (a : Int) : List S38 → Int
  | [] => 0
  | x :: t => gain a x + gains a t
theorem gain_cnt (a : Int) (x : S38) : gain a x = (if history_Size11.f x 1 a = true then (1 : Int) else 0) - (if history_Size11.f x 2 a = true then 1 else 0) + (if history_Size2.f x a = true then 1 else 0) := by
  have e1 : ∀ kd, (history_Size11.f x kd a = true) ↔ (over x a = true ∧ x.f6.f1 = true ∧ x.f5.f0 = kd) := by
    intro kd
    unfold history_Size11.f over
    by_cases h1 : x.f5.f0 = kd
    · rw [if_pos h1]
      by_cases h2 : x.f6.f1 = true
      · rw [if_pos h2]
        by_cases h3 : x.f3 ≥ 0
        · rw [if_pos h3]; simp [h1, h2, h3]
        · rw [if_neg h3]; simp [h3]
      · rw [if_neg h2]; simp [h2]
    · rw [if_neg h1]; simp [h1]
  have e2 : (history_Size2.f x a = true) ↔ (¬ over x a = true ∧ x.f2 ≤ a) := by
    unfold history_Size2.f over
    by_cases h1 : x.f2 ≤ a
    · rw [if_pos h1]
      by_cases h2 : x.f3 < 0
      · rw [if_pos h2]; simp [h1]; omega
      · rw [if_neg h2]; simp [h1]; omega
    · rw [if_neg h1]; simp [h1]
  unfold gain
  simp only [e1, e2]
theorem gain_bnd (a : Int) (x : S38) : -1 ≤ gain a x ∧ gain a x ≤ 2 := by
  rw [gain_cnt]
  split <;> split <;> split <;> omega
theorem gains_cnt (a : Int) (l : List S38) : gains a l = cN (fun x => history_Size11.f x 1 a) l - cN (fun x => history_Size11.f x 2 a) l + cN (fun x => history_Size2.f x a) l := by
  induction l with
  | nil => rfl
  | cons x t ih =>
    simp only [gains, cN, ih, gain_cnt]
    omega
theorem size_eq (k : Nat) (l : List S38) (a : Int) (hl : l.length ≤ 1000000) (hk : l.length < k) : history_Size.f k l a = some (gains a l) := by
  have b1 := cN_bnd (fun x => history_Size11.f x 1 a) l
  have b2 := cN_bnd (fun x => history_Size11.f x 2 a) l
  have b3 := cN_bnd (fun x => history_Size2.f x a) l
  have h2 : history_Size_c2.l0 a k l 0 0 = some (cN (fun x => history_Size2.f x a) l) := by
    have h := history_Size_c2_eq a l hl l.length 0 0 k (by omega) (by omega) (by omega) (by omega) hk
    simpa using h
  have h1 : ∀ kd, history_Size_c1.l0 kd a k l 0 0 = some (cN (fun x => history_Size11.f x kd a) l) := by
    intro kd
    have h := history_Size_c1_eq kd a l hl l.length 0 0 k (by omega) (by omega) (by omega) (by omega) hk
    simpa using h
  unfold history_Size.f
  rw [h2, h1, h1]
  simp only [Option.bind_some]
  rw [gains_cnt]
  generalize cN (fun x => history_Size11.f x 1 a) l = u at b1 ⊢
  generalize cN (fun x => history_Size11.f x 2 a) l = v at b2 ⊢
  generalize cN (fun x => history_Size2.f x a) l = z at b3 ⊢
  rw [wrap64_eq (n := u - v) (by omega) (by omega), wrap64_eq (n := u - v + z) (by omega) (by omega)]
theorem hin_c_eq (e : S38) (l : List S38) (hl : l.length ≤ 1000000) : ∀ (d i : Nat) (n : Int) (k : Nat), l.length - i = d → i ≤ l.length → 0 ≤ n → n + d ≤ 2000000 → d < k → hin_c.l0 e k l (i : Int) n = some (n + cN (fun x => history_Inserts1.f x e) (l.drop i)) := by
  intro d
  induction d with
  | zero =>
    intro i n k hd hi hn hb hk
    obtain ⟨k, rfl⟩ : ∃ q, k = q + 1 := ⟨k - 1, by omega⟩
    simp only [hin_c.l0]
    rw [if_neg (by omega), List.drop_eq_nil_of_le (by omega)]
    simp [cN]
  | succ d ih =>
    intro i n k hd hi hn hb hk
    obtain ⟨k, rfl⟩ : ∃ q, k = q + 1 := ⟨k - 1, by omega⟩
    simp only [hin_c.l0]
    rw [if_pos (by omega), if_pos (by omega), rd_at l i (by omega), cast_succ i (by omega)]
    simp only [cN]
    by_cases c : history_Inserts1.f (rd_T38 l (i : Int)) e = true
    · rw [if_pos c, if_pos c, wrap64_eq (n := n + 1) (by omega) (by omega), ih (i + 1) (n + 1) k (by omega) (by omega) (by omega) (by omega) (by omega)]
      congr 1
      omega
    · rw [if_neg c, if_neg c, ih (i + 1) n k (by omega) (by omega) (by omega) (by omega) (by omega)]
      congr 1
      omega
theorem ins (k : Nat) (l : List S38) (e : S38) (hl : l.length ≤ 1000000) (hk : l.length < k) : hin_c.l0 e k l 0 0 = some (cN (fun x => history_Inserts1.f x e) l) := by
  have h := hin_c_eq e l hl l.length 0 0 k (by omega) (by omega) (by omega) (by omega) hk
  rw [show (0 : Int) = ((0 : Nat) : Int) from rfl] at *
  rw [h]
  simp
theorem few_eq (l : List S38) : ∀ (d i k : Nat), 13 - i = d → i ≤ 13 → 2 * d + 2 < k → ∃ z, corrieref19_Few.l0 k l 12 (i : Int) = some z ∧ (z = true → l.length ≤ 12) := by
  intro d
  induction d with
  | zero =>
    intro i k hd hi hk
    obtain ⟨k, rfl⟩ : ∃ q, k = q + 2 := ⟨k - 2, by omega⟩
    simp only [corrieref19_Few.l0, corrieref19_Few.j1]
    have c : decide ((i : Int) ≤ 12) = false := decide_eq_false (by omega)
    rw [c]
    refine ⟨decide ((l.length : Int) ≤ 12), ?_, fun h => by have := of_decide_eq_true h; omega⟩
    split <;> rfl
  | succ d ih =>
    intro i k hd hi hk
    obtain ⟨k, rfl⟩ : ∃ q, k = q + 2 := ⟨k - 2, by omega⟩
    simp only [corrieref19_Few.l0, corrieref19_Few.j1]
    have c : decide ((i : Int) ≤ 12) = true := decide_eq_true (by omega)
    rw [c]
    by_cases h1 : (i : Int) < l.length
    · rw [if_pos h1, if_pos rfl, if_pos (by omega), if_pos h1]
      by_cases h2 : (((rd_T38 l (i : Int)).f6.f3.length : Nat) : Int) > 20
      · rw [if_pos h2]
        exact ⟨false, rfl, fun h => by cases h⟩
      · rw [if_neg h2, cast_succ i (by omega)]
        exact ih (i + 1) k (by omega) (by omega) (by omega)
    · rw [if_neg h1, if_neg (by decide)]
      exact ⟨_, rfl, fun h => by have := of_decide_eq_true h; omega⟩
theorem few (k : Nat) (l : List S38) (hk : 28 < k) : ∃ z, corrieref19_Few.f k l 12 = some z ∧ (z = true → l.length ≤ 12) := by
  have h := few_eq l 13 0 k (by omega) (by omega) (by omega)
  unfold corrieref19_Few.f
  exact h
theorem hM_all {t : Int} (ht : 1 ≤ t ∧ t ≤ 8) : ∃ M P Q : Int, wrap64 (t + 1) = M ∧ prod M = P ∧ wrap64 (M * M) = Q ∧ (1 ≤ P ∧ P ≤ 6718464) ∧ (1 ≤ Q ∧ Q ≤ 81) := by
  have h : t = 1 ∨ t = 2 ∨ t = 3 ∨ t = 4 ∨ t = 5 ∨ t = 6 ∨ t = 7 ∨ t = 8 := by omega
  rcases h with rfl | rfl | rfl | rfl | rfl | rfl | rfl | rfl
  · exact ⟨2, 16384, 4, by unfold wrap64; decide, by unfold prod wrap64; decide, by unfold wrap64; decide, by decide, by decide⟩
  · exact ⟨3, 82944, 9, by unfold wrap64; decide, by unfold prod wrap64; decide, by unfold wrap64; decide, by decide, by decide⟩
  · exact ⟨4, 262144, 16, by unfold wrap64; decide, by unfold prod wrap64; decide, by unfold wrap64; decide, by decide, by decide⟩
  · exact ⟨5, 640000, 25, by unfold wrap64; decide, by unfold prod wrap64; decide, by unfold wrap64; decide, by decide, by decide⟩
  · exact ⟨6, 1327104, 36, by unfold wrap64; decide, by unfold prod wrap64; decide, by unfold wrap64; decide, by decide, by decide⟩
  · exact ⟨7, 2458624, 49, by unfold wrap64; decide, by unfold prod wrap64; decide, by unfold wrap64; decide, by decide, by decide⟩
  · exact ⟨8, 4194304, 64, by unfold wrap64; decide, by unfold prod wrap64; decide, by unfold wrap64; decide, by decide, by decide⟩
  · exact ⟨9, 6718464, 81, by unfold wrap64; decide, by unfold prod wrap64; decide, by unfold wrap64; decide, by decide, by decide⟩
theorem val_bnd (k : Nat) {t b i f c a n : Int} (h : Ok t b i f c) (ha : 0 ≤ a ∧ a ≤ 100) (hn : 0 ≤ n ∧ n ≤ 100) (kd : Int) : ∃ v, (if kd = 4 then bound_Scan.f (k + 9) t b i f c a n else bound_Point.f (k + 9) t b i f c a n) = some v ∧ 0 ≤ v ∧ v ≤ 2000000000000000 := by
  have hb := isPow_le h.2.1
  have hf := h.2.2.2.1
  by_cases c4 : kd = 4
  · rw [if_pos c4, scan_val (k + 3) h.1 hb ⟨ha.1, by omega⟩ ⟨hn.1, by omega⟩]
    have := h.1
    exact ⟨_, rfl, by omega, by omega⟩
  · rw [if_neg c4]
    obtain ⟨M, P, Q, hM, hP, hQ, hP0, hQ0⟩ := hM_all h.1
    rw [point_val k hM hP hQ hP0 hQ0 hf ⟨ha.1, by omega⟩ ⟨hn.1, by omega⟩]
    have hb := prod_bnd hP0 hQ0 (a := a) (n := n) ⟨ha.1, by omega⟩ ⟨hn.1, by omega⟩
    exact ⟨_, rfl, by omega, by omega⟩
def szn (l : List S38) (e : S38) : Int := if gains e.f2 l < 0 then 0 else gains e.f2 l
def inn (l : List S38) (e : S38) : Int := cN (fun x => history_Inserts1.f x e) l
theorem szn_bnd (l : List S38) (e : S38) (hl : l.length ≤ 12) : 0 ≤ szn l e ∧ szn l e ≤ 100 := by
  have b1 := cN_bnd (fun x => history_Size11.f x 1 e.f2) l
  have b2 := cN_bnd (fun x => history_Size11.f x 2 e.f2) l
  have b3 := cN_bnd (fun x => history_Size2.f x e.f2) l
  have g := gains_cnt e.f2 l
  unfold szn
  split <;> omega
theorem of_at (k : Nat) {t b i f c : Int} (l : List S38) (hl : l.length ≤ 12) (e : S38) : bound_Of.g (k + 109) t b i f c l e = (if e.f5.f0 = 4 then bound_Scan.f (k + 109) t b i f c (szn l e) (inn l e) else bound_Point.f (k + 109) t b i f c (szn l e) (inn l e)) := by
  unfold bound_Of.g szn inn
  rw [size_eq (k + 109) l e.f2 (by omega) (by omega), ins (k + 109) l e (by omega) (by omega)]
  rfl
theorem scan_k (k j : Nat) (t b i f c a n : Int) : bound_Scan.f (k + 9) t b i f c a n = bound_Scan.f (j + 9) t b i f c a n := by
  rw [scan_eq (k + 3), scan_eq (j + 3)]
theorem point_k (k j : Nat) (t b i f c a n : Int) : bound_Point.f (k + 9) t b i f c a n = bound_Point.f (j + 9) t b i f c a n := by
  rw [point_eq k, point_eq j]
def V (t b i f c : Int) (l : List S38) (e : S38) : Int := (if e.f5.f0 = 4 then bound_Scan.f 9 t b i f c (szn l e) (inn l e) else bound_Point.f 9 t b i f c (szn l e) (inn l e)).getD 0
theorem of_V (k : Nat) {t b i f c : Int} (h : Ok t b i f c) (l : List S38) (hl : l.length ≤ 12) (e : S38) : bound_Of.g (k + 109) t b i f c l e = some (V t b i f c l e) ∧ 0 ≤ V t b i f c l e ∧ V t b i f c l e ≤ 2000000000000000 := by
  have hn := cN_bnd (fun x => history_Inserts1.f x e) l
  have hs := szn_bnd l e hl
  rw [of_at k l hl e]
  unfold V
  obtain ⟨v, hv, h0, h1⟩ := val_bnd 0 h hs ⟨hn.1, by have := hn.2; unfold inn at *; omega⟩ e.f5.f0
  have e1 : (if e.f5.f0 = 4 then bound_Scan.f (k + 109) t b i f c (szn l e) (inn l e) else bound_Point.f (k + 109) t b i f c (szn l e) (inn l e)) = (if e.f5.f0 = 4 then bound_Scan.f 9 t b i f c (szn l e) (inn l e) else bound_Point.f 9 t b i f c (szn l e) (inn l e)) := by
    split
    · exact scan_k (k + 100) 0 t b i f c _ _
    · exact point_k (k + 100) 0 t b i f c _ _
  rw [e1]
  have hv2 : (if e.f5.f0 = 4 then bound_Scan.f 9 t b i f c (szn l e) (inn l e) else bound_Point.f 9 t b i f c (szn l e) (inn l e)) = some v := hv
  rw [hv2]
  exact ⟨rfl, h0, h1⟩
theorem cN_er (p : S38 → Bool) (hp : ∀ x, p (sst 0 x) = p x) (l : List S38) : cN p (l.map (sst 0)) = cN p l := by
  induction l with
  | nil => rfl
  | cons x r ih =>
    simp only [List.map_cons, cN, ih, hp]
theorem V_er (t b i f c : Int) (l : List S38) (e : S38) : V t b i f c (l.map (sst 0)) e = V t b i f c l e := by
  have h1 : szn (l.map (sst 0)) e = szn l e := by
    unfold szn
    rw [gains_cnt, gains_cnt, cN_er _ (fun _ => rfl), cN_er _ (fun _ => rfl), cN_er _ (fun _ => rfl)]
  have h2 : inn (l.map (sst 0)) e = inn l e := cN_er _ (fun _ => rfl) l
  unfold V
  rw [h1, h2]
theorem V_sst (t b i f c : Int) (l : List S38) (e : S38) (s : Int) : V t b i f c l (sst s e) = V t b i f c l e := rfl
theorem V_same (t b i f c : Int) {l l2 : List S38} (h : l.map (sst 0) = l2.map (sst 0)) (e : S38) : V t b i f c l e = V t b i f c l2 e := by
  rw [← V_er t b i f c l e, h, V_er]
theorem okl_step (k : Nat) (t b i f c : Int) (l1 : List S38) (j : Int) : bound_Ok.l0 (k + 1) t b i f c l1 j = if j < (l1.length : Int) then (if 0 ≤ j then ((bound_Of.g k t b i f c l1 (rd_T38 l1 j)).bind fun q => if (rd_T38 l1 j).f4 > q then some false else bound_Ok.l0 k t b i f c l1 (wrap64 (j + 1))) else none) else some true := rfl
theorem ok_at {t b i f c : Int} (h : Ok t b i f c) (l : List S38) (hl : l.length ≤ 12) : ∀ (d j k : Nat), l.length - j = d → j ≤ l.length → bound_Ok.l0 (k + 110 + d) t b i f c l (j : Int) = some ((l.drop j).all (fun x => decide (x.f4 ≤ V t b i f c l x))) := by
  intro d
  induction d with
  | zero =>
    intro j k hd hj
    rw [show k + 110 + 0 = (k + 109) + 1 from rfl, okl_step, if_neg (by omega), List.drop_eq_nil_of_le (by omega)]
    rfl
  | succ d ih =>
    intro j k hd hj
    rw [show k + 110 + (d + 1) = (k + 110 + d) + 1 from rfl, okl_step]
    have hv := (of_V (k + 1 + d) h l hl (rd_T38 l (j : Int))).1
    rw [show k + 1 + d + 109 = k + 110 + d from by omega] at hv
    rw [if_pos (by omega), if_pos (by omega), hv, rd_at l j (by omega)]
    simp only [Option.bind_some, List.all_cons]
    by_cases c4 : (rd_T38 l (j : Int)).f4 > V t b i f c l (rd_T38 l (j : Int))
    · rw [if_pos c4, decide_eq_false (by omega)]
      rfl
    · rw [if_neg c4, decide_eq_true (by omega), cast_succ j (by omega), ih (j + 1) k (by omega) (by omega)]
      simp
theorem ok_all {t b i f c : Int} (h : Ok t b i f c) (l : List S38) (hl : l.length ≤ 12) : bound_Ok.f 200 t b i f c l = some (l.all (fun x => decide (x.f4 ≤ V t b i f c l x))) := by
  have h1 := ok_at h l hl l.length 0 (90 - l.length) (by omega) (by omega)
  rw [show 90 - l.length + 110 + l.length = 200 from by omega] at h1
  exact h1
theorem er_set (l : List S38) (j : Nat) (hj : j < l.length) (q : Int) : ((l.map (sst 0)).set j (sst q ((l.map (sst 0))[j]'(by simpa using hj)))).map (sst 0) = l.map (sst 0) := by
  apply List.ext_getElem
  · simp
  · intro n h1 h2
    simp only [List.length_map, List.length_set] at h1 h2
    rw [List.getElem_map, List.getElem_set]
    split
    · rename_i e
      subst e
      simp [sst]
    · simp [sst]
theorem proof : corrielaw23_BoundSteps.Pure := by
  intro t b i f c l n
  intros
  rename_i hn
  have hn := bounds_u8 hn
  refine ⟨200, ?_⟩
  unfold corrielaw23_BoundSteps.f corrielaw23_BoundSteps.g
  rw [rmay_eq 199]
  simp only [Option.bind_some]
  by_cases h : Ok t b i f c
  rotate_left
  · rw [if_neg (by rw [if_neg h]; decide)]
  rw [if_pos (if_pos h)]
  obtain ⟨z, hz, hzl⟩ := few 200 l (by omega)
  rw [hz]
  simp only [Option.bind_some]
  by_cases hz1 : z = true
  rotate_left
  · rw [if_neg hz1]
  have hl := hzl hz1
  rw [if_pos hz1, wrap64_eq (n := n) (by omega) (by omega), if_pos ⟨hl, hn.1⟩]
  have hl0 : (l.map (sst 0)).length = l.length := List.length_map _
  have q0 : bound_Ok.f 200 t b i f c (l.map (sst 0)) = some true := by
    rw [ok_all h _ (by omega)]
    congr 1
    rw [List.all_eq_true]
    intro x hx
    obtain ⟨y, _, rfl⟩ := List.mem_map.1 hx
    exact decide_eq_true (of_V 0 h _ (by omega) _).2.1
  rw [q0]
  simp only [Option.bind_some]
  by_cases hz0 : l.length = 0
  · rw [if_pos hz0, if_pos trivial]
  rw [if_neg hz0]
  obtain ⟨j, hj⟩ : ∃ j : Nat, n.tmod (l.length : Int) = (j : Int) := ⟨(n.tmod (l.length : Int)).toNat, by rw [Int.tmod_eq_emod_of_nonneg hn.1]; have h2 := Int.emod_nonneg n (show (l.length : Int) ≠ 0 from by omega); omega⟩
  have hjl : j < l.length := by
    rw [Int.tmod_eq_emod_of_nonneg hn.1] at hj
    have h2 := Int.emod_lt_of_pos n (show 0 < (l.length : Int) from by omega)
    omega
  rw [hj, show ((j : Int)).toNat = j from rfl]
  have hrd : rd_T38 (l.map (sst 0)) (j : Int) = (l.map (sst 0))[j]'(by omega) := by unfold rd_T38; simp [List.getD, hjl]
  rw [hrd]
  obtain ⟨x, hx⟩ : ∃ x, (l.map (sst 0))[j]'(by omega) = x := ⟨_, rfl⟩
  rw [hx]
  obtain ⟨hv, h0, h1⟩ := of_V 91 h (l.map (sst 0)) (by omega) x
  rw [show bound_Of.g 200 t b i f c (l.map (sst 0)) x = some (V t b i f c (l.map (sst 0)) x) from hv]
  obtain ⟨v, hvv⟩ : ∃ v, V t b i f c (l.map (sst 0)) x = v := ⟨_, rfl⟩
  rw [hvv] at h0 h1 ⊢
  simp only [Option.bind_some]
  have hsame : ∀ q, ((l.map (sst 0)).set j (sst q x)).map (sst 0) = (l.map (sst 0)).map (sst 0) := by
    intro q
    rw [← hx, er_set l j hjl q, List.map_map]
    rfl
  have q1 : bound_Ok.f 200 t b i f c ((l.map (sst 0)).set j (sst v x)) = some true := by
    rw [ok_all h _ (by simp; omega)]
    congr 1
    rw [List.all_eq_true]
    intro y hy
    rw [V_same t b i f c (hsame v) y]
    rcases List.mem_or_eq_of_mem_set hy with hy | rfl
    · obtain ⟨y2, _, rfl⟩ := List.mem_map.1 hy
      exact decide_eq_true (of_V 0 h _ (by omega) _).2.1
    · rw [V_sst, hvv]
      exact decide_eq_true (Int.le_refl _)
  have q2 : bound_Ok.f 200 t b i f c ((l.map (sst 0)).set j (sst (wrap64 (v + 1)) x)) = some false := by
    rw [ok_all h _ (by simp; omega)]
    congr 1
    rw [List.all_eq_false]
    refine ⟨sst (wrap64 (v + 1)) x, List.mem_set (by omega) _, ?_⟩
    rw [V_same t b i f c (hsame _), V_sst, hvv, wrap64_eq (n := v + 1) (by omega) (by omega)]
    intro hd
    have h2 : v + 1 ≤ v := of_decide_eq_true hd
    omega
  rw [q1, q2]
  simp only [Option.bind_some]
  rw [if_pos ⟨trivial, trivial, trivial⟩]
end Go.Proofs.Ytpcmoclohepdiab.Pure.BoundSteps
namespace Go.Proofs.Ytpcmoclohepdiab.Pure
theorem BoundSteps : Go.Proofs.Ytpcmoclohepdiab.PBoundSteps.corrielaw23_BoundSteps.Pure := BoundSteps.proof
end Go.Proofs.Ytpcmoclohepdiab.Pure
