/- Chapter 23, BoundOf: the bound of any event of any events, and whether they keep to theirs: the document's answers. -/
import Derived.Test.YtpcmoclohepdiabStmBoundOf
import Derived.Test.YtpcmoclohepdiabPlainBits
namespace Go.Proofs.Ytpcmoclohepdiab.Pure.BoundOf
open Go.RowKit Go.Proofs.Ytpcmoclohepdiab.PBoundOf Go.Proofs.Ytpcmoclohepdiab.Plain Go.Proofs.YtpcmoclohepdiabW.PrintWords Go.Proofs.YtpcmoclohepdiabW.PrintLast Go.Proofs.YtpcmoclohepdiabW.PrintMore
set_option linter.unusedVariables false
set_option linter.unusedSimpArgs false
def isPow (b : Int) : Bool := decide (b = 1 ∨ b = 2 ∨ b = 4 ∨ b = 8 ∨ b = 16 ∨ b = 32 ∨ b = 64)
theorem isPow_le {b : Int} (h : isPow b = true) : 1 ≤ b ∧ b ≤ 64 := by
  have : b = 1 ∨ b = 2 ∨ b = 4 ∨ b = 8 ∨ b = 16 ∨ b = 32 ∨ b = 64 := by simpa [isPow] using h
  omega
theorem rpow_eq (b : Int) : corrieref03_May.f b = some (isPow b) := by
  unfold corrieref03_May.f isPow
  repeat' split
  all_goals first | (subst_vars; rfl) | (congr 1; rw [Bool.eq_iff_iff]; simp [*])
def Ok (t b i f c : Int) : Prop := (1 ≤ t ∧ t ≤ 8) ∧ isPow b = true ∧ (0 ≤ i ∧ i ≤ 256) ∧ (0 ≤ f ∧ f ≤ 65536) ∧ (1 ≤ c ∧ c ≤ 256)
instance (t b i f c : Int) : Decidable (Ok t b i f c) := by unfold Ok; infer_instance
theorem rmay_eq (k : Nat) (t b i f c : Int) : corrieref04_May.f (k + 1) t b i f c = some (if Ok t b i f c then 0 else 1) := by
  unfold corrieref04_May.f
  rw [rpow_eq]
  simp only [corrieref04_May.j0, Option.bind_some, if_true]
  by_cases h1 : t < 1
  · rw [if_pos h1, if_neg (fun h => by have := h.1; omega)]
  rw [if_neg h1]
  by_cases h2 : t > 8
  · rw [if_pos h2, if_neg (fun h => by have := h.1; omega)]
  rw [if_neg h2]
  cases hb : isPow b
  · rw [if_pos (by rfl), if_neg (fun h => by have := h.2.1; rw [hb] at this; cases this)]
  rw [if_neg (by decide)]
  by_cases h3 : i < 0
  · rw [if_pos h3, if_neg (fun h => by have := h.2.2.1; omega)]
  rw [if_neg h3]
  by_cases h4 : i > 256
  · rw [if_pos h4, if_neg (fun h => by have := h.2.2.1; omega)]
  rw [if_neg h4]
  by_cases h5 : f < 0
  · rw [if_pos h5, if_neg (fun h => by have := h.2.2.2.1; omega)]
  rw [if_neg h5]
  by_cases h6 : f > 65536
  · rw [if_pos h6, if_neg (fun h => by have := h.2.2.2.1; omega)]
  rw [if_neg h6]
  by_cases h7 : c < 1
  · rw [if_pos h7, if_neg (fun h => by have := h.2.2.2.2; omega)]
  rw [if_neg h7]
  by_cases h8 : c > 256
  · rw [if_pos h8, if_neg (fun h => by have := h.2.2.2.2; omega)]
  rw [if_neg h8, if_pos ⟨⟨by omega, by omega⟩, hb, ⟨by omega, by omega⟩, ⟨by omega, by omega⟩, by omega, by omega⟩]
theorem sum2 (k : Nat) (a b : Int) : bound_sum.f (k + 3) [a, b] = some (wrap64 (wrap64 (0 + a) + b)) := by
  have w1 : wrap64 1 = 1 := by unfold wrap64; decide
  have w2 : wrap64 2 = 2 := by unfold wrap64; decide
  simp [bound_sum.f, bound_sum.l0, rd, w1, w2]
theorem sum3 (k : Nat) (a b c : Int) : bound_sum.f (k + 4) [a, b, c] = some (wrap64 (wrap64 (wrap64 (0 + a) + b) + c)) := by
  have w1 : wrap64 1 = 1 := by unfold wrap64; decide
  have w2 : wrap64 2 = 2 := by unfold wrap64; decide
  have w3 : wrap64 3 = 3 := by unfold wrap64; decide
  simp [bound_sum.f, bound_sum.l0, rd, w1, w2, w3]
theorem sum5 (k : Nat) (a b c d e : Int) : bound_sum.f (k + 6) [a, b, c, d, e] = some (wrap64 (wrap64 (wrap64 (wrap64 (wrap64 (0 + a) + b) + c) + d) + e)) := by
  have w1 : wrap64 1 = 1 := by unfold wrap64; decide
  have w2 : wrap64 2 = 2 := by unfold wrap64; decide
  have w3 : wrap64 3 = 3 := by unfold wrap64; decide
  have w4 : wrap64 4 = 4 := by unfold wrap64; decide
  have w5 : wrap64 5 = 5 := by unfold wrap64; decide
  simp [bound_sum.f, bound_sum.l0, rd, w1, w2, w3, w4, w5]
theorem point_step (k : Nat) (a n m x : Int) (j : Int) (t b i f c : Int) (h : j < 4) : bound_Point.l0 (k + 1) a n m x j t b i f c = bound_Point.l0 k a n m (wrap64 (x * m)) (wrap64 (j + 1)) t b i f c := by
  simp only [bound_Point.l0]
  rw [if_pos h]
theorem point_last (k : Nat) (a n m x : Int) (t b i f c : Int) : bound_Point.l0 (k + 5) a n m x 4 t b i f c = some (wrap64 (wrap64 (0 + f) + wrap64 (x * wrap64 (wrap64 (wrap64 (0 + a) + n) + wrap64 (m * m))))) := by
  simp only [bound_Point.l0]
  rw [if_neg (by decide), sum3 k]
  simp only [Option.bind_some]
  rw [sum2 (k + 1)]
  rfl
def prod (m : Int) : Int := wrap64 (wrap64 (wrap64 (wrap64 (1024 * m) * m) * m) * m)
theorem point_eq (k : Nat) (t b i f c a n : Int) : bound_Point.f (k + 9) t b i f c a n = some (wrap64 (wrap64 (0 + f) + wrap64 (prod (wrap64 (t + 1)) * wrap64 (wrap64 (wrap64 (0 + a) + n) + wrap64 (wrap64 (t + 1) * wrap64 (t + 1)))))) := by
  have w1 : wrap64 (0 + 1) = 1 := by unfold wrap64; decide
  have w2 : wrap64 (1 + 1) = 2 := by unfold wrap64; decide
  have w3 : wrap64 (2 + 1) = 3 := by unfold wrap64; decide
  have w4 : wrap64 (3 + 1) = 4 := by unfold wrap64; decide
  unfold bound_Point.f
  rw [point_step _ _ _ _ _ 0 _ _ _ _ _ (by decide), w1, point_step _ _ _ _ _ 1 _ _ _ _ _ (by decide), w2, point_step _ _ _ _ _ 2 _ _ _ _ _ (by decide), w3, point_step _ _ _ _ _ 3 _ _ _ _ _ (by decide), w4, point_last k]
  rfl
theorem rpoint_eq (t b i f c a n : Int) : corrieref23_Point.f t b i f c a n = some (wrap64 (f + wrap64 (prod (wrap64 (t + 1)) * wrap64 (wrap64 (a + n) + wrap64 (wrap64 (t + 1) * wrap64 (t + 1)))))) := rfl
theorem scan_eq (k : Nat) (t b i f c a n : Int) : bound_Scan.f (k + 6) t b i f c a n = some (wrap64 (64 * wrap64 (wrap64 (wrap64 (wrap64 (wrap64 (0 + b) + a) + t) + n) + 1))) := by
  unfold bound_Scan.f
  rw [sum5 k]
  rfl
theorem rscan_eq (t b i f c a n : Int) : corrieref23_Scan.f t b i f c a n = some (wrap64 (64 * wrap64 (wrap64 (wrap64 (wrap64 (b + a) + t) + n) + 1))) := rfl
theorem zero_add_w {x : Int} (h : 0 ≤ x) (h2 : x ≤ 4294967296) : wrap64 (0 + x) = x := by
  rw [Int.zero_add]
  exact wrap64_eq (by omega) (by omega)
def cN (p : S38 → Bool) : List S38 → Int
  | [] => 0
  | x :: t => (if p x = true then 1 else 0) + cN p t
theorem cN_bnd (p : S38 → Bool) (l : List S38) : 0 ≤ cN p l ∧ cN p l ≤ l.length := by
  induction l with
  | nil => exact ⟨Int.le_refl _, Int.le_refl _⟩
  | cons x t ih =>
    simp only [cN, List.length_cons]
    split <;> omega
theorem rd_at (l : List S38) (i : Nat) (h : i < l.length) : l.drop i = rd_T38 l (i : Int) :: l.drop (i + 1) := by
  rw [List.drop_eq_getElem_cons h]
  unfold rd_T38
  simp [List.getD, h]
theorem cast_succ (i : Nat) (h : i < 4000000) : wrap64 ((i : Int) + 1) = ((i + 1 : Nat) : Int) := by
  rw [wrap64_eq (by omega) (by omega)]
  omega
theorem history_Size_c1_eq (kd at_ : Int) (l : List S38) (hl : l.length ≤ 1000000) : ∀ (d i : Nat) (n : Int) (k : Nat), l.length - i = d → i ≤ l.length → 0 ≤ n → n + d ≤ 2000000 → d < k → history_Size_c1.l0 kd at_ k l (i : Int) n = some (n + cN (fun x => history_Size11.f x kd at_) (l.drop i)) := by
  intro d
  induction d with
  | zero =>
    intro i n k hd hi hn hb hk
    obtain ⟨k, rfl⟩ : ∃ q, k = q + 1 := ⟨k - 1, by omega⟩
    simp only [history_Size_c1.l0]
    rw [if_neg (by omega), List.drop_eq_nil_of_le (by omega)]
    simp [cN]
  | succ d ih =>
    intro i n k hd hi hn hb hk
    obtain ⟨k, rfl⟩ : ∃ q, k = q + 1 := ⟨k - 1, by omega⟩
    simp only [history_Size_c1.l0]
    rw [if_pos (by omega), if_pos (by omega), rd_at l i (by omega), cast_succ i (by omega)]
    simp only [cN]
    by_cases c : history_Size11.f (rd_T38 l (i : Int)) kd at_ = true
    · rw [if_pos c, if_pos c, wrap64_eq (n := n + 1) (by omega) (by omega), ih (i + 1) (n + 1) k (by omega) (by omega) (by omega) (by omega) (by omega)]
      congr 1
      omega
    · rw [if_neg c, if_neg c, ih (i + 1) n k (by omega) (by omega) (by omega) (by omega) (by omega)]
      congr 1
      omega
theorem history_Size_c2_eq (at_ : Int) (l : List S38) (hl : l.length ≤ 1000000) : ∀ (d i : Nat) (n : Int) (k : Nat), l.length - i = d → i ≤ l.length → 0 ≤ n → n + d ≤ 2000000 → d < k → history_Size_c2.l0 at_ k l (i : Int) n = some (n + cN (fun x => history_Size2.f x at_) (l.drop i)) := by
  intro d
  induction d with
  | zero =>
    intro i n k hd hi hn hb hk
    obtain ⟨k, rfl⟩ : ∃ q, k = q + 1 := ⟨k - 1, by omega⟩
    simp only [history_Size_c2.l0]
    rw [if_neg (by omega), List.drop_eq_nil_of_le (by omega)]
    simp [cN]
  | succ d ih =>
    intro i n k hd hi hn hb hk
    obtain ⟨k, rfl⟩ : ∃ q, k = q + 1 := ⟨k - 1, by omega⟩
    simp only [history_Size_c2.l0]
    rw [if_pos (by omega), if_pos (by omega), rd_at l i (by omega), cast_succ i (by omega)]
    simp only [cN]
    by_cases c : history_Size2.f (rd_T38 l (i : Int)) at_ = true
    · rw [if_pos c, if_pos c, wrap64_eq (n := n + 1) (by omega) (by omega), ih (i + 1) (n + 1) k (by omega) (by omega) (by omega) (by omega) (by omega)]
      congr 1
      omega
    · rw [if_neg c, if_neg c, ih (i + 1) n k (by omega) (by omega) (by omega) (by omega) (by omega)]
      congr 1
      omega
def over (x : S38) (a : Int) : Bool := decide (x.f3 ≥ 0 ∧ x.f3 < a)
def gain (a : Int) (x : S38) : Int := (if over x a = true ∧ x.f6.f1 = true ∧ x.f5.f0 = 1 then 1 else 0) - (if over x a = true ∧ x.f6.f1 = true ∧ x.f5.f0 = 2 then 1 else 0) + (if ¬ over x a = true ∧ x.f2 ≤ a then 1 else 0)
def gains (a : Int) : List S38 → Int
  | [] => 0
  | x :: t => gain a x + gains a t
theorem gain_cnt (a : Int) (x : S38) : gain a x = (if history_Size11.f x 1 a = true then (1 : Int) else 0) - (if history_Size11.f x 2 a = true then 1 else 0) + (if history_Size2.f x a = true then 1 else 0) := by
  have e1 : ∀ kd, (history_Size11.f x kd a = true) ↔ (over x a = true ∧ x.f6.f1 = true ∧ x.f5.f0 = kd) := by
    intro kd
    unfold history_Size11.f over
    by_cases h1 : x.f5.f0 = kd
    · rw [if_pos h1]
      by_cases h2 : x.f6.f1 = true
      · rw [if_pos h2]
        by_cases h3 : x.f3 ≥ 0
        · rw [if_pos h3]; simp [h1, h2, h3]
        · rw [if_neg h3]; simp [h3]
      · rw [if_neg h2]; simp [h2]
    · rw [if_neg h1]; simp [h1]
  have e2 : (history_Size2.f x a = true) ↔ (¬ over x a = true ∧ x.f2 ≤ a) := by
    unfold history_Size2.f over
    by_cases h1 : x.f2 ≤ a
    · rw [if_pos h1]
      by_cases h2 : x.f3 < 0
      · rw [if_pos h2]; simp [h1]; omega
      · rw [if_neg h2]; simp [h1]; omega
    · rw [if_neg h1]; simp [h1]
  unfold gain
  simp only [e1, e2]
theorem gain_bnd (a : Int) (x : S38) : -1 ≤ gain a x ∧ gain a x ≤ 2 := by
  rw [gain_cnt]
  split <;> split <;> split <;> omega
theorem gains_cnt (a : Int) (l : List S38) : gains a l = cN (fun x => history_Size11.f x 1 a) l - cN (fun x => history_Size11.f x 2 a) l + cN (fun x => history_Size2.f x a) l := by
  induction l with
  | nil => rfl
  | cons x t ih =>
    simp only [gains, cN, ih, gain_cnt]
    omega
theorem size_eq (k : Nat) (l : List S38) (a : Int) (hl : l.length ≤ 1000000) (hk : l.length < k) : history_Size.f k l a = some (gains a l) := by
  have b1 := cN_bnd (fun x => history_Size11.f x 1 a) l
  have b2 := cN_bnd (fun x => history_Size11.f x 2 a) l
  have b3 := cN_bnd (fun x => history_Size2.f x a) l
  have h2 : history_Size_c2.l0 a k l 0 0 = some (cN (fun x => history_Size2.f x a) l) := by
    have h := history_Size_c2_eq a l hl l.length 0 0 k (by omega) (by omega) (by omega) (by omega) hk
    simpa using h
  have h1 : ∀ kd, history_Size_c1.l0 kd a k l 0 0 = some (cN (fun x => history_Size11.f x kd a) l) := by
    intro kd
    have h := history_Size_c1_eq kd a l hl l.length 0 0 k (by omega) (by omega) (by omega) (by omega) hk
    simpa using h
  unfold history_Size.f
  rw [h2, h1, h1]
  simp only [Option.bind_some]
  rw [gains_cnt]
  generalize cN (fun x => history_Size11.f x 1 a) l = u at b1 ⊢
  generalize cN (fun x => history_Size11.f x 2 a) l = v at b2 ⊢
  generalize cN (fun x => history_Size2.f x a) l = z at b3 ⊢
  rw [wrap64_eq (n := u - v) (by omega) (by omega), wrap64_eq (n := u - v + z) (by omega) (by omega)]
theorem rsize_step (k : Nat) (l : List S38) (a n i : Int) (h0 : 0 ≤ i) (h1 : i < l.length) (hi : i ≤ 2000000) (hn : -2000000 ≤ n ∧ n ≤ 2000000) : corrieref19_Size.l0 (k + 5) l a n i = corrieref19_Size.l0 k l a (n + gain a (rd_T38 l i)) (i + 1) := by
  simp only [corrieref19_Size.l0, corrieref19_Size.j1, corrieref19_Size.j2, corrieref19_Size.j3, corrieref19_Size.j4]
  rw [if_pos h1, if_pos h0, wrap64_eq (n := i + 1) (by omega) (by omega)]
  generalize rd_T38 l i = x
  unfold gain over
  rw [wrap64_eq (n := n + 1) (by omega) (by omega), wrap64_eq (n := n - 1) (by omega) (by omega), wrap64_eq (n := n + 1 - 1) (by omega) (by omega), wrap64_eq (n := n - 1 + 1) (by omega) (by omega)]
  by_cases c1 : x.f3 ≥ 0
  · by_cases c2 : x.f3 < a
    · cases c3 : x.f6.f1
      · simp [c1, c2]
      · by_cases c4 : x.f5.f0 = 1
        · simp [c1, c2, c4]
        · by_cases c5 : x.f5.f0 = 2
          · simp [c1, c2, c5, Int.sub_eq_add_neg]
          · simp [c1, c2, c4, c5]
    · by_cases c6 : x.f2 ≤ a <;> simp [c1, c2, c6]
  · by_cases c6 : x.f2 ≤ a <;> simp [c1, c6]
theorem rsize_eq (l : List S38) (a : Int) (hl : l.length ≤ 1000000) : ∀ (d i : Nat) (n : Int) (k : Nat), l.length - i = d → i ≤ l.length → -1000000 ≤ n - d → n + 2 * d ≤ 2000000 → 5 * d < k → corrieref19_Size.l0 k l a n (i : Int) = some (n + gains a (l.drop i)) := by
  intro d
  induction d with
  | zero =>
    intro i n k hd hi hn hb hk
    obtain ⟨k, rfl⟩ : ∃ q, k = q + 1 := ⟨k - 1, by omega⟩
    simp only [corrieref19_Size.l0]
    rw [if_neg (by omega), List.drop_eq_nil_of_le (by omega)]
    simp [gains]
  | succ d ih =>
    intro i n k hd hi hn hb hk
    obtain ⟨k, rfl⟩ : ∃ q, k = q + 5 := ⟨k - 5, by omega⟩
    have g := gain_bnd a (rd_T38 l (i : Int))
    rw [rsize_step k l a n i (by omega) (by omega) (by omega) ⟨by omega, by omega⟩, show (i : Int) + 1 = ((i + 1 : Nat) : Int) from by omega, ih (i + 1) _ k (by omega) (by omega) (by omega) (by omega) (by omega), rd_at l i (by omega)]
    simp only [gains]
    congr 1
    omega
theorem rsize (k : Nat) (l : List S38) (a : Int) (hl : l.length ≤ 1000000) (hk : 5 * l.length < k) : corrieref19_Size.f k l a = some (gains a l) := by
  have h := rsize_eq l a hl l.length 0 0 k (by omega) (by omega) (by omega) (by omega) hk
  unfold corrieref19_Size.f
  rw [show (0 : Int) = ((0 : Nat) : Int) from rfl] at *
  rw [h]
  simp
theorem hin_c_eq (e : S38) (l : List S38) (hl : l.length ≤ 1000000) : ∀ (d i : Nat) (n : Int) (k : Nat), l.length - i = d → i ≤ l.length → 0 ≤ n → n + d ≤ 2000000 → d < k → hin_c.l0 e k l (i : Int) n = some (n + cN (fun x => history_Inserts1.f x e) (l.drop i)) := by
  intro d
  induction d with
  | zero =>
    intro i n k hd hi hn hb hk
    obtain ⟨k, rfl⟩ : ∃ q, k = q + 1 := ⟨k - 1, by omega⟩
    simp only [hin_c.l0]
    rw [if_neg (by omega), List.drop_eq_nil_of_le (by omega)]
    simp [cN]
  | succ d ih =>
    intro i n k hd hi hn hb hk
    obtain ⟨k, rfl⟩ : ∃ q, k = q + 1 := ⟨k - 1, by omega⟩
    simp only [hin_c.l0]
    rw [if_pos (by omega), if_pos (by omega), rd_at l i (by omega), cast_succ i (by omega)]
    simp only [cN]
    by_cases c : history_Inserts1.f (rd_T38 l (i : Int)) e = true
    · rw [if_pos c, if_pos c, wrap64_eq (n := n + 1) (by omega) (by omega), ih (i + 1) (n + 1) k (by omega) (by omega) (by omega) (by omega) (by omega)]
      congr 1
      omega
    · rw [if_neg c, if_neg c, ih (i + 1) n k (by omega) (by omega) (by omega) (by omega) (by omega)]
      congr 1
      omega
theorem rbefore_eq (a b : S38) : corrieref19_Before.f a.f0 a.f1 a.f2 a.f3 a.f4 a.f5.f0 a.f5.f1 a.f5.f2 a.f5.f3 a.f6.f0 a.f6.f1 a.f6.f2 a.f6.f3 b.f0 b.f1 b.f2 b.f3 b.f4 b.f5.f0 b.f5.f1 b.f5.f2 b.f5.f3 b.f6.f0 b.f6.f1 b.f6.f2 b.f6.f3 = some (hin_Bf.f a b) := by
  unfold corrieref19_Before.f hin_Bf.f
  split <;> rfl
theorem rins_eq (l : List S38) (e : S38) (hl : l.length ≤ 1000000) : ∀ (d i : Nat) (n : Int) (k : Nat), l.length - i = d → i ≤ l.length → 0 ≤ n → n + d ≤ 2000000 → d < k → corrieref19_Inserts.l0 k l n (i : Int) e.f0 e.f1 e.f2 e.f3 e.f4 e.f5.f0 e.f5.f1 e.f5.f2 e.f5.f3 e.f6.f0 e.f6.f1 e.f6.f2 e.f6.f3 = some (n + cN (fun x => history_Inserts1.f x e) (l.drop i)) := by
  intro d
  induction d with
  | zero =>
    intro i n k hd hi hn hb hk
    obtain ⟨k, rfl⟩ : ∃ q, k = q + 1 := ⟨k - 1, by omega⟩
    simp only [corrieref19_Inserts.l0]
    rw [if_neg (by omega), List.drop_eq_nil_of_le (by omega)]
    simp [cN]
  | succ d ih =>
    intro i n k hd hi hn hb hk
    obtain ⟨k, rfl⟩ : ∃ q, k = q + 1 := ⟨k - 1, by omega⟩
    simp only [corrieref19_Inserts.l0]
    rw [if_pos (by omega), if_pos (by omega), cast_succ i (by omega), rbefore_eq, rbefore_eq, wrap64_eq (n := n + 1) (by omega) (by omega), ih (i + 1) (n + 1) k (by omega) (by omega) (by omega) (by omega) (by omega), ih (i + 1) n k (by omega) (by omega) (by omega) (by omega) (by omega), rd_at l i (by omega)]
    simp only [cN, Option.bind_some]
    generalize rd_T38 l (i : Int) = x
    generalize cN (fun x => history_Inserts1.f x e) (l.drop (i + 1)) = R
    have q : history_Inserts1.f x e = if x.f5.f0 = 1 then (if hin_Bf.f e x = true then false else !(hin_Bf.f x e)) else false := rfl
    by_cases c1 : x.f5.f0 = 1
    · rw [if_pos c1]
      rw [if_pos c1] at q
      by_cases c2 : hin_Bf.f x e = true
      · rw [if_pos c2]
        have q2 : history_Inserts1.f x e = false := by rw [q, c2]; simp
        rw [if_neg (by rw [q2]; decide)]
        simp
      · rw [if_neg c2]
        by_cases c3 : hin_Bf.f e x = true
        · rw [if_pos c3]
          have q2 : history_Inserts1.f x e = false := by rw [q, if_pos c3]
          rw [if_neg (by rw [q2]; decide)]
          simp
        · rw [if_neg c3]
          have q2 : history_Inserts1.f x e = true := by rw [q, if_neg c3]; simpa using c2
          rw [if_pos q2]
          congr 1
          omega
    · rw [if_neg c1]
      rw [if_neg c1] at q
      rw [if_neg (by rw [q]; decide)]
      simp
theorem rins (k : Nat) (l : List S38) (e : S38) (hl : l.length ≤ 1000000) (hk : l.length < k) : corrieref19_Inserts.f k l e.f0 e.f1 e.f2 e.f3 e.f4 e.f5.f0 e.f5.f1 e.f5.f2 e.f5.f3 e.f6.f0 e.f6.f1 e.f6.f2 e.f6.f3 = some (cN (fun x => history_Inserts1.f x e) l) := by
  have h := rins_eq l e hl l.length 0 0 k (by omega) (by omega) (by omega) (by omega) hk
  unfold corrieref19_Inserts.f
  rw [show (0 : Int) = ((0 : Nat) : Int) from rfl] at *
  rw [h]
  simp
theorem ins (k : Nat) (l : List S38) (e : S38) (hl : l.length ≤ 1000000) (hk : l.length < k) : hin_c.l0 e k l 0 0 = some (cN (fun x => history_Inserts1.f x e) l) := by
  have h := hin_c_eq e l hl l.length 0 0 k (by omega) (by omega) (by omega) (by omega) hk
  rw [show (0 : Int) = ((0 : Nat) : Int) from rfl] at *
  rw [h]
  simp
theorem few_eq (l : List S38) : ∀ (d i k : Nat), 13 - i = d → i ≤ 13 → 2 * d + 2 < k → ∃ z, corrieref19_Few.l0 k l 12 (i : Int) = some z ∧ (z = true → l.length ≤ 12) := by
  intro d
  induction d with
  | zero =>
    intro i k hd hi hk
    obtain ⟨k, rfl⟩ : ∃ q, k = q + 2 := ⟨k - 2, by omega⟩
    simp only [corrieref19_Few.l0, corrieref19_Few.j1]
    have c : decide ((i : Int) ≤ 12) = false := decide_eq_false (by omega)
    rw [c]
    refine ⟨decide ((l.length : Int) ≤ 12), ?_, fun h => by have := of_decide_eq_true h; omega⟩
    split <;> rfl
  | succ d ih =>
    intro i k hd hi hk
    obtain ⟨k, rfl⟩ : ∃ q, k = q + 2 := ⟨k - 2, by omega⟩
    simp only [corrieref19_Few.l0, corrieref19_Few.j1]
    have c : decide ((i : Int) ≤ 12) = true := decide_eq_true (by omega)
    rw [c]
    by_cases h1 : (i : Int) < l.length
    · rw [if_pos h1, if_pos rfl, if_pos (by omega), if_pos h1]
      by_cases h2 : (((rd_T38 l (i : Int)).f6.f3.length : Nat) : Int) > 20
      · rw [if_pos h2]
        exact ⟨false, rfl, fun h => by cases h⟩
      · rw [if_neg h2, cast_succ i (by omega)]
        exact ih (i + 1) k (by omega) (by omega) (by omega)
    · rw [if_neg h1, if_neg (by decide)]
      exact ⟨_, rfl, fun h => by have := of_decide_eq_true h; omega⟩
theorem few (k : Nat) (l : List S38) (hk : 28 < k) : ∃ z, corrieref19_Few.f k l 12 = some z ∧ (z = true → l.length ≤ 12) := by
  have h := few_eq l 13 0 k (by omega) (by omega) (by omega)
  unfold corrieref19_Few.f
  exact h
theorem of_both (k : Nat) (hk : 100 ≤ k) {t b i f c : Int} (h : Ok t b i f c) (l : List S38) (hl : l.length ≤ 12) (e : S38) : ∃ v, bound_Of.g k t b i f c l e = some v ∧ corrieref23_Of.f k t b i f c l e.f0 e.f1 e.f2 e.f3 e.f4 e.f5.f0 e.f5.f1 e.f5.f2 e.f5.f3 e.f6.f0 e.f6.f1 e.f6.f2 e.f6.f3 = some v := by
  obtain ⟨q, rfl⟩ : ∃ q, k = q + 9 := ⟨k - 9, by omega⟩
  have hb := isPow_le h.2.1
  have hf := h.2.2.2.1
  have b1 := cN_bnd (fun x => history_Size11.f x 1 e.f2) l
  have b2 := cN_bnd (fun x => history_Size11.f x 2 e.f2) l
  have b3 := cN_bnd (fun x => history_Size2.f x e.f2) l
  have g := gains_cnt e.f2 l
  have b4 := cN_bnd (fun x => history_Inserts1.f x e) l
  unfold bound_Of.g corrieref23_Of.f
  rw [size_eq (q + 9) l e.f2 (by omega) (by omega), rsize (q + 9) l e.f2 (by omega) (by omega), ins (q + 9) l e (by omega) (by omega)]
  simp only [Option.bind_some, corrieref23_Of.j0]
  rw [show corrieref19_Inserts.f (q + 8) l e.f0 e.f1 e.f2 e.f3 e.f4 e.f5.f0 e.f5.f1 e.f5.f2 e.f5.f3 e.f6.f0 e.f6.f1 e.f6.f2 e.f6.f3 = some (cN (fun x => history_Inserts1.f x e) l) from rins (q + 8) l e (by omega) (by omega)]
  simp only [Option.bind_some]
  generalize cN (fun x => history_Inserts1.f x e) l = n at b4 ⊢
  have hs : 0 ≤ (if gains e.f2 l < 0 then 0 else gains e.f2 l) ∧ (if gains e.f2 l < 0 then 0 else gains e.f2 l) ≤ 24 := by
    split <;> omega
  have es : ∀ (X : Int → Option Int), (if gains e.f2 l < 0 then X 0 else X (gains e.f2 l)) = X (if gains e.f2 l < 0 then 0 else gains e.f2 l) := by
    intro X; split <;> rfl
  rw [es (fun s => if e.f5.f0 = 4 then (corrieref23_Scan.f t b i f c s n).bind fun x => some x else (corrieref23_Point.f t b i f c s n).bind fun x => some x)]
  generalize (if gains e.f2 l < 0 then 0 else gains e.f2 l) = s at hs ⊢
  by_cases c4 : e.f5.f0 = 4
  · simp only [if_pos c4]
    rw [scan_eq (q + 3), rscan_eq, zero_add_w (x := b) (by omega) (by omega)]
    exact ⟨_, rfl, rfl⟩
  · simp only [if_neg c4]
    rw [point_eq q, rpoint_eq, zero_add_w (x := f) hf.1 (by omega), zero_add_w (x := s) hs.1 (by omega)]
    exact ⟨_, rfl, rfl⟩
theorem ok_both {t b i f c : Int} (h : Ok t b i f c) (l : List S38) (hl : l.length ≤ 12) : ∀ (d j k : Nat), l.length - j = d → j ≤ l.length → 101 + d ≤ k → ∃ z, bound_Ok.l0 k t b i f c l (j : Int) = some z ∧ corrieref23_Ok.l0 k l (j : Int) t b i f c = some z := by
  intro d
  induction d with
  | zero =>
    intro j k hd hj hk
    obtain ⟨k, rfl⟩ : ∃ q, k = q + 1 := ⟨k - 1, by omega⟩
    simp only [bound_Ok.l0, corrieref23_Ok.l0]
    rw [if_neg (by omega), if_neg (by omega)]
    exact ⟨_, rfl, rfl⟩
  | succ d ih =>
    intro j k hd hj hk
    obtain ⟨k, rfl⟩ : ∃ q, k = q + 1 := ⟨k - 1, by omega⟩
    obtain ⟨v, h1, h2⟩ := of_both k (by omega) h l hl (rd_T38 l (j : Int))
    simp only [bound_Ok.l0, corrieref23_Ok.l0]
    rw [if_pos (by omega), if_pos (by omega), if_pos (by omega), if_pos (by omega), h1, h2]
    simp only [Option.bind_some]
    by_cases c4 : (rd_T38 l (j : Int)).f4 > v
    · rw [if_pos c4, if_pos c4]
      exact ⟨false, rfl, rfl⟩
    · rw [if_neg c4, if_neg c4, cast_succ j (by omega)]
      exact ih (j + 1) k (by omega) (by omega) (by omega)
theorem proof : corrielaw23_BoundOf.Pure := by
  intro t b i f c l e0 e1 e2 e3 e4 e5 e6 e7 e8 e9 e10 e11 e12
  intros
  refine ⟨200, ?_⟩
  unfold corrielaw23_BoundOf.f
  rw [rmay_eq 199]
  simp only [Option.bind_some]
  by_cases h : Ok t b i f c
  · rw [if_pos (if_pos h)]
    obtain ⟨z, hz, hzl⟩ := few 200 l (by omega)
    rw [hz]
    simp only [Option.bind_some]
    by_cases hz1 : z = true
    · have hl := hzl hz1
      rw [if_pos hz1]
      obtain ⟨v, h1, h2⟩ := of_both 200 (by omega) h l hl ⟨e0, e1, e2, e3, e4, ⟨e5, e6, e7, e8⟩, ⟨e9, e10, e11, e12⟩⟩
      obtain ⟨y, h3, h4⟩ := ok_both h l hl l.length 0 200 (by omega) (by omega) (by omega)
      rw [show bound_Of.f 200 t b i f c l e0 e1 e2 e3 e4 e5 e6 e7 e8 e9 e10 e11 e12 = some v from h1, show corrieref23_Of.f 200 t b i f c l e0 e1 e2 e3 e4 e5 e6 e7 e8 e9 e10 e11 e12 = some v from h2, show bound_Ok.f 200 t b i f c l = some y from h3, show corrieref23_Ok.f 200 t b i f c l = some y from h4]
      simp only [Option.bind_some]
      rw [if_pos ⟨trivial, trivial⟩]
    · rw [if_neg hz1]
  · rw [if_neg (by rw [if_neg h]; decide)]
end Go.Proofs.Ytpcmoclohepdiab.Pure.BoundOf
namespace Go.Proofs.Ytpcmoclohepdiab.Pure
theorem BoundOf : Go.Proofs.Ytpcmoclohepdiab.PBoundOf.corrielaw23_BoundOf.Pure := BoundOf.proof
end Go.Proofs.Ytpcmoclohepdiab.Pure
