/- Chapter 19, HistorySize: where nothing has begun there are no keys; an event that is pending is one, from its begin on. -/
import Derived.Test.YtpcmoclohepdiadStmHistorySize
namespace Go.Proofs.Ytpcmoclohepdiad.Pure.HistorySize
open Go.RowKit Go.Proofs.Ytpcmoclohepdiad.PHistorySize Go.Proofs.YtpcmoclohepdiadW.PrintWords Go.Proofs.YtpcmoclohepdiadW.PrintLast Go.Proofs.YtpcmoclohepdiadW.PrintMore
set_option linter.unusedVariables false
set_option linter.unusedSimpArgs false
theorem wrap64_eq {n : Int} (h0 : -9223372036854775808 ≤ n) (h1 : n ≤ 9223372036854775807) : wrap64 n = n := by unfold wrap64; omega
def cN (p : S31 → Bool) : List S31 → Int
  | [] => 0
  | x :: t => (if p x = true then 1 else 0) + cN p t
theorem cN_bnd (p : S31 → Bool) (l : List S31) : 0 ≤ cN p l ∧ cN p l ≤ l.length := by
  induction l with
  | nil => exact ⟨Int.le_refl _, Int.le_refl _⟩
  | cons x t ih =>
    simp only [cN, List.length_cons]
    split <;> omega
theorem rd_at (l : List S31) (i : Nat) (h : i < l.length) : l.drop i = rd_T31 l (i : Int) :: l.drop (i + 1) := by
  rw [List.drop_eq_getElem_cons h]
  unfold rd_T31
  simp [List.getD, h]
theorem cast_succ (i : Nat) (h : i < 4000000) : wrap64 ((i : Int) + 1) = ((i + 1 : Nat) : Int) := by
  rw [wrap64_eq (by omega) (by omega)]
  omega
theorem history_Size_c1_eq (kd at_ : Int) (l : List S31) (hl : l.length ≤ 1000000) : ∀ (d i : Nat) (n : Int) (k : Nat), l.length - i = d → i ≤ l.length → 0 ≤ n → n + d ≤ 2000000 → d < k → history_Size_c1.l0 kd at_ k l (i : Int) n = some (n + cN (fun x => history_Size11.f x kd at_) (l.drop i)) := by
  intro d
  induction d with
  | zero =>
    intro i n k hd hi hn hb hk
    obtain ⟨k, rfl⟩ : ∃ q, k = q + 1 := ⟨k - 1, by omega⟩
    simp only [history_Size_c1.l0]
    rw [if_neg (by omega), List.drop_eq_nil_of_le (by omega)]
    simp [cN]
  | succ d ih =>
    intro i n k hd hi hn hb hk
    obtain ⟨k, rfl⟩ : ∃ q, k = q + 1 := ⟨k - 1, by omega⟩
    simp only [history_Size_c1.l0]
    rw [if_pos (by omega), if_pos (by omega), rd_at l i (by omega), cast_succ i (by omega)]
    simp only [cN]
    by_cases c : history_Size11.f (rd_T31 l (i : Int)) kd at_ = true
    · rw [if_pos c, if_pos c, wrap64_eq (n := n + 1) (by omega) (by omega), ih (i + 1) (n + 1) k (by omega) (by omega) (by omega) (by omega) (by omega)]
      congr 1
      omega
    · rw [if_neg c, if_neg c, ih (i + 1) n k (by omega) (by omega) (by omega) (by omega) (by omega)]
      congr 1
      omega
theorem history_Size_c2_eq (at_ : Int) (l : List S31) (hl : l.length ≤ 1000000) : ∀ (d i : Nat) (n : Int) (k : Nat), l.length - i = d → i ≤ l.length → 0 ≤ n → n + d ≤ 2000000 → d < k → history_Size_c2.l0 at_ k l (i : Int) n = some (n + cN (fun x => history_Size2.f x at_) (l.drop i)) := by
  intro d
  induction d with
  | zero =>
    intro i n k hd hi hn hb hk
    obtain ⟨k, rfl⟩ : ∃ q, k = q + 1 := ⟨k - 1, by omega⟩
    simp only [history_Size_c2.l0]
    rw [if_neg (by omega), List.drop_eq_nil_of_le (by omega)]
    simp [cN]
  | succ d ih =>
    intro i n k hd hi hn hb hk
    obtain ⟨k, rfl⟩ : ∃ q, k = q + 1 := ⟨k - 1, by omega⟩
    simp only [history_Size_c2.l0]
    rw [if_pos (by omega), if_pos (by omega), rd_at l i (by omega), cast_succ i (by omega)]
    simp only [cN]
    by_cases c : history_Size2.f (rd_T31 l (i : Int)) at_ = true
    · rw [if_pos c, if_pos c, wrap64_eq (n := n + 1) (by omega) (by omega), ih (i + 1) (n + 1) k (by omega) (by omega) (by omega) (by omega) (by omega)]
      congr 1
      omega
    · rw [if_neg c, if_neg c, ih (i + 1) n k (by omega) (by omega) (by omega) (by omega) (by omega)]
      congr 1
      omega
def over (x : S31) (a : Int) : Bool := decide (x.f3 ≥ 0 ∧ x.f3 < a)
def gain (a : Int) (x : S31) : Int := (if over x a = true ∧ x.f6.f1 = true ∧ x.f5.f0 = 1 then 1 else 0) - (if over x a = true ∧ x.f6.f1 = true ∧ x.f5.f0 = 2 then 1 else 0) + (if ¬ over x a = true ∧ x.f2 ≤ a then 1 else 0)
def gains (a : Int) : List S31 → Int
  | [] => 0
  | x :: t => gain a x + gains a t
theorem gain_cnt (a : Int) (x : S31) : gain a x = (if history_Size11.f x 1 a = true then (1 : Int) else 0) - (if history_Size11.f x 2 a = true then 1 else 0) + (if history_Size2.f x a = true then 1 else 0) := by
  have e1 : ∀ kd, (history_Size11.f x kd a = true) ↔ (over x a = true ∧ x.f6.f1 = true ∧ x.f5.f0 = kd) := by
    intro kd
    unfold history_Size11.f over
    by_cases h1 : x.f5.f0 = kd
    · rw [if_pos h1]
      by_cases h2 : x.f6.f1 = true
      · rw [if_pos h2]
        by_cases h3 : x.f3 ≥ 0
        · rw [if_pos h3]; simp [h1, h2, h3]
        · rw [if_neg h3]; simp [h3]
      · rw [if_neg h2]; simp [h2]
    · rw [if_neg h1]; simp [h1]
  have e2 : (history_Size2.f x a = true) ↔ (¬ over x a = true ∧ x.f2 ≤ a) := by
    unfold history_Size2.f over
    by_cases h1 : x.f2 ≤ a
    · rw [if_pos h1]
      by_cases h2 : x.f3 < 0
      · rw [if_pos h2]; simp [h1]; omega
      · rw [if_neg h2]; simp [h1]; omega
    · rw [if_neg h1]; simp [h1]
  unfold gain
  simp only [e1, e2]
theorem gain_bnd (a : Int) (x : S31) : -1 ≤ gain a x ∧ gain a x ≤ 2 := by
  rw [gain_cnt]
  split <;> split <;> split <;> omega
theorem gains_cnt (a : Int) (l : List S31) : gains a l = cN (fun x => history_Size11.f x 1 a) l - cN (fun x => history_Size11.f x 2 a) l + cN (fun x => history_Size2.f x a) l := by
  induction l with
  | nil => rfl
  | cons x t ih =>
    simp only [gains, cN, ih, gain_cnt]
    omega
theorem size_eq (k : Nat) (l : List S31) (a : Int) (hl : l.length ≤ 1000000) (hk : l.length < k) : history_Size.f k l a = some (gains a l) := by
  have b1 := cN_bnd (fun x => history_Size11.f x 1 a) l
  have b2 := cN_bnd (fun x => history_Size11.f x 2 a) l
  have b3 := cN_bnd (fun x => history_Size2.f x a) l
  have h2 : history_Size_c2.l0 a k l 0 0 = some (cN (fun x => history_Size2.f x a) l) := by
    have h := history_Size_c2_eq a l hl l.length 0 0 k (by omega) (by omega) (by omega) (by omega) hk
    simpa using h
  have h1 : ∀ kd, history_Size_c1.l0 kd a k l 0 0 = some (cN (fun x => history_Size11.f x kd a) l) := by
    intro kd
    have h := history_Size_c1_eq kd a l hl l.length 0 0 k (by omega) (by omega) (by omega) (by omega) hk
    simpa using h
  unfold history_Size.f
  rw [h2, h1, h1]
  simp only [Option.bind_some]
  rw [gains_cnt]
  generalize cN (fun x => history_Size11.f x 1 a) l = u at b1 ⊢
  generalize cN (fun x => history_Size11.f x 2 a) l = v at b2 ⊢
  generalize cN (fun x => history_Size2.f x a) l = z at b3 ⊢
  rw [wrap64_eq (n := u - v) (by omega) (by omega), wrap64_eq (n := u - v + z) (by omega) (by omega)]
theorem few_eq (l : List S31) : ∀ (d i k : Nat), 13 - i = d → i ≤ 13 → 2 * d + 2 < k → ∃ z, corrieref19_Few.l0 k l 12 (i : Int) = some z ∧ (z = true → l.length ≤ 12) := by
  intro d
  induction d with
  | zero =>
    intro i k hd hi hk
    obtain ⟨k, rfl⟩ : ∃ q, k = q + 2 := ⟨k - 2, by omega⟩
    simp only [corrieref19_Few.l0, corrieref19_Few.j1]
    have c : decide ((i : Int) ≤ 12) = false := decide_eq_false (by omega)
    rw [c]
    refine ⟨decide ((l.length : Int) ≤ 12), ?_, fun h => by have := of_decide_eq_true h; omega⟩
    split <;> rfl
  | succ d ih =>
    intro i k hd hi hk
    obtain ⟨k, rfl⟩ : ∃ q, k = q + 2 := ⟨k - 2, by omega⟩
    simp only [corrieref19_Few.l0, corrieref19_Few.j1]
    have c : decide ((i : Int) ≤ 12) = true := decide_eq_true (by omega)
    rw [c]
    by_cases h1 : (i : Int) < l.length
    · rw [if_pos h1, if_pos rfl, if_pos (by omega), if_pos h1]
      by_cases h2 : (((rd_T31 l (i : Int)).f6.f3.length : Nat) : Int) > 20
      · rw [if_pos h2]
        exact ⟨false, rfl, fun h => by cases h⟩
      · rw [if_neg h2, cast_succ i (by omega)]
        exact ih (i + 1) k (by omega) (by omega) (by omega)
    · rw [if_neg h1, if_neg (by decide)]
      exact ⟨_, rfl, fun h => by have := of_decide_eq_true h; omega⟩
theorem few (k : Nat) (l : List S31) (hk : 28 < k) : ∃ z, corrieref19_Few.f k l 12 = some z ∧ (z = true → l.length ≤ 12) := by
  have h := few_eq l 13 0 k (by omega) (by omega) (by omega)
  unfold corrieref19_Few.f
  exact h
theorem gains_app (a : Int) : ∀ (l m : List S31), gains a (l ++ m) = gains a l + gains a m
  | [], m => by simp [gains]
  | x :: l, m => by
    simp only [List.cons_append, gains]
    rw [gains_app a l m]
    omega
theorem gains_bnd (a : Int) : ∀ (l : List S31), -(l.length : Int) ≤ gains a l ∧ gains a l ≤ 2 * l.length
  | [] => by simp [gains]
  | x :: l => by
    have h := gains_bnd a l
    have g := gain_bnd a x
    simp only [gains, List.length_cons]
    omega
theorem hsl_le (low : Int) (x : S31) : hsl_f low x ≤ low ∧ hsl_f low x ≤ x.f2 ∧ (x.f3 ≥ 0 → hsl_f low x ≤ x.f3) := by
  unfold hsl_f
  refine ⟨?_, ?_, fun h => ?_⟩ <;> (repeat' split) <;> omega
theorem fold_le : ∀ (l : List S31) (low : Int), l.foldl hsl_f low ≤ low ∧ ∀ x ∈ l, l.foldl hsl_f low ≤ x.f2 ∧ (x.f3 ≥ 0 → l.foldl hsl_f low ≤ x.f3)
  | [], low => ⟨Int.le_refl _, fun x hx => by cases hx⟩
  | y :: l, low => by
    obtain ⟨h1, h2⟩ := fold_le l (hsl_f low y)
    obtain ⟨g1, g2, g3⟩ := hsl_le low y
    simp only [List.foldl_cons]
    refine ⟨by omega, fun x hx => ?_⟩
    rcases List.mem_cons.1 hx with rfl | hx
    · exact ⟨by omega, fun h => by have := g3 h; omega⟩
    · exact h2 x hx
theorem gain_zero (a : Int) (x : S31) (h2 : a < x.f2) (h3 : x.f3 ≥ 0 → a < x.f3) : gain a x = 0 := by
  have ho : over x a = false := by
    unfold over
    exact decide_eq_false (fun h => by have := h3 h.1; omega)
  unfold gain
  rw [ho]
  simp
  omega
theorem gains_zero (a : Int) : ∀ (l : List S31), (∀ x ∈ l, a < x.f2 ∧ (x.f3 ≥ 0 → a < x.f3)) → gains a l = 0
  | [], _ => by simp [gains]
  | x :: l, h => by
    simp only [gains]
    rw [gain_zero a x (h x List.mem_cons_self).1 (h x List.mem_cons_self).2, gains_zero a l (fun y hy => h y (List.mem_cons_of_mem _ hy))]
    rfl
theorem gain_at (a : Int) (ha : 0 ≤ a ∧ a ≤ 255) : gain a (⟨0, 0, wrap64 a, -1, 0, ⟨0, 0, 0, 0⟩, ⟨0, false, 0, []⟩⟩ : S31) = 1 ∧ gain (a - 1) (⟨0, 0, wrap64 a, -1, 0, ⟨0, 0, 0, 0⟩, ⟨0, false, 0, []⟩⟩ : S31) = 0 := by
  have hw : wrap64 a = a := wrap64_eq (by omega) (by omega)
  rw [hw]
  constructor
  · simp [gain, over]
  · simp [gain, over]
    omega
theorem rest_law (l : List S31) (hl : l.length ≤ 12) (a : Int) (ha : 0 ≤ a ∧ a ≤ 255) : corrielaw19_HistorySize.rest 100 l a = some true := by
  unfold corrielaw19_HistorySize.rest
  have hlm : (l ++ [(⟨0, 0, wrap64 a, -1, 0, ⟨0, 0, 0, 0⟩, ⟨0, false, 0, []⟩⟩ : S31)]).length ≤ 13 := by simp; omega
  obtain ⟨g1, g0⟩ := gain_at a ha
  rw [size_eq 100 _ _ (by omega) (by omega), size_eq 100 l _ (by omega) (by omega), size_eq 100 _ _ (by omega) (by omega), size_eq 100 l _ (by omega) (by omega)]
  simp only [Option.bind_some, gains_app]
  have hw : wrap64 a = a := wrap64_eq (by omega) (by omega)
  have hw1 : wrap64 (wrap64 a - 1) = a - 1 := by rw [hw]; exact wrap64_eq (by omega) (by omega)
  have b := gains_bnd a l
  rw [if_pos ?_]
  refine ⟨?_, ?_⟩
  · rw [show gains (wrap64 a) [(⟨0, 0, wrap64 a, -1, 0, ⟨0, 0, 0, 0⟩, ⟨0, false, 0, []⟩⟩ : S31)] = 1 from by rw [show gains (wrap64 a) [(⟨0, 0, wrap64 a, -1, 0, ⟨0, 0, 0, 0⟩, ⟨0, false, 0, []⟩⟩ : S31)] = gain (wrap64 a) (⟨0, 0, wrap64 a, -1, 0, ⟨0, 0, 0, 0⟩, ⟨0, false, 0, []⟩⟩ : S31) + 0 from rfl, show gain (wrap64 a) (⟨0, 0, wrap64 a, -1, 0, ⟨0, 0, 0, 0⟩, ⟨0, false, 0, []⟩⟩ : S31) = gain a (⟨0, 0, wrap64 a, -1, 0, ⟨0, 0, 0, 0⟩, ⟨0, false, 0, []⟩⟩ : S31) from by rw [hw], g1]; rfl]
    rw [show gains (wrap64 a) l = gains a l from by rw [hw]]
    exact (wrap64_eq (by omega) (by omega)).symm
  · rw [hw1]
    rw [show gains (a - 1) [(⟨0, 0, wrap64 a, -1, 0, ⟨0, 0, 0, 0⟩, ⟨0, false, 0, []⟩⟩ : S31)] = 0 from by rw [show gains (a - 1) [(⟨0, 0, wrap64 a, -1, 0, ⟨0, 0, 0, 0⟩, ⟨0, false, 0, []⟩⟩ : S31)] = gain (a - 1) (⟨0, 0, wrap64 a, -1, 0, ⟨0, 0, 0, 0⟩, ⟨0, false, 0, []⟩⟩ : S31) + 0 from rfl, g0]; rfl]
    omega
theorem law (l : List S31) (a : Int) (ha : 0 ≤ a ∧ a ≤ 255) : corrielaw19_HistorySize.f 100 l a = some true := by
  unfold corrielaw19_HistorySize.f
  obtain ⟨z, hz, hzl⟩ := few 100 l (by omega)
  rw [hz]
  simp only [Option.bind_some]
  cases z with
  | false => rfl
  | true =>
    have hl := hzl rfl
    rw [if_pos rfl, if_pos hl]
    by_cases c : l.foldl hsl_f 1000 < 1
    · rw [if_pos c]
      exact rest_law l hl a ha
    · rw [if_neg c]
      obtain ⟨f1, f2⟩ := fold_le l 1000
      rw [wrap64_eq (n := l.foldl hsl_f 1000 - 1) (by omega) (by omega), size_eq 100 l _ (by omega) (by omega), gains_zero _ l (fun x hx => ⟨by have := (f2 x hx).1; omega, fun h => by have := (f2 x hx).2 h; omega⟩)]
      simp only [Option.bind_some, if_true]
      exact rest_law l hl a ha
theorem proof : corrielaw19_HistorySize.Pure := by
  unfold corrielaw19_HistorySize.Pure
  intro l a hl hw ha
  refine ⟨100, law l a ?_⟩
  simp only [Lit.wf, IntKind.min, IntKind.max, IntKind.signed, IntKind.bits, Bool.and_eq_true, decide_eq_true_eq] at ha
  exact ⟨by simpa using ha.1, by simpa using ha.2⟩
end Go.Proofs.Ytpcmoclohepdiad.Pure.HistorySize
namespace Go.Proofs.Ytpcmoclohepdiad.Pure
theorem HistorySize : Go.Proofs.Ytpcmoclohepdiad.PHistorySize.corrielaw19_HistorySize.Pure := HistorySize.proof
end Go.Proofs.Ytpcmoclohepdiad.Pure
