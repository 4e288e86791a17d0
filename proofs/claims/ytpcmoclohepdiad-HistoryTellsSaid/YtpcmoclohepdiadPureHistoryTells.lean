/- Chapter 19, HistoryTells: of any events: whether they may be a history, those of inserts, deletes and gets, how many keys there may be at any pick, and how many inserts overlap any event. -/
import Derived.Test.YtpcmoclohepdiadStmHistoryTells
namespace Go.Proofs.Ytpcmoclohepdiad.Pure.HistoryTells
open Go.RowKit Go.Proofs.Ytpcmoclohepdiad.PHistoryTells Go.Proofs.YtpcmoclohepdiadW.PrintWords Go.Proofs.YtpcmoclohepdiadW.PrintLast
set_option linter.unusedVariables false
set_option linter.unusedSimpArgs false
theorem wrap64_eq {n : Int} (h0 : -9223372036854775808 ≤ n) (h1 : n ≤ 9223372036854775807) : wrap64 n = n := by unfold wrap64; omega
def cN (p : S31 → Bool) : List S31 → Int
  | [] => 0
  | x :: t => (if p x = true then 1 else 0) + cN p t
theorem cN_bnd (p : S31 → Bool) (l : List S31) : 0 ≤ cN p l ∧ cN p l ≤ l.length := by
  induction l with
  | nil => exact ⟨Int.le_refl _, Int.le_refl _⟩
  | cons x t ih =>
    simp only [cN, List.length_cons]
    split <;> omega
theorem rd_at (l : List S31) (i : Nat) (h : i < l.length) : l.drop i = rd_T31 l (i : Int) :: l.drop (i + 1) := by
  rw [List.drop_eq_getElem_cons h]
  unfold rd_T31
  simp [List.getD, h]
theorem cast_succ (i : Nat) (h : i < 4000000) : wrap64 ((i : Int) + 1) = ((i + 1 : Nat) : Int) := by
  rw [wrap64_eq (by omega) (by omega)]
  omega
theorem history_Size_c1_eq (kd at_ : Int) (l : List S31) (hl : l.length ≤ 1000000) : ∀ (d i : Nat) (n : Int) (k : Nat), l.length - i = d → i ≤ l.length → 0 ≤ n → n + d ≤ 2000000 → d < k → history_Size_c1.l0 kd at_ k l (i : Int) n = some (n + cN (fun x => history_Size11.f x kd at_) (l.drop i)) := by
  intro d
  induction d with
  | zero =>
    intro i n k hd hi hn hb hk
    obtain ⟨k, rfl⟩ : ∃ q, k = q + 1 := ⟨k - 1, by omega⟩
    simp only [history_Size_c1.l0]
    rw [if_neg (by omega), List.drop_eq_nil_of_le (by omega)]
    simp [cN]
  | succ d ih =>
    intro i n k hd hi hn hb hk
    obtain ⟨k, rfl⟩ : ∃ q, k = q + 1 := ⟨k - 1, by omega⟩
    simp only [history_Size_c1.l0]
    rw [if_pos (by omega), if_pos (by omega), rd_at l i (by omega), cast_succ i (by omega)]
    simp only [cN]
    by_cases c : history_Size11.f (rd_T31 l (i : Int)) kd at_ = true
    · rw [if_pos c, if_pos c, wrap64_eq (n := n + 1) (by omega) (by omega), ih (i + 1) (n + 1) k (by omega) (by omega) (by omega) (by omega) (by omega)]
      congr 1
      omega
    · rw [if_neg c, if_neg c, ih (i + 1) n k (by omega) (by omega) (by omega) (by omega) (by omega)]
      congr 1
      omega
theorem history_Size_c2_eq (at_ : Int) (l : List S31) (hl : l.length ≤ 1000000) : ∀ (d i : Nat) (n : Int) (k : Nat), l.length - i = d → i ≤ l.length → 0 ≤ n → n + d ≤ 2000000 → d < k → history_Size_c2.l0 at_ k l (i : Int) n = some (n + cN (fun x => history_Size2.f x at_) (l.drop i)) := by
  intro d
  induction d with
  | zero =>
    intro i n k hd hi hn hb hk
    obtain ⟨k, rfl⟩ : ∃ q, k = q + 1 := ⟨k - 1, by omega⟩
    simp only [history_Size_c2.l0]
    rw [if_neg (by omega), List.drop_eq_nil_of_le (by omega)]
    simp [cN]
  | succ d ih =>
    intro i n k hd hi hn hb hk
    obtain ⟨k, rfl⟩ : ∃ q, k = q + 1 := ⟨k - 1, by omega⟩
    simp only [history_Size_c2.l0]
    rw [if_pos (by omega), if_pos (by omega), rd_at l i (by omega), cast_succ i (by omega)]
    simp only [cN]
    by_cases c : history_Size2.f (rd_T31 l (i : Int)) at_ = true
    · rw [if_pos c, if_pos c, wrap64_eq (n := n + 1) (by omega) (by omega), ih (i + 1) (n + 1) k (by omega) (by omega) (by omega) (by omega) (by omega)]
      congr 1
      omega
    · rw [if_neg c, if_neg c, ih (i + 1) n k (by omega) (by omega) (by omega) (by omega) (by omega)]
      congr 1
      omega
def over (x : S31) (a : Int) : Bool := decide (x.f3 ≥ 0 ∧ x.f3 < a)
def gain (a : Int) (x : S31) : Int := (if over x a = true ∧ x.f6.f1 = true ∧ x.f5.f0 = 1 then 1 else 0) - (if over x a = true ∧ x.f6.f1 = true ∧ x.f5.f0 = 2 then 1 else 0) + (if ¬ over x a = true ∧ x.f2 ≤ a then 1 else 0)
def gains (a : Int) : List S31 → Int
  | [] => 0
  | x :: t => gain a x + gains a t
theorem gain_cnt (a : Int) (x : S31) : gain a x = (if history_Size11.f x 1 a = true then (1 : Int) else 0) - (if history_Size11.f x 2 a = true then 1 else 0) + (if history_Size2.f x a = true then 1 else 0) := by
  have e1 : ∀ kd, (history_Size11.f x kd a = true) ↔ (over x a = true ∧ x.f6.f1 = true ∧ x.f5.f0 = kd) := by
    intro kd
    unfold history_Size11.f over
    by_cases h1 : x.f5.f0 = kd
    · rw [if_pos h1]
      by_cases h2 : x.f6.f1 = true
      · rw [if_pos h2]
        by_cases h3 : x.f3 ≥ 0
        · rw [if_pos h3]; simp [h1, h2, h3]
        · rw [if_neg h3]; simp [h3]
      · rw [if_neg h2]; simp [h2]
    · rw [if_neg h1]; simp [h1]
  have e2 : (history_Size2.f x a = true) ↔ (¬ over x a = true ∧ x.f2 ≤ a) := by
    unfold history_Size2.f over
    by_cases h1 : x.f2 ≤ a
    · rw [if_pos h1]
      by_cases h2 : x.f3 < 0
      · rw [if_pos h2]; simp [h1]; omega
      · rw [if_neg h2]; simp [h1]; omega
    · rw [if_neg h1]; simp [h1]
  unfold gain
  simp only [e1, e2]
theorem gain_bnd (a : Int) (x : S31) : -1 ≤ gain a x ∧ gain a x ≤ 2 := by
  rw [gain_cnt]
  split <;> split <;> split <;> omega
theorem gains_cnt (a : Int) (l : List S31) : gains a l = cN (fun x => history_Size11.f x 1 a) l - cN (fun x => history_Size11.f x 2 a) l + cN (fun x => history_Size2.f x a) l := by
  induction l with
  | nil => rfl
  | cons x t ih =>
    simp only [gains, cN, ih, gain_cnt]
    omega
theorem size_eq (k : Nat) (l : List S31) (a : Int) (hl : l.length ≤ 1000000) (hk : l.length < k) : history_Size.f k l a = some (gains a l) := by
  have b1 := cN_bnd (fun x => history_Size11.f x 1 a) l
  have b2 := cN_bnd (fun x => history_Size11.f x 2 a) l
  have b3 := cN_bnd (fun x => history_Size2.f x a) l
  have h2 : history_Size_c2.l0 a k l 0 0 = some (cN (fun x => history_Size2.f x a) l) := by
    have h := history_Size_c2_eq a l hl l.length 0 0 k (by omega) (by omega) (by omega) (by omega) hk
    simpa using h
  have h1 : ∀ kd, history_Size_c1.l0 kd a k l 0 0 = some (cN (fun x => history_Size11.f x kd a) l) := by
    intro kd
    have h := history_Size_c1_eq kd a l hl l.length 0 0 k (by omega) (by omega) (by omega) (by omega) hk
    simpa using h
  unfold history_Size.f
  rw [h2, h1, h1]
  simp only [Option.bind_some]
  rw [gains_cnt]
  generalize cN (fun x => history_Size11.f x 1 a) l = u at b1 ⊢
  generalize cN (fun x => history_Size11.f x 2 a) l = v at b2 ⊢
  generalize cN (fun x => history_Size2.f x a) l = z at b3 ⊢
  rw [wrap64_eq (n := u - v) (by omega) (by omega), wrap64_eq (n := u - v + z) (by omega) (by omega)]
theorem rsize_step (k : Nat) (l : List S31) (a n i : Int) (h0 : 0 ≤ i) (h1 : i < l.length) (hi : i ≤ 2000000) (hn : -2000000 ≤ n ∧ n ≤ 2000000) : corrieref19_Size.l0 (k + 5) l a n i = corrieref19_Size.l0 k l a (n + gain a (rd_T31 l i)) (i + 1) := by
  simp only [corrieref19_Size.l0, corrieref19_Size.j1, corrieref19_Size.j2, corrieref19_Size.j3, corrieref19_Size.j4]
  rw [if_pos h1, if_pos h0, wrap64_eq (n := i + 1) (by omega) (by omega)]
  generalize rd_T31 l i = x
  unfold gain over
  rw [wrap64_eq (n := n + 1) (by omega) (by omega), wrap64_eq (n := n - 1) (by omega) (by omega), wrap64_eq (n := n + 1 - 1) (by omega) (by omega), wrap64_eq (n := n - 1 + 1) (by omega) (by omega)]
  by_cases c1 : x.f3 ≥ 0
  · by_cases c2 : x.f3 < a
    · cases c3 : x.f6.f1
      · simp [c1, c2]
      · by_cases c4 : x.f5.f0 = 1
        · simp [c1, c2, c4]
        · by_cases c5 : x.f5.f0 = 2
          · simp [c1, c2, c5, Int.sub_eq_add_neg]
          · simp [c1, c2, c4, c5]
    · by_cases c6 : x.f2 ≤ a <;> simp [c1, c2, c6]
  · by_cases c6 : x.f2 ≤ a <;> simp [c1, c6]
theorem rsize_eq (l : List S31) (a : Int) (hl : l.length ≤ 1000000) : ∀ (d i : Nat) (n : Int) (k : Nat), l.length - i = d → i ≤ l.length → -1000000 ≤ n - d → n + 2 * d ≤ 2000000 → 5 * d < k → corrieref19_Size.l0 k l a n (i : Int) = some (n + gains a (l.drop i)) := by
  intro d
  induction d with
  | zero =>
    intro i n k hd hi hn hb hk
    obtain ⟨k, rfl⟩ : ∃ q, k = q + 1 := ⟨k - 1, by omega⟩
    simp only [corrieref19_Size.l0]
    rw [if_neg (by omega), List.drop_eq_nil_of_le (by omega)]
    simp [gains]
  | succ d ih =>
    intro i n k hd hi hn hb hk
    obtain ⟨k, rfl⟩ : ∃ q, k = q + 5 := ⟨k - 5, by omega⟩
    have g := gain_bnd a (rd_T31 l (i : Int))
    rw [rsize_step k l a n i (by omega) (by omega) (by omega) ⟨by omega, by omega⟩, show (i : Int) + 1 = ((i + 1 : Nat) : Int) from by omega, ih (i + 1) _ k (by omega) (by omega) (by omega) (by omega) (by omega), rd_at l i (by omega)]
    simp only [gains]
    congr 1
    omega
theorem rsize (k : Nat) (l : List S31) (a : Int) (hl : l.length ≤ 1000000) (hk : 5 * l.length < k) : corrieref19_Size.f k l a = some (gains a l) := by
  have h := rsize_eq l a hl l.length 0 0 k (by omega) (by omega) (by omega) (by omega) hk
  unfold corrieref19_Size.f
  rw [show (0 : Int) = ((0 : Nat) : Int) from rfl] at *
  rw [h]
  simp
theorem hin_c_eq (e : S31) (l : List S31) (hl : l.length ≤ 1000000) : ∀ (d i : Nat) (n : Int) (k : Nat), l.length - i = d → i ≤ l.length → 0 ≤ n → n + d ≤ 2000000 → d < k → hin_c.l0 e k l (i : Int) n = some (n + cN (fun x => history_Inserts1.f x e) (l.drop i)) := by
  intro d
  induction d with
  | zero =>
    intro i n k hd hi hn hb hk
    obtain ⟨k, rfl⟩ : ∃ q, k = q + 1 := ⟨k - 1, by omega⟩
    simp only [hin_c.l0]
    rw [if_neg (by omega), List.drop_eq_nil_of_le (by omega)]
    simp [cN]
  | succ d ih =>
    intro i n k hd hi hn hb hk
    obtain ⟨k, rfl⟩ : ∃ q, k = q + 1 := ⟨k - 1, by omega⟩
    simp only [hin_c.l0]
    rw [if_pos (by omega), if_pos (by omega), rd_at l i (by omega), cast_succ i (by omega)]
    simp only [cN]
    by_cases c : history_Inserts1.f (rd_T31 l (i : Int)) e = true
    · rw [if_pos c, if_pos c, wrap64_eq (n := n + 1) (by omega) (by omega), ih (i + 1) (n + 1) k (by omega) (by omega) (by omega) (by omega) (by omega)]
      congr 1
      omega
    · rw [if_neg c, if_neg c, ih (i + 1) n k (by omega) (by omega) (by omega) (by omega) (by omega)]
      congr 1
      omega
theorem rbefore_eq (a b : S31) : corrieref19_Before.f a.f0 a.f1 a.f2 a.f3 a.f4 a.f5.f0 a.f5.f1 a.f5.f2 a.f5.f3 a.f6.f0 a.f6.f1 a.f6.f2 a.f6.f3 b.f0 b.f1 b.f2 b.f3 b.f4 b.f5.f0 b.f5.f1 b.f5.f2 b.f5.f3 b.f6.f0 b.f6.f1 b.f6.f2 b.f6.f3 = some (hin_Bf.f a b) := by
  unfold corrieref19_Before.f hin_Bf.f
  split <;> rfl
theorem rins_eq (l : List S31) (e : S31) (hl : l.length ≤ 1000000) : ∀ (d i : Nat) (n : Int) (k : Nat), l.length - i = d → i ≤ l.length → 0 ≤ n → n + d ≤ 2000000 → d < k → corrieref19_Inserts.l0 k l n (i : Int) e.f0 e.f1 e.f2 e.f3 e.f4 e.f5.f0 e.f5.f1 e.f5.f2 e.f5.f3 e.f6.f0 e.f6.f1 e.f6.f2 e.f6.f3 = some (n + cN (fun x => history_Inserts1.f x e) (l.drop i)) := by
  intro d
  induction d with
  | zero =>
    intro i n k hd hi hn hb hk
    obtain ⟨k, rfl⟩ : ∃ q, k = q + 1 := ⟨k - 1, by omega⟩
    simp only [corrieref19_Inserts.l0]
    rw [if_neg (by omega), List.drop_eq_nil_of_le (by omega)]
    simp [cN]
  | succ d ih =>
    intro i n k hd hi hn hb hk
    obtain ⟨k, rfl⟩ : ∃ q, k = q + 1 := ⟨k - 1, by omega⟩
    simp only [corrieref19_Inserts.l0]
    rw [if_pos (by omega), if_pos (by omega), cast_succ i (by omega), rbefore_eq, rbefore_eq, wrap64_eq (n := n + 1) (by omega) (by omega), ih (i + 1) (n + 1) k (by omega) (by omega) (by omega) (by omega) (by omega), ih (i + 1) n k (by omega) (by omega) (by omega) (by omega) (by omega), rd_at l i (by omega)]
    simp only [cN, Option.bind_some]
    generalize rd_T31 l (i : Int) = x
    generalize cN (fun x => history_Inserts1.f x e) (l.drop (i + 1)) = R
    have q : history_Inserts1.f x e = if x.f5.f0 = 1 then (if hin_Bf.f e x = true then false else !(hin_Bf.f x e)) else false := rfl
    by_cases c1 : x.f5.f0 = 1
    · rw [if_pos c1]
      rw [if_pos c1] at q
      by_cases c2 : hin_Bf.f x e = true
      · rw [if_pos c2]
        have q2 : history_Inserts1.f x e = false := by rw [q, c2]; simp
        rw [if_neg (by rw [q2]; decide)]
        simp
      · rw [if_neg c2]
        by_cases c3 : hin_Bf.f e x = true
        · rw [if_pos c3]
          have q2 : history_Inserts1.f x e = false := by rw [q, if_pos c3]
          rw [if_neg (by rw [q2]; decide)]
          simp
        · rw [if_neg c3]
          have q2 : history_Inserts1.f x e = true := by rw [q, if_neg c3]; simpa using c2
          rw [if_pos q2]
          congr 1
          omega
    · rw [if_neg c1]
      rw [if_neg c1] at q
      rw [if_neg (by rw [q]; decide)]
      simp
theorem rins (k : Nat) (l : List S31) (e : S31) (hl : l.length ≤ 1000000) (hk : l.length < k) : corrieref19_Inserts.f k l e.f0 e.f1 e.f2 e.f3 e.f4 e.f5.f0 e.f5.f1 e.f5.f2 e.f5.f3 e.f6.f0 e.f6.f1 e.f6.f2 e.f6.f3 = some (cN (fun x => history_Inserts1.f x e) l) := by
  have h := rins_eq l e hl l.length 0 0 k (by omega) (by omega) (by omega) (by omega) hk
  unfold corrieref19_Inserts.f
  rw [show (0 : Int) = ((0 : Nat) : Int) from rfl] at *
  rw [h]
  simp
theorem ins (k : Nat) (l : List S31) (e : S31) (hl : l.length ≤ 1000000) (hk : l.length < k) : hin_c.l0 e k l 0 0 = some (cN (fun x => history_Inserts1.f x e) l) := by
  have h := hin_c_eq e l hl l.length 0 0 k (by omega) (by omega) (by omega) (by omega) hk
  rw [show (0 : Int) = ((0 : Nat) : Int) from rfl] at *
  rw [h]
  simp
theorem vrd (l : List S31) (i : Nat) (h : i < l.length) : rd_T31 l (i : Int) = l[i] := by
  unfold rd_T31
  simp [List.getD, h]
def conf (x y : S31) : Prop := x.f0 = y.f0 ∧ rva_Bf.f x y = false ∧ rva_Bf.f y x = false
def vok (x : S31) : Prop := ¬ x.f2 < 0 ∧ ¬ (x.f3 ≥ 0 ∧ x.f3 < x.f2)
theorem bf_same (x y : S31) : hva_Bf.f x y = rva_Bf.f x y := rfl
theorem clash_conf (x e : S31) : history_Valid1.f x e = true ↔ conf x e := by
  unfold history_Valid1.f conf
  rw [bf_same, bf_same]
  by_cases h : e.f0 = x.f0
  · rw [if_pos h]
    cases h1 : rva_Bf.f e x <;> cases h2 : rva_Bf.f x e <;> simp [h.symm]
  · rw [if_neg h]
    constructor
    · intro h1; cases h1
    · intro h1; exact absurd h1.1.symm h
def VP (l : List S31) (i : Nat) : Prop := ∀ m, i ≤ m → m < l.length → vok (rd_T31 l (m : Int)) ∧ ∀ j, j < m → ¬ conf (rd_T31 l (j : Int)) (rd_T31 l (m : Int))
theorem VP_end (l : List S31) (i : Nat) (h : l.length ≤ i) : VP l i := fun m h1 h2 => by omega
theorem VP_step (l : List S31) (i : Nat) (hi : i < l.length) (h1 : vok (rd_T31 l (i : Int))) (h2 : ∀ j, j < i → ¬ conf (rd_T31 l (j : Int)) (rd_T31 l (i : Int))) : VP l i ↔ VP l (i + 1) := by
  constructor
  · exact fun h m hm hl => h m (by omega) hl
  · intro h m hm hl
    rcases Nat.lt_or_ge i m with h3 | h3
    · exact h m (by omega) hl
    · obtain rfl : i = m := by omega
      exact ⟨h1, h2⟩
theorem vcast (i : Nat) (h : i < 4000000) : wrap64 ((i : Int) + 1) = ((i + 1 : Nat) : Int) := by
  unfold wrap64; omega
theorem rin_eq (l : List S31) (i : Nat) (hi : i < l.length) (hl : l.length ≤ 1000000) : ∀ (d j k : Nat), i - j = d → j ≤ i → d < k → ∃ b, rva_in k l (i : Int) (j : Int) = some b ∧ (b = true ↔ ∃ m, j ≤ m ∧ m < i ∧ conf (rd_T31 l (m : Int)) (rd_T31 l (i : Int))) := by
  intro d
  induction d with
  | zero =>
    intro j k hd hj hk
    obtain ⟨k, rfl⟩ : ∃ q, k = q + 1 := ⟨k - 1, by omega⟩
    unfold rva_in
    rw [if_neg (by omega)]
    exact ⟨false, rfl, ⟨fun h => (by cases h), fun ⟨m, h1, h2, _⟩ => by omega⟩⟩
  | succ d ih =>
    intro j k hd hj hk
    obtain ⟨k, rfl⟩ : ∃ q, k = q + 1 := ⟨k - 1, by omega⟩
    obtain ⟨b, hb, hiff⟩ := ih (j + 1) k (by omega) (by omega) (by omega)
    unfold rva_in
    rw [if_pos (by omega), if_pos (by omega), vcast j (by omega), hb]
    have next : ¬ conf (rd_T31 l (j : Int)) (rd_T31 l (i : Int)) → (b = true ↔ ∃ m, j ≤ m ∧ m < i ∧ conf (rd_T31 l (m : Int)) (rd_T31 l (i : Int))) := fun hn => by
      rw [hiff]
      constructor
      · rintro ⟨m, h1, h2, h3⟩; exact ⟨m, by omega, h2, h3⟩
      · rintro ⟨m, h1, h2, h3⟩
        rcases Nat.lt_or_ge j m with h4 | h4
        · exact ⟨m, by omega, h2, h3⟩
        · obtain rfl : j = m := by omega
          exact absurd h3 hn
    by_cases c1 : (rd_T31 l (j : Int)).f0 = (rd_T31 l (i : Int)).f0
    · rw [if_pos c1]
      by_cases c2 : rva_Bf.f (rd_T31 l (j : Int)) (rd_T31 l (i : Int)) = true
      · rw [if_pos c2]
        exact ⟨b, rfl, next (fun h => by rw [h.2.1] at c2; cases c2)⟩
      · rw [if_neg c2]
        by_cases c3 : rva_Bf.f (rd_T31 l (i : Int)) (rd_T31 l (j : Int)) = true
        · rw [if_pos c3]
          exact ⟨b, rfl, next (fun h => by rw [h.2.2] at c3; cases c3)⟩
        · rw [if_neg c3]
          exact ⟨true, rfl, ⟨fun _ => ⟨j, Nat.le_refl _, by omega, c1, Bool.eq_false_iff.mpr c2, Bool.eq_false_iff.mpr c3⟩, fun _ => rfl⟩⟩
    · rw [if_neg c1]
      exact ⟨b, rfl, next (fun h => c1 h.1)⟩
theorem bad_VP (l : List S31) (i : Nat) (hi : i < l.length) (h : ¬ vok (rd_T31 l (i : Int))) : ¬ VP l i := fun hp => h (hp i (Nat.le_refl _) hi).1
theorem rvalid_eq (l : List S31) (hl : l.length ≤ 1000000) : ∀ (d i k : Nat), l.length - i = d → i ≤ l.length → d + l.length + 2 ≤ k → ∃ b, corrieref19_Valid.l0 k l (i : Int) = some b ∧ (b = true ↔ VP l i) := by
  intro d
  induction d with
  | zero =>
    intro i k hd hi hk
    obtain ⟨k, rfl⟩ : ∃ q, k = q + 1 := ⟨k - 1, by omega⟩
    unfold corrieref19_Valid.l0
    rw [if_neg (by omega)]
    exact ⟨true, rfl, ⟨fun _ => VP_end l i (by omega), fun _ => rfl⟩⟩
  | succ d ih =>
    intro i k hd hi hk
    obtain ⟨k, rfl⟩ : ∃ q, k = q + 1 := ⟨k - 1, by omega⟩
    obtain ⟨b, hb, hiff⟩ := ih (i + 1) k (by omega) (by omega) (by omega)
    obtain ⟨c, hc, hciff⟩ := rin_eq l i (by omega) hl i 0 k (by omega) (by omega) (by omega)
    rw [show ((0 : Nat) : Int) = 0 from rfl] at hc
    unfold corrieref19_Valid.l0
    rw [if_pos (by omega), if_pos (by omega), vcast i (by omega), hb, hc]
    simp only [Option.bind_some]
    by_cases c1 : (rd_T31 l (i : Int)).f2 < 0
    · rw [if_pos c1]
      exact ⟨false, rfl, ⟨fun h => (by cases h), fun h => absurd h (bad_VP l i (by omega) (fun hv => hv.1 c1))⟩⟩
    · rw [if_neg c1]
      have fin : vok (rd_T31 l (i : Int)) → ∃ b_1, (if c = true then some false else some b) = some b_1 ∧ (b_1 = true ↔ VP l i) := fun hv => by
        cases c with
        | true =>
          obtain ⟨m, _, h2, h3⟩ := hciff.1 rfl
          exact ⟨false, rfl, ⟨fun h => (by cases h), fun h => absurd h3 ((h i (Nat.le_refl _) (by omega)).2 m h2)⟩⟩
        | false =>
          refine ⟨b, rfl, ?_⟩
          rw [hiff]
          exact (VP_step l i (by omega) hv (fun j hj hc => by have := hciff.2 ⟨j, Nat.zero_le _, hj, hc⟩; cases this)).symm
      by_cases c2 : (rd_T31 l (i : Int)).f3 ≥ 0
      · rw [if_pos c2]
        by_cases c3 : (rd_T31 l (i : Int)).f3 < (rd_T31 l (i : Int)).f2
        · rw [if_pos c3]
          exact ⟨false, rfl, ⟨fun h => (by cases h), fun h => absurd h (bad_VP l i (by omega) (fun hv => hv.2 ⟨c2, c3⟩))⟩⟩
        · rw [if_neg c3]
          exact fin ⟨c1, fun h => c3 h.2⟩
      · rw [if_neg c2]
        exact fin ⟨c1, fun h => c2 h.1⟩
theorem hix_eq (e : S31) (l : List S31) (hl : l.length ≤ 1000000) : ∀ (d j k : Nat), l.length - j = d → j ≤ l.length → d < k → ∃ r, hva_ix.l0 e k l (j : Int) = some r ∧ (0 ≤ r ↔ ∃ m, j ≤ m ∧ m < l.length ∧ history_Valid1.f (rd_T31 l (m : Int)) e = true) := by
  intro d
  induction d with
  | zero =>
    intro j k hd hj hk
    obtain ⟨k, rfl⟩ : ∃ q, k = q + 1 := ⟨k - 1, by omega⟩
    unfold hva_ix.l0
    rw [if_neg (by omega)]
    exact ⟨-1, rfl, ⟨fun h => by omega, fun ⟨m, h1, h2, _⟩ => by omega⟩⟩
  | succ d ih =>
    intro j k hd hj hk
    obtain ⟨k, rfl⟩ : ∃ q, k = q + 1 := ⟨k - 1, by omega⟩
    obtain ⟨r, hr, hiff⟩ := ih (j + 1) k (by omega) (by omega) (by omega)
    unfold hva_ix.l0
    rw [if_pos (by omega), if_pos (by omega), vcast j (by omega), hr]
    by_cases c : history_Valid1.f (rd_T31 l (j : Int)) e = true
    · rw [if_pos c]
      exact ⟨j, rfl, ⟨fun _ => ⟨j, Nat.le_refl _, by omega, c⟩, fun _ => by omega⟩⟩
    · rw [if_neg c]
      refine ⟨r, rfl, ?_⟩
      rw [hiff]
      constructor
      · rintro ⟨m, h1, h2, h3⟩; exact ⟨m, by omega, h2, h3⟩
      · rintro ⟨m, h1, h2, h3⟩
        rcases Nat.lt_or_ge j m with h4 | h4
        · exact ⟨m, by omega, h2, h3⟩
        · obtain rfl : j = m := by omega
          exact absurd h3 c
theorem take_rd (l : List S31) (i m : Nat) (hm : m < i) (hi : i ≤ l.length) : rd_T31 (l.take i) (m : Int) = rd_T31 l (m : Int) := by
  rw [vrd (l.take i) m (by rw [List.length_take]; omega), vrd l m (by omega), List.getElem_take]
theorem hvalid_eq (l : List S31) (hl : l.length ≤ 1000000) : ∀ (d i k : Nat), l.length - i = d → i ≤ l.length → d + l.length + 2 ≤ k → ∃ b, history_Valid.l0 k l (i : Int) = some b ∧ (b = true ↔ VP l i) := by
  intro d
  induction d with
  | zero =>
    intro i k hd hi hk
    obtain ⟨k, rfl⟩ : ∃ q, k = q + 1 := ⟨k - 1, by omega⟩
    unfold history_Valid.l0
    rw [if_neg (by omega)]
    exact ⟨true, rfl, ⟨fun _ => VP_end l i (by omega), fun _ => rfl⟩⟩
  | succ d ih =>
    intro i k hd hi hk
    obtain ⟨k, rfl⟩ : ∃ q, k = q + 1 := ⟨k - 1, by omega⟩
    obtain ⟨b, hb, hiff⟩ := ih (i + 1) k (by omega) (by omega) (by omega)
    have hil : (l.take i).length = i := by rw [List.length_take]; omega
    obtain ⟨c, hc, hciff⟩ := hix_eq (rd_T31 l (i : Int)) (l.take i) (by omega) i 0 k (by omega) (by omega) (by omega)
    rw [show ((0 : Nat) : Int) = 0 from rfl] at hc
    have hq : 0 ≤ c ↔ ∃ m, m < i ∧ conf (rd_T31 l (m : Int)) (rd_T31 l (i : Int)) := by
      rw [hciff]
      constructor
      · rintro ⟨m, _, h2, h3⟩
        rw [hil] at h2
        rw [take_rd l i m h2 hi] at h3
        exact ⟨m, h2, (clash_conf _ _).1 h3⟩
      · rintro ⟨m, h2, h3⟩
        exact ⟨m, Nat.zero_le _, by omega, by rw [take_rd l i m h2 hi]; exact (clash_conf _ _).2 h3⟩
    unfold history_Valid.l0
    rw [if_pos (by omega), if_pos (by omega), vcast i (by omega), hb]
    rw [show ((i : Int)).toNat = i from rfl, hc]
    simp only [Option.bind_some]
    by_cases c1 : (rd_T31 l (i : Int)).f2 < 0
    · rw [if_pos c1]
      exact ⟨false, rfl, ⟨fun h => (by cases h), fun h => absurd h (bad_VP l i (by omega) (fun hv => hv.1 c1))⟩⟩
    · rw [if_neg c1]
      have fin : vok (rd_T31 l (i : Int)) → ∃ b_1, (if 0 ≤ c then some false else some b) = some b_1 ∧ (b_1 = true ↔ VP l i) := fun hv => by
        by_cases hc0 : 0 ≤ c
        · rw [if_pos hc0]
          obtain ⟨m, h2, h3⟩ := hq.1 hc0
          exact ⟨false, rfl, ⟨fun h => (by cases h), fun h => absurd h3 ((h i (Nat.le_refl _) (by omega)).2 m h2)⟩⟩
        · rw [if_neg hc0]
          refine ⟨b, rfl, ?_⟩
          rw [hiff]
          exact (VP_step l i (by omega) hv (fun j hj hc => hc0 (hq.2 ⟨j, hj, hc⟩))).symm
      by_cases c2 : (rd_T31 l (i : Int)).f3 ≥ 0
      · rw [if_pos c2]
        by_cases c3 : (rd_T31 l (i : Int)).f3 < (rd_T31 l (i : Int)).f2
        · rw [if_pos c3]
          exact ⟨false, rfl, ⟨fun h => (by cases h), fun h => absurd h (bad_VP l i (by omega) (fun hv => hv.2 ⟨c2, c3⟩))⟩⟩
        · rw [if_neg c3]
          exact fin ⟨c1, fun h => c3 h.2⟩
      · rw [if_neg c2]
        exact fin ⟨c1, fun h => c2 h.1⟩
theorem rvalid (l : List S31) (hl : l.length ≤ 12) (k : Nat) (hk : 30 ≤ k) : ∃ b, corrieref19_Valid.f k l = some b ∧ (b = true ↔ VP l 0) := rvalid_eq l (by omega) l.length 0 k (by omega) (by omega) (by omega)
theorem hvalid (l : List S31) (hl : l.length ≤ 12) (k : Nat) (hk : 30 ≤ k) : ∃ b, history_Valid.f k l = some b ∧ (b = true ↔ VP l 0) := hvalid_eq l (by omega) l.length 0 k (by omega) (by omega) (by omega)
theorem VP_list (l : List S31) : VP l 0 ↔ (∀ x ∈ l, vok x) ∧ l.Pairwise (fun x y => ¬ conf x y) := by
  rw [List.pairwise_iff_getElem]
  constructor
  · intro h
    refine ⟨fun x hx => ?_, fun i j hi hj hij => ?_⟩
    · obtain ⟨m, hm, rfl⟩ := List.mem_iff_getElem.1 hx
      have := (h m (Nat.zero_le _) hm).1
      rwa [vrd l m hm] at this
    · have := (h j (Nat.zero_le _) hj).2 i hij
      rwa [vrd l j hj, vrd l i hi] at this
  · rintro ⟨h1, h2⟩ m _ hm
    refine ⟨by rw [vrd l m hm]; exact h1 _ (List.getElem_mem _), fun j hj => ?_⟩
    rw [vrd l m hm, vrd l j (by omega)]
    exact h2 j m (by omega) hm hj
theorem VP_sub {l' l : List S31} (hs : l'.Sublist l) (h : VP l 0) : VP l' 0 := by
  rw [VP_list] at h ⊢
  exact ⟨fun x hx => h.1 x (hs.subset hx), h.2.sublist hs⟩
theorem few2_eq (l : List S31) : ∀ (d i k : Nat), 13 - i = d → i ≤ 13 → 2 * d + 2 < k → ∃ z, corrieref19_Few.l0 k l 12 (i : Int) = some z ∧ (z = true → l.length ≤ 12 ∧ ∀ m, i ≤ m → m < l.length → (rd_T31 l (m : Int)).f6.f3.length ≤ 20) := by
  intro d
  induction d with
  | zero =>
    intro i k hd hi hk
    obtain ⟨k, rfl⟩ : ∃ q, k = q + 2 := ⟨k - 2, by omega⟩
    simp only [corrieref19_Few.l0, corrieref19_Few.j1]
    have c : decide ((i : Int) ≤ 12) = false := decide_eq_false (by omega)
    rw [c]
    refine ⟨decide ((l.length : Int) ≤ 12), ?_, fun h => by have := of_decide_eq_true h; exact ⟨by omega, fun m h1 h2 => by omega⟩⟩
    split <;> rfl
  | succ d ih =>
    intro i k hd hi hk
    obtain ⟨k, rfl⟩ : ∃ q, k = q + 2 := ⟨k - 2, by omega⟩
    simp only [corrieref19_Few.l0, corrieref19_Few.j1]
    have c : decide ((i : Int) ≤ 12) = true := decide_eq_true (by omega)
    rw [c]
    by_cases h1 : (i : Int) < l.length
    · rw [if_pos h1, if_pos rfl, if_pos (by omega), if_pos h1]
      by_cases h2 : (((rd_T31 l (i : Int)).f6.f3.length : Nat) : Int) > 20
      · rw [if_pos h2]
        exact ⟨false, rfl, fun h => by cases h⟩
      · rw [if_neg h2, cast_succ i (by omega)]
        obtain ⟨z, hz, hzz⟩ := ih (i + 1) k (by omega) (by omega) (by omega)
        refine ⟨z, hz, fun h => ⟨(hzz h).1, fun m h3 h4 => ?_⟩⟩
        rcases Nat.lt_or_ge i m with h5 | h5
        · exact (hzz h).2 m (by omega) h4
        · obtain rfl : i = m := by omega
          omega
    · rw [if_neg h1, if_neg (by decide)]
      exact ⟨_, rfl, fun h => by have := of_decide_eq_true h; exact ⟨by omega, fun m h3 h4 => by omega⟩⟩
theorem few2 (k : Nat) (l : List S31) (hk : 28 < k) : ∃ z, corrieref19_Few.f k l 12 = some z ∧ (z = true → l.length ≤ 12 ∧ ∀ x ∈ l, x.f6.f3.length ≤ 20) := by
  obtain ⟨z, h, hz⟩ := few2_eq l 13 0 k (by omega) (by omega) (by omega)
  unfold corrieref19_Few.f
  refine ⟨z, h, fun ht => ⟨(hz ht).1, fun x hx => ?_⟩⟩
  obtain ⟨m, hm, rfl⟩ := List.mem_iff_getElem.1 hx
  have := (hz ht).2 m (Nat.zero_le _) hm
  rwa [vrd l m hm] at this
theorem eq_l0 (a : Int) (b : Bool) (c : Int) (l : List S49) (hl : l.length ≤ 20) : ∀ (d i k : Nat), l.length - i = d → i ≤ l.length → d < k → corrieref19_Equal.l0 k (i : Int) a b c l a b c l = some true := by
  intro d
  induction d with
  | zero =>
    intro i k hd hi hk
    obtain ⟨k, rfl⟩ : ∃ q, k = q + 1 := ⟨k - 1, by omega⟩
    unfold corrieref19_Equal.l0
    rw [if_neg (by omega)]
  | succ d ih =>
    intro i k hd hi hk
    obtain ⟨k, rfl⟩ : ∃ q, k = q + 1 := ⟨k - 1, by omega⟩
    unfold corrieref19_Equal.l0
    rw [if_pos (by omega), if_pos (by omega), if_pos (by omega), if_neg (by simp), cast_succ i (by omega)]
    exact ih (i + 1) k (by omega) (by omega) (by omega)
theorem equal_self (x : S31) (hp : x.f6.f3.length ≤ 20) (k : Nat) (hk : 30 ≤ k) : corrieref19_Equal.f k x.f0 x.f1 x.f2 x.f3 x.f4 x.f5.f0 x.f5.f1 x.f5.f2 x.f5.f3 x.f6.f0 x.f6.f1 x.f6.f2 x.f6.f3 x.f0 x.f1 x.f2 x.f3 x.f4 x.f5.f0 x.f5.f1 x.f5.f2 x.f5.f3 x.f6.f0 x.f6.f1 x.f6.f2 x.f6.f3 = some true := by
  obtain ⟨k, rfl⟩ : ∃ q, k = q + 2 := ⟨k - 2, by omega⟩
  unfold corrieref19_Equal.f
  simp only [if_true, beq_self_eq_true, Bool.not_true, Bool.or_false, corrieref19_Equal.j0, corrieref19_Equal.j1, bne_self_eq_false, Bool.false_eq_true, if_false]
  exact eq_l0 _ _ _ _ hp x.f6.f3.length 0 k (by omega) (by omega) (by omega)
theorem same_self_eq (l : List S31) (hl : l.length ≤ 12) (hp : ∀ x ∈ l, x.f6.f3.length ≤ 20) : ∀ (d i k : Nat), l.length - i = d → i ≤ l.length → d + 40 < k → corrieref19_Same.l0 k l l (i : Int) = some true := by
  intro d
  induction d with
  | zero =>
    intro i k hd hi hk
    obtain ⟨k, rfl⟩ : ∃ q, k = q + 1 := ⟨k - 1, by omega⟩
    unfold corrieref19_Same.l0
    rw [if_neg (by omega)]
  | succ d ih =>
    intro i k hd hi hk
    obtain ⟨k, rfl⟩ : ∃ q, k = q + 1 := ⟨k - 1, by omega⟩
    unfold corrieref19_Same.l0
    rw [if_pos (by omega), if_pos (by omega), if_pos (by omega), equal_self (rd_T31 l (i : Int)) (by rw [vrd l i (by omega)]; exact hp _ (List.getElem_mem _)) k (by omega)]
    simp only [Option.bind_some, if_true]
    rw [cast_succ i (by omega)]
    exact ih (i + 1) k (by omega) (by omega) (by omega)
theorem same_self (l : List S31) (hl : l.length ≤ 12) (hp : ∀ x ∈ l, x.f6.f3.length ≤ 20) (k : Nat) (hk : 60 ≤ k) : corrieref19_Same.f k l l = some true := by
  unfold corrieref19_Same.f
  rw [if_pos rfl]
  exact same_self_eq l hl hp l.length 0 k (by omega) (by omega) (by omega)
theorem law (l : List S31) (a : Int) (e : S31) : corrielaw19_HistoryTells.g 100 l a e = some true := by
  unfold corrielaw19_HistoryTells.g
  obtain ⟨z, hz, hzl⟩ := few2 100 l (by omega)
  rw [hz]
  simp only [Option.bind_some]
  cases z with
  | false => rfl
  | true =>
    obtain ⟨hl, hp⟩ := hzl rfl
    rw [if_pos rfl, if_pos hl]
    obtain ⟨v, hv, hvi⟩ := hvalid l hl 100 (by omega)
    obtain ⟨u, hu, hui⟩ := rvalid l hl 100 (by omega)
    have huv : v = u := by
      rw [Bool.eq_iff_iff, hvi, hui]
    have hs := same_self (l.filter fun x => !history_Points1.f x) (Nat.le_trans (List.length_filter_le _ _) hl) (fun x hx => hp x (List.mem_filter.1 hx).1) 100 (by omega)
    rw [hv, hu, hs, size_eq 100 l a (by omega) (by omega), rsize 100 l a (by omega) (by omega), ins 100 l e (by omega) (by omega), rins 100 l e (by omega) (by omega)]
    simp only [Option.bind_some]
    rw [if_pos ⟨huv, trivial, trivial, trivial⟩]
theorem proof : corrielaw19_HistoryTells.Pure := by
  unfold corrielaw19_HistoryTells.Pure
  intros
  exact ⟨100, law _ _ _⟩
end Go.Proofs.Ytpcmoclohepdiad.Pure.HistoryTells
namespace Go.Proofs.Ytpcmoclohepdiad.Pure
theorem HistoryTells : Go.Proofs.Ytpcmoclohepdiad.PHistoryTells.corrielaw19_HistoryTells.Pure := HistoryTells.proof
end Go.Proofs.Ytpcmoclohepdiad.Pure
