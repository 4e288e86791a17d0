/- Chapter 17, MergePairs: any lists of pairs put together, so many at most; and whether the keys of what was told rise. -/
import Derived.Test.YtahifbdggbeajabStmMergePairs
namespace Go.Proofs.Ytahifbdggbeajab.Pure.MergePairs
open Go.RowKit Go.Proofs.Ytahifbdggbeajab.PMergePairs Go.Proofs.YtahifbdggbeajabW.PrintWords Go.Proofs.YtahifbdggbeajabW.PrintLast Go.Proofs.YtahifbdggbeajabW.PrintMore
set_option linter.unusedVariables false
set_option linter.unusedSimpArgs false
theorem wrap64_eq {n : Int} (h0 : -9223372036854775808 ≤ n) (h1 : n ≤ 9223372036854775807) : wrap64 n = n := by unfold wrap64; omega
theorem cast_succ (i : Nat) (h : i < 4000000) : wrap64 ((i : Int) + 1) = ((i + 1 : Nat) : Int) := by
  rw [wrap64_eq (by omega) (by omega)]
  omega
theorem rd_get (l : List S32) (i : Nat) (h : i < l.length) : rd_T32 l (i : Int) = l[i] := by
  unfold rd_T32
  simp [List.getD, h]
theorem rdL_get (l : List (List S32)) (i : Nat) (h : i < l.length) : rd_L2 l (i : Int) = l[i] := by
  unfold rd_L2
  simp [List.getD, h]
theorem up_to {α : Type} (f : Nat → Option α) (hm : ∀ k, LeO (f k) (f (k + 1))) {n : Nat} {r : α} (h : f n = some r) : ∀ k, n ≤ k → f k = some r := by
  intro k hk
  induction k with
  | zero =>
    obtain rfl : n = 0 := by omega
    exact h
  | succ k ih =>
    by_cases e : n = k + 1
    · subst e
      exact h
    · exact hm k _ (ih (by omega))
theorem awake_ev : ∀ k, 12 ≤ k → corrielaw17_awake.f k = some true := up_to _ corrielaw17_awake.mono (n := 12) (by
  unfold corrielaw17_awake.f
  decide +kernel)
theorem few_ev (l : List (List S32)) : ∀ (d i k : Nat), l.length - i = d → i ≤ l.length → i ≤ 9 → 2 * d + 4 ≤ k → ∃ b, corrieref17_Few.l0 k l (i : Int) = some b ∧ (b = true → l.length ≤ 8 ∧ ∀ j (hj : j < l.length), i ≤ j → (l[j]).length ≤ 20) := by
  intro d
  induction d with
  | zero =>
    intro i k hd hi h9 hk
    obtain ⟨k, rfl⟩ : ∃ q, k = q + 2 := ⟨k - 2, by omega⟩
    simp only [corrieref17_Few.l0]
    rw [if_neg (by omega)]
    simp only [corrieref17_Few.j1]
    refine ⟨_, rfl, fun h => ⟨?_, fun j hj hij => by omega⟩⟩
    have : (l.length : Int) ≤ 8 := by simpa using h
    omega
  | succ d ih =>
    intro i k hd hi h9 hk
    obtain ⟨k, rfl⟩ : ∃ q, k = q + 2 := ⟨k - 2, by omega⟩
    simp only [corrieref17_Few.l0]
    rw [if_pos (by omega)]
    simp only [corrieref17_Few.j1]
    by_cases h : (i : Int) < 9
    · rw [if_pos (by simpa using h), if_pos (by omega), if_pos (by omega), rdL_get l i (by omega)]
      by_cases hc : ((l[i]'(by omega)).length : Int) > 20
      · rw [if_pos hc]
        exact ⟨false, rfl, fun h => by cases h⟩
      · rw [if_neg hc, cast_succ i (by omega)]
        obtain ⟨b, h1, h2⟩ := ih (i + 1) k (by omega) (by omega) (by omega) (by omega)
        refine ⟨b, h1, fun hb => ⟨(h2 hb).1, fun j hj hij => ?_⟩⟩
        by_cases e : j = i
        · subst e
          omega
        · exact (h2 hb).2 j hj (by omega)
    · rw [if_neg (by simpa using h)]
      refine ⟨_, rfl, fun h2 => ?_⟩
      have : (l.length : Int) ≤ 8 := by simpa using h2
      omega
def Small (l : List (List S32)) : Prop := l.length ≤ 8 ∧ ∀ x ∈ l, x.length ≤ 20
theorem few_f (l : List (List S32)) (k : Nat) (hk : 2 * l.length + 4 ≤ k) : ∃ b, corrieref17_Few.f k l = some b ∧ (b = true → Small l) := by
  obtain ⟨b, h1, h2⟩ := few_ev l l.length 0 k (by omega) (by omega) (by omega) (by omega)
  refine ⟨b, h1, fun hb => ⟨(h2 hb).1, fun x hx => ?_⟩⟩
  obtain ⟨j, hj, rfl⟩ := List.getElem_of_mem hx
  exact (h2 hb).2 j hj (by omega)
theorem sum_small (l : List (List S32)) (m : Nat) (h : ∀ x ∈ l, x.length ≤ m) : (l.map List.length).sum ≤ m * l.length := by
  induction l with
  | nil => simp
  | cons a t ih =>
    have h1 := h a List.mem_cons_self
    have h2 := ih (fun x hx => h x (List.mem_cons_of_mem _ hx))
    simp only [List.map_cons, List.sum_cons, List.length_cons, Nat.mul_succ]
    omega
theorem small_sum {l : List (List S32)} (h : Small l) : (l.map List.length).sum ≤ 160 := by
  have h1 := sum_small l 20 h.2
  have h2 := h.1
  omega
theorem pairs_f {l : List (List S32)} (h : Small l) (a : Int) : merge_Pairs.f l a = some (mgo a.toNat l) := by
  unfold merge_Pairs.f
  rw [if_pos ⟨by have := h.1; omega, by have := small_sum h; omega⟩]
/-! what is picked -/
theorem stf_min (pre : List (Nat × S32)) : ∀ (s : Int × S32), (0 ≤ s.1 → 0 ≤ (pre.foldl pickS s).1 ∧ (pre.foldl pickS s).2.f0 ≤ s.2.f0) ∧ ∀ y ∈ pre, 0 ≤ (pre.foldl pickS s).1 ∧ (pre.foldl pickS s).2.f0 ≤ y.2.f0 := by
  induction pre with
  | nil => exact fun s => ⟨fun h => ⟨h, Int.le_refl _⟩, fun y hy => by cases hy⟩
  | cons z t ih =>
    intro s
    obtain ⟨i1, i2⟩ := ih (pickS s z)
    have hz : 0 ≤ (pickS s z).1 ∧ (pickS s z).2.f0 ≤ z.2.f0 := by
      unfold pickS
      split
      · exact ⟨by simp, Int.le_refl _⟩
      · rename_i h
        exact ⟨by omega, by omega⟩
    rw [List.foldl_cons]
    refine ⟨fun hs => ?_, fun y hy => ?_⟩
    · have h2 : (pickS s z).2.f0 ≤ s.2.f0 := by
        unfold pickS
        split
        · rename_i h
          dsimp only
          omega
        · exact Int.le_refl _
      exact ⟨(i1 hz.1).1, Int.le_trans (i1 hz.1).2 h2⟩
    · rcases List.mem_cons.1 hy with rfl | hy
      · exact ⟨(i1 hz.1).1, Int.le_trans (i1 hz.1).2 hz.2⟩
      · exact i2 y hy
theorem yl_of (l : List (List S32)) : ∀ (i j : Nat) (x : S32) (t : List S32), l[j]? = some (x :: t) → (i + j, x) ∈ yl l i := by
  induction l with
  | nil => intro i j x t h; simp at h
  | cons a r ih =>
    intro i j x t h
    unfold yl
    cases j with
    | zero =>
      simp at h
      subst h
      simp
    | succ j =>
      refine List.mem_append_right _ ?_
      have := ih (i + 1) j x t (by simpa using h)
      rw [show i + (j + 1) = i + 1 + j from by omega]
      exact this
/-- one step: nothing is left, or the least head goes -/
theorem step_cases (rest : List (List S32)) : ((stf (yl rest 0)).1 < 0 ∧ ∀ l ∈ rest, l = []) ∨ ∃ (j : Nat) (x : S32) (t : List S32), rest[j]? = some (x :: t) ∧ stf (yl rest 0) = ((j : Int), x) ∧ ∀ l ∈ rest, ∀ y r, l = y :: r → x.f0 ≤ y.f0 := by
  by_cases h : (stf (yl rest 0)).1 < 0
  · refine .inl ⟨h, fun l hl => ?_⟩
    cases l with
    | nil => rfl
    | cons x t =>
      obtain ⟨j, hj, e⟩ := List.getElem_of_mem hl
      have hm := yl_of rest 0 j x t (by rw [List.getElem?_eq_getElem hj, e])
      have := ((stf_min (yl rest 0) (-1, z32)).2 _ hm).1
      unfold stf at h
      omega
  · rcases stf_mem (-1, z32) (yl rest 0) with e | ⟨y, hy, e⟩
    · exact absurd (show (stf (yl rest 0)).1 < 0 from by unfold stf; rw [e]; decide) h
    · obtain ⟨_, t, h2⟩ := yl_mem _ _ _ hy
      rw [Nat.sub_zero] at h2
      refine .inr ⟨y.1, y.2, t, h2, e, fun l hl z r el => ?_⟩
      obtain ⟨j, hj, e2⟩ := List.getElem_of_mem hl
      have hm := yl_of rest 0 j z r (by rw [List.getElem?_eq_getElem hj, e2, el])
      have := ((stf_min (yl rest 0) (-1, z32)).2 _ hm).2
      have e3 : (stf (yl rest 0)).2 = y.2 := by unfold stf; rw [e]
      unfold stf at e3
      rw [← e3]
      exact this
theorem mgo_stop {rest : List (List S32)} (h : (stf (yl rest 0)).1 < 0) (n : Nat) : mgo n rest = [] := by
  cases n with
  | zero => rfl
  | succ n => rw [mgo, if_pos h]
theorem mgo_go {rest : List (List S32)} {j : Nat} {x : S32} {t : List S32} (h : stf (yl rest 0) = ((j : Int), x)) (hr : rest[j]? = some (x :: t)) (n : Nat) : mgo (n + 1) rest = x :: mgo n (rest.set j t) := by
  rw [mgo, h, if_neg (show ¬ ((j : Int), x).1 < 0 from by simp)]
  simp [List.getD, hr]
theorem all_nil_sum {rest : List (List S32)} (h : ∀ l ∈ rest, l = []) : (rest.map List.length).sum = 0 := by
  have := sum_small rest 0 (fun x hx => by rw [h x hx]; simp)
  omega
theorem mgo_len : ∀ (n : Nat) (rest : List (List S32)), (mgo n rest).length = min n (rest.map List.length).sum := by
  intro n
  induction n with
  | zero => intro rest; simp [mgo]
  | succ n ih =>
    intro rest
    rcases step_cases rest with ⟨h1, h2⟩ | ⟨j, x, t, h1, h2, h3⟩
    · rw [mgo_stop h1, all_nil_sum h2]
      simp
    · have := sum_set _ _ _ _ h1
      rw [mgo_go h2 h1, List.length_cons, ih]
      omega
theorem mgo_take : ∀ (a b : Nat) (rest : List (List S32)), a ≤ b → mgo a rest = (mgo b rest).take a := by
  intro a
  induction a with
  | zero => intro b rest _; simp [mgo]
  | succ a ih =>
    intro b rest hb
    obtain ⟨b, rfl⟩ : ∃ q, b = q + 1 := ⟨b - 1, by omega⟩
    rcases step_cases rest with ⟨h1, h2⟩ | ⟨j, x, t, h1, h2, h3⟩
    · rw [mgo_stop h1, mgo_stop h1]
      simp
    · rw [mgo_go h2 h1, mgo_go h2 h1, List.take_succ_cons, ih b _ (by omega)]
theorem same_self (l : List S32) (hl : l.length ≤ 1000) : ∀ (d i k : Nat), l.length - i = d → i ≤ l.length → d < k → corrieref09_Same.l0 k l l (i : Int) = some true := by
  intro d
  induction d with
  | zero =>
    intro i k hd hi hk
    obtain ⟨k, rfl⟩ : ∃ q, k = q + 1 := ⟨k - 1, by omega⟩
    simp only [corrieref09_Same.l0]
    rw [if_neg (by omega)]
  | succ d ih =>
    intro i k hd hi hk
    obtain ⟨k, rfl⟩ : ∃ q, k = q + 1 := ⟨k - 1, by omega⟩
    simp only [corrieref09_Same.l0]
    rw [if_pos (by omega), if_pos (by omega), if_pos (by omega), if_neg (by simp), cast_succ i (by omega)]
    exact ih (i + 1) k (by omega) (by omega) (by omega)
theorem same_f (l : List S32) (hl : l.length ≤ 1000) (k : Nat) (hk : l.length < k) : corrieref09_Same.f k l l = some true := by
  unfold corrieref09_Same.f
  rw [if_pos rfl]
  exact same_self l hl l.length 0 k (by omega) (by omega) hk
theorem rises_ev (l : List S32) (hl : l.length ≤ 1000) : ∀ (d i k : Nat), l.length - i = d → 1 ≤ i → d < k → ∃ b, merge_Rises.l0 k l (l.length : Int) (i : Int) = some b ∧ corrieref17_Rises.l0 k l (i : Int) = some b := by
  intro d
  induction d with
  | zero =>
    intro i k hd hi hk
    obtain ⟨k, rfl⟩ : ∃ q, k = q + 1 := ⟨k - 1, by omega⟩
    have p1 : ¬ (i : Int) < (l.length : Int) := by omega
    simp only [merge_Rises.l0, corrieref17_Rises.l0, if_neg p1]
    exact ⟨true, rfl, rfl⟩
  | succ d ih =>
    intro i k hd hi hk
    obtain ⟨k, rfl⟩ : ∃ q, k = q + 1 := ⟨k - 1, by omega⟩
    have e1 : wrap64 ((i : Int) - 1) = ((i - 1 : Nat) : Int) := by rw [wrap64_eq (by omega) (by omega)]; omega
    obtain ⟨b, h1, h2⟩ := ih (i + 1) k (by omega) (by omega) (by omega)
    simp only [merge_Rises.l0, corrieref17_Rises.l0]
    rw [e1, cast_succ i (by omega), h1, h2]
    have p1 : (i : Int) < (l.length : Int) := by omega
    have p2 : (i : Int) > 0 := by omega
    have p3 : (0 : Int) ≤ (i : Int) := by omega
    have p4 : (0 : Int) ≤ ((i - 1 : Nat) : Int) := by omega
    have p5 : ((i - 1 : Nat) : Int) < (l.length : Int) := by omega
    simp only [if_pos p1, if_pos p2, if_pos p3, if_pos p4, if_pos p5]
    by_cases c : (rd_T32 l (i : Int)).f0 ≤ (rd_T32 l ((i - 1 : Nat) : Int)).f0
    · exact ⟨false, by rw [if_pos c], by rw [if_pos c]⟩
    · exact ⟨b, by rw [if_neg c], by rw [if_neg c]⟩
theorem rises_f (l : List S32) (hl : l.length ≤ 1000) (k : Nat) (hk : l.length + 1 < k) : ∃ b, merge_Rises.f k l = some b ∧ corrieref17_Rises.f k l = some b := by
  unfold merge_Rises.f corrieref17_Rises.f
  obtain ⟨k, rfl⟩ : ∃ q, k = q + 1 := ⟨k - 1, by omega⟩
  by_cases h : l.length = 0
  · simp only [merge_Rises.l0, corrieref17_Rises.l0]
    rw [if_neg (by omega), if_neg (by omega)]
    exact ⟨true, rfl, rfl⟩
  · obtain ⟨b, h1, h2⟩ := rises_ev l hl (l.length - 1) 1 k (by omega) (by omega) (by omega)
    obtain ⟨b', h3, h4⟩ := rises_ev l hl (l.length - 1) 1 (k + 1) (by omega) (by omega) (by omega)
    have h5 := corrieref17_Rises.mono_l k l 1 b h2
    have hb : b = b' := by
      have h6 : corrieref17_Rises.l0 (k + 1) l 1 = some b' := h4
      rw [h5] at h6
      exact Option.some.inj h6
    subst hb
    refine ⟨b, ?_, h4⟩
    simp only [merge_Rises.l0]
    rw [if_pos (by omega), if_neg (by omega), show wrap64 ((0 : Int) + 1) = 1 from by rw [wrap64_eq] <;> omega]
    exact h1
theorem yl_take1 (rest : List (List S32)) (i : Nat) (h : i < rest.length) : yl (rest.take (i + 1)) 0 = yl (rest.take i) 0 ++ (match rest[i] with | [] => [] | x :: _ => [(i, x)]) := by
  rw [List.take_add_one, List.getElem?_eq_getElem h, yl_append, List.length_take, Nat.min_eq_left (by omega), Nat.zero_add]
  cases h2 : rest[i] <;> simp [yl, h2]
theorem stf_snoc1 (pre : List (Nat × S32)) (x : Nat × S32) : stf (pre ++ [x]) = pickS (stf pre) x := by unfold stf; rw [List.foldl_append]; rfl
/-- where the search stands: the best one is what is picked so far -/
def At (rest : List (List S32)) (s : Int × S32) : Prop := s.1 < 0 ∧ s.1 = -1 ∨ ∃ (j : Nat) (x : S32) (t : List S32), s = ((j : Int), x) ∧ rest[j]? = some (x :: t)
theorem inner_ev (lim : Int) (out : List S32) (rest : List (List S32)) (hr : rest.length ≤ 1000) (ho : out.length ≤ 1000) : ∀ (d i k : Nat) (best : Int), rest.length - i = d → i ≤ rest.length → best = (stf (yl (rest.take i) 0)).1 → At rest (stf (yl (rest.take i) 0)) →
    corrieref17_Pairs.l1 (k + d + 1) lim out rest best (i : Int) = (if (stf (yl rest 0)).1 < 0 then some out else corrieref17_Pairs.l0 k lim (out ++ [(stf (yl rest 0)).2]) (rest.set (stf (yl rest 0)).1.toNat ((rest.getD (stf (yl rest 0)).1.toNat []).tail))) := by
  intro d
  induction d with
  | zero =>
    intro i k best hd hi hb ha
    rw [List.take_of_length_le (by omega)] at hb ha
    simp only [Nat.add_zero, corrieref17_Pairs.l1]
    rw [if_neg (by omega), hb]
    rcases ha with ⟨h1, h2⟩ | ⟨j, x, t, h1, h2⟩
    · rw [if_pos h1, if_pos h1]
    · have hj : j < rest.length := (List.getElem?_eq_some_iff.1 h2).1
      have hg : rest[j] = x :: t := (List.getElem?_eq_some_iff.1 h2).2
      rw [h1]
      have q1 : ¬ ((j : Int) < 0) := by omega
      have q2 : (0 : Int) ≤ (j : Int) := by omega
      have q3 : (j : Int) < (rest.length : Int) := by omega
      have q4 : (0 : Int) < (((x :: t).length : Nat) : Int) := by simp only [List.length_cons]; omega
      have q5 : (1 : Int) ≤ (((x :: t).length : Nat) : Int) := by simp only [List.length_cons]; omega
      have q6 : out.length < 8796093022208 := by omega
      simp only [if_neg q1, if_pos q2, if_pos q3, rdL_get rest j hj, hg, if_pos q4, if_pos q5, if_pos q6, Int.toNat_natCast]
      simp [rd_T32, List.getD, h2, hg, hj]
  | succ d ih =>
    intro i k best hd hi hb ha
    have hi2 : i < rest.length := by omega
    have hy := yl_take1 rest i hi2
    have p1 : (i : Int) < (rest.length : Int) := by omega
    have p3 : (0 : Int) ≤ (i : Int) := by omega
    obtain ⟨K, hK⟩ : ∃ K, K = k + d + 1 := ⟨_, rfl⟩
    rw [show k + (d + 1) + 1 = K + 1 from by omega]
    simp only [corrieref17_Pairs.l1]
    rw [if_pos p1, if_pos p3, rdL_get rest i hi2, cast_succ i (by omega)]
    cases hx : rest[i] with
    | nil =>
      rw [hx] at hy
      simp only [List.append_nil] at hy
      rw [if_neg (by simp)]
      subst hK
      exact ih (i + 1) k best (by omega) (by omega) (by rw [hy]; exact hb) (by rw [hy]; exact ha)
    | cons y r =>
      rw [hx] at hy
      simp only at hy
      have hs : stf (yl (rest.take (i + 1)) 0) = pickS (stf (yl (rest.take i) 0)) (i, y) := by rw [hy, stf_snoc1]
      have hnew : At rest ((i : Int), y) := .inr ⟨i, y, r, rfl, by rw [List.getElem?_eq_getElem hi2, hx]⟩
      have g1 : (((y :: r).length : Nat) : Int) > 0 := by simp only [List.length_cons]; omega
      have g2 : (0 : Int) < (((y :: r).length : Nat) : Int) := g1
      rw [if_pos g1]
      rcases ha with ⟨h1, h2⟩ | ⟨j, x, t, h1, h2⟩
      · rw [if_pos (by omega)]
        have e : stf (yl (rest.take (i + 1)) 0) = ((i : Int), y) := by rw [hs]; unfold pickS; rw [if_pos (.inl h1)]
        subst hK
        exact ih (i + 1) k (i : Int) (by omega) (by omega) (by rw [e]) (by rw [e]; exact hnew)
      · have hj : j < rest.length := (List.getElem?_eq_some_iff.1 h2).1
        have hg : rest[j] = x :: t := (List.getElem?_eq_some_iff.1 h2).2
        rw [h1] at hb hs
        simp only at hb
        subst hb
        have g3 : (0 : Int) < (((x :: t).length : Nat) : Int) := by simp only [List.length_cons]; omega
        rw [if_neg (by omega), if_pos g2, if_pos (by omega), if_pos (by omega), rdL_get rest j hj, hg, if_pos g3]
        have r1 : rd_T32 (y :: r) 0 = y := rfl
        have r2 : rd_T32 (x :: t) 0 = x := rfl
        rw [r1, r2]
        by_cases c : y.f0 < x.f0
        · rw [if_pos c]
          have e : stf (yl (rest.take (i + 1)) 0) = ((i : Int), y) := by rw [hs]; unfold pickS; rw [if_pos (.inr c)]
          subst hK
          exact ih (i + 1) k (i : Int) (by omega) (by omega) (by rw [e]) (by rw [e]; exact hnew)
        · rw [if_neg c]
          have e : stf (yl (rest.take (i + 1)) 0) = ((j : Int), x) := by rw [hs]; unfold pickS; rw [if_neg (fun h => h.elim (fun h => by simp at h; omega) c)]
          subst hK
          exact ih (i + 1) k (j : Int) (by omega) (by omega) (by rw [e]) (by rw [e]; exact .inr ⟨j, x, t, rfl, h2⟩)
theorem inner0 (lim : Int) (out : List S32) (rest : List (List S32)) (hr : rest.length ≤ 1000) (ho : out.length ≤ 1000) (k : Nat) :
    corrieref17_Pairs.l1 (k + rest.length + 1) lim out rest (-1) 0 = (if (stf (yl rest 0)).1 < 0 then some out else corrieref17_Pairs.l0 k lim (out ++ [(stf (yl rest 0)).2]) (rest.set (stf (yl rest 0)).1.toNat ((rest.getD (stf (yl rest 0)).1.toNat []).tail))) :=
  inner_ev lim out rest hr ho rest.length 0 k (-1) (by omega) (by omega) rfl (.inl ⟨(show (-1 : Int) < 0 from by decide), rfl⟩)
theorem outer_ev (lim : Int) : ∀ (s : Nat) (rest : List (List S32)) (out : List S32) (k : Nat), rest.length ≤ 1000 → out.length + s ≤ 1000 → (rest.map List.length).sum = s → (s + 1) * (rest.length + 2) ≤ k → corrieref17_Pairs.l0 k lim out rest = some (out ++ mgo (lim.toNat - out.length) rest) := by
  intro s
  induction s with
  | zero =>
    intro rest out k hr ho hs hk
    obtain ⟨k, rfl⟩ : ∃ q, k = q + rest.length + 1 + 1 := ⟨k - rest.length - 2, by omega⟩
    simp only [corrieref17_Pairs.l0]
    rcases step_cases rest with ⟨h1, h2⟩ | ⟨j, x, t, h1, h2, h3⟩
    · by_cases c : (out.length : Int) < lim
      · rw [if_pos c, inner0 lim out rest hr (by omega) k, if_pos h1, mgo_stop h1, List.append_nil]
      · rw [if_neg c, mgo_stop h1, List.append_nil]
    · have := sum_set _ _ _ _ h1
      omega
  | succ s ih =>
    intro rest out k hr ho hs hk
    have e1 : (s + 1 + 1) * (rest.length + 2) = (s + 1) * (rest.length + 2) + (rest.length + 2) := by rw [Nat.succ_mul]
    obtain ⟨k, rfl⟩ : ∃ q, k = q + rest.length + 1 + 1 := ⟨k - rest.length - 2, by omega⟩
    simp only [corrieref17_Pairs.l0]
    by_cases c : (out.length : Int) < lim
    · rw [if_pos c, inner0 lim out rest hr (by omega) k]
      rcases step_cases rest with ⟨h1, h2⟩ | ⟨j, x, t, h1, h2, h3⟩
      · rw [if_pos h1, mgo_stop h1, List.append_nil]
      · have h4 := sum_set _ _ _ _ h1
        have h5 : (rest.getD j []).tail = t := by simp [List.getD, h1]
        rw [h2, if_neg (show ¬ ((j : Int), x).1 < 0 from by simp)]
        simp only [Int.toNat_natCast]
        rw [h5, ih (rest.set j t) (out ++ [x]) k (by simpa using hr) (by simp; omega) (by omega) (by rw [List.length_set]; omega)]
        rw [show lim.toNat - out.length = (lim.toNat - (out ++ [x]).length) + 1 from by simp; omega, mgo_go h2 h1]
        simp
    · rw [if_neg c, show lim.toNat - out.length = 0 from by omega]
      simp [mgo]
theorem ref_pairs (l : List (List S32)) (hS : Small l) (a : Int) (k : Nat) (hk : 2000 ≤ k) : corrieref17_Pairs.f k l a = some (mgo a.toNat l) := by
  have h8 := hS.1
  have h160 := small_sum hS
  unfold corrieref17_Pairs.f
  simp only [Option.bind_some, List.nil_append, List.length_nil]
  rw [if_pos (by omega), outer_ev a _ l [] k (by omega) (by simp; omega) rfl (by
    have : ((l.map List.length).sum + 1) * (l.length + 2) ≤ 161 * 10 := Nat.mul_le_mul (by omega) (by omega)
    omega)]
  simp
theorem done : corrielaw17_MergePairs.Pure := by
  intro l a hl hw ha
  obtain ⟨t, ht, hs⟩ := few_f l (2 * l.length + 2004) (by omega)
  refine ⟨2 * l.length + 2004, ?_⟩
  unfold corrielaw17_MergePairs.f
  rw [awake_ev _ (by omega), Option.bind_some, ht, Option.bind_some]
  cases t
  · rw [if_neg (by simp)]
  · have hS := hs rfl
    have h160 := small_sum hS
    have h1 := mgo_len a.toNat l
    obtain ⟨b, h2, h3⟩ := rises_f (mgo a.toNat l) (by omega) (2 * l.length + 2004) (by omega)
    rw [if_pos rfl, pairs_f hS, Option.bind_some, if_pos rfl, ref_pairs l hS a _ (by omega), Option.bind_some, same_f _ (by omega) _ (by omega), Option.bind_some, if_pos rfl, h2, Option.bind_some, h3, Option.bind_some]
    simp
end Go.Proofs.Ytahifbdggbeajab.Pure.MergePairs
namespace Go.Proofs.Ytahifbdggbeajab.Pure
theorem MergePairs : Go.Proofs.Ytahifbdggbeajab.PMergePairs.corrielaw17_MergePairs.Pure := MergePairs.done
end Go.Proofs.Ytahifbdggbeajab.Pure
