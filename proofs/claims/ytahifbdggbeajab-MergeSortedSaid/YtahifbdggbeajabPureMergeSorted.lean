/- Chapter 17, MergeSorted: of lists that do not fall all is put together so that it does not fall. -/
import Derived.Test.YtahifbdggbeajabStmMergeSorted
namespace Go.Proofs.Ytahifbdggbeajab.Pure.MergeSorted
open Go.RowKit Go.Proofs.Ytahifbdggbeajab.PMergeSorted Go.Proofs.YtahifbdggbeajabW.PrintWords Go.Proofs.YtahifbdggbeajabW.PrintLast Go.Proofs.YtahifbdggbeajabW.PrintMore
set_option linter.unusedVariables false
set_option linter.unusedSimpArgs false
theorem wrap64_eq {n : Int} (h0 : -9223372036854775808 ≤ n) (h1 : n ≤ 9223372036854775807) : wrap64 n = n := by unfold wrap64; omega
theorem cast_succ (i : Nat) (h : i < 4000000) : wrap64 ((i : Int) + 1) = ((i + 1 : Nat) : Int) := by
  rw [wrap64_eq (by omega) (by omega)]
  omega
theorem rd_get (l : List S32) (i : Nat) (h : i < l.length) : rd_T32 l (i : Int) = l[i] := by
  unfold rd_T32
  simp [List.getD, h]
theorem rdL_get (l : List (List S32)) (i : Nat) (h : i < l.length) : rd_L2 l (i : Int) = l[i] := by
  unfold rd_L2
  simp [List.getD, h]
theorem up_to {α : Type} (f : Nat → Option α) (hm : ∀ k, LeO (f k) (f (k + 1))) {n : Nat} {r : α} (h : f n = some r) : ∀ k, n ≤ k → f k = some r := by
  intro k hk
  induction k with
  | zero =>
    obtain rfl : n = 0 := by omega
    exact h
  | succ k ih =>
    by_cases e : n = k + 1
    · subst e
      exact h
    · exact hm k _ (ih (by omega))
theorem awake_ev : ∀ k, 12 ≤ k → corrielaw17_awake.f k = some true := up_to _ corrielaw17_awake.mono (n := 12) (by
  unfold corrielaw17_awake.f
  decide +kernel)
theorem few_ev (l : List (List S32)) : ∀ (d i k : Nat), l.length - i = d → i ≤ l.length → i ≤ 9 → 2 * d + 4 ≤ k → ∃ b, corrieref17_Few.l0 k l (i : Int) = some b ∧ (b = true → l.length ≤ 8 ∧ ∀ j (hj : j < l.length), i ≤ j → (l[j]).length ≤ 20) := by
  intro d
  induction d with
  | zero =>
    intro i k hd hi h9 hk
    obtain ⟨k, rfl⟩ : ∃ q, k = q + 2 := ⟨k - 2, by omega⟩
    simp only [corrieref17_Few.l0]
    rw [if_neg (by omega)]
    simp only [corrieref17_Few.j1]
    refine ⟨_, rfl, fun h => ⟨?_, fun j hj hij => by omega⟩⟩
    have : (l.length : Int) ≤ 8 := by simpa using h
    omega
  | succ d ih =>
    intro i k hd hi h9 hk
    obtain ⟨k, rfl⟩ : ∃ q, k = q + 2 := ⟨k - 2, by omega⟩
    simp only [corrieref17_Few.l0]
    rw [if_pos (by omega)]
    simp only [corrieref17_Few.j1]
    by_cases h : (i : Int) < 9
    · rw [if_pos (by simpa using h), if_pos (by omega), if_pos (by omega), rdL_get l i (by omega)]
      by_cases hc : ((l[i]'(by omega)).length : Int) > 20
      · rw [if_pos hc]
        exact ⟨false, rfl, fun h => by cases h⟩
      · rw [if_neg hc, cast_succ i (by omega)]
        obtain ⟨b, h1, h2⟩ := ih (i + 1) k (by omega) (by omega) (by omega) (by omega)
        refine ⟨b, h1, fun hb => ⟨(h2 hb).1, fun j hj hij => ?_⟩⟩
        by_cases e : j = i
        · subst e
          omega
        · exact (h2 hb).2 j hj (by omega)
    · rw [if_neg (by simpa using h)]
      refine ⟨_, rfl, fun h2 => ?_⟩
      have : (l.length : Int) ≤ 8 := by simpa using h2
      omega
def Small (l : List (List S32)) : Prop := l.length ≤ 8 ∧ ∀ x ∈ l, x.length ≤ 20
theorem few_f (l : List (List S32)) (k : Nat) (hk : 2 * l.length + 4 ≤ k) : ∃ b, corrieref17_Few.f k l = some b ∧ (b = true → Small l) := by
  obtain ⟨b, h1, h2⟩ := few_ev l l.length 0 k (by omega) (by omega) (by omega) (by omega)
  refine ⟨b, h1, fun hb => ⟨(h2 hb).1, fun x hx => ?_⟩⟩
  obtain ⟨j, hj, rfl⟩ := List.getElem_of_mem hx
  exact (h2 hb).2 j hj (by omega)
theorem sum_small (l : List (List S32)) (m : Nat) (h : ∀ x ∈ l, x.length ≤ m) : (l.map List.length).sum ≤ m * l.length := by
  induction l with
  | nil => simp
  | cons a t ih =>
    have h1 := h a List.mem_cons_self
    have h2 := ih (fun x hx => h x (List.mem_cons_of_mem _ hx))
    simp only [List.map_cons, List.sum_cons, List.length_cons, Nat.mul_succ]
    omega
theorem small_sum {l : List (List S32)} (h : Small l) : (l.map List.length).sum ≤ 160 := by
  have h1 := sum_small l 20 h.2
  have h2 := h.1
  omega
theorem pairs_f {l : List (List S32)} (h : Small l) (a : Int) : merge_Pairs.f l a = some (mgo a.toNat l) := by
  unfold merge_Pairs.f
  rw [if_pos ⟨by have := h.1; omega, by have := small_sum h; omega⟩]
/-! what is picked -/
theorem stf_min (pre : List (Nat × S32)) : ∀ (s : Int × S32), (0 ≤ s.1 → 0 ≤ (pre.foldl pickS s).1 ∧ (pre.foldl pickS s).2.f0 ≤ s.2.f0) ∧ ∀ y ∈ pre, 0 ≤ (pre.foldl pickS s).1 ∧ (pre.foldl pickS s).2.f0 ≤ y.2.f0 := by
  induction pre with
  | nil => exact fun s => ⟨fun h => ⟨h, Int.le_refl _⟩, fun y hy => by cases hy⟩
  | cons z t ih =>
    intro s
    obtain ⟨i1, i2⟩ := ih (pickS s z)
    have hz : 0 ≤ (pickS s z).1 ∧ (pickS s z).2.f0 ≤ z.2.f0 := by
      unfold pickS
      split
      · exact ⟨by simp, Int.le_refl _⟩
      · rename_i h
        exact ⟨by omega, by omega⟩
    rw [List.foldl_cons]
    refine ⟨fun hs => ?_, fun y hy => ?_⟩
    · have h2 : (pickS s z).2.f0 ≤ s.2.f0 := by
        unfold pickS
        split
        · rename_i h
          dsimp only
          omega
        · exact Int.le_refl _
      exact ⟨(i1 hz.1).1, Int.le_trans (i1 hz.1).2 h2⟩
    · rcases List.mem_cons.1 hy with rfl | hy
      · exact ⟨(i1 hz.1).1, Int.le_trans (i1 hz.1).2 hz.2⟩
      · exact i2 y hy
theorem yl_of (l : List (List S32)) : ∀ (i j : Nat) (x : S32) (t : List S32), l[j]? = some (x :: t) → (i + j, x) ∈ yl l i := by
  induction l with
  | nil => intro i j x t h; simp at h
  | cons a r ih =>
    intro i j x t h
    unfold yl
    cases j with
    | zero =>
      simp at h
      subst h
      simp
    | succ j =>
      refine List.mem_append_right _ ?_
      have := ih (i + 1) j x t (by simpa using h)
      rw [show i + (j + 1) = i + 1 + j from by omega]
      exact this
/-- one step: nothing is left, or the least head goes -/
theorem step_cases (rest : List (List S32)) : ((stf (yl rest 0)).1 < 0 ∧ ∀ l ∈ rest, l = []) ∨ ∃ (j : Nat) (x : S32) (t : List S32), rest[j]? = some (x :: t) ∧ stf (yl rest 0) = ((j : Int), x) ∧ ∀ l ∈ rest, ∀ y r, l = y :: r → x.f0 ≤ y.f0 := by
  by_cases h : (stf (yl rest 0)).1 < 0
  · refine .inl ⟨h, fun l hl => ?_⟩
    cases l with
    | nil => rfl
    | cons x t =>
      obtain ⟨j, hj, e⟩ := List.getElem_of_mem hl
      have hm := yl_of rest 0 j x t (by rw [List.getElem?_eq_getElem hj, e])
      have := ((stf_min (yl rest 0) (-1, z32)).2 _ hm).1
      unfold stf at h
      omega
  · rcases stf_mem (-1, z32) (yl rest 0) with e | ⟨y, hy, e⟩
    · exact absurd (show (stf (yl rest 0)).1 < 0 from by unfold stf; rw [e]; decide) h
    · obtain ⟨_, t, h2⟩ := yl_mem _ _ _ hy
      rw [Nat.sub_zero] at h2
      refine .inr ⟨y.1, y.2, t, h2, e, fun l hl z r el => ?_⟩
      obtain ⟨j, hj, e2⟩ := List.getElem_of_mem hl
      have hm := yl_of rest 0 j z r (by rw [List.getElem?_eq_getElem hj, e2, el])
      have := ((stf_min (yl rest 0) (-1, z32)).2 _ hm).2
      have e3 : (stf (yl rest 0)).2 = y.2 := by unfold stf; rw [e]
      unfold stf at e3
      rw [← e3]
      exact this
theorem mgo_stop {rest : List (List S32)} (h : (stf (yl rest 0)).1 < 0) (n : Nat) : mgo n rest = [] := by
  cases n with
  | zero => rfl
  | succ n => rw [mgo, if_pos h]
theorem mgo_go {rest : List (List S32)} {j : Nat} {x : S32} {t : List S32} (h : stf (yl rest 0) = ((j : Int), x)) (hr : rest[j]? = some (x :: t)) (n : Nat) : mgo (n + 1) rest = x :: mgo n (rest.set j t) := by
  rw [mgo, h, if_neg (show ¬ ((j : Int), x).1 < 0 from by simp)]
  simp [List.getD, hr]
theorem all_nil_sum {rest : List (List S32)} (h : ∀ l ∈ rest, l = []) : (rest.map List.length).sum = 0 := by
  have := sum_small rest 0 (fun x hx => by rw [h x hx]; simp)
  omega
theorem mgo_len : ∀ (n : Nat) (rest : List (List S32)), (mgo n rest).length = min n (rest.map List.length).sum := by
  intro n
  induction n with
  | zero => intro rest; simp [mgo]
  | succ n ih =>
    intro rest
    rcases step_cases rest with ⟨h1, h2⟩ | ⟨j, x, t, h1, h2, h3⟩
    · rw [mgo_stop h1, all_nil_sum h2]
      simp
    · have := sum_set _ _ _ _ h1
      rw [mgo_go h2 h1, List.length_cons, ih]
      omega
theorem mgo_take : ∀ (a b : Nat) (rest : List (List S32)), a ≤ b → mgo a rest = (mgo b rest).take a := by
  intro a
  induction a with
  | zero => intro b rest _; simp [mgo]
  | succ a ih =>
    intro b rest hb
    obtain ⟨b, rfl⟩ : ∃ q, b = q + 1 := ⟨b - 1, by omega⟩
    rcases step_cases rest with ⟨h1, h2⟩ | ⟨j, x, t, h1, h2, h3⟩
    · rw [mgo_stop h1, mgo_stop h1]
      simp
    · rw [mgo_go h2 h1, mgo_go h2 h1, List.take_succ_cons, ih b _ (by omega)]
abbrev Srt (l : List S32) : Prop := l.Pairwise (fun x y => x.f0 ≤ y.f0)
theorem sorted_ev (l : List S32) (hl : l.length ≤ 1000) : ∀ (d i k : Nat), l.length - i = d → 1 ≤ i → d < k → ∃ b, corrieref17_Sorted.l0 k l (i : Int) = some b ∧ (b = true ↔ ∀ j (hj : j < l.length), i ≤ j → (l[j - 1]'(by omega)).f0 ≤ (l[j]).f0) := by
  intro d
  induction d with
  | zero =>
    intro i k hd hi hk
    obtain ⟨k, rfl⟩ : ∃ q, k = q + 1 := ⟨k - 1, by omega⟩
    simp only [corrieref17_Sorted.l0]
    rw [if_neg (by omega)]
    exact ⟨true, rfl, ⟨(fun _ j hj hij => by omega), (fun _ => rfl)⟩⟩
  | succ d ih =>
    intro i k hd hi hk
    obtain ⟨k, rfl⟩ : ∃ q, k = q + 1 := ⟨k - 1, by omega⟩
    have e1 : wrap64 ((i : Int) - 1) = ((i - 1 : Nat) : Int) := by rw [wrap64_eq (by omega) (by omega)]; omega
    simp only [corrieref17_Sorted.l0]
    rw [if_pos (by omega), if_pos (by omega), e1, if_pos (by omega), if_pos (by omega), rd_get l i (by omega), rd_get l (i - 1) (by omega), cast_succ i (by omega)]
    by_cases c : (l[i]'(by omega)).f0 < (l[i - 1]'(by omega)).f0
    · rw [if_pos c]
      exact ⟨false, rfl, ⟨(fun h => by cases h), (fun h => by have := h i (by omega) (Nat.le_refl _); omega)⟩⟩
    · rw [if_neg c]
      obtain ⟨b, h1, h2⟩ := ih (i + 1) k (by omega) (by omega) (by omega)
      refine ⟨b, h1, fun hb j hj hij => ?_, fun h => h2.2 (fun j hj hij => h j hj (by omega))⟩
      by_cases e : j = i
      · subst e
        omega
      · exact h2.1 hb j hj (by omega)
theorem adj_pair (l : List S32) (h : ∀ j (hj : j < l.length), 1 ≤ j → (l[j - 1]'(by omega)).f0 ≤ (l[j]).f0) : Srt l := by
  refine List.pairwise_iff_getElem.2 ?_
  have key : ∀ (d i : Nat) (hj : i + d < l.length), (l[i]'(by omega)).f0 ≤ (l[i + d]).f0 := by
    intro d
    induction d with
    | zero => intro i hj; exact Int.le_refl _
    | succ d ih =>
      intro i hj
      have h1 := ih i (by omega)
      have h2 := h (i + (d + 1)) hj (by omega)
      simp only [show i + (d + 1) - 1 = i + d from by omega] at h2
      exact Int.le_trans h1 h2
  intro i j hi hj hij
  have := key (j - i) i (by omega)
  simpa only [show i + (j - i) = j from by omega] using this
theorem sorted_f (l : List S32) (hl : l.length ≤ 1000) (k : Nat) (hk : l.length < k) : ∃ b, corrieref17_Sorted.f k l = some b ∧ (b = true ↔ Srt l) := by
  obtain ⟨b, h1, h2⟩ := sorted_ev l hl (l.length - 1) 1 k (by omega) (Nat.le_refl _) (by omega)
  refine ⟨b, h1, fun hb => adj_pair l (fun j hj hij => h2.1 hb j hj hij), fun h => h2.2 (fun j hj hij => ?_)⟩
  exact List.pairwise_iff_getElem.1 h (j - 1) j (by omega) hj (by omega)
theorem mgo_srt : ∀ (n : Nat) (rest : List (List S32)), (∀ l ∈ rest, Srt l) → Srt (mgo n rest) ∧ ∀ m : Int, (∀ l ∈ rest, ∀ y ∈ l, m ≤ y.f0) → ∀ y ∈ mgo n rest, m ≤ y.f0 := by
  intro n
  induction n with
  | zero => intro rest _; exact ⟨List.Pairwise.nil, fun m _ y hy => by cases hy⟩
  | succ n ih =>
    intro rest hs
    rcases step_cases rest with ⟨h1, h2⟩ | ⟨j, x, t, h1, h2, h3⟩
    · rw [mgo_stop h1]
      exact ⟨List.Pairwise.nil, fun m _ y hy => by cases hy⟩
    · have hm : x :: t ∈ rest := List.mem_of_getElem? h1
      have hxt := List.pairwise_cons.1 (hs _ hm)
      obtain ⟨i1, i2⟩ := ih (rest.set j t) (fun l hl => by
        rcases List.mem_or_eq_of_mem_set hl with h | h
        · exact hs l h
        · rw [h]; exact hxt.2)
      rw [mgo_go h2 h1]
      have hlow : ∀ y ∈ mgo n (rest.set j t), x.f0 ≤ y.f0 := i2 x.f0 (fun l hl y hy => by
        rcases List.mem_or_eq_of_mem_set hl with h | h
        · cases l with
          | nil => cases hy
          | cons z r =>
            have h5 := h3 _ h z r rfl
            rcases List.mem_cons.1 hy with rfl | hy
            · exact h5
            · exact Int.le_trans h5 ((List.pairwise_cons.1 (hs _ h)).1 y hy)
        · rw [h] at hy
          exact hxt.1 y hy)
      refine ⟨List.pairwise_cons.2 ⟨hlow, i1⟩, fun m hmm y hy => ?_⟩
      rcases List.mem_cons.1 hy with rfl | hy
      · exact hmm _ hm y List.mem_cons_self
      · exact Int.le_trans (hmm _ hm x List.mem_cons_self) (hlow y hy)
theorem loop_ev (l : List (List S32)) (hS : Small l) (a : Int) : ∀ (d i k : Nat) (s : Bool), l.length - i = d → i ≤ l.length → d + 300 ≤ k → (s = true → ∀ j (hj : j < l.length), j < i → Srt l[j]) → corrielaw17_MergeSorted.l0 k l a true s (i : Int) = some true := by
  have h8 := hS.1
  intro d
  induction d with
  | zero =>
    intro i k s hd hi hk hs
    obtain ⟨k, rfl⟩ : ∃ q, k = q + 1 := ⟨k - 1, by omega⟩
    simp only [corrielaw17_MergeSorted.l0]
    rw [if_neg (by omega), if_pos trivial]
    cases s
    · rw [if_neg (by simp)]
    · have hall : ∀ x ∈ l, Srt x := fun x hx => by
        obtain ⟨j, hj, rfl⟩ := List.getElem_of_mem hx
        exact hs rfl j hj (by omega)
      have hl := mgo_len a.toNat l
      have h160 := small_sum hS
      obtain ⟨b, h1, h2⟩ := sorted_f (mgo a.toNat l) (by omega) k (by omega)
      rw [if_pos rfl, pairs_f hS, Option.bind_some, h1, Option.bind_some, h2.2 (mgo_srt _ _ hall).1]
  | succ d ih =>
    intro i k s hd hi hk hs
    obtain ⟨k, rfl⟩ : ∃ q, k = q + 1 := ⟨k - 1, by omega⟩
    simp only [corrielaw17_MergeSorted.l0]
    rw [if_pos (by omega)]
    cases s
    · rw [if_neg (by simp), cast_succ i (by omega)]
      exact ih (i + 1) k false (by omega) (by omega) (by omega) (fun h => by cases h)
    · rw [if_pos rfl, if_pos (by omega), rdL_get l i (by omega)]
      have h20 := hS.2 _ (List.getElem_mem (show i < l.length by omega))
      obtain ⟨b, h1, h2⟩ := sorted_f (l[i]'(by omega)) (by omega) k (by omega)
      rw [h1, Option.bind_some, cast_succ i (by omega)]
      refine ih (i + 1) k b (by omega) (by omega) (by omega) (fun hb j hj hji => ?_)
      by_cases e : j = i
      · subst e
        exact h2.1 hb
      · exact hs rfl j hj (by omega)
theorem done : corrielaw17_MergeSorted.Pure := by
  intro l a hl hw ha
  obtain ⟨t, ht, hs⟩ := few_f l (2 * l.length + 1004) (by omega)
  refine ⟨2 * l.length + 1004, ?_⟩
  unfold corrielaw17_MergeSorted.f
  rw [awake_ev _ (by omega), Option.bind_some, ht, Option.bind_some]
  cases t
  · rw [if_neg (by simp)]
  · rw [if_pos rfl]
    exact loop_ev l (hs rfl) a l.length 0 _ true (by omega) (by omega) (by omega) (fun _ j hj h => by omega)
end Go.Proofs.Ytahifbdggbeajab.Pure.MergeSorted
namespace Go.Proofs.Ytahifbdggbeajab.Pure
theorem MergeSorted : Go.Proofs.Ytahifbdggbeajab.PMergeSorted.corrielaw17_MergeSorted.Pure := MergeSorted.done
end Go.Proofs.Ytahifbdggbeajab.Pure
