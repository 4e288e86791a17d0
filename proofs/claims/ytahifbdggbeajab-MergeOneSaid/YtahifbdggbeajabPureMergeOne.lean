/- Chapter 17, MergeOne: one list, and nothing else, is itself, as far as the limit; so it is among empty ones. -/
import Derived.Test.YtahifbdggbeajabStmMergeOne
namespace Go.Proofs.Ytahifbdggbeajab.Pure.MergeOne
open Go.RowKit Go.Proofs.Ytahifbdggbeajab.PMergeOne Go.Proofs.YtahifbdggbeajabW.PrintWords Go.Proofs.YtahifbdggbeajabW.PrintLast Go.Proofs.YtahifbdggbeajabW.PrintMore
set_option linter.unusedVariables false
set_option linter.unusedSimpArgs false
theorem wrap64_eq {n : Int} (h0 : -9223372036854775808 ≤ n) (h1 : n ≤ 9223372036854775807) : wrap64 n = n := by unfold wrap64; omega
theorem cast_succ (i : Nat) (h : i < 4000000) : wrap64 ((i : Int) + 1) = ((i + 1 : Nat) : Int) := by
  rw [wrap64_eq (by omega) (by omega)]
  omega
theorem rd_get (l : List S32) (i : Nat) (h : i < l.length) : rd_T32 l (i : Int) = l[i] := by
  unfold rd_T32
  simp [List.getD, h]
theorem up_to {α : Type} (f : Nat → Option α) (hm : ∀ k, LeO (f k) (f (k + 1))) {n : Nat} {r : α} (h : f n = some r) : ∀ k, n ≤ k → f k = some r := by
  intro k hk
  induction k with
  | zero =>
    obtain rfl : n = 0 := by omega
    exact h
  | succ k ih =>
    by_cases e : n = k + 1
    · subst e
      exact h
    · exact hm k _ (ih (by omega))
theorem awake_ev : ∀ k, 12 ≤ k → corrielaw17_awake.f k = some true := up_to _ corrielaw17_awake.mono (n := 12) (by
  unfold corrielaw17_awake.f
  decide +kernel)
def Small (l : List (List S32)) : Prop := l.length ≤ 8 ∧ ∀ x ∈ l, x.length ≤ 20
theorem sum_small (l : List (List S32)) (m : Nat) (h : ∀ x ∈ l, x.length ≤ m) : (l.map List.length).sum ≤ m * l.length := by
  induction l with
  | nil => simp
  | cons a t ih =>
    have h1 := h a List.mem_cons_self
    have h2 := ih (fun x hx => h x (List.mem_cons_of_mem _ hx))
    simp only [List.map_cons, List.sum_cons, List.length_cons, Nat.mul_succ]
    omega
theorem small_sum {l : List (List S32)} (h : Small l) : (l.map List.length).sum ≤ 160 := by
  have h1 := sum_small l 20 h.2
  have h2 := h.1
  omega
theorem pairs_f {l : List (List S32)} (h : Small l) (a : Int) : merge_Pairs.f l a = some (mgo a.toNat l) := by
  unfold merge_Pairs.f
  rw [if_pos ⟨by have := h.1; omega, by have := small_sum h; omega⟩]
/-! what is picked -/
theorem stf_min (pre : List (Nat × S32)) : ∀ (s : Int × S32), (0 ≤ s.1 → 0 ≤ (pre.foldl pickS s).1 ∧ (pre.foldl pickS s).2.f0 ≤ s.2.f0) ∧ ∀ y ∈ pre, 0 ≤ (pre.foldl pickS s).1 ∧ (pre.foldl pickS s).2.f0 ≤ y.2.f0 := by
  induction pre with
  | nil => exact fun s => ⟨fun h => ⟨h, Int.le_refl _⟩, fun y hy => by cases hy⟩
  | cons z t ih =>
    intro s
    obtain ⟨i1, i2⟩ := ih (pickS s z)
    have hz : 0 ≤ (pickS s z).1 ∧ (pickS s z).2.f0 ≤ z.2.f0 := by
      unfold pickS
      split
      · exact ⟨by simp, Int.le_refl _⟩
      · rename_i h
        exact ⟨by omega, by omega⟩
    rw [List.foldl_cons]
    refine ⟨fun hs => ?_, fun y hy => ?_⟩
    · have h2 : (pickS s z).2.f0 ≤ s.2.f0 := by
        unfold pickS
        split
        · rename_i h
          dsimp only
          omega
        · exact Int.le_refl _
      exact ⟨(i1 hz.1).1, Int.le_trans (i1 hz.1).2 h2⟩
    · rcases List.mem_cons.1 hy with rfl | hy
      · exact ⟨(i1 hz.1).1, Int.le_trans (i1 hz.1).2 hz.2⟩
      · exact i2 y hy
theorem yl_of (l : List (List S32)) : ∀ (i j : Nat) (x : S32) (t : List S32), l[j]? = some (x :: t) → (i + j, x) ∈ yl l i := by
  induction l with
  | nil => intro i j x t h; simp at h
  | cons a r ih =>
    intro i j x t h
    unfold yl
    cases j with
    | zero =>
      simp at h
      subst h
      simp
    | succ j =>
      refine List.mem_append_right _ ?_
      have := ih (i + 1) j x t (by simpa using h)
      rw [show i + (j + 1) = i + 1 + j from by omega]
      exact this
/-- one step: nothing is left, or the least head goes -/
theorem step_cases (rest : List (List S32)) : ((stf (yl rest 0)).1 < 0 ∧ ∀ l ∈ rest, l = []) ∨ ∃ (j : Nat) (x : S32) (t : List S32), rest[j]? = some (x :: t) ∧ stf (yl rest 0) = ((j : Int), x) ∧ ∀ l ∈ rest, ∀ y r, l = y :: r → x.f0 ≤ y.f0 := by
  by_cases h : (stf (yl rest 0)).1 < 0
  · refine .inl ⟨h, fun l hl => ?_⟩
    cases l with
    | nil => rfl
    | cons x t =>
      obtain ⟨j, hj, e⟩ := List.getElem_of_mem hl
      have hm := yl_of rest 0 j x t (by rw [List.getElem?_eq_getElem hj, e])
      have := ((stf_min (yl rest 0) (-1, z32)).2 _ hm).1
      unfold stf at h
      omega
  · rcases stf_mem (-1, z32) (yl rest 0) with e | ⟨y, hy, e⟩
    · exact absurd (show (stf (yl rest 0)).1 < 0 from by unfold stf; rw [e]; decide) h
    · obtain ⟨_, t, h2⟩ := yl_mem _ _ _ hy
      rw [Nat.sub_zero] at h2
      refine .inr ⟨y.1, y.2, t, h2, e, fun l hl z r el => ?_⟩
      obtain ⟨j, hj, e2⟩ := List.getElem_of_mem hl
      have hm := yl_of rest 0 j z r (by rw [List.getElem?_eq_getElem hj, e2, el])
      have := ((stf_min (yl rest 0) (-1, z32)).2 _ hm).2
      have e3 : (stf (yl rest 0)).2 = y.2 := by unfold stf; rw [e]
      unfold stf at e3
      rw [← e3]
      exact this
theorem mgo_stop {rest : List (List S32)} (h : (stf (yl rest 0)).1 < 0) (n : Nat) : mgo n rest = [] := by
  cases n with
  | zero => rfl
  | succ n => rw [mgo, if_pos h]
theorem mgo_go {rest : List (List S32)} {j : Nat} {x : S32} {t : List S32} (h : stf (yl rest 0) = ((j : Int), x)) (hr : rest[j]? = some (x :: t)) (n : Nat) : mgo (n + 1) rest = x :: mgo n (rest.set j t) := by
  rw [mgo, h, if_neg (show ¬ ((j : Int), x).1 < 0 from by simp)]
  simp [List.getD, hr]
theorem all_nil_sum {rest : List (List S32)} (h : ∀ l ∈ rest, l = []) : (rest.map List.length).sum = 0 := by
  have := sum_small rest 0 (fun x hx => by rw [h x hx]; simp)
  omega
theorem mgo_len : ∀ (n : Nat) (rest : List (List S32)), (mgo n rest).length = min n (rest.map List.length).sum := by
  intro n
  induction n with
  | zero => intro rest; simp [mgo]
  | succ n ih =>
    intro rest
    rcases step_cases rest with ⟨h1, h2⟩ | ⟨j, x, t, h1, h2, h3⟩
    · rw [mgo_stop h1, all_nil_sum h2]
      simp
    · have := sum_set _ _ _ _ h1
      rw [mgo_go h2 h1, List.length_cons, ih]
      omega
theorem mgo_take : ∀ (a b : Nat) (rest : List (List S32)), a ≤ b → mgo a rest = (mgo b rest).take a := by
  intro a
  induction a with
  | zero => intro b rest _; simp [mgo]
  | succ a ih =>
    intro b rest hb
    obtain ⟨b, rfl⟩ : ∃ q, b = q + 1 := ⟨b - 1, by omega⟩
    rcases step_cases rest with ⟨h1, h2⟩ | ⟨j, x, t, h1, h2, h3⟩
    · rw [mgo_stop h1, mgo_stop h1]
      simp
    · rw [mgo_go h2 h1, mgo_go h2 h1, List.take_succ_cons, ih b _ (by omega)]
theorem same_self (l : List S32) (hl : l.length ≤ 1000) : ∀ (d i k : Nat), l.length - i = d → i ≤ l.length → d < k → corrieref09_Same.l0 k l l (i : Int) = some true := by
  intro d
  induction d with
  | zero =>
    intro i k hd hi hk
    obtain ⟨k, rfl⟩ : ∃ q, k = q + 1 := ⟨k - 1, by omega⟩
    simp only [corrieref09_Same.l0]
    rw [if_neg (by omega)]
  | succ d ih =>
    intro i k hd hi hk
    obtain ⟨k, rfl⟩ : ∃ q, k = q + 1 := ⟨k - 1, by omega⟩
    simp only [corrieref09_Same.l0]
    rw [if_pos (by omega), if_pos (by omega), if_pos (by omega), if_neg (by simp), cast_succ i (by omega)]
    exact ih (i + 1) k (by omega) (by omega) (by omega)
theorem same_f (l : List S32) (hl : l.length ≤ 1000) (k : Nat) (hk : l.length < k) : corrieref09_Same.f k l l = some true := by
  unfold corrieref09_Same.f
  rw [if_pos rfl]
  exact same_self l hl l.length 0 k (by omega) (by omega) hk
theorem mgo_one (n : Nat) : ∀ (l : List S32), mgo n [l] = l.take n := by
  induction n with
  | zero => intro l; simp [mgo]
  | succ n ih =>
    intro l
    cases l with
    | nil => rw [mgo_stop (by decide)]; rfl
    | cons x t =>
      rw [mgo_go (j := 0) (x := x) (t := t) rfl rfl]
      rw [show ([x :: t].set 0 t) = [t] from rfl, ih]
      rfl
theorem mgo_mid (n : Nat) : ∀ (l : List S32), mgo n [[], l, []] = l.take n := by
  induction n with
  | zero => intro l; simp [mgo]
  | succ n ih =>
    intro l
    cases l with
    | nil => rw [mgo_stop (by decide)]; rfl
    | cons x t =>
      rw [mgo_go (j := 1) (x := x) (t := t) rfl rfl]
      rw [show ([[], x :: t, []].set 1 t) = [[], t, []] from rfl, ih]
      rfl
theorem take_min (l : List S32) (n : Nat) : l.take (min n l.length) = l.take n := by
  refine List.take_eq_take_iff.2 ?_
  omega
theorem done : corrielaw17_MergeOne.Pure := by
  intro l a hl hw ha
  have ha2 : 0 ≤ a ∧ a ≤ 255 := by
    have h : IntKind.u8.min ≤ a ∧ a ≤ IntKind.u8.max := by simpa [Lit.wf] using ha
    exact h
  refine ⟨1004, ?_⟩
  unfold corrielaw17_MergeOne.f
  rw [awake_ev _ (by omega), Option.bind_some]
  by_cases h20 : l.length > 20
  · rw [if_pos h20]
  · rw [if_neg h20, if_pos ⟨ha2.1, ha2.2, rfl⟩]
    have s1 : Small [l] := ⟨by simp, fun x hx => by rw [List.mem_singleton.1 hx]; omega⟩
    have s2 : Small [[], l, []] := ⟨by simp, fun x hx => by
      simp at hx
      rcases hx with rfl | rfl | rfl
      · simp
      · omega
      · simp⟩
    have s3 : Small [] := ⟨by simp, fun x hx => by cases hx⟩
    have hlen : (l.take a.toNat).length ≤ 20 := by rw [List.length_take]; omega
    rw [pairs_f s1, Option.bind_some, mgo_one, take_min, same_f _ (by omega) _ (by omega), Option.bind_some, pairs_f s2, Option.bind_some, mgo_mid, same_f _ (by omega) _ (by omega), Option.bind_some, pairs_f s3, Option.bind_some, mgo_stop (by decide), if_pos ⟨rfl, rfl, rfl⟩]
end Go.Proofs.Ytahifbdggbeajab.Pure.MergeOne
namespace Go.Proofs.Ytahifbdggbeajab.Pure
theorem MergeOne : Go.Proofs.Ytahifbdggbeajab.PMergeOne.corrielaw17_MergeOne.Pure := MergeOne.done
end Go.Proofs.Ytahifbdggbeajab.Pure
