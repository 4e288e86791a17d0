/- Chapter 19, HistoryPart: a begin of a history that may be is one that may be; so is it without the events of a thread. -/
import Derived.Test.YtpcmoclohepdiadStmHistoryPart
namespace Go.Proofs.Ytpcmoclohepdiad.Pure.HistoryPart
open Go.RowKit Go.Proofs.Ytpcmoclohepdiad.PHistoryPart Go.Proofs.YtpcmoclohepdiadW.PrintWords Go.Proofs.YtpcmoclohepdiadW.PrintLast Go.Proofs.YtpcmoclohepdiadW.PrintMore
set_option linter.unusedVariables false
set_option linter.unusedSimpArgs false
theorem cast_succ (i : Nat) (h : i < 4000000) : wrap64 ((i : Int) + 1) = ((i + 1 : Nat) : Int) := by
  unfold wrap64; omega
theorem few_eq (l : List S31) : ∀ (d i k : Nat), 13 - i = d → i ≤ 13 → 2 * d + 2 < k → ∃ z, corrieref19_Few.l0 k l 12 (i : Int) = some z ∧ (z = true → l.length ≤ 12) := by
  intro d
  induction d with
  | zero =>
    intro i k hd hi hk
    obtain ⟨k, rfl⟩ : ∃ q, k = q + 2 := ⟨k - 2, by omega⟩
    simp only [corrieref19_Few.l0, corrieref19_Few.j1]
    have c : decide ((i : Int) ≤ 12) = false := decide_eq_false (by omega)
    rw [c]
    refine ⟨decide ((l.length : Int) ≤ 12), ?_, fun h => by have := of_decide_eq_true h; omega⟩
    split <;> rfl
  | succ d ih =>
    intro i k hd hi hk
    obtain ⟨k, rfl⟩ : ∃ q, k = q + 2 := ⟨k - 2, by omega⟩
    simp only [corrieref19_Few.l0, corrieref19_Few.j1]
    have c : decide ((i : Int) ≤ 12) = true := decide_eq_true (by omega)
    rw [c]
    by_cases h1 : (i : Int) < l.length
    · rw [if_pos h1, if_pos rfl, if_pos (by omega), if_pos h1]
      by_cases h2 : (((rd_T31 l (i : Int)).f6.f3.length : Nat) : Int) > 20
      · rw [if_pos h2]
        exact ⟨false, rfl, fun h => by cases h⟩
      · rw [if_neg h2, cast_succ i (by omega)]
        exact ih (i + 1) k (by omega) (by omega) (by omega)
    · rw [if_neg h1, if_neg (by decide)]
      exact ⟨_, rfl, fun h => by have := of_decide_eq_true h; omega⟩
theorem few (k : Nat) (l : List S31) (hk : 28 < k) : ∃ z, corrieref19_Few.f k l 12 = some z ∧ (z = true → l.length ≤ 12) := by
  have h := few_eq l 13 0 k (by omega) (by omega) (by omega)
  unfold corrieref19_Few.f
  exact h
theorem vrd (l : List S31) (i : Nat) (h : i < l.length) : rd_T31 l (i : Int) = l[i] := by
  unfold rd_T31
  simp [List.getD, h]
def conf (x y : S31) : Prop := x.f0 = y.f0 ∧ rva_Bf.f x y = false ∧ rva_Bf.f y x = false
def vok (x : S31) : Prop := ¬ x.f2 < 0 ∧ ¬ (x.f3 ≥ 0 ∧ x.f3 < x.f2)
theorem bf_same (x y : S31) : hva_Bf.f x y = rva_Bf.f x y := rfl
theorem clash_conf (x e : S31) : history_Valid1.f x e = true ↔ conf x e := by
  unfold history_Valid1.f conf
  rw [bf_same, bf_same]
  by_cases h : e.f0 = x.f0
  · rw [if_pos h]
    cases h1 : rva_Bf.f e x <;> cases h2 : rva_Bf.f x e <;> simp [h.symm]
  · rw [if_neg h]
    constructor
    · intro h1; cases h1
    · intro h1; exact absurd h1.1.symm h
def VP (l : List S31) (i : Nat) : Prop := ∀ m, i ≤ m → m < l.length → vok (rd_T31 l (m : Int)) ∧ ∀ j, j < m → ¬ conf (rd_T31 l (j : Int)) (rd_T31 l (m : Int))
theorem VP_end (l : List S31) (i : Nat) (h : l.length ≤ i) : VP l i := fun m h1 h2 => by omega
theorem VP_step (l : List S31) (i : Nat) (hi : i < l.length) (h1 : vok (rd_T31 l (i : Int))) (h2 : ∀ j, j < i → ¬ conf (rd_T31 l (j : Int)) (rd_T31 l (i : Int))) : VP l i ↔ VP l (i + 1) := by
  constructor
  · exact fun h m hm hl => h m (by omega) hl
  · intro h m hm hl
    rcases Nat.lt_or_ge i m with h3 | h3
    · exact h m (by omega) hl
    · obtain rfl : i = m := by omega
      exact ⟨h1, h2⟩
theorem vcast (i : Nat) (h : i < 4000000) : wrap64 ((i : Int) + 1) = ((i + 1 : Nat) : Int) := by
  unfold wrap64; omega
theorem rin_eq (l : List S31) (i : Nat) (hi : i < l.length) (hl : l.length ≤ 1000000) : ∀ (d j k : Nat), i - j = d → j ≤ i → d < k → ∃ b, rva_in k l (i : Int) (j : Int) = some b ∧ (b = true ↔ ∃ m, j ≤ m ∧ m < i ∧ conf (rd_T31 l (m : Int)) (rd_T31 l (i : Int))) := by
  intro d
  induction d with
  | zero =>
    intro j k hd hj hk
    obtain ⟨k, rfl⟩ : ∃ q, k = q + 1 := ⟨k - 1, by omega⟩
    unfold rva_in
    rw [if_neg (by omega)]
    exact ⟨false, rfl, ⟨fun h => (by cases h), fun ⟨m, h1, h2, _⟩ => by omega⟩⟩
  | succ d ih =>
    intro j k hd hj hk
    obtain ⟨k, rfl⟩ : ∃ q, k = q + 1 := ⟨k - 1, by omega⟩
    obtain ⟨b, hb, hiff⟩ := ih (j + 1) k (by omega) (by omega) (by omega)
    unfold rva_in
    rw [if_pos (by omega), if_pos (by omega), vcast j (by omega), hb]
    have next : ¬ conf (rd_T31 l (j : Int)) (rd_T31 l (i : Int)) → (b = true ↔ ∃ m, j ≤ m ∧ m < i ∧ conf (rd_T31 l (m : Int)) (rd_T31 l (i : Int))) := fun hn => by
      rw [hiff]
      constructor
      · rintro ⟨m, h1, h2, h3⟩; exact ⟨m, by omega, h2, h3⟩
      · rintro ⟨m, h1, h2, h3⟩
        rcases Nat.lt_or_ge j m with h4 | h4
        · exact ⟨m, by omega, h2, h3⟩
        · obtain rfl : j = m := by omega
          exact absurd h3 hn
    by_cases c1 : (rd_T31 l (j : Int)).f0 = (rd_T31 l (i : Int)).f0
    · rw [if_pos c1]
      by_cases c2 : rva_Bf.f (rd_T31 l (j : Int)) (rd_T31 l (i : Int)) = true
      · rw [if_pos c2]
        exact ⟨b, rfl, next (fun h => by rw [h.2.1] at c2; cases c2)⟩
      · rw [if_neg c2]
        by_cases c3 : rva_Bf.f (rd_T31 l (i : Int)) (rd_T31 l (j : Int)) = true
        · rw [if_pos c3]
          exact ⟨b, rfl, next (fun h => by rw [h.2.2] at c3; cases c3)⟩
        · rw [if_neg c3]
          exact ⟨true, rfl, ⟨fun _ => ⟨j, Nat.le_refl _, by omega, c1, Bool.eq_false_iff.mpr c2, Bool.eq_false_iff.mpr c3⟩, fun _ => rfl⟩⟩
    · rw [if_neg c1]
      exact ⟨b, rfl, next (fun h => c1 h.1)⟩
theorem bad_VP (l : List S31) (i : Nat) (hi : i < l.length) (h : ¬ vok (rd_T31 l (i : Int))) : ¬ VP l i := fun hp => h (hp i (Nat.le_refl _) hi).1
theorem rvalid_eq (l : List S31) (hl : l.length ≤ 1000000) : ∀ (d i k : Nat), l.length - i = d → i ≤ l.length → d + l.length + 2 ≤ k → ∃ b, corrieref19_Valid.l0 k l (i : Int) = some b ∧ (b = true ↔ VP l i) := by
  intro d
  induction d with
  | zero =>
    intro i k hd hi hk
    obtain ⟨k, rfl⟩ : ∃ q, k = q + 1 := ⟨k - 1, by omega⟩
    unfold corrieref19_Valid.l0
    rw [if_neg (by omega)]
    exact ⟨true, rfl, ⟨fun _ => VP_end l i (by omega), fun _ => rfl⟩⟩
  | succ d ih =>
    intro i k hd hi hk
    obtain ⟨k, rfl⟩ : ∃ q, k = q + 1 := ⟨k - 1, by omega⟩
    obtain ⟨b, hb, hiff⟩ := ih (i + 1) k (by omega) (by omega) (by omega)
    obtain ⟨c, hc, hciff⟩ := rin_eq l i (by omega) hl i 0 k (by omega) (by omega) (by omega)
    rw [show ((0 : Nat) : Int) = 0 from rfl] at hc
    unfold corrieref19_Valid.l0
    rw [if_pos (by omega), if_pos (by omega), vcast i (by omega), hb, hc]
    simp only [Option.bind_some]
    by_cases c1 : (rd_T31 l (i : Int)).f2 < 0
    · rw [if_pos c1]
      exact ⟨false, rfl, ⟨fun h => (by cases h), fun h => absurd h (bad_VP l i (by omega) (fun hv => hv.1 c1))⟩⟩
    · rw [if_neg c1]
      have fin : vok (rd_T31 l (i : Int)) → ∃ b_1, (if c = true then some false else some b) = some b_1 ∧ (b_1 = true ↔ VP l i) := fun hv => by
        cases c with
        | true =>
          obtain ⟨m, _, h2, h3⟩ := hciff.1 rfl
          exact ⟨false, rfl, ⟨fun h => (by cases h), fun h => absurd h3 ((h i (Nat.le_refl _) (by omega)).2 m h2)⟩⟩
        | false =>
          refine ⟨b, rfl, ?_⟩
          rw [hiff]
          exact (VP_step l i (by omega) hv (fun j hj hc => by have := hciff.2 ⟨j, Nat.zero_le _, hj, hc⟩; cases this)).symm
      by_cases c2 : (rd_T31 l (i : Int)).f3 ≥ 0
      · rw [if_pos c2]
        by_cases c3 : (rd_T31 l (i : Int)).f3 < (rd_T31 l (i : Int)).f2
        · rw [if_pos c3]
          exact ⟨false, rfl, ⟨fun h => (by cases h), fun h => absurd h (bad_VP l i (by omega) (fun hv => hv.2 ⟨c2, c3⟩))⟩⟩
        · rw [if_neg c3]
          exact fin ⟨c1, fun h => c3 h.2⟩
      · rw [if_neg c2]
        exact fin ⟨c1, fun h => c2 h.1⟩
theorem hix_eq (e : S31) (l : List S31) (hl : l.length ≤ 1000000) : ∀ (d j k : Nat), l.length - j = d → j ≤ l.length → d < k → ∃ r, hva_ix.l0 e k l (j : Int) = some r ∧ (0 ≤ r ↔ ∃ m, j ≤ m ∧ m < l.length ∧ history_Valid1.f (rd_T31 l (m : Int)) e = true) := by
  intro d
  induction d with
  | zero =>
    intro j k hd hj hk
    obtain ⟨k, rfl⟩ : ∃ q, k = q + 1 := ⟨k - 1, by omega⟩
    unfold hva_ix.l0
    rw [if_neg (by omega)]
    exact ⟨-1, rfl, ⟨fun h => by omega, fun ⟨m, h1, h2, _⟩ => by omega⟩⟩
  | succ d ih =>
    intro j k hd hj hk
    obtain ⟨k, rfl⟩ : ∃ q, k = q + 1 := ⟨k - 1, by omega⟩
    obtain ⟨r, hr, hiff⟩ := ih (j + 1) k (by omega) (by omega) (by omega)
    unfold hva_ix.l0
    rw [if_pos (by omega), if_pos (by omega), vcast j (by omega), hr]
    by_cases c : history_Valid1.f (rd_T31 l (j : Int)) e = true
    · rw [if_pos c]
      exact ⟨j, rfl, ⟨fun _ => ⟨j, Nat.le_refl _, by omega, c⟩, fun _ => by omega⟩⟩
    · rw [if_neg c]
      refine ⟨r, rfl, ?_⟩
      rw [hiff]
      constructor
      · rintro ⟨m, h1, h2, h3⟩; exact ⟨m, by omega, h2, h3⟩
      · rintro ⟨m, h1, h2, h3⟩
        rcases Nat.lt_or_ge j m with h4 | h4
        · exact ⟨m, by omega, h2, h3⟩
        · obtain rfl : j = m := by omega
          exact absurd h3 c
theorem take_rd (l : List S31) (i m : Nat) (hm : m < i) (hi : i ≤ l.length) : rd_T31 (l.take i) (m : Int) = rd_T31 l (m : Int) := by
  rw [vrd (l.take i) m (by rw [List.length_take]; omega), vrd l m (by omega), List.getElem_take]
theorem hvalid_eq (l : List S31) (hl : l.length ≤ 1000000) : ∀ (d i k : Nat), l.length - i = d → i ≤ l.length → d + l.length + 2 ≤ k → ∃ b, history_Valid.l0 k l (i : Int) = some b ∧ (b = true ↔ VP l i) := by
  intro d
  induction d with
  | zero =>
    intro i k hd hi hk
    obtain ⟨k, rfl⟩ : ∃ q, k = q + 1 := ⟨k - 1, by omega⟩
    unfold history_Valid.l0
    rw [if_neg (by omega)]
    exact ⟨true, rfl, ⟨fun _ => VP_end l i (by omega), fun _ => rfl⟩⟩
  | succ d ih =>
    intro i k hd hi hk
    obtain ⟨k, rfl⟩ : ∃ q, k = q + 1 := ⟨k - 1, by omega⟩
    obtain ⟨b, hb, hiff⟩ := ih (i + 1) k (by omega) (by omega) (by omega)
    have hil : (l.take i).length = i := by rw [List.length_take]; omega
    obtain ⟨c, hc, hciff⟩ := hix_eq (rd_T31 l (i : Int)) (l.take i) (by omega) i 0 k (by omega) (by omega) (by omega)
    rw [show ((0 : Nat) : Int) = 0 from rfl] at hc
    have hq : 0 ≤ c ↔ ∃ m, m < i ∧ conf (rd_T31 l (m : Int)) (rd_T31 l (i : Int)) := by
      rw [hciff]
      constructor
      · rintro ⟨m, _, h2, h3⟩
        rw [hil] at h2
        rw [take_rd l i m h2 hi] at h3
        exact ⟨m, h2, (clash_conf _ _).1 h3⟩
      · rintro ⟨m, h2, h3⟩
        exact ⟨m, Nat.zero_le _, by omega, by rw [take_rd l i m h2 hi]; exact (clash_conf _ _).2 h3⟩
    unfold history_Valid.l0
    rw [if_pos (by omega), if_pos (by omega), vcast i (by omega), hb]
    rw [show ((i : Int)).toNat = i from rfl, hc]
    simp only [Option.bind_some]
    by_cases c1 : (rd_T31 l (i : Int)).f2 < 0
    · rw [if_pos c1]
      exact ⟨false, rfl, ⟨fun h => (by cases h), fun h => absurd h (bad_VP l i (by omega) (fun hv => hv.1 c1))⟩⟩
    · rw [if_neg c1]
      have fin : vok (rd_T31 l (i : Int)) → ∃ b_1, (if 0 ≤ c then some false else some b) = some b_1 ∧ (b_1 = true ↔ VP l i) := fun hv => by
        by_cases hc0 : 0 ≤ c
        · rw [if_pos hc0]
          obtain ⟨m, h2, h3⟩ := hq.1 hc0
          exact ⟨false, rfl, ⟨fun h => (by cases h), fun h => absurd h3 ((h i (Nat.le_refl _) (by omega)).2 m h2)⟩⟩
        · rw [if_neg hc0]
          refine ⟨b, rfl, ?_⟩
          rw [hiff]
          exact (VP_step l i (by omega) hv (fun j hj hc => hc0 (hq.2 ⟨j, hj, hc⟩))).symm
      by_cases c2 : (rd_T31 l (i : Int)).f3 ≥ 0
      · rw [if_pos c2]
        by_cases c3 : (rd_T31 l (i : Int)).f3 < (rd_T31 l (i : Int)).f2
        · rw [if_pos c3]
          exact ⟨false, rfl, ⟨fun h => (by cases h), fun h => absurd h (bad_VP l i (by omega) (fun hv => hv.2 ⟨c2, c3⟩))⟩⟩
        · rw [if_neg c3]
          exact fin ⟨c1, fun h => c3 h.2⟩
      · rw [if_neg c2]
        exact fin ⟨c1, fun h => c2 h.1⟩
theorem rvalid (l : List S31) (hl : l.length ≤ 12) (k : Nat) (hk : 30 ≤ k) : ∃ b, corrieref19_Valid.f k l = some b ∧ (b = true ↔ VP l 0) := rvalid_eq l (by omega) l.length 0 k (by omega) (by omega) (by omega)
theorem hvalid (l : List S31) (hl : l.length ≤ 12) (k : Nat) (hk : 30 ≤ k) : ∃ b, history_Valid.f k l = some b ∧ (b = true ↔ VP l 0) := hvalid_eq l (by omega) l.length 0 k (by omega) (by omega) (by omega)
theorem VP_list (l : List S31) : VP l 0 ↔ (∀ x ∈ l, vok x) ∧ l.Pairwise (fun x y => ¬ conf x y) := by
  rw [List.pairwise_iff_getElem]
  constructor
  · intro h
    refine ⟨fun x hx => ?_, fun i j hi hj hij => ?_⟩
    · obtain ⟨m, hm, rfl⟩ := List.mem_iff_getElem.1 hx
      have := (h m (Nat.zero_le _) hm).1
      rwa [vrd l m hm] at this
    · have := (h j (Nat.zero_le _) hj).2 i hij
      rwa [vrd l j hj, vrd l i hi] at this
  · rintro ⟨h1, h2⟩ m _ hm
    refine ⟨by rw [vrd l m hm]; exact h1 _ (List.getElem_mem _), fun j hj => ?_⟩
    rw [vrd l m hm, vrd l j (by omega)]
    exact h2 j m (by omega) hm hj
theorem VP_sub {l' l : List S31} (hs : l'.Sublist l) (h : VP l 0) : VP l' 0 := by
  rw [VP_list] at h ⊢
  exact ⟨fun x hx => h.1 x (hs.subset hx), h.2.sublist hs⟩
theorem law (l : List S31) (a : Int) (ha : 0 ≤ a ∧ a ≤ 255) : corrielaw19_HistoryPart.f 40 l a = some true := by
  unfold corrielaw19_HistoryPart.f
  obtain ⟨z, hz, hzl⟩ := few 40 l (by omega)
  rw [hz]
  simp only [Option.bind_some]
  cases z with
  | false => rfl
  | true =>
    rw [if_pos rfl]
    have hl := hzl rfl
    obtain ⟨v, hv, hvi⟩ := rvalid l hl 40 (by omega)
    rw [hv]
    simp only [Option.bind_some]
    cases v with
    | false => rfl
    | true =>
      have hV := hvi.1 rfl
      have hw : wrap64 a = a := by unfold wrap64; omega
      have hw2 : wrap64 ((l.length : Int) + 1) = (l.length : Int) + 1 := by unfold wrap64; omega
      have ht : (wrap64 a).tmod (wrap64 ((l.length : Int) + 1)) = a % ((l.length : Int) + 1) := by
        rw [hw, hw2, Int.tmod_eq_emod_of_nonneg ha.1]
      have h0 : 0 ≤ a % ((l.length : Int) + 1) := Int.emod_nonneg _ (by omega)
      have h1 : a % ((l.length : Int) + 1) < (l.length : Int) + 1 := Int.emod_lt_of_pos _ (by omega)
      rw [if_pos rfl, ht, if_pos ⟨hl, h0, by omega⟩]
      obtain ⟨p, hp, hpi⟩ := hvalid (l.take (a % ((l.length : Int) + 1)).toNat) (by rw [List.length_take]; omega) 40 (by omega)
      obtain ⟨q, hq, hqi⟩ := hvalid (hpa_oth ((wrap64 a).tmod 3) l) (by have := List.length_filter_le (fun x : S31 => x.f0 != (wrap64 a).tmod 3) l; unfold hpa_oth; omega) 40 (by omega)
      rw [hp, hq]
      simp only [Option.bind_some]
      rw [if_pos ⟨hpi.2 (VP_sub (List.take_sublist _ _) hV), hqi.2 (VP_sub List.filter_sublist hV)⟩]
theorem proof : corrielaw19_HistoryPart.Pure := by
  unfold corrielaw19_HistoryPart.Pure
  intro l a hl hw ha
  refine ⟨40, law l a ?_⟩
  simp only [Lit.wf, IntKind.min, IntKind.max, IntKind.signed, IntKind.bits, Bool.and_eq_true, decide_eq_true_eq] at ha
  exact ⟨by simpa using ha.1, by simpa using ha.2⟩
end Go.Proofs.Ytpcmoclohepdiad.Pure.HistoryPart
namespace Go.Proofs.Ytpcmoclohepdiad.Pure
theorem HistoryPart : Go.Proofs.Ytpcmoclohepdiad.PHistoryPart.corrielaw19_HistoryPart.Pure := HistoryPart.proof
end Go.Proofs.Ytpcmoclohepdiad.Pure
