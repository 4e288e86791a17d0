-- Written by a program of this session: a variant of the print that takes proofs by hand (wip/tools/mkprint.py)
import Derived.Test.YtcleoahoppggmaaPLinRightx0
import Derived.Test.YtcleoahoppggmaaPLinRightx2
import Derived.Test.YtcleoahoppggmaaPLinRightx3
import Derived.Test.YtcleoahoppggmaaPLinRightx4
import Derived.Test.YtcleoahoppggmaaPLinRightx5
import Derived.Test.YtcleoahoppggmaaPLinRightx6
import Derived.Test.YtcleoahoppggmaaPLinRightx7
namespace Go.Proofs.Ytcleoahoppggmaa.PLinRight
open Go.RowKit Go.Proofs.YtcleoahoppggmaaW.PrintWords Go.Proofs.YtcleoahoppggmaaW.PrintLast Go.Proofs.YtcleoahoppggmaaW.PrintMore
attribute [local go_sem] max2_int min2_int max_two min_two max_three min_three max_four min_four   -- for this text's walks alone
set_option linter.unusedVariables false
set_option linter.unusedSimpArgs false

/-! ### corrielaw21_LinRight: function 4 (by hand) -/
def LG (h : List S44) : List Bool → List S53 → List Nat → Prop
  | inb, _, [] => wholeP h inb = true
  | inb, l, n :: s => n < h.length ∧ readyP h inb n = true ∧ tellsP (rd_T44 h (n : Int)) (apD l (rd_T44 h (n : Int)).f5.f0 (rd_T44 h (n : Int)).f5.f1) (apV l (rd_T44 h (n : Int)).f5.f0 (rd_T44 h (n : Int)).f5.f1) = true ∧ LG h (inb.set n true) (apL l (rd_T44 h (n : Int)).f5.f0 (rd_T44 h (n : Int)).f5.f1 (rd_T44 h (n : Int)).f5.f2) s
theorem srch_LG (h : List S44) : ∀ (f : Nat) (turn : List Nat) (inb : List Bool) (l : List S53) (t : List Nat), srch h f turn inb l = some t → ∃ s, t = turn ++ s ∧ LG h inb l s
  | 0, turn, inb, l, t, hs => by rw [srch] at hs; cases hs
  | f + 1, turn, inb, l, t, hs => by
    cases hw : wholeP h inb with
    | true =>
      rw [srch_whole hw] at hs
      cases hs
      exact ⟨[], (List.append_nil _).symm, hw⟩
    | false =>
      rw [srch_try hw] at hs
      obtain ⟨n, hn, hg⟩ := List.exists_of_findSome?_eq_some hs
      rw [List.mem_range] at hn
      unfold try1 at hg
      simp only at hg
      split at hg
      · rename_i hrd
        split at hg
        · rename_i htl
          obtain ⟨s, e, hl⟩ := srch_LG h f _ _ _ t hg
          exact ⟨n :: s, by rw [e, List.append_assoc]; rfl, hn, hrd, htl, hl⟩
        · cases hg
      · cases hg
theorem LG_srch (h : List S44) : ∀ (f : Nat) (turn : List Nat) (inb : List Bool) (l : List S53) (s : List Nat), inb.length = h.length → inb.count false < f → LG h inb l s → ∃ t, srch h f turn inb l = some t
  | 0, turn, inb, l, s, _, hf, _ => absurd hf (Nat.not_lt_zero _)
  | f + 1, turn, inb, l, s, hin, hf, hl => by
    cases hw : wholeP h inb with
    | true => exact ⟨turn, srch_whole hw⟩
    | false =>
      cases s with
      | nil =>
        have h2 : wholeP h inb = true := hl
        rw [hw] at h2
        cases h2
      | cons n s =>
        obtain ⟨h1, h2, h3, h4⟩ := hl
        have hc := count_set (inb := inb) (by omega) (ready_in h2).1
        obtain ⟨t, ht⟩ := LG_srch h f (turn ++ [n]) _ _ s (by rw [List.length_set]; exact hin) (by omega) h4
        have hg : try1 h f turn inb l n = some t := (try_on rfl h2 h3).trans ht
        rw [srch_try hw]
        cases hs : (List.range h.length).findSome? (try1 h f turn inb l) with
        | some t2 => exact ⟨t2, rfl⟩
        | none =>
          rw [List.findSome?_eq_none_iff] at hs
          have := hs n (List.mem_range.mpr h1)
          rw [hg] at this
          cases this
def none0 (h : List S44) : List Bool := List.replicate h.length false
theorem order_LG {h : List S44} {t : List Nat} (hs : orderP h = some t) : LG h (none0 h) [] t := by
  obtain ⟨s, e, hl⟩ := srch_LG h _ _ _ _ t hs
  rw [e, List.nil_append]
  exact hl
theorem LG_order {h : List S44} {s : List Nat} (hl : LG h (none0 h) [] s) : (orderP h).isSome = true := by
  obtain ⟨t, ht⟩ := LG_srch h (h.length + 1) [] (none0 h) [] s (by simp [none0]) (by simp [none0]) hl
  unfold orderP
  unfold none0 at ht
  rw [ht]
  rfl
theorem ready_un {h : List S44} {inb : List Bool} {n i : Nat} (h1 : readyP h inb n = true) (hi : i < h.length) : readyB h inb n i = false := by
  unfold readyP at h1
  rw [Bool.and_eq_true, List.all_eq_true] at h1
  have := h1.2 i (List.mem_range.mpr hi)
  simpa using this
theorem whole_un {h : List S44} {inb : List Bool} {i : Nat} (h1 : wholeP h inb = true) (hi : i < h.length) : wholeB h inb i = false := by
  unfold wholeP at h1
  rw [List.all_eq_true] at h1
  have := h1 i (List.mem_range.mpr hi)
  simpa using this
theorem inA_set {inb : List Bool} {n i : Nat} {b : Bool} (hn : n < inb.length) : inA (inb.set n b) i = if i = n then b else inA inb i := by
  unfold inA
  rw [List.getD_eq_getElem?_getD, List.getElem?_set]
  by_cases c : n = i
  · subst c
    rw [if_pos rfl, if_pos hn, if_pos rfl]
    rfl
  · rw [if_neg c, if_neg (Ne.symm c), List.getD_eq_getElem?_getD]
theorem few_eq (m : Nat) (l : List S44) : ∀ (d i k : Nat), m + 1 - i = d → i ≤ m + 1 → 2 * d + 2 < k → m ≤ 100 → ∃ z, corrieref19_Few.l0 k l (m : Int) (i : Int) = some z ∧ (z = true → l.length ≤ m) := by
  intro d
  induction d with
  | zero =>
    intro i k hd hi hk hm
    obtain ⟨k, rfl⟩ : ∃ q, k = q + 2 := ⟨k - 2, by omega⟩
    simp only [corrieref19_Few.l0, corrieref19_Few.j1]
    have e : decide ((i : Int) ≤ (m : Int)) = false := decide_eq_false (by omega)
    rw [e]
    by_cases c : (i : Int) < (l.length : Int)
    · rw [if_pos c, if_neg (by decide)]
      exact ⟨_, rfl, fun h => by have := of_decide_eq_true h; omega⟩
    · rw [if_neg c, if_neg (by decide)]
      exact ⟨_, rfl, fun h => by have := of_decide_eq_true h; omega⟩
  | succ d ih =>
    intro i k hd hi hk hm
    obtain ⟨k, rfl⟩ : ∃ q, k = q + 2 := ⟨k - 2, by omega⟩
    have w2 : wrap64 ((i : Int) + 1) = ((i + 1 : Nat) : Int) := by unfold wrap64; omega
    simp only [corrieref19_Few.l0, corrieref19_Few.j1]
    have e : decide ((i : Int) ≤ (m : Int)) = true := decide_eq_true (by omega)
    rw [e]
    by_cases c : (i : Int) < (l.length : Int)
    · rw [if_pos c, if_pos rfl, if_pos (by omega), if_pos c]
      by_cases c2 : ((rd_T44 l (i : Int)).f6.f3.length : Int) > 20
      · rw [if_pos c2]
        exact ⟨false, rfl, fun h => by cases h⟩
      · rw [if_neg c2, w2]
        exact ih (i + 1) k (by omega) (by omega) (by omega) hm
    · rw [if_neg c, if_neg (by decide)]
      exact ⟨_, rfl, fun h => by have := of_decide_eq_true h; omega⟩
theorem li_Few (A : Option Addr) (c : Nat) (l : List S44) (m : Nat) (hm : m ≤ 100) (hc : l.length ≤ c) (W : World) (hr : Kd.C k44 W A l.length l) : ∃ z : Bool, (z = true → l.length ≤ m) ∧ ∀ W2 : World, Kd.C k44 W2 A l.length l → Calls Try.prog 13 #[.slice A l.length c, .int .i64 m] W2 fun e w' => e = .returned (.bool z) ∧ Below W2.heap.size W2 w' := by
  obtain ⟨z, hz, h1⟩ := few_eq m l (m + 1) 0 (2 * m + 5) (by omega) (by omega) (by omega) hm
  refine ⟨z, h1, fun W2 hr2 => ?_⟩
  refine (corrieref19_Few.calls (2 * m + 5) A c l (m : Int) z W2 hr2 hc hz).mono ?_
  rintro e w' ⟨rfl, hq⟩
  exact ⟨rfl, by first | exact hq | exact hq.below⟩
theorem li_rBefore (e f : S44) (A B : Option Addr) (c d : Nat) (hc : e.f6.f3.length ≤ c) (hd : f.f6.f3.length ≤ d) (W : World) (hr : Kd.C k53 W A e.f6.f3.length e.f6.f3) (hs : Kd.C k53 W B f.f6.f3.length f.f6.f3) :
    Calls Try.prog 15 #[.agg #[.int .i64 e.f0, .int .i64 e.f1, .int .i64 e.f2, .int .i64 e.f3, .int .i64 e.f4, .int .i64 e.f5.f0, .int .u64 e.f5.f1, .int .u64 e.f5.f2, .int .i64 e.f5.f3, .int .i64 e.f6.f0, .bool e.f6.f1, .int .u64 e.f6.f2, .slice A e.f6.f3.length c], .agg #[.int .i64 f.f0, .int .i64 f.f1, .int .i64 f.f2, .int .i64 f.f3, .int .i64 f.f4, .int .i64 f.f5.f0, .int .u64 f.f5.f1, .int .u64 f.f5.f2, .int .i64 f.f5.f3, .int .i64 f.f6.f0, .bool f.f6.f1, .int .u64 f.f6.f2, .slice B f.f6.f3.length d]] W fun e' w' => e' = .returned (.bool (bef e f)) ∧ Below W.heap.size W w' :=
  corrieref19_Before.calls (r := bef e f) (w := W) (hr0_12 := hr) (hc0_12 := hc) (hr1_12 := hs) (hc1_12 := hd) (h := by
    unfold corrieref19_Before.f bef
    by_cases h : 0 ≤ e.f3
    · rw [if_pos h, decide_eq_true h, Bool.true_and]
    · rw [if_neg h, decide_eq_false h, Bool.false_and])
/-- one event of a row, as a row -/
theorem ev_sub {w : World} {ad : Addr} {l : List S44} {k : Nat} {A : Option Addr} {c : Nat} (hE : ∀ j u, (evv (rd_T44 l (k : Int)) A c)[j]? = some u → w.cell? ((ad.add (k * 13)).add j) = some u) (hl : (rd_T44 l (k : Int)).f6.f3.length ≤ c) (hr : Kd.C k53 w A (rd_T44 l (k : Int)).f6.f3.length (rd_T44 l (k : Int)).f6.f3) : Kd.C k44 w (some (ad.add (k * 13))) 1 [rd_T44 l (k : Int)] := by
  refine ⟨rfl, by decide, fun _ => ⟨_, rfl, ?_⟩⟩
  intro j p hj
  have hj0 : j = 0 := by
    have := (List.getElem?_eq_some_iff.1 hj).1
    simp at this
    exact this
  subst hj0
  simp at hj
  subst hj
  refine ⟨_, rfl, k44_mk w _ hl hr, fun q u hq => ?_⟩
  rw [Nat.zero_mul, Nat.zero_add]
  exact hE q u (by simpa [evv] using hq)
theorem li_rPoints1 (ad : Addr) (c0 : Nat) (e : S44) (W : World) (hr : Kd.C k44 W (some ad) 1 [e]) : Calls Try.prog 16 #[.slice (some ad) 1 c0] W fun e' w' => ∃ A1 c1, e' = .returned (.slice A1 (if isPt e then 1 else 0) c1) ∧ Below W.heap.size W w' := by
  refine (corrieref19_Points.law (some ad) c0 [e] W hr (by simp)).mono ?_
  rintro e' w' ⟨A1, c1, rfl, _, _, hb⟩
  have hl : ([e].filter fun x => !history_Points1.f x).length = if isPt e then 1 else 0 := by
    unfold isPt
    cases h : history_Points1.f e <;> simp [h]
  rw [hl]
  exact ⟨A1, c1, rfl, hb⟩
/-- a row of pairs lies apart from a block of bools -/
theorem C_apart {w w' : World} {gi : Nat} {A : Option Addr} {l : List S53} {bs : List Bool} (h : Kd.C k53 w A l.length l) (hb : w.heap[gi]? = some (.cells (bs.map Value.bool).toArray 4 (0, 0))) (hg : w.grownBy w' (some gi)) : Kd.C k53 w' A l.length l := by
  cases l with
  | nil => exact ⟨rfl, by simp, fun h0 => absurd h0 (by simp)⟩
  | cons p r =>
    refine ⟨rfl, h.2.1, fun _ => ?_⟩
    obtain ⟨ad, rfl, hc⟩ := h.2.2 (by simp)
    refine ⟨ad, rfl, fun j q hj => ?_⟩
    obtain ⟨c, h1, h2, h3⟩ := hc j q hj
    have hce := k53_open h2
    subst hce
    refine ⟨_, h1, k53_mk w' q, fun i u hi => ?_⟩
    have hx := h3 i u hi
    refine (cell_block ?_).trans hx
    refine hg.block _ (World.block_lt_of_cell? w _ hx) (fun e2 => ?_)
    have e3 : (ad.add (j * k53.sz + i)).block = gi := Option.some.inj e2
    have hu : ∃ n, u = .int .u64 n := by
      match i, hi with
      | 0, hi => exact ⟨q.f0, by simpa using hi.symm⟩
      | 1, hi => exact ⟨q.f1, by simpa using hi.symm⟩
    obtain ⟨n, rfl⟩ := hu
    have hw : ∀ P : Addr, P.block = gi → w.cell? P = some (.int .u64 n) → False := by
      intro P hP hcell
      unfold World.cell? at hcell
      rw [hP, hb] at hcell
      simp only at hcell
      first
        | (split at hcell <;> simp_all)
        | simp_all
    exact hw _ e3 hx
/-- an element of a row of numbers -/
theorem int_at {w : World} {A : Option Addr} {n : Nat} {t : List Nat} (h : Kd.C (Kd.int .i64) w A n (t.map fun q => ((q : Nat) : Int))) (i : Nat) (hi : i < t.length) : ∃ ad, A = some ad ∧ w.cell? (ad.add i) = some (.int .i64 ((t[i] : Nat) : Int)) := by
  have hn : n = t.length := by rw [← h.1, List.length_map]
  obtain ⟨ad, e1, h1⟩ := h.2.2 (by omega)
  obtain ⟨c, hcl, hK, hcc⟩ := h1 i (t[i] : Nat) (by simp [hi])
  have hK' : c = [.int .i64 ((t[i] : Nat) : Int)] := hK
  subst hK'
  have h9 : w.cell? (ad.add (i * 1 + 0)) = some (.int .i64 ((t[i] : Nat) : Int)) := hcc 0 _ rfl
  exact ⟨ad, e1, by simpa using h9⟩
theorem li_Order_none (A : Option Addr) (c0 : Nat) (h : List S44) (hh : h.length ≤ 1000) (ho : orderP h = none) (W : World) (hr : Kd.C k44 W A h.length h) : Calls Try.prog 14 #[.slice A h.length c0] W fun e w' => ∃ ao c, e = .returned (.tuple #[.slice ao 0 c, .bool false]) ∧ Below W.heap.size W w' := by
  refine (li_Order A c0 h hh W hr).mono ?_
  rintro e w' ⟨ao, c, rfl, _, _, hb⟩
  have ht : turnP h = [] := by unfold turnP; rw [ho]; rfl
  rw [ht, ho]
  exact ⟨ao, c, rfl, hb⟩
theorem li_Order_some (A : Option Addr) (c0 : Nat) (h : List S44) (hh : h.length ≤ 1000) (t : List Nat) (ho : orderP h = some t) (W : World) (hr : Kd.C k44 W A h.length h) : Calls Try.prog 14 #[.slice A h.length c0] W fun e w' => ∃ ao c, e = .returned (.tuple #[.slice ao t.length c, .bool true]) ∧ Kd.C (Kd.int .i64) w' ao t.length (t.map fun n => ((n : Nat) : Int)) ∧ Below W.heap.size W w' := by
  refine (li_Order A c0 h hh W hr).mono ?_
  rintro e w' ⟨ao, c, rfl, _, hk, hb⟩
  have ht : turnP h = t := by unfold turnP; rw [ho]; rfl
  rw [ht] at hk ⊢
  rw [ho]
  exact ⟨ao, c, rfl, hk, hb⟩
theorem li_rPts0 {e : S44} (hp : isPt e = false) (ad : Addr) (c0 : Nat) (W : World) (hr : Kd.C k44 W (some ad) 1 [e]) : Calls Try.prog 16 #[.slice (some ad) 1 c0] W fun e' w' => ∃ A1 c1, e' = .returned (.slice A1 0 c1) ∧ Below W.heap.size W w' := by
  have h := li_rPoints1 ad c0 e W hr
  rw [hp] at h
  exact h
theorem add_at (P : Addr) (m j : Nat) (hm : 0 < m) : (⟨P.block, P.off + m, none⟩ : Addr).add j = P.add (m + j) := by
  rcases Nat.eq_zero_or_pos j with h | h
  · subst h
    rw [add_none]
    unfold Addr.add
    rw [if_neg (by omega)]
    rfl
  · unfold Addr.add
    rw [if_neg (by omega), if_neg (by omega)]
    simp only [Addr.mk.injEq, true_and, and_true]
    omega
theorem ev_cell {w : World} {P : Addr} {vs : List Value} (h : ∀ j u, vs[j]? = some u → w.cell? (P.add j) = some u) (m : Nat) (v : Value) (hm : 0 < m) (hv : vs[m]? = some v) : w.cell? ⟨P.block, P.off + m, none⟩ = some v := by
  have h1 := h m v hv
  rw [show P.add m = ⟨P.block, P.off + m, none⟩ from by unfold Addr.add; rw [if_neg (by omega)]] at h1
  exact h1
theorem ev_call {w : World} {P : Addr} {e : S44} {A : Option Addr} {c : Nat} (h : ∀ j u, (evv e A c)[j]? = some u → w.cell? (P.add j) = some u) : ∀ j u, ([.int .i64 e.f5.f0, .int .u64 e.f5.f1, .int .u64 e.f5.f2, .int .i64 e.f5.f3] : List Value)[j]? = some u → w.cell? ((⟨P.block, P.off + 5, none⟩ : Addr).add j) = some u := by
  intro j u hj
  rw [add_at P 5 j (by decide)]
  refine h (5 + j) u ?_
  match j, hj with
  | 0, hj => simpa [evv] using hj
  | 1, hj => simpa [evv] using hj
  | 2, hj => simpa [evv] using hj
  | 3, hj => simpa [evv] using hj
set_option maxHeartbeats 8000000 in
set_option maxRecDepth 100000 in
theorem lr_few (A : Option Addr) (c : Nat) (h : List S44) (W : World) (hr : Kd.C k44 W A h.length h) (hfew : ∀ W2 : World, Kd.C k44 W2 A h.length h → Calls Try.prog 13 #[.slice A h.length c, .int .i64 7] W2 fun e w' => e = .returned (.bool false) ∧ Below W2.heap.size W2 w')  :
    Calls Try.prog 4 #[.slice A h.length c] W fun e w' => e = .returned (.bool true) ∧ Below W.heap.size W w' := by
  have HR := Aside0.mk hr
  have HF7 := Aside0.mk hfew
  have HB := Aside0.mk (Below.refl W.heap.size W)
  clear hr hfew
  go_enter Try.func4, Try.ntmps4
  go_wp2_with (first | (go_at_call 7; (with_reducible refine (li_awake _).mono ?_); rintro e u1_ ⟨rfl, hbk⟩; have n_HB := Aside0.mk (below_step HB.out hbk); clear HB; have HB := n_HB; clear n_HB; clear hbk) | (go_at_call 13; (with_reducible refine (HF7.out _ (Kd.C_below HR.out HB.out)).mono ?_); rintro e u2_ ⟨rfl, hbk⟩; have n_HB := Aside0.mk (below_step HB.out hbk); clear HB; have HB := n_HB; clear n_HB; clear hbk))
  go_ret
  exact ⟨rfl, HB.out⟩
set_option maxHeartbeats 8000000 in
set_option maxRecDepth 100000 in
theorem lr_none (A : Option Addr) (c : Nat) (h : List S44) (W : World) (hr : Kd.C k44 W A h.length h) (hfew : ∀ W2 : World, Kd.C k44 W2 A h.length h → Calls Try.prog 13 #[.slice A h.length c, .int .i64 7] W2 fun e w' => e = .returned (.bool true) ∧ Below W2.heap.size W2 w') (hh : h.length ≤ 7) (ho : orderP h = none) :
    Calls Try.prog 4 #[.slice A h.length c] W fun e w' => e = .returned (.bool true) ∧ Below W.heap.size W w' := by
  have HR := Aside0.mk hr
  have HF7 := Aside0.mk hfew
  have HB := Aside0.mk (Below.refl W.heap.size W)
  have HH := Aside0.mk hh
  have HO := Aside0.mk ho
  clear hh ho
  clear hr hfew
  go_enter Try.func4, Try.ntmps4
  go_wp2_with (first | (go_at_call 7; (with_reducible refine (li_awake _).mono ?_); rintro e u1_ ⟨rfl, hbk⟩; have n_HB := Aside0.mk (below_step HB.out hbk); clear HB; have HB := n_HB; clear n_HB; clear hbk) | (go_at_call 13; (with_reducible refine (HF7.out _ (Kd.C_below HR.out HB.out)).mono ?_); rintro e u2_ ⟨rfl, hbk⟩; have n_HB := Aside0.mk (below_step HB.out hbk); clear HB; have HB := n_HB; clear n_HB; clear hbk) | (go_at_call 14; (with_reducible refine (li_Order_none A c h (by have := HH.out; omega) HO.out _ (Kd.C_below HR.out HB.out)).mono ?_); rintro e u3_ ⟨ao, c4, rfl, hbk⟩; have n_HB := Aside0.mk (below_step HB.out hbk); clear HB; have HB := n_HB; clear n_HB; clear hbk))
  go_ret
  exact ⟨rfl, HB.out⟩
def lr_some_lb (n m : Nat) : Array Bool := ((List.range n).map (fun i => m.testBit i)).toArray
def lr_some.T19 : Bool × List (List Nat × List Nat) := (true, [([], []), ([], []), ([0, 1], [0, 1]), ([2], [2]), ([3], [3]), ([4], [4]), ([5], [5]), ([5], [5]), ([6, 7, 5], [5, 6, 7]), ([8, 5], [5, 8]), ([5], [5]), ([5], [5]), ([10, 11, 5], [5, 10, 11]), ([12, 5], [5, 12]), ([9, 13, 5, 5], [5, 9, 13]), ([5, 14], [5, 14]), ([15, 14], [15]), ([16], [16]), ([16], [16]), ([16], [16]), ([19, 16], [16, 19]), ([17, 18, 20, 16], [16, 17, 18, 20]), ([21, 16, 16], [16, 21]), ([22, 16], [16, 22]), ([23, 16], [16, 23]), ([16, 24], [16, 24])])
def lr_some.B19 : List Nat := [0, 0, 3, 7, 15, 31, 63, 63, 255, 511, 63, 63, 3135, 7231, 16383, 32767, 65535, 131071, 131071, 131071, 655359, 2097151, 4194303, 8388607, 16777215, 33554431]
theorem lr_some.tab19 : rtab .any (opsOf Try.f4 19) = lr_some.T19 := by kernel_rfl
theorem lr_some.bits19 : waitsOk lr_some.T19.2 lr_some.B19 = true := by kernel_rfl
def lr_some.T23 : Bool × List (List Nat × List Nat) := (true, [([], []), ([], []), ([0, 1], [0, 1]), ([2], [2]), ([3], [3]), ([4], [4]), ([5], [5]), ([6], [6]), ([6], [6]), ([7, 8, 6], [6, 7, 8]), ([9, 6], [6, 9]), ([10, 6], [6, 10]), ([11, 6], [6, 11]), ([6], [6]), ([13, 6], [6, 13]), ([12, 14, 6], [6, 12, 14]), ([15, 6, 6], [6, 15]), ([16], [16]), ([16], [16]), ([17, 18, 16], [16, 17, 18]), ([19, 16], [16, 19]), ([20, 16], [16, 20]), ([21, 16], [16, 21]), ([16], [16]), ([23, 16], [16, 23]), ([22, 24, 16], [16, 22, 24]), ([16, 25, 6], [6, 16, 25]), ([6, 26], [6, 26])])
def lr_some.B23 : List Nat := [0, 0, 3, 7, 15, 31, 63, 127, 127, 511, 1023, 2047, 4095, 127, 8319, 32767, 65535, 131071, 131071, 524287, 1048575, 2097151, 4194303, 131071, 8519679, 33554431, 67108863, 134217727]
theorem lr_some.tab23 : rtab .any (opsOf Try.f4 23) = lr_some.T23 := by kernel_rfl
theorem lr_some.bits23 : waitsOk lr_some.T23.2 lr_some.B23 = true := by kernel_rfl
set_option maxHeartbeats 8000000 in
set_option maxRecDepth 100000 in
theorem lr_some (A : Option Addr) (c : Nat) (h : List S44) (W : World) (hr : Kd.C k44 W A h.length h) (hfew : ∀ W2 : World, Kd.C k44 W2 A h.length h → Calls Try.prog 13 #[.slice A h.length c, .int .i64 7] W2 fun e w' => e = .returned (.bool true) ∧ Below W2.heap.size W2 w') (hh : h.length ≤ 7) (hcc : h.length ≤ c) (t : List Nat) (ho : orderP h = some t) :
    Calls Try.prog 4 #[.slice A h.length c] W fun e w' => e = .returned (.bool true) ∧ Below W.heap.size W w' := by
  have HR := Aside0.mk hr
  have HF7 := Aside0.mk hfew
  have HB := Aside0.mk (Below.refl W.heap.size W)
  have HH := Aside0.mk hh
  have HO := Aside0.mk ho
  have HTL := Aside0.mk (show t.length ≤ h.length from by have := turnP_len h; unfold turnP at this; rw [ho] at this; exact this)
  have HLG0 := Aside0.mk (order_LG ho)
  have HCC := Aside0.mk hcc
  have hhb : (h.length : Int) ≤ 7 := by omega
  have htb : (t.length : Int) ≤ 7 := by have := HTL.out; omega
  clear hh ho hcc
  clear hr hfew
  go_enter Try.func4, Try.ntmps4
  go_wp2_with (first | (go_at_call 7; (with_reducible refine (li_awake _).mono ?_); rintro e u1_ ⟨rfl, hbk⟩; have n_HB := Aside0.mk (below_step HB.out hbk); clear HB; have HB := n_HB; clear n_HB; clear hbk) | (go_at_call 13; (with_reducible refine (HF7.out _ (Kd.C_below HR.out HB.out)).mono ?_); rintro e u2_ ⟨rfl, hbk⟩; have n_HB := Aside0.mk (below_step HB.out hbk); clear HB; have HB := n_HB; clear n_HB; clear hbk) | (go_at_call 14; (with_reducible refine (li_Order_some A c h (by have := HH.out; omega) t HO.out _ (Kd.C_below HR.out HB.out)).mono ?_); rintro e u3_ ⟨ao, c4, rfl, hk4, hbk⟩; have n_HB := Aside0.mk (below_step HB.out hbk); clear HB; have HB := n_HB; clear n_HB; clear hbk; have hq : ∃ w4 : World, Kd.C (Kd.int .i64) w4 ao t.length (t.map fun q => ((q : Nat) : Int)) ∧ Below w4.heap.size w4 u3_ := ⟨_, hk4, Below.refl _ _⟩; obtain ⟨w4, q0, hbn⟩ := hq; have HK4 := Aside0.mk q0; have HB4 := Aside0.mk hbn; clear hbn q0; clear hk4) | (refine li_mkbool (x := .tmp 33) (y := .tmp 33) rfl rfl h.length (by have := HH.out; omega) rfl rfl ?_; intro gi hg w4_ hbox hbk; have HGBI := Aside0.mk (show W.heap.size ≤ gi from by rw [hg]; have := HB.out.size; omega); have HGI := Aside0.mk (show W.heap.size ≤ gi ∧ w4.heap.size ≤ gi from by rw [hg]; exact ⟨HB.out.size, HB4.out.size⟩); have n_HB := Aside0.mk (below_step HB.out hbk); have n_HB4 := Aside0.mk (below_step HB4.out hbk); clear HB HB4; have HB := n_HB; have HB4 := n_HB4; clear n_HB n_HB4; have BI := Aside0.mk hbox; clear hbk hbox hg))
  go_loopg [6, 8] t.length (fun kq v6 v8 wr => ∃ (i : Nat) (l : List S53) (Al : Option Addr) (cl : Nat) (seen : List Bool), v8 = .int .i64 i ∧ v6 = .slice Al l.length cl ∧ Aside0 (i ≤ t.length) ∧ Aside0 (t.length - i ≤ kq) ∧ Aside0 (seen.length = h.length) ∧ Aside0 (LG h seen l (t.drop i)) ∧ Aside0 (Rising l) ∧ Aside0 (l.length ≤ i ∧ l.length ≤ cl) ∧ Aside0 (Kd.C k53 wr Al l.length l) ∧ Aside0 (wr.heap[gi]? = some (.cells ((seen).map Value.bool).toArray 4 (0, 0))) ∧ Aside0 (Below w4.heap.size w4 wr) ∧ Aside0 (Below W.heap.size W wr))
  case atStart => exact ⟨0, [], none, 0, none0 h, rfl, rfl, ⟨Nat.zero_le _⟩, ⟨by omega⟩, ⟨by simp [none0]⟩, HLG0, ⟨List.Pairwise.nil⟩, ⟨⟨Nat.le_refl _, Nat.le_refl _⟩⟩, ⟨Kd.C_nil _ _⟩, BI, HB4, HB⟩
  case round =>
    clear HB HB4 BI
    obtain ⟨i, l, Al, cl, seen, rfl, rfl, HJ, HK, HSL, HLG, HRS, HLL, HKL, BI, HB4, HB⟩ := hrel
    by_cases hil : i < t.length
    · have hlt : (i : Int) < (t.length : Int) := by omega
      have hi0 : (0 : Int) ≤ (i : Int) := by omega
      have HIL := Aside0.mk hil
      obtain ⟨adt, eT, hcn⟩ := int_at HK4.out i hil
      subst eT
      have hd := List.drop_eq_getElem_cons hil
      have hlg := HLG.out
      rw [hd] at hlg
      generalize t[i] = n at hcn hlg
      obtain ⟨hn, hrd, htl, hlg2⟩ := hlg
      have hn0 : (0 : Int) ≤ (n : Int) := by omega
      have hnl : (n : Int) < (h.length : Int) := by omega
      have hnb : (n : Int) ≤ 7 := by omega
      have hd1 : decide ((n : Int) < 0) = false := decide_eq_false (by omega)
      have hd2 : decide ((h.length : Int) ≤ (n : Int)) = false := decide_eq_false (by omega)
      have hd3 : decide (h.length ≤ n) = false := decide_eq_false (by omega)
      obtain ⟨ad, B12, d12, eH, hF, hlf, hrf⟩ := ev_at HR.out n hn
      subst eH
      have hia := (ready_in hrd).1
      have hru : ∀ k, k < h.length → (!(inA seen k) && isPt (rd_T44 h (k : Int)) && bef (rd_T44 h (k : Int)) (rd_T44 h (n : Int))) = false := fun k hk => ready_un hrd hk
      generalize rd_T44 h (n : Int) = f at hF hlf hrf htl hlg2 hru
      have HF := Aside0.mk hF
      have HLF := Aside0.mk hlf
      have HRF := Aside0.mk hrf
      have HTE := Aside0.mk htl
      have HLG2 := Aside0.mk hlg2
      have HRU := Aside0.mk hru
      have HCN := Aside0.mk hcn
      have HNN := Aside0.mk hn
      have HJN := Aside0.mk (show ((seen.map Value.bool).toArray)[n]? = some (.bool false) from by have h0 := in_cell seen n (by have := HSL.out; omega); rw [hia] at h0; exact h0)
      have HS2 := Aside0.mk (show ∀ k, inA (seen.set n true) k = if k = n then true else inA seen k from fun k => inA_set (by have := HSL.out; omega))
      clear hil hd hn hrd htl hlg2 hia hru hF hlf hrf hcn HLG HLG0
      go_wp2_with (first | ((with_reducible refine gate_dst (N := 44) rfl ?_); refine wq_loadC (ty := 3) (p := .tmp 43) (ad := adt.add i) ?hgd9 ?ho9 ?hp9 Try.underlying3 ?hd9 (pw_cell_below HB4.out HCN.out) ?_; (case hd9 => rfl); (case hgd9 => rfl); (case ho9 => rfl); (case hp9 => rfl)) | ((with_reducible refine gate_dst (N := 57) rfl ?_); refine wq_load1w (ty := 4) (p := .tmp 56) (g := gi) (i := n) (v := .bool false) ?hgd10 ?ho10 ?hp10 Try.underlying4 ?hd10 BI.out ?hv10 ?_; (case hd10 => rfl); (case hgd10 => rfl); (case ho10 => rfl); (case hp10 => rfl); (case hv10 => exact HJN.out)) | ((with_reducible refine gate_store (p := 61) rfl ?_); refine wq_store (ty := 4) (p := .tmp 61) (x := .const (.bool true)) (g := gi) (i := n) (k := 1) (v := .bool true) (vs := [.bool true]) (cs' := ((seen.set n true).map Value.bool).toArray) ?hgd11 ?hdst11 ?ho11 ?hp11 ?hx11 ?hvc11 ?hi11 ?hk11 ?h111 BI.out ?hsz11 ?hcs11 ?_; (case hi11 => kernel_rfl); (case hgd11 => rfl); (case hdst11 => rfl); (case ho11 => rfl); (case hp11 => rfl); (case hx11 => rfl); (case hvc11 => rfl); (case hk11 => rfl); (case h111 => rfl); (case hsz11 => have := HNN.out; have := HSL.out; simp; omega); (case hcs11 => exact in_put _ _ _); intro aw1_ hb hgr; have n_HB := Aside0.mk (HB.out.grown hgr HB.out.size (fun k hk => by cases hk; exact HGI.out.1)); have n_HB4 := Aside0.mk (HB4.out.grown hgr HB4.out.size (fun k hk => by cases hk; exact HGI.out.2)); have n_HKL := Aside0.mk (C_apart HKL.out BI.out hgr); have n_BI := Aside0.mk hb; clear HB HB4 HKL BI hb hgr; have HB := n_HB; have HB4 := n_HB4; have HKL := n_HKL; have BI := n_BI; clear n_HB n_HB4 n_HKL n_BI))
      go_loopg [10] h.length (fun kq v10 wr => ∃ (k : Nat), v10 = .int .i64 k ∧ Aside0 (k ≤ h.length) ∧ Aside0 (h.length - k ≤ kq) ∧ Aside0 (Kd.C k53 wr Al l.length l) ∧ Aside0 (wr.heap[gi]? = some (.cells ((seen.set n true).map Value.bool).toArray 4 (0, 0))) ∧ Aside0 (Below w4.heap.size w4 wr) ∧ Aside0 (Below W.heap.size W wr))
      case atStart => exact ⟨0, rfl, ⟨Nat.zero_le _⟩, ⟨by omega⟩, HKL, BI, HB4, HB⟩
      case round =>
        clear HB HB4 BI HKL
        obtain ⟨k, rfl, HJ2, HK2, HKL, BI, HB4, HB⟩ := hrel
        by_cases hkl : k < h.length
        · have hlt2 : (k : Int) < (h.length : Int) := by omega
          have hk0 : (0 : Int) ≤ (k : Int) := by omega
          have hkb : (k : Int) ≤ 7 := by omega
          have HKL2 := Aside0.mk hkl
          obtain ⟨ad', A12, c12, eA, hE, hlc, hrc⟩ := ev_at HR.out k hkl
          have eA2 := Option.some.inj eA
          subst eA2
          have hsub := ev_sub hE hlc hrc
          have hru := HRU.out k hkl
          have hi := in_cell (seen.set n true) k (by rw [List.length_set]; have := HSL.out; omega)
          have hs2 := HS2.out k
          have hckn : (c = k) = False := eq_false (by have := HCC.out; omega)
          have hk1 : (k : Int) + 1 ≤ (h.length : Int) := by omega
          have hkc : (k : Int) + 1 ≤ (c : Int) := by have := HCC.out; omega
          have htn : ((k : Int) + 1).toNat = k + 1 := by omega
          have hkp : (0 : Int) ≤ (k : Int) + 1 := by omega
          have hwk : wrap64 ((k : Int) + 1) = (k : Int) + 1 := by unfold wrap64; omega
          generalize rd_T44 h (k : Int) = e at hE hlc hrc hsub hru
          have HE := Aside0.mk hE
          have HLC := Aside0.mk hlc
          have HRC := Aside0.mk hrc
          have HSUB := Aside0.mk hsub
          clear hE hlc hrc hsub hkl eA
          cases hin : inA (seen.set n true) k
          · rw [hin] at hi hs2
            have HI := Aside0.mk hi
            have hsk : inA seen k = false := by
              by_cases c9 : k = n
              · rw [if_pos c9] at hs2; cases hs2
              · rw [if_neg c9] at hs2; exact hs2.symm
            rw [hsk, Bool.not_false, Bool.true_and] at hru
            clear hi hs2 hin hsk
            cases hbf : bef e f
            · clear hru
              go_upto_region 19 with fail
              have n_HB := Aside0.mk (below_drew1 HB.out)
              have n_HB4 := Aside0.mk (below_drew1 HB4.out)
              have n_HKL := Aside0.mk (Kd.C_below HKL.out (below_drew1 (Below.refl _ _)))
              have n_BI := Aside0.mk (blk_drew BI.out)
              clear HB HB4 HKL BI
              have HB := n_HB
              have HB4 := n_HB4
              have HKL := n_HKL
              have BI := n_BI
              clear n_HB n_HB4 n_HKL n_BI
              refine start_ (n := 26) (S := fun w' => w'.heap[gi]? = some (.cells ((seen.set n true).map Value.bool).toArray 4 (0, 0)) ∧ (∀ j u, ([.int .i64 e.f0, .int .i64 e.f1, .int .i64 e.f2, .int .i64 e.f3, .int .i64 e.f4, .int .i64 e.f5.f0, .int .u64 e.f5.f1, .int .u64 e.f5.f2, .int .i64 e.f5.f3, .int .i64 e.f6.f0, .bool e.f6.f1, .int .u64 e.f6.f2, .slice A12 e.f6.f3.length c12] : List Value)[j]? = some u → w'.cell? ((ad.add (k * 13)).add j) = some u) ∧ (∀ j u, ([.int .i64 f.f0, .int .i64 f.f1, .int .i64 f.f2, .int .i64 f.f3, .int .i64 f.f4, .int .i64 f.f5.f0, .int .u64 f.f5.f1, .int .u64 f.f5.f2, .int .i64 f.f5.f3, .int .i64 f.f6.f0, .bool f.f6.f1, .int .u64 f.f6.f2, .slice B12 f.f6.f3.length d12] : List Value)[j]? = some u → w'.cell? ((ad.add (n * 13)).add j) = some u)) (ds := []) #[false, false, false, false, false, false, false, false, false, false, false, false, false, false, false, false, false, false, false, false, false, false, false, false, false, false] (by kernel_rfl) rfl rfl ⟨BI.out, (cells_bel rfl HB.out HE.out), (cells_bel rfl HB.out HF.out)⟩ (fun hHeld => ?_); refine with_tabW lr_some.tab19 lr_some.bits19 (fun HT_ HW_ => ?_)
              generalize wr.drew = pv1_ at HB HB4 HKL BI hHeld ⊢
              refine pure_ (i := 0) (N := some 68) (v := ?_) (a' := ?_) (lr_some_lb 26 1) rfl rfl (any_of HT_.out (by kernel_rfl)) (fun _ _ _ h => h) (Or.inl ⟨by rfl, ?_⟩) ?_ ?_; rotate_left
              · intro w'; go_simp; with_reducible rfl
              rotate_left
              · simp only [Act.put, List.setIfInBounds_toArray, List.set_cons_zero, List.set_cons_succ, i64_w, i32_w]; rfl
              refine pure_ (i := 1) (N := some 69) (v := ?_) (a' := ?_) (lr_some_lb 26 3) rfl rfl (any_of HT_.out (by kernel_rfl)) (fun _ _ _ h => h) (Or.inl ⟨by rfl, ?_⟩) ?_ ?_; rotate_left
              · intro w'; go_simp; with_reducible rfl
              rotate_left
              · simp only [Act.put, List.setIfInBounds_toArray, List.set_cons_zero, List.set_cons_succ, i64_w, i32_w]; rfl
              refine pure_ (i := 2) (N := some 70) (v := ?_) (a' := ?_) (lr_some_lb 26 7) rfl rfl (any_of HT_.out (by kernel_rfl)) (fun _ _ _ h => h) (Or.inl ⟨by rfl, ?_⟩) ?_ ?_; rotate_left
              · intro w'; go_simp; with_reducible rfl
              rotate_left
              · simp only [Act.put, List.setIfInBounds_toArray, List.set_cons_zero, List.set_cons_succ, i64_w, i32_w]; rfl
              refine take_ (i := 3) (N := some 71) (v := ?_) (a' := ?_) (lr_some_lb 26 15) rfl rfl (take_ofW HT_.out HW_.out (by kernel_rfl)) (fun _ _ _ h => h) (Or.inl ⟨by rfl, ?_⟩) hHeld ?_ ?_; rotate_left
              · rintro w' ⟨s0, s1, s2⟩; refine Eq.trans (wq_run_load1 (ty := 4) (p := .tmp 70) (g := gi) (i := k) (v := .bool false) ?ho13 ?hp13 Try.underlying4 ?hd13 s0 ?hv13) ?fin13; (case hd13 => rfl); (case ho13 => rfl); (case hp13 => rfl); (case hv13 => exact HI.out); (case fin13 => with_reducible rfl)
              rotate_left
              · simp only [Act.put, List.setIfInBounds_toArray, List.set_cons_zero, List.set_cons_succ, i64_w, i32_w]; rfl
              refine pure_ (i := 4) (N := some 72) (v := ?_) (a' := ?_) (lr_some_lb 26 31) rfl rfl (any_of HT_.out (by kernel_rfl)) (fun _ _ _ h => h) (Or.inl ⟨by rfl, ?_⟩) ?_ ?_; rotate_left
              · intro w'; go_simp; with_reducible rfl
              rotate_left
              · simp only [Act.put, List.setIfInBounds_toArray, List.set_cons_zero, List.set_cons_succ, i64_w, i32_w]; rfl
              refine pure_ (i := 5) (N := some 73) (v := ?_) (a' := ?_) (lr_some_lb 26 63) rfl rfl (any_of HT_.out (by kernel_rfl)) (fun _ _ _ h => h) (Or.inl ⟨by rfl, ?_⟩) ?_ ?_; rotate_left
              · intro w'; go_simp; with_reducible rfl
              rotate_left
              · simp only [Act.put, List.setIfInBounds_toArray, List.set_cons_zero, List.set_cons_succ, i64_w, i32_w]; rfl
              refine pure_ (i := 6) (N := some 74) (v := ?_) (a' := ?_) (lr_some_lb 26 127) rfl rfl (any_of HT_.out (by kernel_rfl)) (fun _ _ _ h => h) (Or.inl ⟨by rfl, ?_⟩) ?_ ?_; rotate_left
              · intro w'; go_simp; with_reducible rfl
              rotate_left
              · simp only [Act.put, List.setIfInBounds_toArray, List.set_cons_zero, List.set_cons_succ, i64_w, i32_w]; rfl
              refine pure_ (i := 7) (N := some 75) (v := ?_) (a' := ?_) (lr_some_lb 26 255) rfl rfl (any_of HT_.out (by kernel_rfl)) (fun _ _ _ h => h) (Or.inl ⟨by rfl, ?_⟩) ?_ ?_; rotate_left
              · intro w'; go_simp; with_reducible rfl
              rotate_left
              · simp only [Act.put, List.setIfInBounds_toArray, List.set_cons_zero, List.set_cons_succ, i64_w, i32_w]; rfl
              refine pure_ (i := 8) (N := some 76) (v := ?_) (a' := ?_) (lr_some_lb 26 511) rfl rfl (any_of HT_.out (by kernel_rfl)) (fun _ _ _ h => h) (Or.inl ⟨by rfl, ?_⟩) ?_ ?_; rotate_left
              · intro w'; go_simp; with_reducible rfl
              rotate_left
              · simp only [Act.put, List.setIfInBounds_toArray, List.set_cons_zero, List.set_cons_succ, i64_w, i32_w]; rfl
              refine pure_ (i := 10) (N := some 78) (v := ?_) (a' := ?_) (lr_some_lb 26 1535) rfl rfl (any_of HT_.out (by kernel_rfl)) (fun _ _ _ h => h) (Or.inl ⟨by rfl, ?_⟩) ?_ ?_; rotate_left
              · intro w'; go_simp; with_reducible rfl
              rotate_left
              · simp only [Act.put, List.setIfInBounds_toArray, List.set_cons_zero, List.set_cons_succ, i64_w, i32_w]; rfl
              refine pure_ (i := 11) (N := some 79) (v := ?_) (a' := ?_) (lr_some_lb 26 3583) rfl rfl (any_of HT_.out (by kernel_rfl)) (fun _ _ _ h => h) (Or.inl ⟨by rfl, ?_⟩) ?_ ?_; rotate_left
              · intro w'; go_simp; with_reducible rfl
              rotate_left
              · simp only [Act.put, List.setIfInBounds_toArray, List.set_cons_zero, List.set_cons_succ, i64_w, i32_w]; rfl
              refine pure_ (i := 12) (N := some 80) (v := ?_) (a' := ?_) (lr_some_lb 26 7679) rfl rfl (any_of HT_.out (by kernel_rfl)) (fun _ _ _ h => h) (Or.inl ⟨by rfl, ?_⟩) ?_ ?_; rotate_left
              · intro w'; go_simp; with_reducible rfl
              rotate_left
              · simp only [Act.put, List.setIfInBounds_toArray, List.set_cons_zero, List.set_cons_succ, i64_w, i32_w]; rfl
              refine take_ (i := 9) (N := some 77) (v := ?_) (a' := ?_) (lr_some_lb 26 8191) rfl rfl (take_ofW HT_.out HW_.out (by kernel_rfl)) (fun _ _ _ h => h) (Or.inl ⟨by rfl, ?_⟩) hHeld ?_ ?_; rotate_left
              · rintro w' ⟨s0, s1, s2⟩; refine Eq.trans (wq_run_loadE (ty := 44) (p := .tmp 76) (k := 13) (ad := ad.add (k * 13)) (vs := [.int .i64 e.f0, .int .i64 e.f1, .int .i64 e.f2, .int .i64 e.f3, .int .i64 e.f4, .int .i64 e.f5.f0, .int .u64 e.f5.f1, .int .u64 e.f5.f2, .int .i64 e.f5.f3, .int .i64 e.f6.f0, .bool e.f6.f1, .int .u64 e.f6.f2, .slice A12 e.f6.f3.length c12]) ?ho14 ?hp14 Try.underlying44 ?hd14 ?hi14 s1 ?hk14) ?fin14; (case hd14 => rfl); (case hi14 => kernel_rfl); (case ho14 => rfl); (case hp14 => rfl); (case hk14 => rfl); (case fin14 => with_reducible rfl)
              rotate_left
              · simp only [Act.put, List.setIfInBounds_toArray, List.set_cons_zero, List.set_cons_succ, i64_w, i32_w]; rfl
              refine take_ (i := 13) (N := some 81) (v := ?_) (a' := ?_) (lr_some_lb 26 16383) rfl rfl (take_ofW HT_.out HW_.out (by kernel_rfl)) (fun _ _ _ h => h) (Or.inl ⟨by rfl, ?_⟩) hHeld ?_ ?_; rotate_left
              · rintro w' ⟨s0, s1, s2⟩; refine Eq.trans (wq_run_loadE (ty := 44) (p := .tmp 80) (k := 13) (ad := ad.add (n * 13)) (vs := [.int .i64 f.f0, .int .i64 f.f1, .int .i64 f.f2, .int .i64 f.f3, .int .i64 f.f4, .int .i64 f.f5.f0, .int .u64 f.f5.f1, .int .u64 f.f5.f2, .int .i64 f.f5.f3, .int .i64 f.f6.f0, .bool f.f6.f1, .int .u64 f.f6.f2, .slice B12 f.f6.f3.length d12]) ?ho15 ?hp15 Try.underlying44 ?hd15 ?hi15 s2 ?hk15) ?fin15; (case hd15 => rfl); (case hi15 => kernel_rfl); (case ho15 => rfl); (case hp15 => rfl); (case hk15 => rfl); (case fin15 => with_reducible rfl)
              rotate_left
              · simp only [Act.put, List.setIfInBounds_toArray, List.set_cons_zero, List.set_cons_succ, i64_w, i32_w]; rfl
              refine one_ (i := 14) (N := some 82) (lr_some_lb 26 32767) rfl rfl (one_of HT_.out (by kernel_rfl)) (by decide) (fun K hK => ?_)
              refine goes_ Try.func15 (by kernel_rfl) rfl ?args12 ?hw12 rfl rfl ?hargs12 ?_
              case hw12 => rfl
              case hargs12 => go_simp; with_reducible rfl
              with_reducible refine (li_rBefore e f A12 B12 c12 d12 HLC.out HLF.out _ (Kd.C_below HRC.out HB.out) (Kd.C_below HRF.out HB.out)).mono ?_
              rintro e pu2_ ⟨rfl, hbk⟩
              refine ⟨_, rfl, ?_⟩
              have n_HB := Aside0.mk (below_step HB.out hbk)
              have n_HB4 := Aside0.mk (below_step HB4.out hbk)
              have n_HKL := Aside0.mk (Kd.C_below HKL.out hbk)
              have n_BI := Aside0.mk (blk_below BI.out hbk)
              clear HB HB4 HKL BI
              have HB := n_HB
              have HB4 := n_HB4
              have HKL := n_HKL
              have BI := n_BI
              clear n_HB n_HB4 n_HKL n_BI
              clear hbk
              refine hK.out _ _ ⟨BI.out, (cells_bel rfl HB.out HE.out), (cells_bel rfl HB.out HF.out)⟩ (fun hHeld => ?_)
              clear hK K
              refine norm_ (a' := ?_) ?_ ?_
              rotate_left
              · show Act.put _ (some 82) _ = _
                simp only [Act.put, List.setIfInBounds_toArray, List.set_cons_zero, List.set_cons_succ, i64_w, i32_w]
                rfl
              refine pure_ (i := 15) (N := some 83) (v := ?_) (a' := ?_) (lr_some_lb 26 65535) rfl rfl (any_of HT_.out (by kernel_rfl)) (fun _ _ _ h => h) (Or.inl ⟨by rfl, ?_⟩) ?_ ?_; rotate_left
              · intro w'; go_simp; with_reducible rfl
              rotate_left
              · simp only [Act.put, List.setIfInBounds_toArray, List.set_cons_zero, List.set_cons_succ, i64_w, i32_w]; rfl
              refine pure_ (i := 16) (N := some 84) (v := ?_) (a' := ?_) (lr_some_lb 26 131071) rfl rfl (any_of HT_.out (by kernel_rfl)) (fun _ _ _ h => h) (Or.inl ⟨by rfl, ?_⟩) ?_ ?_; rotate_left
              · intro w'; go_simp; with_reducible rfl
              rotate_left
              · simp only [Act.put, List.setIfInBounds_toArray, List.set_cons_zero, List.set_cons_succ, i64_w, i32_w]; rfl
              refine pure_ (i := 17) (N := some 85) (v := undef) (a' := ?_) (lr_some_lb 26 262143) rfl rfl (any_of HT_.out (by kernel_rfl)) (fun _ _ _ h => h) (Or.inr ⟨by rfl, rfl⟩) ?_ ?_; rotate_left
              · simp only [Act.put, List.setIfInBounds_toArray, List.set_cons_zero, List.set_cons_succ, i64_w, i32_w]; rfl
              refine pure_ (i := 18) (N := some 86) (v := undef) (a' := ?_) (lr_some_lb 26 524287) rfl rfl (any_of HT_.out (by kernel_rfl)) (fun _ _ _ h => h) (Or.inr ⟨by rfl, rfl⟩) ?_ ?_; rotate_left
              · simp only [Act.put, List.setIfInBounds_toArray, List.set_cons_zero, List.set_cons_succ, i64_w, i32_w]; rfl
              refine pure_ (i := 19) (N := some 87) (v := undef) (a' := ?_) (lr_some_lb 26 1048575) rfl rfl (any_of HT_.out (by kernel_rfl)) (fun _ _ _ h => h) (Or.inr ⟨by rfl, rfl⟩) ?_ ?_; rotate_left
              · simp only [Act.put, List.setIfInBounds_toArray, List.set_cons_zero, List.set_cons_succ, i64_w, i32_w]; rfl
              refine pure_ (i := 20) (N := some 88) (v := undef) (a' := ?_) (lr_some_lb 26 2097151) rfl rfl (any_of HT_.out (by kernel_rfl)) (fun _ _ _ h => h) (Or.inr ⟨by rfl, rfl⟩) ?_ ?_; rotate_left
              · simp only [Act.put, List.setIfInBounds_toArray, List.set_cons_zero, List.set_cons_succ, i64_w, i32_w]; rfl
              refine pure_ (i := 21) (N := some 89) (v := undef) (a' := ?_) (lr_some_lb 26 4194303) rfl rfl (any_of HT_.out (by kernel_rfl)) (fun _ _ _ h => h) (Or.inr ⟨by rfl, rfl⟩) ?_ ?_; rotate_left
              · simp only [Act.put, List.setIfInBounds_toArray, List.set_cons_zero, List.set_cons_succ, i64_w, i32_w]; rfl
              refine pure_ (i := 22) (N := some 90) (v := undef) (a' := ?_) (lr_some_lb 26 8388607) rfl rfl (any_of HT_.out (by kernel_rfl)) (fun _ _ _ h => h) (Or.inr ⟨by rfl, rfl⟩) ?_ ?_; rotate_left
              · simp only [Act.put, List.setIfInBounds_toArray, List.set_cons_zero, List.set_cons_succ, i64_w, i32_w]; rfl
              refine pure_ (i := 23) (N := some 91) (v := undef) (a' := ?_) (lr_some_lb 26 16777215) rfl rfl (any_of HT_.out (by kernel_rfl)) (fun _ _ _ h => h) (Or.inr ⟨by rfl, rfl⟩) ?_ ?_; rotate_left
              · simp only [Act.put, List.setIfInBounds_toArray, List.set_cons_zero, List.set_cons_succ, i64_w, i32_w]; rfl
              refine pure_ (i := 24) (N := some 92) (v := undef) (a' := ?_) (lr_some_lb 26 33554431) rfl rfl (any_of HT_.out (by kernel_rfl)) (fun _ _ _ h => h) (Or.inr ⟨by rfl, rfl⟩) ?_ ?_; rotate_left
              · simp only [Act.put, List.setIfInBounds_toArray, List.set_cons_zero, List.set_cons_succ, i64_w, i32_w]; rfl
              refine pure_ (i := 25) (N := some 93) (v := ?_) (a' := ?_) (lr_some_lb 26 67108863) rfl rfl (any_of HT_.out (by kernel_rfl)) (fun _ _ _ h => h) (Or.inl ⟨by rfl, ?_⟩) ?_ ?_; rotate_left
              · intro w'; go_simp; with_reducible rfl
              rotate_left
              · simp only [Act.put, List.setIfInBounds_toArray, List.set_cons_zero, List.set_cons_succ, i64_w, i32_w]; rfl
              refine done_ (done_of HT_.out (by kernel_rfl)) ?_
              go_wp2
              go_roundg (h.length - (k + 1))
              case measure => have := HKL2.out; have := HK2.out; omega
              case rel =>
                have hkl := HKL2.out
                have hh := HH.out
                exact ⟨k + 1, by first | rfl | (rw [show wrap64 ((k : Int) + 1) = ((k + 1 : Nat) : Int) from by unfold wrap64; omega]), ⟨hkl⟩, ⟨by omega⟩, HKL, BI, HB4, HB⟩
            · rw [hbf, Bool.and_true] at hru
              have HPT := Aside0.mk hru
              clear hru
              go_upto_region 19 with fail
              have n_HB := Aside0.mk (below_drew1 HB.out)
              have n_HB4 := Aside0.mk (below_drew1 HB4.out)
              have n_HKL := Aside0.mk (Kd.C_below HKL.out (below_drew1 (Below.refl _ _)))
              have n_BI := Aside0.mk (blk_drew BI.out)
              clear HB HB4 HKL BI
              have HB := n_HB
              have HB4 := n_HB4
              have HKL := n_HKL
              have BI := n_BI
              clear n_HB n_HB4 n_HKL n_BI
              refine start_ (n := 26) (S := fun w' => w'.heap[gi]? = some (.cells ((seen.set n true).map Value.bool).toArray 4 (0, 0)) ∧ (∀ j u, ([.int .i64 e.f0, .int .i64 e.f1, .int .i64 e.f2, .int .i64 e.f3, .int .i64 e.f4, .int .i64 e.f5.f0, .int .u64 e.f5.f1, .int .u64 e.f5.f2, .int .i64 e.f5.f3, .int .i64 e.f6.f0, .bool e.f6.f1, .int .u64 e.f6.f2, .slice A12 e.f6.f3.length c12] : List Value)[j]? = some u → w'.cell? ((ad.add (k * 13)).add j) = some u) ∧ (∀ j u, ([.int .i64 f.f0, .int .i64 f.f1, .int .i64 f.f2, .int .i64 f.f3, .int .i64 f.f4, .int .i64 f.f5.f0, .int .u64 f.f5.f1, .int .u64 f.f5.f2, .int .i64 f.f5.f3, .int .i64 f.f6.f0, .bool f.f6.f1, .int .u64 f.f6.f2, .slice B12 f.f6.f3.length d12] : List Value)[j]? = some u → w'.cell? ((ad.add (n * 13)).add j) = some u)) (ds := []) #[false, false, false, false, false, false, false, false, false, false, false, false, false, false, false, false, false, false, false, false, false, false, false, false, false, false] (by kernel_rfl) rfl rfl ⟨BI.out, (cells_bel rfl HB.out HE.out), (cells_bel rfl HB.out HF.out)⟩ (fun hHeld => ?_); refine with_tabW lr_some.tab19 lr_some.bits19 (fun HT_ HW_ => ?_)
              generalize wr.drew = qv1_ at HB HB4 HKL BI hHeld ⊢
              refine pure_ (i := 0) (N := some 68) (v := ?_) (a' := ?_) (lr_some_lb 26 1) rfl rfl (any_of HT_.out (by kernel_rfl)) (fun _ _ _ h => h) (Or.inl ⟨by rfl, ?_⟩) ?_ ?_; rotate_left
              · intro w'; go_simp; with_reducible rfl
              rotate_left
              · simp only [Act.put, List.setIfInBounds_toArray, List.set_cons_zero, List.set_cons_succ, i64_w, i32_w]; rfl
              refine pure_ (i := 1) (N := some 69) (v := ?_) (a' := ?_) (lr_some_lb 26 3) rfl rfl (any_of HT_.out (by kernel_rfl)) (fun _ _ _ h => h) (Or.inl ⟨by rfl, ?_⟩) ?_ ?_; rotate_left
              · intro w'; go_simp; with_reducible rfl
              rotate_left
              · simp only [Act.put, List.setIfInBounds_toArray, List.set_cons_zero, List.set_cons_succ, i64_w, i32_w]; rfl
              refine pure_ (i := 2) (N := some 70) (v := ?_) (a' := ?_) (lr_some_lb 26 7) rfl rfl (any_of HT_.out (by kernel_rfl)) (fun _ _ _ h => h) (Or.inl ⟨by rfl, ?_⟩) ?_ ?_; rotate_left
              · intro w'; go_simp; with_reducible rfl
              rotate_left
              · simp only [Act.put, List.setIfInBounds_toArray, List.set_cons_zero, List.set_cons_succ, i64_w, i32_w]; rfl
              refine take_ (i := 3) (N := some 71) (v := ?_) (a' := ?_) (lr_some_lb 26 15) rfl rfl (take_ofW HT_.out HW_.out (by kernel_rfl)) (fun _ _ _ h => h) (Or.inl ⟨by rfl, ?_⟩) hHeld ?_ ?_; rotate_left
              · rintro w' ⟨s0, s1, s2⟩; refine Eq.trans (wq_run_load1 (ty := 4) (p := .tmp 70) (g := gi) (i := k) (v := .bool false) ?ho18 ?hp18 Try.underlying4 ?hd18 s0 ?hv18) ?fin18; (case hd18 => rfl); (case ho18 => rfl); (case hp18 => rfl); (case hv18 => exact HI.out); (case fin18 => with_reducible rfl)
              rotate_left
              · simp only [Act.put, List.setIfInBounds_toArray, List.set_cons_zero, List.set_cons_succ, i64_w, i32_w]; rfl
              refine pure_ (i := 4) (N := some 72) (v := ?_) (a' := ?_) (lr_some_lb 26 31) rfl rfl (any_of HT_.out (by kernel_rfl)) (fun _ _ _ h => h) (Or.inl ⟨by rfl, ?_⟩) ?_ ?_; rotate_left
              · intro w'; go_simp; with_reducible rfl
              rotate_left
              · simp only [Act.put, List.setIfInBounds_toArray, List.set_cons_zero, List.set_cons_succ, i64_w, i32_w]; rfl
              refine pure_ (i := 5) (N := some 73) (v := ?_) (a' := ?_) (lr_some_lb 26 63) rfl rfl (any_of HT_.out (by kernel_rfl)) (fun _ _ _ h => h) (Or.inl ⟨by rfl, ?_⟩) ?_ ?_; rotate_left
              · intro w'; go_simp; with_reducible rfl
              rotate_left
              · simp only [Act.put, List.setIfInBounds_toArray, List.set_cons_zero, List.set_cons_succ, i64_w, i32_w]; rfl
              refine pure_ (i := 6) (N := some 74) (v := ?_) (a' := ?_) (lr_some_lb 26 127) rfl rfl (any_of HT_.out (by kernel_rfl)) (fun _ _ _ h => h) (Or.inl ⟨by rfl, ?_⟩) ?_ ?_; rotate_left
              · intro w'; go_simp; with_reducible rfl
              rotate_left
              · simp only [Act.put, List.setIfInBounds_toArray, List.set_cons_zero, List.set_cons_succ, i64_w, i32_w]; rfl
              refine pure_ (i := 7) (N := some 75) (v := ?_) (a' := ?_) (lr_some_lb 26 255) rfl rfl (any_of HT_.out (by kernel_rfl)) (fun _ _ _ h => h) (Or.inl ⟨by rfl, ?_⟩) ?_ ?_; rotate_left
              · intro w'; go_simp; with_reducible rfl
              rotate_left
              · simp only [Act.put, List.setIfInBounds_toArray, List.set_cons_zero, List.set_cons_succ, i64_w, i32_w]; rfl
              refine pure_ (i := 8) (N := some 76) (v := ?_) (a' := ?_) (lr_some_lb 26 511) rfl rfl (any_of HT_.out (by kernel_rfl)) (fun _ _ _ h => h) (Or.inl ⟨by rfl, ?_⟩) ?_ ?_; rotate_left
              · intro w'; go_simp; with_reducible rfl
              rotate_left
              · simp only [Act.put, List.setIfInBounds_toArray, List.set_cons_zero, List.set_cons_succ, i64_w, i32_w]; rfl
              refine pure_ (i := 10) (N := some 78) (v := ?_) (a' := ?_) (lr_some_lb 26 1535) rfl rfl (any_of HT_.out (by kernel_rfl)) (fun _ _ _ h => h) (Or.inl ⟨by rfl, ?_⟩) ?_ ?_; rotate_left
              · intro w'; go_simp; with_reducible rfl
              rotate_left
              · simp only [Act.put, List.setIfInBounds_toArray, List.set_cons_zero, List.set_cons_succ, i64_w, i32_w]; rfl
              refine pure_ (i := 11) (N := some 79) (v := ?_) (a' := ?_) (lr_some_lb 26 3583) rfl rfl (any_of HT_.out (by kernel_rfl)) (fun _ _ _ h => h) (Or.inl ⟨by rfl, ?_⟩) ?_ ?_; rotate_left
              · intro w'; go_simp; with_reducible rfl
              rotate_left
              · simp only [Act.put, List.setIfInBounds_toArray, List.set_cons_zero, List.set_cons_succ, i64_w, i32_w]; rfl
              refine pure_ (i := 12) (N := some 80) (v := ?_) (a' := ?_) (lr_some_lb 26 7679) rfl rfl (any_of HT_.out (by kernel_rfl)) (fun _ _ _ h => h) (Or.inl ⟨by rfl, ?_⟩) ?_ ?_; rotate_left
              · intro w'; go_simp; with_reducible rfl
              rotate_left
              · simp only [Act.put, List.setIfInBounds_toArray, List.set_cons_zero, List.set_cons_succ, i64_w, i32_w]; rfl
              refine take_ (i := 9) (N := some 77) (v := ?_) (a' := ?_) (lr_some_lb 26 8191) rfl rfl (take_ofW HT_.out HW_.out (by kernel_rfl)) (fun _ _ _ h => h) (Or.inl ⟨by rfl, ?_⟩) hHeld ?_ ?_; rotate_left
              · rintro w' ⟨s0, s1, s2⟩; refine Eq.trans (wq_run_loadE (ty := 44) (p := .tmp 76) (k := 13) (ad := ad.add (k * 13)) (vs := [.int .i64 e.f0, .int .i64 e.f1, .int .i64 e.f2, .int .i64 e.f3, .int .i64 e.f4, .int .i64 e.f5.f0, .int .u64 e.f5.f1, .int .u64 e.f5.f2, .int .i64 e.f5.f3, .int .i64 e.f6.f0, .bool e.f6.f1, .int .u64 e.f6.f2, .slice A12 e.f6.f3.length c12]) ?ho19 ?hp19 Try.underlying44 ?hd19 ?hi19 s1 ?hk19) ?fin19; (case hd19 => rfl); (case hi19 => kernel_rfl); (case ho19 => rfl); (case hp19 => rfl); (case hk19 => rfl); (case fin19 => with_reducible rfl)
              rotate_left
              · simp only [Act.put, List.setIfInBounds_toArray, List.set_cons_zero, List.set_cons_succ, i64_w, i32_w]; rfl
              refine take_ (i := 13) (N := some 81) (v := ?_) (a' := ?_) (lr_some_lb 26 16383) rfl rfl (take_ofW HT_.out HW_.out (by kernel_rfl)) (fun _ _ _ h => h) (Or.inl ⟨by rfl, ?_⟩) hHeld ?_ ?_; rotate_left
              · rintro w' ⟨s0, s1, s2⟩; refine Eq.trans (wq_run_loadE (ty := 44) (p := .tmp 80) (k := 13) (ad := ad.add (n * 13)) (vs := [.int .i64 f.f0, .int .i64 f.f1, .int .i64 f.f2, .int .i64 f.f3, .int .i64 f.f4, .int .i64 f.f5.f0, .int .u64 f.f5.f1, .int .u64 f.f5.f2, .int .i64 f.f5.f3, .int .i64 f.f6.f0, .bool f.f6.f1, .int .u64 f.f6.f2, .slice B12 f.f6.f3.length d12]) ?ho20 ?hp20 Try.underlying44 ?hd20 ?hi20 s2 ?hk20) ?fin20; (case hd20 => rfl); (case hi20 => kernel_rfl); (case ho20 => rfl); (case hp20 => rfl); (case hk20 => rfl); (case fin20 => with_reducible rfl)
              rotate_left
              · simp only [Act.put, List.setIfInBounds_toArray, List.set_cons_zero, List.set_cons_succ, i64_w, i32_w]; rfl
              refine one_ (i := 14) (N := some 82) (lr_some_lb 26 32767) rfl rfl (one_of HT_.out (by kernel_rfl)) (by decide) (fun K hK => ?_)
              refine goes_ Try.func15 (by kernel_rfl) rfl ?args16 ?hw16 rfl rfl ?hargs16 ?_
              case hw16 => rfl
              case hargs16 => go_simp; with_reducible rfl
              with_reducible refine (li_rBefore e f A12 B12 c12 d12 HLC.out HLF.out _ (Kd.C_below HRC.out HB.out) (Kd.C_below HRF.out HB.out)).mono ?_
              rintro e qu2_ ⟨rfl, hbk⟩
              refine ⟨_, rfl, ?_⟩
              have n_HB := Aside0.mk (below_step HB.out hbk)
              have n_HB4 := Aside0.mk (below_step HB4.out hbk)
              have n_HKL := Aside0.mk (Kd.C_below HKL.out hbk)
              have n_BI := Aside0.mk (blk_below BI.out hbk)
              clear HB HB4 HKL BI
              have HB := n_HB
              have HB4 := n_HB4
              have HKL := n_HKL
              have BI := n_BI
              clear n_HB n_HB4 n_HKL n_BI
              clear hbk
              refine hK.out _ _ ⟨BI.out, (cells_bel rfl HB.out HE.out), (cells_bel rfl HB.out HF.out)⟩ (fun hHeld => ?_)
              clear hK K
              refine norm_ (a' := ?_) ?_ ?_
              rotate_left
              · show Act.put _ (some 82) _ = _
                simp only [Act.put, List.setIfInBounds_toArray, List.set_cons_zero, List.set_cons_succ, i64_w, i32_w]
                rfl
              refine pure_ (i := 15) (N := some 83) (v := ?_) (a' := ?_) (lr_some_lb 26 65535) rfl rfl (any_of HT_.out (by kernel_rfl)) (fun _ _ _ h => h) (Or.inl ⟨by rfl, ?_⟩) ?_ ?_; rotate_left
              · intro w'; go_simp; with_reducible rfl
              rotate_left
              · simp only [Act.put, List.setIfInBounds_toArray, List.set_cons_zero, List.set_cons_succ, i64_w, i32_w]; rfl
              refine pure_ (i := 16) (N := some 84) (v := ?_) (a' := ?_) (lr_some_lb 26 131071) rfl rfl (any_of HT_.out (by kernel_rfl)) (fun _ _ _ h => h) (Or.inl ⟨by rfl, ?_⟩) ?_ ?_; rotate_left
              · intro w'; go_simp; with_reducible rfl
              rotate_left
              · simp only [Act.put, List.setIfInBounds_toArray, List.set_cons_zero, List.set_cons_succ, i64_w, i32_w]; rfl
              refine pure_ (i := 17) (N := some 85) (v := ?_) (a' := ?_) (lr_some_lb 26 262143) rfl rfl (any_of HT_.out (by kernel_rfl)) (fun _ _ _ h => h) (Or.inl ⟨by rfl, ?_⟩) ?_ ?_; rotate_left
              · intro w'; go_simp; with_reducible rfl
              rotate_left
              · simp only [Act.put, List.setIfInBounds_toArray, List.set_cons_zero, List.set_cons_succ, i64_w, i32_w]; rfl
              refine pure_ (i := 18) (N := some 86) (v := ?_) (a' := ?_) (lr_some_lb 26 524287) rfl rfl (any_of HT_.out (by kernel_rfl)) (fun _ _ _ h => h) (Or.inl ⟨by rfl, ?_⟩) ?_ ?_; rotate_left
              · intro w'; go_simp; with_reducible rfl
              rotate_left
              · simp only [Act.put, List.setIfInBounds_toArray, List.set_cons_zero, List.set_cons_succ, i64_w, i32_w]; rfl
              refine pure_ (i := 19) (N := some 87) (v := ?_) (a' := ?_) (lr_some_lb 26 1048575) rfl rfl (any_of HT_.out (by kernel_rfl)) (fun _ _ _ h => h) (Or.inl ⟨by rfl, ?_⟩) ?_ ?_; rotate_left
              · intro w'; go_simp; with_reducible rfl
              rotate_left
              · simp only [Act.put, List.setIfInBounds_toArray, List.set_cons_zero, List.set_cons_succ, i64_w, i32_w]; rfl
              refine pure_ (i := 20) (N := some 88) (v := ?_) (a' := ?_) (lr_some_lb 26 2097151) rfl rfl (any_of HT_.out (by kernel_rfl)) (fun _ _ _ h => h) (Or.inl ⟨by rfl, ?_⟩) ?_ ?_; rotate_left
              · intro w'; go_simp; with_reducible rfl
              rotate_left
              · simp only [Act.put, List.setIfInBounds_toArray, List.set_cons_zero, List.set_cons_succ, i64_w, i32_w]; rfl
              refine pure_ (i := 21) (N := some 89) (v := ?_) (a' := ?_) (lr_some_lb 26 4194303) rfl rfl (any_of HT_.out (by kernel_rfl)) (fun _ _ _ h => h) (Or.inl ⟨by rfl, ?_⟩) ?_ ?_; rotate_left
              · intro w'; go_simp; with_reducible rfl
              rotate_left
              · simp only [Act.put, List.setIfInBounds_toArray, List.set_cons_zero, List.set_cons_succ, i64_w, i32_w]; rfl
              refine one_ (i := 22) (N := some 90) (lr_some_lb 26 8388607) rfl rfl (one_of HT_.out (by kernel_rfl)) (by decide) (fun K hK => ?_)
              refine goes_ Try.func16 (by kernel_rfl) rfl ?args17 ?hw17 rfl rfl ?hargs17 ?_
              case hw17 => rfl
              case hargs17 => go_simp; with_reducible rfl
              with_reducible refine (li_rPts0 HPT.out (ad.add (k * 13)) _ _ (Kd.C_below HSUB.out HB.out)).mono ?_
              rintro e qu3_ ⟨A1, c1, rfl, hbk⟩
              refine ⟨_, rfl, ?_⟩
              have n_HB := Aside0.mk (below_step HB.out hbk)
              have n_HB4 := Aside0.mk (below_step HB4.out hbk)
              have n_HKL := Aside0.mk (Kd.C_below HKL.out hbk)
              have n_BI := Aside0.mk (blk_below BI.out hbk)
              clear HB HB4 HKL BI
              have HB := n_HB
              have HB4 := n_HB4
              have HKL := n_HKL
              have BI := n_BI
              clear n_HB n_HB4 n_HKL n_BI
              clear hbk
              refine hK.out _ _ ⟨BI.out, (cells_bel rfl HB.out HE.out), (cells_bel rfl HB.out HF.out)⟩ (fun hHeld => ?_)
              clear hK K
              refine norm_ (a' := ?_) ?_ ?_
              rotate_left
              · show Act.put _ (some 90) _ = _
                simp only [Act.put, List.setIfInBounds_toArray, List.set_cons_zero, List.set_cons_succ, i64_w, i32_w]
                rfl
              refine pure_ (i := 23) (N := some 91) (v := ?_) (a' := ?_) (lr_some_lb 26 16777215) rfl rfl (any_of HT_.out (by kernel_rfl)) (fun _ _ _ h => h) (Or.inl ⟨by rfl, ?_⟩) ?_ ?_; rotate_left
              · intro w'; go_simp; with_reducible rfl
              rotate_left
              · simp only [Act.put, List.setIfInBounds_toArray, List.set_cons_zero, List.set_cons_succ, i64_w, i32_w]; rfl
              refine pure_ (i := 24) (N := some 92) (v := ?_) (a' := ?_) (lr_some_lb 26 33554431) rfl rfl (any_of HT_.out (by kernel_rfl)) (fun _ _ _ h => h) (Or.inl ⟨by rfl, ?_⟩) ?_ ?_; rotate_left
              · intro w'; go_simp; with_reducible rfl
              rotate_left
              · simp only [Act.put, List.setIfInBounds_toArray, List.set_cons_zero, List.set_cons_succ, i64_w, i32_w]; rfl
              refine pure_ (i := 25) (N := some 93) (v := ?_) (a' := ?_) (lr_some_lb 26 67108863) rfl rfl (any_of HT_.out (by kernel_rfl)) (fun _ _ _ h => h) (Or.inl ⟨by rfl, ?_⟩) ?_ ?_; rotate_left
              · intro w'; go_simp; with_reducible rfl
              rotate_left
              · simp only [Act.put, List.setIfInBounds_toArray, List.set_cons_zero, List.set_cons_succ, i64_w, i32_w]; rfl
              refine done_ (done_of HT_.out (by kernel_rfl)) ?_
              go_wp2
              go_roundg (h.length - (k + 1))
              case measure => have := HKL2.out; have := HK2.out; omega
              case rel =>
                have hkl := HKL2.out
                have hh := HH.out
                exact ⟨k + 1, by first | rfl | (rw [show wrap64 ((k : Int) + 1) = ((k + 1 : Nat) : Int) from by unfold wrap64; omega]), ⟨hkl⟩, ⟨by omega⟩, HKL, BI, HB4, HB⟩
          · rw [hin] at hi
            have HI := Aside0.mk hi
            clear hi hs2 hin hru
            go_upto_region 19 with fail
            have n_HB := Aside0.mk (below_drew1 HB.out)
            have n_HB4 := Aside0.mk (below_drew1 HB4.out)
            have n_HKL := Aside0.mk (Kd.C_below HKL.out (below_drew1 (Below.refl _ _)))
            have n_BI := Aside0.mk (blk_drew BI.out)
            clear HB HB4 HKL BI
            have HB := n_HB
            have HB4 := n_HB4
            have HKL := n_HKL
            have BI := n_BI
            clear n_HB n_HB4 n_HKL n_BI
            refine start_ (n := 26) (S := fun w' => w'.heap[gi]? = some (.cells ((seen.set n true).map Value.bool).toArray 4 (0, 0))) (ds := []) #[false, false, false, false, false, false, false, false, false, false, false, false, false, false, false, false, false, false, false, false, false, false, false, false, false, false] (by kernel_rfl) rfl rfl (BI.out) (fun hHeld => ?_); refine with_tabW lr_some.tab19 lr_some.bits19 (fun HT_ HW_ => ?_)
            generalize wr.drew = rv1_ at HB HB4 HKL BI hHeld ⊢
            refine pure_ (i := 0) (N := some 68) (v := ?_) (a' := ?_) (lr_some_lb 26 1) rfl rfl (any_of HT_.out (by kernel_rfl)) (fun _ _ _ h => h) (Or.inl ⟨by rfl, ?_⟩) ?_ ?_; rotate_left
            · intro w'; go_simp; with_reducible rfl
            rotate_left
            · simp only [Act.put, List.setIfInBounds_toArray, List.set_cons_zero, List.set_cons_succ, i64_w, i32_w]; rfl
            refine pure_ (i := 1) (N := some 69) (v := ?_) (a' := ?_) (lr_some_lb 26 3) rfl rfl (any_of HT_.out (by kernel_rfl)) (fun _ _ _ h => h) (Or.inl ⟨by rfl, ?_⟩) ?_ ?_; rotate_left
            · intro w'; go_simp; with_reducible rfl
            rotate_left
            · simp only [Act.put, List.setIfInBounds_toArray, List.set_cons_zero, List.set_cons_succ, i64_w, i32_w]; rfl
            refine pure_ (i := 2) (N := some 70) (v := ?_) (a' := ?_) (lr_some_lb 26 7) rfl rfl (any_of HT_.out (by kernel_rfl)) (fun _ _ _ h => h) (Or.inl ⟨by rfl, ?_⟩) ?_ ?_; rotate_left
            · intro w'; go_simp; with_reducible rfl
            rotate_left
            · simp only [Act.put, List.setIfInBounds_toArray, List.set_cons_zero, List.set_cons_succ, i64_w, i32_w]; rfl
            refine take_ (i := 3) (N := some 71) (v := ?_) (a' := ?_) (lr_some_lb 26 15) rfl rfl (take_ofW HT_.out HW_.out (by kernel_rfl)) (fun _ _ _ h => h) (Or.inl ⟨by rfl, ?_⟩) hHeld ?_ ?_; rotate_left
            · intro w' s0; refine Eq.trans (wq_run_load1 (ty := 4) (p := .tmp 70) (g := gi) (i := k) (v := .bool true) ?ho21 ?hp21 Try.underlying4 ?hd21 s0 ?hv21) ?fin21; (case hd21 => rfl); (case ho21 => rfl); (case hp21 => rfl); (case hv21 => exact HI.out); (case fin21 => with_reducible rfl)
            rotate_left
            · simp only [Act.put, List.setIfInBounds_toArray, List.set_cons_zero, List.set_cons_succ, i64_w, i32_w]; rfl
            refine pure_ (i := 4) (N := some 72) (v := ?_) (a' := ?_) (lr_some_lb 26 31) rfl rfl (any_of HT_.out (by kernel_rfl)) (fun _ _ _ h => h) (Or.inl ⟨by rfl, ?_⟩) ?_ ?_; rotate_left
            · intro w'; go_simp; with_reducible rfl
            rotate_left
            · simp only [Act.put, List.setIfInBounds_toArray, List.set_cons_zero, List.set_cons_succ, i64_w, i32_w]; rfl
            refine pure_ (i := 5) (N := some 73) (v := ?_) (a' := ?_) (lr_some_lb 26 63) rfl rfl (any_of HT_.out (by kernel_rfl)) (fun _ _ _ h => h) (Or.inl ⟨by rfl, ?_⟩) ?_ ?_; rotate_left
            · intro w'; go_simp; with_reducible rfl
            rotate_left
            · simp only [Act.put, List.setIfInBounds_toArray, List.set_cons_zero, List.set_cons_succ, i64_w, i32_w]; rfl
            refine pure_ (i := 6) (N := some 74) (v := undef) (a' := ?_) (lr_some_lb 26 127) rfl rfl (any_of HT_.out (by kernel_rfl)) (fun _ _ _ h => h) (Or.inr ⟨by rfl, rfl⟩) ?_ ?_; rotate_left
            · simp only [Act.put, List.setIfInBounds_toArray, List.set_cons_zero, List.set_cons_succ, i64_w, i32_w]; rfl
            refine pure_ (i := 7) (N := some 75) (v := undef) (a' := ?_) (lr_some_lb 26 255) rfl rfl (any_of HT_.out (by kernel_rfl)) (fun _ _ _ h => h) (Or.inr ⟨by rfl, rfl⟩) ?_ ?_; rotate_left
            · simp only [Act.put, List.setIfInBounds_toArray, List.set_cons_zero, List.set_cons_succ, i64_w, i32_w]; rfl
            refine pure_ (i := 8) (N := some 76) (v := undef) (a' := ?_) (lr_some_lb 26 511) rfl rfl (any_of HT_.out (by kernel_rfl)) (fun _ _ _ h => h) (Or.inr ⟨by rfl, rfl⟩) ?_ ?_; rotate_left
            · simp only [Act.put, List.setIfInBounds_toArray, List.set_cons_zero, List.set_cons_succ, i64_w, i32_w]; rfl
            refine pure_ (i := 9) (N := some 77) (v := undef) (a' := ?_) (lr_some_lb 26 1023) rfl rfl (any_of HT_.out (by kernel_rfl)) (fun _ _ _ h => h) (Or.inr ⟨by rfl, rfl⟩) ?_ ?_; rotate_left
            · simp only [Act.put, List.setIfInBounds_toArray, List.set_cons_zero, List.set_cons_succ, i64_w, i32_w]; rfl
            refine pure_ (i := 10) (N := some 78) (v := undef) (a' := ?_) (lr_some_lb 26 2047) rfl rfl (any_of HT_.out (by kernel_rfl)) (fun _ _ _ h => h) (Or.inr ⟨by rfl, rfl⟩) ?_ ?_; rotate_left
            · simp only [Act.put, List.setIfInBounds_toArray, List.set_cons_zero, List.set_cons_succ, i64_w, i32_w]; rfl
            refine pure_ (i := 11) (N := some 79) (v := undef) (a' := ?_) (lr_some_lb 26 4095) rfl rfl (any_of HT_.out (by kernel_rfl)) (fun _ _ _ h => h) (Or.inr ⟨by rfl, rfl⟩) ?_ ?_; rotate_left
            · simp only [Act.put, List.setIfInBounds_toArray, List.set_cons_zero, List.set_cons_succ, i64_w, i32_w]; rfl
            refine pure_ (i := 12) (N := some 80) (v := undef) (a' := ?_) (lr_some_lb 26 8191) rfl rfl (any_of HT_.out (by kernel_rfl)) (fun _ _ _ h => h) (Or.inr ⟨by rfl, rfl⟩) ?_ ?_; rotate_left
            · simp only [Act.put, List.setIfInBounds_toArray, List.set_cons_zero, List.set_cons_succ, i64_w, i32_w]; rfl
            refine pure_ (i := 13) (N := some 81) (v := undef) (a' := ?_) (lr_some_lb 26 16383) rfl rfl (any_of HT_.out (by kernel_rfl)) (fun _ _ _ h => h) (Or.inr ⟨by rfl, rfl⟩) ?_ ?_; rotate_left
            · simp only [Act.put, List.setIfInBounds_toArray, List.set_cons_zero, List.set_cons_succ, i64_w, i32_w]; rfl
            refine pure_ (i := 14) (N := some 82) (v := undef) (a' := ?_) (lr_some_lb 26 32767) rfl rfl (any_of HT_.out (by kernel_rfl)) (fun _ _ _ h => h) (Or.inr ⟨by rfl, rfl⟩) ?_ ?_; rotate_left
            · simp only [Act.put, List.setIfInBounds_toArray, List.set_cons_zero, List.set_cons_succ, i64_w, i32_w]; rfl
            refine pure_ (i := 15) (N := some 83) (v := ?_) (a' := ?_) (lr_some_lb 26 65535) rfl rfl (any_of HT_.out (by kernel_rfl)) (fun _ _ _ h => h) (Or.inl ⟨by rfl, ?_⟩) ?_ ?_; rotate_left
            · intro w'; go_simp; with_reducible rfl
            rotate_left
            · simp only [Act.put, List.setIfInBounds_toArray, List.set_cons_zero, List.set_cons_succ, i64_w, i32_w]; rfl
            refine pure_ (i := 16) (N := some 84) (v := ?_) (a' := ?_) (lr_some_lb 26 131071) rfl rfl (any_of HT_.out (by kernel_rfl)) (fun _ _ _ h => h) (Or.inl ⟨by rfl, ?_⟩) ?_ ?_; rotate_left
            · intro w'; go_simp; with_reducible rfl
            rotate_left
            · simp only [Act.put, List.setIfInBounds_toArray, List.set_cons_zero, List.set_cons_succ, i64_w, i32_w]; rfl
            refine pure_ (i := 17) (N := some 85) (v := undef) (a' := ?_) (lr_some_lb 26 262143) rfl rfl (any_of HT_.out (by kernel_rfl)) (fun _ _ _ h => h) (Or.inr ⟨by rfl, rfl⟩) ?_ ?_; rotate_left
            · simp only [Act.put, List.setIfInBounds_toArray, List.set_cons_zero, List.set_cons_succ, i64_w, i32_w]; rfl
            refine pure_ (i := 18) (N := some 86) (v := undef) (a' := ?_) (lr_some_lb 26 524287) rfl rfl (any_of HT_.out (by kernel_rfl)) (fun _ _ _ h => h) (Or.inr ⟨by rfl, rfl⟩) ?_ ?_; rotate_left
            · simp only [Act.put, List.setIfInBounds_toArray, List.set_cons_zero, List.set_cons_succ, i64_w, i32_w]; rfl
            refine pure_ (i := 19) (N := some 87) (v := undef) (a' := ?_) (lr_some_lb 26 1048575) rfl rfl (any_of HT_.out (by kernel_rfl)) (fun _ _ _ h => h) (Or.inr ⟨by rfl, rfl⟩) ?_ ?_; rotate_left
            · simp only [Act.put, List.setIfInBounds_toArray, List.set_cons_zero, List.set_cons_succ, i64_w, i32_w]; rfl
            refine pure_ (i := 20) (N := some 88) (v := undef) (a' := ?_) (lr_some_lb 26 2097151) rfl rfl (any_of HT_.out (by kernel_rfl)) (fun _ _ _ h => h) (Or.inr ⟨by rfl, rfl⟩) ?_ ?_; rotate_left
            · simp only [Act.put, List.setIfInBounds_toArray, List.set_cons_zero, List.set_cons_succ, i64_w, i32_w]; rfl
            refine pure_ (i := 21) (N := some 89) (v := undef) (a' := ?_) (lr_some_lb 26 4194303) rfl rfl (any_of HT_.out (by kernel_rfl)) (fun _ _ _ h => h) (Or.inr ⟨by rfl, rfl⟩) ?_ ?_; rotate_left
            · simp only [Act.put, List.setIfInBounds_toArray, List.set_cons_zero, List.set_cons_succ, i64_w, i32_w]; rfl
            refine pure_ (i := 22) (N := some 90) (v := undef) (a' := ?_) (lr_some_lb 26 8388607) rfl rfl (any_of HT_.out (by kernel_rfl)) (fun _ _ _ h => h) (Or.inr ⟨by rfl, rfl⟩) ?_ ?_; rotate_left
            · simp only [Act.put, List.setIfInBounds_toArray, List.set_cons_zero, List.set_cons_succ, i64_w, i32_w]; rfl
            refine pure_ (i := 23) (N := some 91) (v := undef) (a' := ?_) (lr_some_lb 26 16777215) rfl rfl (any_of HT_.out (by kernel_rfl)) (fun _ _ _ h => h) (Or.inr ⟨by rfl, rfl⟩) ?_ ?_; rotate_left
            · simp only [Act.put, List.setIfInBounds_toArray, List.set_cons_zero, List.set_cons_succ, i64_w, i32_w]; rfl
            refine pure_ (i := 24) (N := some 92) (v := undef) (a' := ?_) (lr_some_lb 26 33554431) rfl rfl (any_of HT_.out (by kernel_rfl)) (fun _ _ _ h => h) (Or.inr ⟨by rfl, rfl⟩) ?_ ?_; rotate_left
            · simp only [Act.put, List.setIfInBounds_toArray, List.set_cons_zero, List.set_cons_succ, i64_w, i32_w]; rfl
            refine pure_ (i := 25) (N := some 93) (v := ?_) (a' := ?_) (lr_some_lb 26 67108863) rfl rfl (any_of HT_.out (by kernel_rfl)) (fun _ _ _ h => h) (Or.inl ⟨by rfl, ?_⟩) ?_ ?_; rotate_left
            · intro w'; go_simp; with_reducible rfl
            rotate_left
            · simp only [Act.put, List.setIfInBounds_toArray, List.set_cons_zero, List.set_cons_succ, i64_w, i32_w]; rfl
            refine done_ (done_of HT_.out (by kernel_rfl)) ?_
            go_wp2
            go_roundg (h.length - (k + 1))
            case measure => have := HKL2.out; have := HK2.out; omega
            case rel =>
              have hkl := HKL2.out
              have hh := HH.out
              exact ⟨k + 1, by first | rfl | (rw [show wrap64 ((k : Int) + 1) = ((k + 1 : Nat) : Int) from by unfold wrap64; omega]), ⟨hkl⟩, ⟨by omega⟩, HKL, BI, HB4, HB⟩
        · have hnlt2 : ¬ ((k : Int) < (h.length : Int)) := by omega
          have HKE := Aside0.mk (show k = h.length from by have := HJ2.out; omega)
          clear hkl
          have htl := HTE.out
          have hte : (f.f3 < 0) ∨ ((f.f6.f1 == apD l f.f5.f0 f.f5.f1) = true ∧ (f.f6.f2 == apV l f.f5.f0 f.f5.f1) = true) := by
            unfold tellsP at htl
            by_cases c9 : f.f3 < 0
            · exact .inl c9
            · rw [if_neg c9] at htl
              right
              by_cases c8 : (f.f6.f1 == apD l f.f5.f0 f.f5.f1) = true
              · rw [if_pos c8] at htl; exact ⟨c8, htl⟩
              · rw [if_neg c8] at htl; cases htl
          have HTE2 := Aside0.mk hte
          clear hte htl
          by_cases hneg : f.f3 < 0
          · have b9 : decide (0 ≤ f.f3) = false := decide_eq_false (by omega)
            have b8 : ¬ (0 ≤ f.f3) := by omega
            go_upto_region 23 with (first | ((with_reducible refine gate_dst (N := 100) rfl ?_); refine wq_loadE (ty := 25) (p := .tmp 99) (k := 4) (ad := ⟨(ad.add (n * 13)).block, (ad.add (n * 13)).off + 5, none⟩) (vs := [.int .i64 f.f5.f0, .int .u64 f.f5.f1, .int .u64 f.f5.f2, .int .i64 f.f5.f3]) ?hgd22 ?ho22 ?hp22 Try.underlying25 ?hd22 ?hi22 (ev_call (cells_bel rfl HB.out HF.out)) ?hk22 ?_; (case hd22 => rfl); (case hi22 => kernel_rfl); (case hgd22 => rfl); (case ho22 => rfl); (case hp22 => rfl); (case hk22 => rfl)) | (go_at_call 10; (with_reducible refine (li_Told Al cl l f.f5.f0 f.f5.f1 f.f5.f2 f.f5.f3 (by have := HLL.out; have := HIL.out; have := HTL.out; have := HH.out; omega) HRS.out _ HKL.out HLL.out.2).mono ?_); rintro e su1_ ⟨A9, c9, rfl, hl9, hk9, hbk⟩; clear HKL; have n_HB := Aside0.mk (below_step HB.out hbk); have n_HB4 := Aside0.mk (below_step HB4.out hbk); have n_BI := Aside0.mk (blk_below BI.out hbk); clear HB HB4 BI; have HB := n_HB; have HB4 := n_HB4; have BI := n_BI; clear n_HB n_HB4 n_BI; clear hbk; have hq : ∃ w9 : World, Kd.C k53 w9 A9 (apL l f.f5.f0 f.f5.f1 f.f5.f2).length (apL l f.f5.f0 f.f5.f1 f.f5.f2) ∧ (apL l f.f5.f0 f.f5.f1 f.f5.f2).length ≤ c9 ∧ Below w9.heap.size w9 su1_ := ⟨_, hk9, hl9, Below.refl _ _⟩; obtain ⟨w9, q0, q1, hbn⟩ := hq; have HK9 := Aside0.mk q0; have HL9 := Aside0.mk q1; have HB9 := Aside0.mk hbn; clear hbn q0 q1; clear hl9 hk9) | ((with_reducible refine gate_dst (N := 12) rfl ?_); refine box_event ?hg24 (N := 12) ?hd24 (cs := #[.int .i64 0, .bool false, .int .u64 0, .slice none 0 0]) (t := 30) ?hr24 ?_; (case hd24 => rfl); (case hg24 => rfl); (case hr24 => first | (go_simp; done) | (go_simp; rfl)); intro sg10 hg sw2_ hbox hbk; have HGsB10 := Aside0.mk (show gi ≠ sg10 ∧ W.heap.size ≤ sg10 from by rw [hg]; have := blk_lt BI.out; have := HB.out.size; omega); have HFHB4sB10 := Aside0.mk (show w4.heap.size ≤ sg10 from by rw [hg]; exact HB4.out.size); have HFHB9sB10 := Aside0.mk (show w9.heap.size ≤ sg10 from by rw [hg]; exact HB9.out.size); have n_HB := Aside0.mk (below_step HB.out hbk); have n_HB4 := Aside0.mk (below_step HB4.out hbk); have n_HB9 := Aside0.mk (below_step HB9.out hbk); have n_BI := Aside0.mk (blk_below BI.out hbk); clear HB HB4 HB9 BI; have HB := n_HB; have HB4 := n_HB4; have HB9 := n_HB9; have BI := n_BI; clear n_HB n_HB4 n_HB9 n_BI; have sB10 := Aside0.mk hbox; clear hbk hbox hg) | ((with_reducible refine gate_store (p := 12) rfl ?_); refine wq_store (ty := 30) (p := .tmp 12) (x := .tmp 103) (g := sg10) (i := 0) (k := 4) (v := ?v25) (vs := ?vs25) (cs' := ?cs25) ?hgd25 ?hdst25 ?ho25 ?hp25 ?hx25 ?hvc25 ?hi25 ?hk25 ?h125 sB10.out ?hsz25 ?hcs25 ?_; (case hi25 => kernel_rfl); (case hgd25 => rfl); (case hdst25 => rfl); (case ho25 => rfl); (case hp25 => rfl); (case hx25 => go_simp; with_reducible rfl); (case hvc25 => simp only [Value.cells]; with_reducible rfl); (case hk25 => rfl); (case h125 => rfl); (case hsz25 => exact Nat.le_of_ble_eq_true rfl); (case hcs25 => simp only [wqPut, List.setIfInBounds_toArray, List.set_cons_succ, List.set_cons_zero, Nat.reduceAdd]; with_reducible rfl); intro sw3_ hb hgr; have n_HB := Aside0.mk (HB.out.grown hgr HB.out.size (fun k hk => by cases hk; exact HGsB10.out.2)); have n_HB4 := Aside0.mk (HB4.out.grown hgr HB4.out.size (fun k hk => by cases hk; exact HFHB4sB10.out)); have n_HB9 := Aside0.mk (HB9.out.grown hgr HB9.out.size (fun k hk => by cases hk; exact HFHB9sB10.out)); have n_BI := Aside0.mk (wq_blk BI.out hgr HGsB10.out.1); have n_sB10 := Aside0.mk hb; clear HB HB4 HB9 BI sB10 hb hgr; have HB := n_HB; have HB4 := n_HB4; have HB9 := n_HB9; have BI := n_BI; have sB10 := n_sB10; clear n_HB n_HB4 n_HB9 n_BI n_sB10))
            have n_HB := Aside0.mk (below_drew1 HB.out)
            have n_HB4 := Aside0.mk (below_drew1 HB4.out)
            have n_HB9 := Aside0.mk (below_drew1 HB9.out)
            have n_BI := Aside0.mk (blk_drew BI.out)
            have n_sB10 := Aside0.mk (blk_drew sB10.out)
            clear HB HB4 HB9 BI sB10
            have HB := n_HB
            have HB4 := n_HB4
            have HB9 := n_HB9
            have BI := n_BI
            have sB10 := n_sB10
            clear n_HB n_HB4 n_HB9 n_BI n_sB10
            refine start_ (n := 28) (S := fun w' => w'.cell? ⟨(ad.add (n * 13)).block, (ad.add (n * 13)).off + 3, none⟩ = some (.int .i64 f.f3)) (ds := []) #[false, false, false, false, false, false, false, false, false, false, false, false, false, false, false, false, false, false, false, false, false, false, false, false, false, false, false, false] (by kernel_rfl) rfl rfl ((pw_cell_below HB.out (ev_cell HF.out 3 _ (by decide) rfl))) (fun hHeld => ?_); refine with_tabW lr_some.tab23 lr_some.bits23 (fun HT_ HW_ => ?_)
            generalize sw3_.drew = sv4_ at HB HB4 HB9 BI sB10 hHeld ⊢
            refine pure_ (i := 0) (N := some 105) (v := ?_) (a' := ?_) (lr_some_lb 28 1) rfl rfl (any_of HT_.out (by kernel_rfl)) (fun _ _ _ h => h) (Or.inl ⟨by rfl, ?_⟩) ?_ ?_; rotate_left
            · intro w'; go_simp; with_reducible rfl
            rotate_left
            · simp only [Act.put, List.setIfInBounds_toArray, List.set_cons_zero, List.set_cons_succ, i64_w, i32_w]; rfl
            refine pure_ (i := 1) (N := some 106) (v := ?_) (a' := ?_) (lr_some_lb 28 3) rfl rfl (any_of HT_.out (by kernel_rfl)) (fun _ _ _ h => h) (Or.inl ⟨by rfl, ?_⟩) ?_ ?_; rotate_left
            · intro w'; go_simp; with_reducible rfl
            rotate_left
            · simp only [Act.put, List.setIfInBounds_toArray, List.set_cons_zero, List.set_cons_succ, i64_w, i32_w]; rfl
            refine pure_ (i := 2) (N := some 107) (v := ?_) (a' := ?_) (lr_some_lb 28 7) rfl rfl (any_of HT_.out (by kernel_rfl)) (fun _ _ _ h => h) (Or.inl ⟨by rfl, ?_⟩) ?_ ?_; rotate_left
            · intro w'; go_simp; with_reducible rfl
            rotate_left
            · simp only [Act.put, List.setIfInBounds_toArray, List.set_cons_zero, List.set_cons_succ, i64_w, i32_w]; rfl
            refine pure_ (i := 3) (N := some 108) (v := ?_) (a' := ?_) (lr_some_lb 28 15) rfl rfl (any_of HT_.out (by kernel_rfl)) (fun _ _ _ h => h) (Or.inl ⟨by rfl, ?_⟩) ?_ ?_; rotate_left
            · intro w'; go_simp; with_reducible rfl
            rotate_left
            · simp only [Act.put, List.setIfInBounds_toArray, List.set_cons_zero, List.set_cons_succ, i64_w, i32_w]; rfl
            refine take_ (i := 4) (N := some 109) (v := ?_) (a' := ?_) (lr_some_lb 28 31) rfl rfl (take_ofW HT_.out HW_.out (by kernel_rfl)) (fun _ _ _ h => h) (Or.inl ⟨by rfl, ?_⟩) hHeld ?_ ?_; rotate_left
            · intro w' s0; refine Eq.trans (wq_run_loadC (ty := 3) (p := .tmp 108) (ad := ⟨(ad.add (n * 13)).block, (ad.add (n * 13)).off + 3, none⟩) ?ho26 ?hp26 Try.underlying3 ?hd26 s0) ?fin26; (case hd26 => rfl); (case ho26 => rfl); (case hp26 => rfl); (case fin26 => with_reducible rfl)
            rotate_left
            · simp only [Act.put, List.setIfInBounds_toArray, List.set_cons_zero, List.set_cons_succ, i64_w, i32_w]; rfl
            refine pure_ (i := 5) (N := some 110) (v := ?_) (a' := ?_) (lr_some_lb 28 63) rfl rfl (any_of HT_.out (by kernel_rfl)) (fun _ _ _ h => h) (Or.inl ⟨by rfl, ?_⟩) ?_ ?_; rotate_left
            · intro w'; go_simp; with_reducible rfl
            rotate_left
            · simp only [Act.put, List.setIfInBounds_toArray, List.set_cons_zero, List.set_cons_succ, i64_w, i32_w]; rfl
            refine pure_ (i := 6) (N := some 111) (v := ?_) (a' := ?_) (lr_some_lb 28 127) rfl rfl (any_of HT_.out (by kernel_rfl)) (fun _ _ _ h => h) (Or.inl ⟨by rfl, ?_⟩) ?_ ?_; rotate_left
            · intro w'; go_simp; with_reducible rfl
            rotate_left
            · simp only [Act.put, List.setIfInBounds_toArray, List.set_cons_zero, List.set_cons_succ, i64_w, i32_w]; rfl
            refine pure_ (i := 7) (N := some 112) (v := undef) (a' := ?_) (lr_some_lb 28 255) rfl rfl (any_of HT_.out (by kernel_rfl)) (fun _ _ _ h => h) (Or.inr ⟨by rfl, rfl⟩) ?_ ?_; rotate_left
            · simp only [Act.put, List.setIfInBounds_toArray, List.set_cons_zero, List.set_cons_succ, i64_w, i32_w]; rfl
            refine pure_ (i := 8) (N := some 113) (v := undef) (a' := ?_) (lr_some_lb 28 511) rfl rfl (any_of HT_.out (by kernel_rfl)) (fun _ _ _ h => h) (Or.inr ⟨by rfl, rfl⟩) ?_ ?_; rotate_left
            · simp only [Act.put, List.setIfInBounds_toArray, List.set_cons_zero, List.set_cons_succ, i64_w, i32_w]; rfl
            refine pure_ (i := 9) (N := some 114) (v := undef) (a' := ?_) (lr_some_lb 28 1023) rfl rfl (any_of HT_.out (by kernel_rfl)) (fun _ _ _ h => h) (Or.inr ⟨by rfl, rfl⟩) ?_ ?_; rotate_left
            · simp only [Act.put, List.setIfInBounds_toArray, List.set_cons_zero, List.set_cons_succ, i64_w, i32_w]; rfl
            refine pure_ (i := 10) (N := some 115) (v := undef) (a' := ?_) (lr_some_lb 28 2047) rfl rfl (any_of HT_.out (by kernel_rfl)) (fun _ _ _ h => h) (Or.inr ⟨by rfl, rfl⟩) ?_ ?_; rotate_left
            · simp only [Act.put, List.setIfInBounds_toArray, List.set_cons_zero, List.set_cons_succ, i64_w, i32_w]; rfl
            refine pure_ (i := 11) (N := some 116) (v := undef) (a' := ?_) (lr_some_lb 28 4095) rfl rfl (any_of HT_.out (by kernel_rfl)) (fun _ _ _ h => h) (Or.inr ⟨by rfl, rfl⟩) ?_ ?_; rotate_left
            · simp only [Act.put, List.setIfInBounds_toArray, List.set_cons_zero, List.set_cons_succ, i64_w, i32_w]; rfl
            refine pure_ (i := 12) (N := some 117) (v := undef) (a' := ?_) (lr_some_lb 28 8191) rfl rfl (any_of HT_.out (by kernel_rfl)) (fun _ _ _ h => h) (Or.inr ⟨by rfl, rfl⟩) ?_ ?_; rotate_left
            · simp only [Act.put, List.setIfInBounds_toArray, List.set_cons_zero, List.set_cons_succ, i64_w, i32_w]; rfl
            refine pure_ (i := 13) (N := some 118) (v := undef) (a' := ?_) (lr_some_lb 28 16383) rfl rfl (any_of HT_.out (by kernel_rfl)) (fun _ _ _ h => h) (Or.inr ⟨by rfl, rfl⟩) ?_ ?_; rotate_left
            · simp only [Act.put, List.setIfInBounds_toArray, List.set_cons_zero, List.set_cons_succ, i64_w, i32_w]; rfl
            refine pure_ (i := 14) (N := some 119) (v := undef) (a' := ?_) (lr_some_lb 28 32767) rfl rfl (any_of HT_.out (by kernel_rfl)) (fun _ _ _ h => h) (Or.inr ⟨by rfl, rfl⟩) ?_ ?_; rotate_left
            · simp only [Act.put, List.setIfInBounds_toArray, List.set_cons_zero, List.set_cons_succ, i64_w, i32_w]; rfl
            refine pure_ (i := 15) (N := some 120) (v := undef) (a' := ?_) (lr_some_lb 28 65535) rfl rfl (any_of HT_.out (by kernel_rfl)) (fun _ _ _ h => h) (Or.inr ⟨by rfl, rfl⟩) ?_ ?_; rotate_left
            · simp only [Act.put, List.setIfInBounds_toArray, List.set_cons_zero, List.set_cons_succ, i64_w, i32_w]; rfl
            refine pure_ (i := 16) (N := some 121) (v := undef) (a' := ?_) (lr_some_lb 28 131071) rfl rfl (any_of HT_.out (by kernel_rfl)) (fun _ _ _ h => h) (Or.inr ⟨by rfl, rfl⟩) ?_ ?_; rotate_left
            · simp only [Act.put, List.setIfInBounds_toArray, List.set_cons_zero, List.set_cons_succ, i64_w, i32_w]; rfl
            refine pure_ (i := 17) (N := some 122) (v := undef) (a' := ?_) (lr_some_lb 28 262143) rfl rfl (any_of HT_.out (by kernel_rfl)) (fun _ _ _ h => h) (Or.inr ⟨by rfl, rfl⟩) ?_ ?_; rotate_left
            · simp only [Act.put, List.setIfInBounds_toArray, List.set_cons_zero, List.set_cons_succ, i64_w, i32_w]; rfl
            refine pure_ (i := 18) (N := some 123) (v := undef) (a' := ?_) (lr_some_lb 28 524287) rfl rfl (any_of HT_.out (by kernel_rfl)) (fun _ _ _ h => h) (Or.inr ⟨by rfl, rfl⟩) ?_ ?_; rotate_left
            · simp only [Act.put, List.setIfInBounds_toArray, List.set_cons_zero, List.set_cons_succ, i64_w, i32_w]; rfl
            refine pure_ (i := 19) (N := some 124) (v := undef) (a' := ?_) (lr_some_lb 28 1048575) rfl rfl (any_of HT_.out (by kernel_rfl)) (fun _ _ _ h => h) (Or.inr ⟨by rfl, rfl⟩) ?_ ?_; rotate_left
            · simp only [Act.put, List.setIfInBounds_toArray, List.set_cons_zero, List.set_cons_succ, i64_w, i32_w]; rfl
            refine pure_ (i := 20) (N := some 125) (v := undef) (a' := ?_) (lr_some_lb 28 2097151) rfl rfl (any_of HT_.out (by kernel_rfl)) (fun _ _ _ h => h) (Or.inr ⟨by rfl, rfl⟩) ?_ ?_; rotate_left
            · simp only [Act.put, List.setIfInBounds_toArray, List.set_cons_zero, List.set_cons_succ, i64_w, i32_w]; rfl
            refine pure_ (i := 21) (N := some 126) (v := undef) (a' := ?_) (lr_some_lb 28 4194303) rfl rfl (any_of HT_.out (by kernel_rfl)) (fun _ _ _ h => h) (Or.inr ⟨by rfl, rfl⟩) ?_ ?_; rotate_left
            · simp only [Act.put, List.setIfInBounds_toArray, List.set_cons_zero, List.set_cons_succ, i64_w, i32_w]; rfl
            refine pure_ (i := 22) (N := some 127) (v := undef) (a' := ?_) (lr_some_lb 28 8388607) rfl rfl (any_of HT_.out (by kernel_rfl)) (fun _ _ _ h => h) (Or.inr ⟨by rfl, rfl⟩) ?_ ?_; rotate_left
            · simp only [Act.put, List.setIfInBounds_toArray, List.set_cons_zero, List.set_cons_succ, i64_w, i32_w]; rfl
            refine pure_ (i := 23) (N := some 128) (v := undef) (a' := ?_) (lr_some_lb 28 16777215) rfl rfl (any_of HT_.out (by kernel_rfl)) (fun _ _ _ h => h) (Or.inr ⟨by rfl, rfl⟩) ?_ ?_; rotate_left
            · simp only [Act.put, List.setIfInBounds_toArray, List.set_cons_zero, List.set_cons_succ, i64_w, i32_w]; rfl
            refine pure_ (i := 24) (N := some 129) (v := undef) (a' := ?_) (lr_some_lb 28 33554431) rfl rfl (any_of HT_.out (by kernel_rfl)) (fun _ _ _ h => h) (Or.inr ⟨by rfl, rfl⟩) ?_ ?_; rotate_left
            · simp only [Act.put, List.setIfInBounds_toArray, List.set_cons_zero, List.set_cons_succ, i64_w, i32_w]; rfl
            refine pure_ (i := 25) (N := some 130) (v := undef) (a' := ?_) (lr_some_lb 28 67108863) rfl rfl (any_of HT_.out (by kernel_rfl)) (fun _ _ _ h => h) (Or.inr ⟨by rfl, rfl⟩) ?_ ?_; rotate_left
            · simp only [Act.put, List.setIfInBounds_toArray, List.set_cons_zero, List.set_cons_succ, i64_w, i32_w]; rfl
            refine pure_ (i := 26) (N := some 131) (v := undef) (a' := ?_) (lr_some_lb 28 134217727) rfl rfl (any_of HT_.out (by kernel_rfl)) (fun _ _ _ h => h) (Or.inr ⟨by rfl, rfl⟩) ?_ ?_; rotate_left
            · simp only [Act.put, List.setIfInBounds_toArray, List.set_cons_zero, List.set_cons_succ, i64_w, i32_w]; rfl
            refine pure_ (i := 27) (N := some 132) (v := ?_) (a' := ?_) (lr_some_lb 28 268435455) rfl rfl (any_of HT_.out (by kernel_rfl)) (fun _ _ _ h => h) (Or.inl ⟨by rfl, ?_⟩) ?_ ?_; rotate_left
            · intro w'; go_simp; with_reducible rfl
            rotate_left
            · simp only [Act.put, List.setIfInBounds_toArray, List.set_cons_zero, List.set_cons_succ, i64_w, i32_w]; rfl
            refine done_ (done_of HT_.out (by kernel_rfl)) ?_
            go_wp2
            go_roundg (t.length - (i + 1))
            case measure => have := HIL.out; have := HK.out; omega
            case rel =>
              have hil := HIL.out
              have hh := HH.out
              have htl := HTL.out
              exact ⟨i + 1, apL l f.f5.f0 f.f5.f1 f.f5.f2, A9, c9, seen.set n true, by first | rfl | (rw [show wrap64 ((i : Int) + 1) = ((i + 1 : Nat) : Int) from by unfold wrap64; omega]), rfl, ⟨hil⟩, ⟨by omega⟩, ⟨by rw [List.length_set]; exact HSL.out⟩, HLG2, ⟨rising_apL _ _ _ HRS.out⟩, ⟨⟨by have := apL_len l f.f5.f0 f.f5.f1 f.f5.f2; have := HLL.out; omega, HL9.out⟩⟩, ⟨Kd.C_below HK9.out HB9.out⟩, BI, HB4, HB⟩
          · have b9 : decide (0 ≤ f.f3) = true := decide_eq_true (by omega)
            have b8 : 0 ≤ f.f3 := by omega
            have hte := HTE2.out.resolve_left hneg
            have b7 : (f.f6.f1 != apD l f.f5.f0 f.f5.f1) = false := by rw [bne, hte.1]; rfl
            have b6 : (f.f6.f2 != apV l f.f5.f0 f.f5.f1) = false := by rw [bne, hte.2]; rfl
            have b5 := hte.1
            have b4 := hte.2
            clear hte hneg
            go_upto_region 23 with (first | ((with_reducible refine gate_dst (N := 100) rfl ?_); refine wq_loadE (ty := 25) (p := .tmp 99) (k := 4) (ad := ⟨(ad.add (n * 13)).block, (ad.add (n * 13)).off + 5, none⟩) (vs := [.int .i64 f.f5.f0, .int .u64 f.f5.f1, .int .u64 f.f5.f2, .int .i64 f.f5.f3]) ?hgd27 ?ho27 ?hp27 Try.underlying25 ?hd27 ?hi27 (ev_call (cells_bel rfl HB.out HF.out)) ?hk27 ?_; (case hd27 => rfl); (case hi27 => kernel_rfl); (case hgd27 => rfl); (case ho27 => rfl); (case hp27 => rfl); (case hk27 => rfl)) | (go_at_call 10; (with_reducible refine (li_Told Al cl l f.f5.f0 f.f5.f1 f.f5.f2 f.f5.f3 (by have := HLL.out; have := HIL.out; have := HTL.out; have := HH.out; omega) HRS.out _ HKL.out HLL.out.2).mono ?_); rintro e uu1_ ⟨A9, c9, rfl, hl9, hk9, hbk⟩; clear HKL; have n_HB := Aside0.mk (below_step HB.out hbk); have n_HB4 := Aside0.mk (below_step HB4.out hbk); have n_BI := Aside0.mk (blk_below BI.out hbk); clear HB HB4 BI; have HB := n_HB; have HB4 := n_HB4; have BI := n_BI; clear n_HB n_HB4 n_BI; clear hbk; have hq : ∃ w9 : World, Kd.C k53 w9 A9 (apL l f.f5.f0 f.f5.f1 f.f5.f2).length (apL l f.f5.f0 f.f5.f1 f.f5.f2) ∧ (apL l f.f5.f0 f.f5.f1 f.f5.f2).length ≤ c9 ∧ Below w9.heap.size w9 uu1_ := ⟨_, hk9, hl9, Below.refl _ _⟩; obtain ⟨w9, q0, q1, hbn⟩ := hq; have HK9 := Aside0.mk q0; have HL9 := Aside0.mk q1; have HB9 := Aside0.mk hbn; clear hbn q0 q1; clear hl9 hk9) | ((with_reducible refine gate_dst (N := 12) rfl ?_); refine box_event ?hg29 (N := 12) ?hd29 (cs := #[.int .i64 0, .bool false, .int .u64 0, .slice none 0 0]) (t := 30) ?hr29 ?_; (case hd29 => rfl); (case hg29 => rfl); (case hr29 => first | (go_simp; done) | (go_simp; rfl)); intro ug10 hg uw2_ hbox hbk; have HGuB10 := Aside0.mk (show gi ≠ ug10 ∧ W.heap.size ≤ ug10 from by rw [hg]; have := blk_lt BI.out; have := HB.out.size; omega); have HFHB4uB10 := Aside0.mk (show w4.heap.size ≤ ug10 from by rw [hg]; exact HB4.out.size); have HFHB9uB10 := Aside0.mk (show w9.heap.size ≤ ug10 from by rw [hg]; exact HB9.out.size); have n_HB := Aside0.mk (below_step HB.out hbk); have n_HB4 := Aside0.mk (below_step HB4.out hbk); have n_HB9 := Aside0.mk (below_step HB9.out hbk); have n_BI := Aside0.mk (blk_below BI.out hbk); clear HB HB4 HB9 BI; have HB := n_HB; have HB4 := n_HB4; have HB9 := n_HB9; have BI := n_BI; clear n_HB n_HB4 n_HB9 n_BI; have uB10 := Aside0.mk hbox; clear hbk hbox hg) | ((with_reducible refine gate_store (p := 12) rfl ?_); refine wq_store (ty := 30) (p := .tmp 12) (x := .tmp 103) (g := ug10) (i := 0) (k := 4) (v := ?v30) (vs := ?vs30) (cs' := ?cs30) ?hgd30 ?hdst30 ?ho30 ?hp30 ?hx30 ?hvc30 ?hi30 ?hk30 ?h130 uB10.out ?hsz30 ?hcs30 ?_; (case hi30 => kernel_rfl); (case hgd30 => rfl); (case hdst30 => rfl); (case ho30 => rfl); (case hp30 => rfl); (case hx30 => go_simp; with_reducible rfl); (case hvc30 => simp only [Value.cells]; with_reducible rfl); (case hk30 => rfl); (case h130 => rfl); (case hsz30 => exact Nat.le_of_ble_eq_true rfl); (case hcs30 => simp only [wqPut, List.setIfInBounds_toArray, List.set_cons_succ, List.set_cons_zero, Nat.reduceAdd]; with_reducible rfl); intro uw3_ hb hgr; have n_HB := Aside0.mk (HB.out.grown hgr HB.out.size (fun k hk => by cases hk; exact HGuB10.out.2)); have n_HB4 := Aside0.mk (HB4.out.grown hgr HB4.out.size (fun k hk => by cases hk; exact HFHB4uB10.out)); have n_HB9 := Aside0.mk (HB9.out.grown hgr HB9.out.size (fun k hk => by cases hk; exact HFHB9uB10.out)); have n_BI := Aside0.mk (wq_blk BI.out hgr HGuB10.out.1); have n_uB10 := Aside0.mk hb; clear HB HB4 HB9 BI uB10 hb hgr; have HB := n_HB; have HB4 := n_HB4; have HB9 := n_HB9; have BI := n_BI; have uB10 := n_uB10; clear n_HB n_HB4 n_HB9 n_BI n_uB10))
            obtain ⟨XuB10, hXuB10, hb_uB10⟩ := wq_name uB10.out
            clear uB10
            have uB10 := Aside0.mk hb_uB10
            have HXuB10 := Aside0.mk hXuB10
            clear hXuB10 hb_uB10
            have n_HB := Aside0.mk (below_drew1 HB.out)
            have n_HB4 := Aside0.mk (below_drew1 HB4.out)
            have n_HB9 := Aside0.mk (below_drew1 HB9.out)
            have n_BI := Aside0.mk (blk_drew BI.out)
            have n_uB10 := Aside0.mk (blk_drew uB10.out)
            clear HB HB4 HB9 BI uB10
            have HB := n_HB
            have HB4 := n_HB4
            have HB9 := n_HB9
            have BI := n_BI
            have uB10 := n_uB10
            clear n_HB n_HB4 n_HB9 n_BI n_uB10
            refine start_ (n := 28) (S := fun w' => w'.heap[ug10]? = some (.cells XuB10 30 (0, 0)) ∧ w'.cell? ⟨(ad.add (n * 13)).block, (ad.add (n * 13)).off + 3, none⟩ = some (.int .i64 f.f3) ∧ w'.cell? ⟨(ad.add (n * 13)).block, (ad.add (n * 13)).off + 10, none⟩ = some (.bool f.f6.f1) ∧ w'.cell? ⟨(ad.add (n * 13)).block, (ad.add (n * 13)).off + 11, none⟩ = some (.int .u64 f.f6.f2)) (ds := []) #[false, false, false, false, false, false, false, false, false, false, false, false, false, false, false, false, false, false, false, false, false, false, false, false, false, false, false, false] (by kernel_rfl) rfl rfl ⟨uB10.out, (pw_cell_below HB.out (ev_cell HF.out 3 _ (by decide) rfl)), (pw_cell_below HB.out (ev_cell HF.out 10 _ (by decide) rfl)), (pw_cell_below HB.out (ev_cell HF.out 11 _ (by decide) rfl))⟩ (fun hHeld => ?_); refine with_tabW lr_some.tab23 lr_some.bits23 (fun HT_ HW_ => ?_)
            generalize uw3_.drew = uv4_ at HB HB4 HB9 BI uB10 hHeld ⊢
            refine pure_ (i := 0) (N := some 105) (v := ?_) (a' := ?_) (lr_some_lb 28 1) rfl rfl (any_of HT_.out (by kernel_rfl)) (fun _ _ _ h => h) (Or.inl ⟨by rfl, ?_⟩) ?_ ?_; rotate_left
            · intro w'; go_simp; with_reducible rfl
            rotate_left
            · simp only [Act.put, List.setIfInBounds_toArray, List.set_cons_zero, List.set_cons_succ, i64_w, i32_w]; rfl
            refine pure_ (i := 1) (N := some 106) (v := ?_) (a' := ?_) (lr_some_lb 28 3) rfl rfl (any_of HT_.out (by kernel_rfl)) (fun _ _ _ h => h) (Or.inl ⟨by rfl, ?_⟩) ?_ ?_; rotate_left
            · intro w'; go_simp; with_reducible rfl
            rotate_left
            · simp only [Act.put, List.setIfInBounds_toArray, List.set_cons_zero, List.set_cons_succ, i64_w, i32_w]; rfl
            refine pure_ (i := 2) (N := some 107) (v := ?_) (a' := ?_) (lr_some_lb 28 7) rfl rfl (any_of HT_.out (by kernel_rfl)) (fun _ _ _ h => h) (Or.inl ⟨by rfl, ?_⟩) ?_ ?_; rotate_left
            · intro w'; go_simp; with_reducible rfl
            rotate_left
            · simp only [Act.put, List.setIfInBounds_toArray, List.set_cons_zero, List.set_cons_succ, i64_w, i32_w]; rfl
            refine pure_ (i := 3) (N := some 108) (v := ?_) (a' := ?_) (lr_some_lb 28 15) rfl rfl (any_of HT_.out (by kernel_rfl)) (fun _ _ _ h => h) (Or.inl ⟨by rfl, ?_⟩) ?_ ?_; rotate_left
            · intro w'; go_simp; with_reducible rfl
            rotate_left
            · simp only [Act.put, List.setIfInBounds_toArray, List.set_cons_zero, List.set_cons_succ, i64_w, i32_w]; rfl
            refine take_ (i := 4) (N := some 109) (v := ?_) (a' := ?_) (lr_some_lb 28 31) rfl rfl (take_ofW HT_.out HW_.out (by kernel_rfl)) (fun _ _ _ h => h) (Or.inl ⟨by rfl, ?_⟩) hHeld ?_ ?_; rotate_left
            · rintro w' ⟨s0, s1, s2, s3⟩; refine Eq.trans (wq_run_loadC (ty := 3) (p := .tmp 108) (ad := ⟨(ad.add (n * 13)).block, (ad.add (n * 13)).off + 3, none⟩) ?ho31 ?hp31 Try.underlying3 ?hd31 s1) ?fin31; (case hd31 => rfl); (case ho31 => rfl); (case hp31 => rfl); (case fin31 => with_reducible rfl)
            rotate_left
            · simp only [Act.put, List.setIfInBounds_toArray, List.set_cons_zero, List.set_cons_succ, i64_w, i32_w]; rfl
            refine pure_ (i := 5) (N := some 110) (v := ?_) (a' := ?_) (lr_some_lb 28 63) rfl rfl (any_of HT_.out (by kernel_rfl)) (fun _ _ _ h => h) (Or.inl ⟨by rfl, ?_⟩) ?_ ?_; rotate_left
            · intro w'; go_simp; with_reducible rfl
            rotate_left
            · simp only [Act.put, List.setIfInBounds_toArray, List.set_cons_zero, List.set_cons_succ, i64_w, i32_w]; rfl
            refine pure_ (i := 6) (N := some 111) (v := ?_) (a' := ?_) (lr_some_lb 28 127) rfl rfl (any_of HT_.out (by kernel_rfl)) (fun _ _ _ h => h) (Or.inl ⟨by rfl, ?_⟩) ?_ ?_; rotate_left
            · intro w'; go_simp; with_reducible rfl
            rotate_left
            · simp only [Act.put, List.setIfInBounds_toArray, List.set_cons_zero, List.set_cons_succ, i64_w, i32_w]; rfl
            refine pure_ (i := 7) (N := some 112) (v := ?_) (a' := ?_) (lr_some_lb 28 255) rfl rfl (any_of HT_.out (by kernel_rfl)) (fun _ _ _ h => h) (Or.inl ⟨by rfl, ?_⟩) ?_ ?_; rotate_left
            · intro w'; go_simp; with_reducible rfl
            rotate_left
            · simp only [Act.put, List.setIfInBounds_toArray, List.set_cons_zero, List.set_cons_succ, i64_w, i32_w]; rfl
            refine pure_ (i := 8) (N := some 113) (v := ?_) (a' := ?_) (lr_some_lb 28 511) rfl rfl (any_of HT_.out (by kernel_rfl)) (fun _ _ _ h => h) (Or.inl ⟨by rfl, ?_⟩) ?_ ?_; rotate_left
            · intro w'; go_simp; with_reducible rfl
            rotate_left
            · simp only [Act.put, List.setIfInBounds_toArray, List.set_cons_zero, List.set_cons_succ, i64_w, i32_w]; rfl
            refine pure_ (i := 9) (N := some 114) (v := ?_) (a' := ?_) (lr_some_lb 28 1023) rfl rfl (any_of HT_.out (by kernel_rfl)) (fun _ _ _ h => h) (Or.inl ⟨by rfl, ?_⟩) ?_ ?_; rotate_left
            · intro w'; go_simp; with_reducible rfl
            rotate_left
            · simp only [Act.put, List.setIfInBounds_toArray, List.set_cons_zero, List.set_cons_succ, i64_w, i32_w]; rfl
            refine pure_ (i := 10) (N := some 115) (v := ?_) (a' := ?_) (lr_some_lb 28 2047) rfl rfl (any_of HT_.out (by kernel_rfl)) (fun _ _ _ h => h) (Or.inl ⟨by rfl, ?_⟩) ?_ ?_; rotate_left
            · intro w'; go_simp; with_reducible rfl
            rotate_left
            · simp only [Act.put, List.setIfInBounds_toArray, List.set_cons_zero, List.set_cons_succ, i64_w, i32_w]; rfl
            refine pure_ (i := 11) (N := some 116) (v := ?_) (a' := ?_) (lr_some_lb 28 4095) rfl rfl (any_of HT_.out (by kernel_rfl)) (fun _ _ _ h => h) (Or.inl ⟨by rfl, ?_⟩) ?_ ?_; rotate_left
            · intro w'; go_simp; with_reducible rfl
            rotate_left
            · simp only [Act.put, List.setIfInBounds_toArray, List.set_cons_zero, List.set_cons_succ, i64_w, i32_w]; rfl
            refine pure_ (i := 13) (N := some 118) (v := ?_) (a' := ?_) (lr_some_lb 28 12287) rfl rfl (any_of HT_.out (by kernel_rfl)) (fun _ _ _ h => h) (Or.inl ⟨by rfl, ?_⟩) ?_ ?_; rotate_left
            · intro w'; go_simp; with_reducible rfl
            rotate_left
            · simp only [Act.put, List.setIfInBounds_toArray, List.set_cons_zero, List.set_cons_succ, i64_w, i32_w]; rfl
            refine take_ (i := 12) (N := some 117) (v := ?_) (a' := ?_) (lr_some_lb 28 16383) rfl rfl (take_ofW HT_.out HW_.out (by kernel_rfl)) (fun _ _ _ h => h) (Or.inl ⟨by rfl, ?_⟩) hHeld ?_ ?_; rotate_left
            · rintro w' ⟨s0, s1, s2, s3⟩; refine Eq.trans (wq_run_loadC (ty := 4) (p := .tmp 116) (ad := ⟨(ad.add (n * 13)).block, (ad.add (n * 13)).off + 10, none⟩) ?ho32 ?hp32 Try.underlying4 ?hd32 s2) ?fin32; (case hd32 => rfl); (case ho32 => rfl); (case hp32 => rfl); (case fin32 => with_reducible rfl)
            rotate_left
            · simp only [Act.put, List.setIfInBounds_toArray, List.set_cons_zero, List.set_cons_succ, i64_w, i32_w]; rfl
            refine take_ (i := 14) (N := some 119) (v := ?_) (a' := ?_) (lr_some_lb 28 32767) rfl rfl (take_ofW HT_.out HW_.out (by kernel_rfl)) (fun _ _ _ h => h) (Or.inl ⟨by rfl, ?_⟩) hHeld ?_ ?_; rotate_left
            · rintro w' ⟨s0, s1, s2, s3⟩; refine Eq.trans (wq_run_load1 (ty := 4) (p := .tmp 118) (g := ug10) (i := 1) (v := ?v33) ?ho33 ?hp33 Try.underlying4 ?hd33 s0 ?hv33) ?fin33; (case hd33 => rfl); (case ho33 => rfl); (case hp33 => rfl); (case hv33 => rewrite [HXuB10.out]; rfl); (case fin33 => with_reducible rfl)
            rotate_left
            · simp only [Act.put, List.setIfInBounds_toArray, List.set_cons_zero, List.set_cons_succ, i64_w, i32_w]; rfl
            refine pure_ (i := 15) (N := some 120) (v := ?_) (a' := ?_) (lr_some_lb 28 65535) rfl rfl (any_of HT_.out (by kernel_rfl)) (fun _ _ _ h => h) (Or.inl ⟨by rfl, ?_⟩) ?_ ?_; rotate_left
            · intro w'; go_simp; with_reducible rfl
            rotate_left
            · simp only [Act.put, List.setIfInBounds_toArray, List.set_cons_zero, List.set_cons_succ, i64_w, i32_w]; rfl
            refine pure_ (i := 16) (N := some 121) (v := ?_) (a' := ?_) (lr_some_lb 28 131071) rfl rfl (any_of HT_.out (by kernel_rfl)) (fun _ _ _ h => h) (Or.inl ⟨by rfl, ?_⟩) ?_ ?_; rotate_left
            · intro w'; go_simp; with_reducible rfl
            rotate_left
            · simp only [Act.put, List.setIfInBounds_toArray, List.set_cons_zero, List.set_cons_succ, i64_w, i32_w]; rfl
            refine pure_ (i := 17) (N := some 122) (v := ?_) (a' := ?_) (lr_some_lb 28 262143) rfl rfl (any_of HT_.out (by kernel_rfl)) (fun _ _ _ h => h) (Or.inl ⟨by rfl, ?_⟩) ?_ ?_; rotate_left
            · intro w'; go_simp; with_reducible rfl
            rotate_left
            · simp only [Act.put, List.setIfInBounds_toArray, List.set_cons_zero, List.set_cons_succ, i64_w, i32_w]; rfl
            refine pure_ (i := 18) (N := some 123) (v := ?_) (a' := ?_) (lr_some_lb 28 524287) rfl rfl (any_of HT_.out (by kernel_rfl)) (fun _ _ _ h => h) (Or.inl ⟨by rfl, ?_⟩) ?_ ?_; rotate_left
            · intro w'; go_simp; with_reducible rfl
            rotate_left
            · simp only [Act.put, List.setIfInBounds_toArray, List.set_cons_zero, List.set_cons_succ, i64_w, i32_w]; rfl
            refine pure_ (i := 19) (N := some 124) (v := ?_) (a' := ?_) (lr_some_lb 28 1048575) rfl rfl (any_of HT_.out (by kernel_rfl)) (fun _ _ _ h => h) (Or.inl ⟨by rfl, ?_⟩) ?_ ?_; rotate_left
            · intro w'; go_simp; with_reducible rfl
            rotate_left
            · simp only [Act.put, List.setIfInBounds_toArray, List.set_cons_zero, List.set_cons_succ, i64_w, i32_w]; rfl
            refine pure_ (i := 20) (N := some 125) (v := ?_) (a' := ?_) (lr_some_lb 28 2097151) rfl rfl (any_of HT_.out (by kernel_rfl)) (fun _ _ _ h => h) (Or.inl ⟨by rfl, ?_⟩) ?_ ?_; rotate_left
            · intro w'; go_simp; with_reducible rfl
            rotate_left
            · simp only [Act.put, List.setIfInBounds_toArray, List.set_cons_zero, List.set_cons_succ, i64_w, i32_w]; rfl
            refine pure_ (i := 21) (N := some 126) (v := ?_) (a' := ?_) (lr_some_lb 28 4194303) rfl rfl (any_of HT_.out (by kernel_rfl)) (fun _ _ _ h => h) (Or.inl ⟨by rfl, ?_⟩) ?_ ?_; rotate_left
            · intro w'; go_simp; with_reducible rfl
            rotate_left
            · simp only [Act.put, List.setIfInBounds_toArray, List.set_cons_zero, List.set_cons_succ, i64_w, i32_w]; rfl
            refine pure_ (i := 23) (N := some 128) (v := ?_) (a' := ?_) (lr_some_lb 28 12582911) rfl rfl (any_of HT_.out (by kernel_rfl)) (fun _ _ _ h => h) (Or.inl ⟨by rfl, ?_⟩) ?_ ?_; rotate_left
            · intro w'; go_simp; with_reducible rfl
            rotate_left
            · simp only [Act.put, List.setIfInBounds_toArray, List.set_cons_zero, List.set_cons_succ, i64_w, i32_w]; rfl
            refine take_ (i := 22) (N := some 127) (v := ?_) (a' := ?_) (lr_some_lb 28 16777215) rfl rfl (take_ofW HT_.out HW_.out (by kernel_rfl)) (fun _ _ _ h => h) (Or.inl ⟨by rfl, ?_⟩) hHeld ?_ ?_; rotate_left
            · rintro w' ⟨s0, s1, s2, s3⟩; refine Eq.trans (wq_run_loadC (ty := 23) (p := .tmp 126) (ad := ⟨(ad.add (n * 13)).block, (ad.add (n * 13)).off + 11, none⟩) ?ho34 ?hp34 Try.underlying23 ?hd34 s3) ?fin34; (case hd34 => rfl); (case ho34 => rfl); (case hp34 => rfl); (case fin34 => with_reducible rfl)
            rotate_left
            · simp only [Act.put, List.setIfInBounds_toArray, List.set_cons_zero, List.set_cons_succ, i64_w, i32_w]; rfl
            refine take_ (i := 24) (N := some 129) (v := ?_) (a' := ?_) (lr_some_lb 28 33554431) rfl rfl (take_ofW HT_.out HW_.out (by kernel_rfl)) (fun _ _ _ h => h) (Or.inl ⟨by rfl, ?_⟩) hHeld ?_ ?_; rotate_left
            · rintro w' ⟨s0, s1, s2, s3⟩; refine Eq.trans (wq_run_load1 (ty := 23) (p := .tmp 128) (g := ug10) (i := 2) (v := ?v35) ?ho35 ?hp35 Try.underlying23 ?hd35 s0 ?hv35) ?fin35; (case hd35 => rfl); (case ho35 => rfl); (case hp35 => rfl); (case hv35 => rewrite [HXuB10.out]; rfl); (case fin35 => with_reducible rfl)
            rotate_left
            · simp only [Act.put, List.setIfInBounds_toArray, List.set_cons_zero, List.set_cons_succ, i64_w, i32_w]; rfl
            refine pure_ (i := 25) (N := some 130) (v := ?_) (a' := ?_) (lr_some_lb 28 67108863) rfl rfl (any_of HT_.out (by kernel_rfl)) (fun _ _ _ h => h) (Or.inl ⟨by rfl, ?_⟩) ?_ ?_; rotate_left
            · intro w'; go_simp; with_reducible rfl
            rotate_left
            · simp only [Act.put, List.setIfInBounds_toArray, List.set_cons_zero, List.set_cons_succ, i64_w, i32_w]; rfl
            refine pure_ (i := 26) (N := some 131) (v := ?_) (a' := ?_) (lr_some_lb 28 134217727) rfl rfl (any_of HT_.out (by kernel_rfl)) (fun _ _ _ h => h) (Or.inl ⟨by rfl, ?_⟩) ?_ ?_; rotate_left
            · intro w'; go_simp; with_reducible rfl
            rotate_left
            · simp only [Act.put, List.setIfInBounds_toArray, List.set_cons_zero, List.set_cons_succ, i64_w, i32_w]; rfl
            refine pure_ (i := 27) (N := some 132) (v := ?_) (a' := ?_) (lr_some_lb 28 268435455) rfl rfl (any_of HT_.out (by kernel_rfl)) (fun _ _ _ h => h) (Or.inl ⟨by rfl, ?_⟩) ?_ ?_; rotate_left
            · intro w'; go_simp; with_reducible rfl
            rotate_left
            · simp only [Act.put, List.setIfInBounds_toArray, List.set_cons_zero, List.set_cons_succ, i64_w, i32_w]; rfl
            refine done_ (done_of HT_.out (by kernel_rfl)) ?_
            have hX := HXuB10.out
            subst hX
            clear HXuB10
            go_wp2
            go_roundg (t.length - (i + 1))
            case measure => have := HIL.out; have := HK.out; omega
            case rel =>
              have hil := HIL.out
              have hh := HH.out
              have htl := HTL.out
              exact ⟨i + 1, apL l f.f5.f0 f.f5.f1 f.f5.f2, A9, c9, seen.set n true, by first | rfl | (rw [show wrap64 ((i : Int) + 1) = ((i + 1 : Nat) : Int) from by unfold wrap64; omega]), rfl, ⟨hil⟩, ⟨by omega⟩, ⟨by rw [List.length_set]; exact HSL.out⟩, HLG2, ⟨rising_apL _ _ _ HRS.out⟩, ⟨⟨by have := apL_len l f.f5.f0 f.f5.f1 f.f5.f2; have := HLL.out; omega, HL9.out⟩⟩, ⟨Kd.C_below HK9.out HB9.out⟩, BI, HB4, HB⟩
    · have hnlt : ¬ ((i : Int) < (t.length : Int)) := by omega
      have hwh : wholeP h seen = true := by have h0 := HLG.out; rw [List.drop_of_length_le (by omega)] at h0; exact h0
      have HWH := Aside0.mk hwh
      clear hwh hil HKL HLG HLG0
      go_wp2
      go_loopg [13] h.length (fun kq v13 wr => ∃ (k : Nat), v13 = .int .i64 k ∧ Aside0 (k ≤ h.length) ∧ Aside0 (h.length - k ≤ kq) ∧ Aside0 (wr.heap[gi]? = some (.cells ((seen).map Value.bool).toArray 4 (0, 0))) ∧ Aside0 (Below w4.heap.size w4 wr) ∧ Aside0 (Below W.heap.size W wr))
      case atStart => exact ⟨0, rfl, ⟨Nat.zero_le _⟩, ⟨by omega⟩, BI, HB4, HB⟩
      case round =>
        clear HB HB4 BI
        obtain ⟨k, rfl, HJ2, HK2, BI, HB4, HB⟩ := hrel
        by_cases hkl : k < h.length
        · have hlt2 : (k : Int) < (h.length : Int) := by omega
          have hk0 : (0 : Int) ≤ (k : Int) := by omega
          have hkb : (k : Int) ≤ 7 := by omega
          have HKL2 := Aside0.mk hkl
          obtain ⟨ad, A12, c12, eA, hE, hlc, hrc⟩ := ev_at HR.out k hkl
          subst eA
          have hsub := ev_sub hE hlc hrc
          have hru : (decide (0 ≤ (rd_T44 h (k : Int)).f3) && !(inA seen k) && isPt (rd_T44 h (k : Int))) = false := whole_un HWH.out hkl
          have hi := in_cell seen k (by have := HSL.out; omega)
          have hckn : (c = k) = False := eq_false (by have := HCC.out; omega)
          have hk1 : (k : Int) + 1 ≤ (h.length : Int) := by omega
          have hkc : (k : Int) + 1 ≤ (c : Int) := by have := HCC.out; omega
          have htn : ((k : Int) + 1).toNat = k + 1 := by omega
          generalize rd_T44 h (k : Int) = e at hE hlc hrc hsub hru
          have HE := Aside0.mk hE
          have HSUB := Aside0.mk hsub
          clear hE hlc hrc hsub hkl
          by_cases hneg : 0 ≤ e.f3
          · have b9 : decide (0 ≤ e.f3) = true := decide_eq_true hneg
            rw [b9, Bool.true_and] at hru
            cases hin : inA seen k
            · rw [hin] at hi hru
              rw [Bool.not_false, Bool.true_and] at hru
              have HI := Aside0.mk hi
              have HPT := Aside0.mk hru
              clear hi hru hin
              go_wp2_with (first | ((with_reducible refine gate_dst (N := 143) rfl ?_); refine wq_loadC (ty := 3) (p := .tmp 142) (ad := ⟨(ad.add (k * 13)).block, (ad.add (k * 13)).off + 3, none⟩) ?hgd36 ?ho36 ?hp36 Try.underlying3 ?hd36 (pw_cell_below HB.out (ev_cell HE.out 3 _ (by decide) rfl)) ?_; (case hd36 => rfl); (case hgd36 => rfl); (case ho36 => rfl); (case hp36 => rfl)) | ((with_reducible refine gate_dst (N := 149) rfl ?_); refine wq_load1w (ty := 4) (p := .tmp 148) (g := gi) (i := k) (v := .bool false) ?hgd37 ?ho37 ?hp37 Try.underlying4 ?hd37 BI.out ?hv37 ?_; (case hd37 => rfl); (case hgd37 => rfl); (case ho37 => rfl); (case hp37 => rfl); (case hv37 => exact HI.out)) | (go_at_call 16; (with_reducible refine (li_rPts0 HPT.out (ad.add (k * 13)) _ _ (Kd.C_below HSUB.out HB.out)).mono ?_); rintro e wu1_ ⟨A1, c1, rfl, hbk⟩; have n_HB := Aside0.mk (below_step HB.out hbk); have n_HB4 := Aside0.mk (below_step HB4.out hbk); have n_BI := Aside0.mk (blk_below BI.out hbk); clear HB HB4 BI; have HB := n_HB; have HB4 := n_HB4; have BI := n_BI; clear n_HB n_HB4 n_BI; clear hbk))
              go_roundg (h.length - (k + 1))
              case measure => have := HKL2.out; have := HK2.out; omega
              case rel =>
                have hkl := HKL2.out
                have hh := HH.out
                exact ⟨k + 1, by first | rfl | (rw [show wrap64 ((k : Int) + 1) = ((k + 1 : Nat) : Int) from by unfold wrap64; omega]), ⟨hkl⟩, ⟨by omega⟩, BI, HB4, HB⟩
            · rw [hin] at hi
              have HI := Aside0.mk hi
              have HPT := Aside0.mk trivial
              clear hi hru hin
              go_wp2_with (first | ((with_reducible refine gate_dst (N := 143) rfl ?_); refine wq_loadC (ty := 3) (p := .tmp 142) (ad := ⟨(ad.add (k * 13)).block, (ad.add (k * 13)).off + 3, none⟩) ?hgd39 ?ho39 ?hp39 Try.underlying3 ?hd39 (pw_cell_below HB.out (ev_cell HE.out 3 _ (by decide) rfl)) ?_; (case hd39 => rfl); (case hgd39 => rfl); (case ho39 => rfl); (case hp39 => rfl)) | ((with_reducible refine gate_dst (N := 149) rfl ?_); refine wq_load1w (ty := 4) (p := .tmp 148) (g := gi) (i := k) (v := .bool true) ?hgd40 ?ho40 ?hp40 Try.underlying4 ?hd40 BI.out ?hv40 ?_; (case hd40 => rfl); (case hgd40 => rfl); (case ho40 => rfl); (case hp40 => rfl); (case hv40 => exact HI.out)) | (go_at_call 16; (with_reducible refine (li_rPts0 HPT.out (ad.add (k * 13)) _ _ (Kd.C_below HSUB.out HB.out)).mono ?_); rintro e xu1_ ⟨A1, c1, rfl, hbk⟩; have n_HB := Aside0.mk (below_step HB.out hbk); have n_HB4 := Aside0.mk (below_step HB4.out hbk); have n_BI := Aside0.mk (blk_below BI.out hbk); clear HB HB4 BI; have HB := n_HB; have HB4 := n_HB4; have BI := n_BI; clear n_HB n_HB4 n_BI; clear hbk))
              go_roundg (h.length - (k + 1))
              case measure => have := HKL2.out; have := HK2.out; omega
              case rel =>
                have hkl := HKL2.out
                have hh := HH.out
                exact ⟨k + 1, by first | rfl | (rw [show wrap64 ((k : Int) + 1) = ((k + 1 : Nat) : Int) from by unfold wrap64; omega]), ⟨hkl⟩, ⟨by omega⟩, BI, HB4, HB⟩
          · have b9 : decide (0 ≤ e.f3) = false := decide_eq_false hneg
            have HPT := Aside0.mk trivial
            clear hi hru
            go_wp2_with (first | ((with_reducible refine gate_dst (N := 143) rfl ?_); refine wq_loadC (ty := 3) (p := .tmp 142) (ad := ⟨(ad.add (k * 13)).block, (ad.add (k * 13)).off + 3, none⟩) ?hgd42 ?ho42 ?hp42 Try.underlying3 ?hd42 (pw_cell_below HB.out (ev_cell HE.out 3 _ (by decide) rfl)) ?_; (case hd42 => rfl); (case hgd42 => rfl); (case ho42 => rfl); (case hp42 => rfl)) | (go_at_call 16; (with_reducible refine (li_rPts0 HPT.out (ad.add (k * 13)) _ _ (Kd.C_below HSUB.out HB.out)).mono ?_); rintro e yu1_ ⟨A1, c1, rfl, hbk⟩; have n_HB := Aside0.mk (below_step HB.out hbk); have n_HB4 := Aside0.mk (below_step HB4.out hbk); have n_BI := Aside0.mk (blk_below BI.out hbk); clear HB HB4 BI; have HB := n_HB; have HB4 := n_HB4; have BI := n_BI; clear n_HB n_HB4 n_BI; clear hbk))
            go_roundg (h.length - (k + 1))
            case measure => have := HKL2.out; have := HK2.out; omega
            case rel =>
              have hkl := HKL2.out
              have hh := HH.out
              exact ⟨k + 1, by first | rfl | (rw [show wrap64 ((k : Int) + 1) = ((k + 1 : Nat) : Int) from by unfold wrap64; omega]), ⟨hkl⟩, ⟨by omega⟩, BI, HB4, HB⟩
        · have hnlt2 : ¬ ((k : Int) < (h.length : Int)) := by omega
          clear hkl
          go_wp2
          go_ret
          exact ⟨rfl, HB.out⟩
theorem li_LinRight (A : Option Addr) (c : Nat) (h : List S44) (W : World) (hr : Kd.C k44 W A h.length h) (hc : h.length ≤ c) : Calls Try.prog 4 #[.slice A h.length c] W fun e w' => e = .returned (.bool true) ∧ Below W.heap.size W w' := by
  obtain ⟨z, hz, hF⟩ := li_Few A c h 7 (by decide) hc W hr
  cases z with
  | false => exact lr_few A c h W hr hF
  | true =>
    cases ho : orderP h with
    | none => exact lr_none A c h W hr hF (hz rfl) ho
    | some t => exact lr_some A c h W hr hF (hz rfl) hc t ho

def corrielaw21_LinRight.f (l0 : List S44) : Option Bool := some true
theorem corrielaw21_LinRight.calls (A0 : Option Addr) (c0 : Nat) (l0 : List S44) (r : Bool) (w : World) (hr0 : Kd.C k44 w A0 l0.length l0) (hc0 : l0.length ≤ c0) (h : corrielaw21_LinRight.f l0 = some r) :
    Calls Try.prog 4 #[.slice A0 l0.length c0] w fun e w' => e = .returned (.bool r) ∧ Below w.heap.size w w' := by
  cases h
  exact li_LinRight A0 c0 l0 w hr0 hc0


end Go.Proofs.Ytcleoahoppggmaa.PLinRight
