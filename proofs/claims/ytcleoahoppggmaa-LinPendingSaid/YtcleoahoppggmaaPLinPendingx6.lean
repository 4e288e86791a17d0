-- Written by a program of this session: a variant of the print that takes proofs by hand (wip/tools/mkprint.py)
import Derived.Test.YtcleoahoppggmaaPLinPendingx0
import Derived.Test.YtcleoahoppggmaaPLinPendingx2
import Derived.Test.YtcleoahoppggmaaPLinPendingx3
import Derived.Test.YtcleoahoppggmaaPLinPendingx4
import Derived.Test.YtcleoahoppggmaaPLinPendingx5
namespace Go.Proofs.Ytcleoahoppggmaa.PLinPending
open Go.RowKit Go.Proofs.YtcleoahoppggmaaW.PrintWords Go.Proofs.YtcleoahoppggmaaW.PrintLast Go.Proofs.YtcleoahoppggmaaW.PrintMore
attribute [local go_sem] max2_int min2_int max_two min_two max_three min_three max_four min_four   -- for this text's walks alone
set_option linter.unusedVariables false
set_option linter.unusedSimpArgs false

/-! ### corrielaw21_LinPending: function 6 (by hand) -/
def LG (h : List S44) : List Bool → List S53 → List Nat → Prop
  | inb, _, [] => wholeP h inb = true
  | inb, l, n :: s => n < h.length ∧ readyP h inb n = true ∧ tellsP (rd_T44 h (n : Int)) (apD l (rd_T44 h (n : Int)).f5.f0 (rd_T44 h (n : Int)).f5.f1) (apV l (rd_T44 h (n : Int)).f5.f0 (rd_T44 h (n : Int)).f5.f1) = true ∧ LG h (inb.set n true) (apL l (rd_T44 h (n : Int)).f5.f0 (rd_T44 h (n : Int)).f5.f1 (rd_T44 h (n : Int)).f5.f2) s
theorem srch_LG (h : List S44) : ∀ (f : Nat) (turn : List Nat) (inb : List Bool) (l : List S53) (t : List Nat), srch h f turn inb l = some t → ∃ s, t = turn ++ s ∧ LG h inb l s
  | 0, turn, inb, l, t, hs => by rw [srch] at hs; cases hs
  | f + 1, turn, inb, l, t, hs => by
    cases hw : wholeP h inb with
    | true =>
      rw [srch_whole hw] at hs
      cases hs
      exact ⟨[], (List.append_nil _).symm, hw⟩
    | false =>
      rw [srch_try hw] at hs
      obtain ⟨n, hn, hg⟩ := List.exists_of_findSome?_eq_some hs
      rw [List.mem_range] at hn
      unfold try1 at hg
      simp only at hg
      split at hg
      · rename_i hrd
        split at hg
        · rename_i htl
          obtain ⟨s, e, hl⟩ := srch_LG h f _ _ _ t hg
          exact ⟨n :: s, by rw [e, List.append_assoc]; rfl, hn, hrd, htl, hl⟩
        · cases hg
      · cases hg
theorem LG_srch (h : List S44) : ∀ (f : Nat) (turn : List Nat) (inb : List Bool) (l : List S53) (s : List Nat), inb.length = h.length → inb.count false < f → LG h inb l s → ∃ t, srch h f turn inb l = some t
  | 0, turn, inb, l, s, _, hf, _ => absurd hf (Nat.not_lt_zero _)
  | f + 1, turn, inb, l, s, hin, hf, hl => by
    cases hw : wholeP h inb with
    | true => exact ⟨turn, srch_whole hw⟩
    | false =>
      cases s with
      | nil =>
        have h2 : wholeP h inb = true := hl
        rw [hw] at h2
        cases h2
      | cons n s =>
        obtain ⟨h1, h2, h3, h4⟩ := hl
        have hc := count_set (inb := inb) (by omega) (ready_in h2).1
        obtain ⟨t, ht⟩ := LG_srch h f (turn ++ [n]) _ _ s (by rw [List.length_set]; exact hin) (by omega) h4
        have hg : try1 h f turn inb l n = some t := (try_on rfl h2 h3).trans ht
        rw [srch_try hw]
        cases hs : (List.range h.length).findSome? (try1 h f turn inb l) with
        | some t2 => exact ⟨t2, rfl⟩
        | none =>
          rw [List.findSome?_eq_none_iff] at hs
          have := hs n (List.mem_range.mpr h1)
          rw [hg] at this
          cases this
def none0 (h : List S44) : List Bool := List.replicate h.length false
theorem order_LG {h : List S44} {t : List Nat} (hs : orderP h = some t) : LG h (none0 h) [] t := by
  obtain ⟨s, e, hl⟩ := srch_LG h _ _ _ _ t hs
  rw [e, List.nil_append]
  exact hl
theorem LG_order {h : List S44} {s : List Nat} (hl : LG h (none0 h) [] s) : (orderP h).isSome = true := by
  obtain ⟨t, ht⟩ := LG_srch h (h.length + 1) [] (none0 h) [] s (by simp [none0]) (by simp [none0]) hl
  unfold orderP
  unfold none0 at ht
  rw [ht]
  rfl
theorem ready_un {h : List S44} {inb : List Bool} {n i : Nat} (h1 : readyP h inb n = true) (hi : i < h.length) : readyB h inb n i = false := by
  unfold readyP at h1
  rw [Bool.and_eq_true, List.all_eq_true] at h1
  have := h1.2 i (List.mem_range.mpr hi)
  simpa using this
theorem whole_un {h : List S44} {inb : List Bool} {i : Nat} (h1 : wholeP h inb = true) (hi : i < h.length) : wholeB h inb i = false := by
  unfold wholeP at h1
  rw [List.all_eq_true] at h1
  have := h1 i (List.mem_range.mpr hi)
  simpa using this
theorem inA_set {inb : List Bool} {n i : Nat} {b : Bool} (hn : n < inb.length) : inA (inb.set n b) i = if i = n then b else inA inb i := by
  unfold inA
  rw [List.getD_eq_getElem?_getD, List.getElem?_set]
  by_cases c : n = i
  · subst c
    rw [if_pos rfl, if_pos hn, if_pos rfl]
    rfl
  · rw [if_neg c, if_neg (Ne.symm c), List.getD_eq_getElem?_getD]

theorem few_eq (m : Nat) (l : List S44) : ∀ (d i k : Nat), m + 1 - i = d → i ≤ m + 1 → 2 * d + 2 < k → m ≤ 100 → ∃ z, corrieref19_Few.l0 k l (m : Int) (i : Int) = some z ∧ (z = true → l.length ≤ m) := by
  intro d
  induction d with
  | zero =>
    intro i k hd hi hk hm
    obtain ⟨k, rfl⟩ : ∃ q, k = q + 2 := ⟨k - 2, by omega⟩
    simp only [corrieref19_Few.l0, corrieref19_Few.j1]
    have e : decide ((i : Int) ≤ (m : Int)) = false := decide_eq_false (by omega)
    rw [e]
    by_cases c : (i : Int) < (l.length : Int)
    · rw [if_pos c, if_neg (by decide)]
      exact ⟨_, rfl, fun h => by have := of_decide_eq_true h; omega⟩
    · rw [if_neg c, if_neg (by decide)]
      exact ⟨_, rfl, fun h => by have := of_decide_eq_true h; omega⟩
  | succ d ih =>
    intro i k hd hi hk hm
    obtain ⟨k, rfl⟩ : ∃ q, k = q + 2 := ⟨k - 2, by omega⟩
    have w2 : wrap64 ((i : Int) + 1) = ((i + 1 : Nat) : Int) := by unfold wrap64; omega
    simp only [corrieref19_Few.l0, corrieref19_Few.j1]
    have e : decide ((i : Int) ≤ (m : Int)) = true := decide_eq_true (by omega)
    rw [e]
    by_cases c : (i : Int) < (l.length : Int)
    · rw [if_pos c, if_pos rfl, if_pos (by omega), if_pos c]
      by_cases c2 : ((rd_T44 l (i : Int)).f6.f3.length : Int) > 20
      · rw [if_pos c2]
        exact ⟨false, rfl, fun h => by cases h⟩
      · rw [if_neg c2, w2]
        exact ih (i + 1) k (by omega) (by omega) (by omega) hm
    · rw [if_neg c, if_neg (by decide)]
      exact ⟨_, rfl, fun h => by have := of_decide_eq_true h; omega⟩
theorem li_Few (A : Option Addr) (c : Nat) (l : List S44) (m : Nat) (hm : m ≤ 100) (hc : l.length ≤ c) (W : World) (hr : Kd.C k44 W A l.length l) : ∃ z : Bool, (z = true → l.length ≤ m) ∧ ∀ W2 : World, Kd.C k44 W2 A l.length l → Calls Try.prog 13 #[.slice A l.length c, .int .i64 m] W2 fun e w' => e = .returned (.bool z) ∧ Below W2.heap.size W2 w' := by
  obtain ⟨z, hz, h1⟩ := few_eq m l (m + 1) 0 (2 * m + 5) (by omega) (by omega) (by omega) hm
  refine ⟨z, h1, fun W2 hr2 => ?_⟩
  refine (corrieref19_Few.calls (2 * m + 5) A c l (m : Int) z W2 hr2 hc hz).mono ?_
  rintro e w' ⟨rfl, hq⟩
  exact ⟨rfl, by first | exact hq | exact hq.below⟩

def OE (W0 w : World) (N : Nat) (v : Value) (l : List S44) : Prop := ∃ inner, w.ownsRow N 44 13 v l.length inner ∧ Reps (k44.K W0) 13 l inner
theorem OE.nil (W0 w : World) (N : Nat) : OE W0 w N (.slice none 0 0) [] := ⟨[], ⟨rfl, .inl ⟨rfl, rfl⟩⟩, Reps.none _ _⟩
theorem OE.C {W0 w : World} {N : Nat} {v : Value} {l : List S44} (h : OE W0 w N v l) (hb : Below W0.heap.size W0 w) : ∃ A c, v = .slice A l.length c ∧ l.length ≤ c ∧ Kd.C k44 w A l.length l := by
  obtain ⟨inner, hown, hrep⟩ := h
  obtain ⟨A, c, e, hr⟩ := own_reads_row hown (hrep.imp_ (R' := k44.K w) (fun _ _ hp => k44.K_below hb hp)) rfl
  refine ⟨A, c, e, ?_, hr⟩
  rcases hown.2 with ⟨h1, h2⟩ | ⟨g, cap, cur, h1, _, _, h2, _⟩
  · omega
  · rw [h1] at e
    injection e with _ _ e3
    omega
theorem ownsRow_below {w w' : World} {N : Nat} {e : TypeId} {sz n : Nat} {v : Value} {xs : List Value} (h : w.ownsRow N e sz v n xs) (hb : Below w.heap.size w w') : w'.ownsRow N e sz v n xs := by
  refine ⟨h.1, ?_⟩
  rcases h.2 with h1 | ⟨g, cap, cur, h1, h2, h3, h4⟩
  · exact .inl h1
  · exact .inr ⟨g, cap, cur, h1, h2, blk_below h3 hb, h4⟩
theorem OE.below {W0 w w' : World} {N : Nat} {v : Value} {l : List S44} (h : OE W0 w N v l) (hb : Below w.heap.size w w') : OE W0 w' N v l := by
  obtain ⟨inner, hown, hrep⟩ := h
  exact ⟨inner, ownsRow_below hown hb, hrep⟩
theorem OE.grown_ne {W0 w w1 : World} {N g : Nat} {v : Value} {l : List S44} (h : OE W0 w N v l) (hg : w.grownBy w1 (some g)) (hne : ∀ k, v.ownBlock = some k → k ≠ g) : OE W0 w1 N v l := by
  obtain ⟨inner, hown, hrep⟩ := h
  refine ⟨inner, ⟨hown.1, ?_⟩, hrep⟩
  rcases hown.2 with h1 | ⟨g', cap, cur, h1, h2, h3, h4⟩
  · exact .inl h1
  · exact .inr ⟨g', cap, cur, h1, h2, wq_blk h3 hg (hne g' (by rw [h1]; rfl)), h4⟩
/-- the cells of a row of events that came in -/
theorem evs_cells {W : World} {ad : Addr} {l : List S44} (h : Kd.C k44 W (some ad) l.length l) : ∃ inner, Reps (k44.K W) 13 l inner ∧ ∀ j u, inner[j]? = some u → W.cell? (ad.add j) = some u := by
  obtain ⟨inner, hrep, hcell⟩ := ReadsRow.inner_ (show ReadsRow (k44.K W) 13 W (some ad) l.length l from h)
  exact ⟨inner, hrep, hcell⟩
theorem reps_app {α : Type} {R : α → List Value → Prop} {size : Nat} {xs ys : List α} {cs ds : List Value} (h : Reps R size xs cs) (k : Reps R size ys ds) : Reps R size (xs ++ ys) (cs ++ ds) := by
  refine ⟨by rw [List.length_append, List.length_append, h.1, k.1, Nat.add_mul], fun j p hj => ?_⟩
  rcases Nat.lt_or_ge j xs.length with hl | hl
  · rw [List.getElem?_append_left hl] at hj
    have hle : j * size + size ≤ cs.length := by rw [h.1, ← Nat.succ_mul]; exact Nat.mul_le_mul_right _ hl
    rw [List.drop_append_of_le_length (by omega), List.take_append_of_le_length (by rw [List.length_drop]; omega)]
    exact h.2 j p hj
  · rw [List.getElem?_append_right hl] at hj
    have := k.2 (j - xs.length) p hj
    rw [List.drop_append, List.drop_of_length_le (by rw [h.1]; exact Nat.mul_le_mul_right _ hl), List.nil_append, h.1, ← Nat.sub_mul]
    exact this
theorem ev_runapp {w : World} {o : Oper} {a : Act} (s x : Operand) (ho : o.op = .call { callee := .builtin .append, args := #[s, x], argTypes := #[36, 36] }) {W0 : World} {N : Nat} {v : Value} {xs ys : List S44} {ad : Addr} {m c : Nat} {inner : List Value} {K : Act → World → Prop} {Q : Exit → Act → World → Prop}
    (hs : a.eval s = v) (hx : a.eval x = .slice (some ad) m c) (hown : OE W0 w N v xs) (hN : N ≤ w.heap.size) (hm : ys.length = m) (hrep : Reps (k44.K W0) 13 ys inner) (hcell : ∀ j u, inner[j]? = some u → w.cell? (ad.add j) = some u) (hl1 : xs.length ≤ 10000) (hl2 : ys.length ≤ 10000)
    (h : ∀ v' w', OE W0 w' N v' (xs ++ ys) → Below N w w' → w.grownBy w' v.ownBlock → K (a.put o.dst v') w') : o.wp Try.prog a w K Q := by
  obtain ⟨i0, hi, hz⟩ := Option.map_eq_some_iff.1 hpt_info
  simp only [Prod.mk.injEq] at hz
  obtain ⟨hz0, hz1, hz2⟩ := hz
  obtain ⟨inn, hown1, hrep1⟩ := hown
  subst hm
  refine wp_append_own w s x 36 ho N 44 i0 _ 13 120 Try.underlying36 hi hz0 hz1 hz2 rfl (by decide) v xs.length inn hs hown1 ad ys.length c inner hx hrep.1 hcell (fun u hu => ?_) (by unfold maxLen; omega) (by omega) hN ?_
  · obtain ⟨j, hj⟩ := List.getElem?_of_mem hu
    exact evOne hrep j u hj
  · intro v' w' h1 h2 _
    refine h v' w' ⟨inn ++ inner, by rw [List.length_append]; exact h1, reps_app hrep1 hrep⟩ ((Below.refl N w).grown h2 hN (fun k hk => (World.ownsRow.lt hown1 k hk).1)) h2
section
variable {ops : Array Oper} {rest : List Oper} {o : Oper} {a : Act} {Q : Exit → Act → World → Prop}
theorem ev_app (hgd : o.guard = none) (s x : Operand) (ho : o.op = .call { callee := .builtin .append, args := #[s, x], argTypes := #[36, 36] }) {W0 w : World} {N : Nat} {v : Value} {xs ys : List S44} {ad : Addr} {m c : Nat} {inner : List Value}
    (hs : a.eval s = v) (hx : a.eval x = .slice (some ad) m c) (hown : OE W0 w N v xs) (hN : N ≤ w.heap.size) (hm : ys.length = m) (hrep : Reps (k44.K W0) 13 ys inner) (hcell : ∀ j u, inner[j]? = some u → w.cell? (ad.add j) = some u) (hl1 : xs.length ≤ 10000) (hl2 : ys.length ≤ 10000)
    (h : ∀ v' w', OE W0 w' N v' (xs ++ ys) → Below N w w' → wpList Try.prog ops Q rest (a.put o.dst v') w') : wpList Try.prog ops Q (o :: rest) a w :=
  wpList_plain hgd fun K hK => ev_runapp s x ho hs hx hown hN hm hrep hcell hl1 hl2 (fun v' w' h1 h2 _ => hK _ _ (h v' w' h1 h2))
/-- a row that came in, behind a new empty one -/
theorem ev_app0 (hgd : o.guard = none) (s x : Operand) (ho : o.op = .call { callee := .builtin .append, args := #[s, x], argTypes := #[36, 36] }) {W0 w : World} {A : Option Addr} {c : Nat} {l : List S44} (hr : Kd.C k44 W0 A l.length l) (hb : Below W0.heap.size W0 w)
    (hs : a.eval s = .slice (some ⟨w.heap.size, 0, none⟩) 0 0) (hx : a.eval x = .slice A l.length c) (hl2 : l.length ≤ 10000)
    (h : ∀ v' w', OE W0 w' w.heap.size v' l → Below w.heap.size w w' → wpList Try.prog ops Q rest (a.put o.dst v') w') : wpList Try.prog ops Q (o :: rest) a (w.alloc (.cells #[] 44)) := by
  have hb0 : Below w.heap.size w (w.alloc (.cells #[] 44)) := below_alloc (Below.refl _ _) _
  have ho0 : OE W0 (w.alloc (.cells #[] 44)) w.heap.size (.slice (some ⟨w.heap.size, 0, none⟩) 0 0) [] := ⟨[], World.ownsRow_made w #[] 0 (Nat.le_refl _) (Nat.zero_le _) rfl, Reps.none _ _⟩
  cases A with
  | some ad =>
    obtain ⟨inner, hrep, hcell⟩ := evs_cells hr
    refine ev_app hgd s x ho hs hx ho0 hb0.size rfl hrep (fun j u hj => ?_) (by simp) hl2 (fun v' w' h1 h2 => h v' w' h1 (hb0.trans h2))
    have hx := hcell j u hj
    exact ((below_step hb hb0).cell (World.block_lt_of_cell? W0 _ hx)).trans hx
  | none =>
    have hnil : l = [] := by
      cases l with
      | nil => rfl
      | cons p r =>
        obtain ⟨ad, e, _⟩ := hr.2.2 (by simp)
        cases e
    subst hnil
    obtain ⟨i0, hi, hz⟩ := Option.map_eq_some_iff.1 hpt_info
    refine wpList_plain hgd fun K hK => ?_
    unfold Oper.wp
    have hr2 : (execOp a.eval o).run Try.prog (w.alloc (.cells #[] 44)) = .ok (.value (.slice (some ⟨w.heap.size, 0, none⟩) 0 0)) (w.alloc (.cells #[] 44)) := by
      have hap : ∀ ty, (Builtin.append_ #[36, 36] ty #[.slice (some ⟨w.heap.size, 0, none⟩) 0 0, .slice none 0 c]).run Try.prog (w.alloc (.cells #[] 44)) = .ok (.slice (some ⟨w.heap.size, 0, none⟩) 0 0) (w.alloc (.cells #[] 44)) := by
        intro ty
        simp [Builtin.append_, Sem.run_bind, run_underlying Try.underlying36, sizeOf, typeInfo, hi, Builtin.lenOf, Builtin.firstCells, storeCells]
      unfold execOp
      simp [ho, hs, hx, Sem.run_bind, resolve, invoke, builtin, hap]
    rw [hr2]
    exact hK _ _ (h _ _ ho0 hb0)
end
/-- the row of one event that the call has just laid -/
theorem ev_new {W0 w : World} (p : S44) (hp : p.f6.f3 = []) : ∃ inner, inner = ([.int .i64 p.f0, .int .i64 p.f1, .int .i64 p.f2, .int .i64 p.f3, .int .i64 p.f4, .int .i64 p.f5.f0, .int .u64 p.f5.f1, .int .u64 p.f5.f2, .int .i64 p.f5.f3, .int .i64 p.f6.f0, .bool p.f6.f1, .int .u64 p.f6.f2, .slice none 0 0] : List Value) ∧ Reps (k44.K W0) 13 [p] inner ∧ ∀ g, w.heap[g]? = some (.cells inner.toArray 44 (0, 0)) → ∀ j u, inner[j]? = some u → w.cell? ((⟨g, 0, none⟩ : Addr).add j) = some u := by
  refine ⟨_, rfl, Reps.front ?_ rfl (Reps.none _ _) (List.append_nil _), fun g hg j u hj => ?_⟩
  · have h0 := k44_mk W0 p (A12 := none) (c12 := 0) (by rw [hp]; exact Nat.le_refl _) (by rw [hp]; exact Kd.C_nil _ _)
    rw [hp] at h0
    exact h0
  · rw [wq_add, blk_cell hg]
    simpa using hj
theorem OE.mono {W0 w : World} {N M : Nat} {v : Value} {l : List S44} (h : OE W0 w N v l) (hM : M ≤ N) : OE W0 w M v l := by
  obtain ⟨inner, hown, hrep⟩ := h
  refine ⟨inner, ⟨hown.1, ?_⟩, hrep⟩
  rcases hown.2 with h1 | ⟨g', cap, cur, h1, h2, h3, h4⟩
  · exact .inl h1
  · exact .inr ⟨g', cap, cur, h1, Nat.le_trans hM h2, h3, h4⟩
theorem oe_blk {W0 w : World} {N : Nat} {v : Value} {l : List S44} (h : OE W0 w N v l) : ∀ k, v.ownBlock = some k → N ≤ k ∧ k < w.heap.size := by
  obtain ⟨inner, hown, _⟩ := h
  exact World.ownsRow.lt hown
theorem oe_lt {W0 w : World} {N g n c : Nat} {l : List S44} (h : OE W0 w N (.slice (some ⟨g, 0, none⟩) n c) l) : g < w.heap.size := (oe_blk h g rfl).2
theorem OE.form {W0 w : World} {N : Nat} {v : Value} {l : List S44} (h : OE W0 w N v l) (hl : 0 < l.length) : ∃ g cap, v = .slice (some ⟨g, 0, none⟩) l.length cap ∧ N ≤ g ∧ g < w.heap.size := by
  obtain ⟨inner, hown, hrep⟩ := h
  rcases hown.2 with ⟨h1, h2⟩ | ⟨g', cap, cur, h1, h2, h3, h4⟩
  · omega
  · exact ⟨g', cap, h1, h2, (Array.getElem?_eq_some_iff.mp h3).1⟩
section
variable {ops : Array Oper} {oi : Oper} {a : Act} {w : World} {K : Act → World → Prop} {Q : Exit → Act → World → Prop}
/-- append of a row that came in, as one step of a region that draws -/
theorem ev_stepapp {N' : Option Tmp} (s x : Operand) (hw : Region.wanted oi (yielded ops a.tmps) = true) (hN' : oi.dst = N') (ho : oi.op = .call { callee := .builtin .append, args := #[s, x], argTypes := #[36, 36] }) {W0 : World} {N : Nat} {A : Option Addr} {c : Nat} {l : List S44} {g : Nat}
    (hs : a.eval s = .slice (some ⟨g, 0, none⟩) 0 0) (hx : a.eval x = .slice A l.length c) (hr : Kd.C k44 W0 A l.length l) (hb : Below W0.heap.size W0 w) (hown : OE W0 w N (.slice (some ⟨g, 0, none⟩) 0 0) []) (hN : N ≤ w.heap.size) (hl : l.length ≤ 10000)
    (h : ∀ v' w', OE W0 w' N v' l → Below N w w' → w.grownBy w' (some g) → K (a.put N' v') w') : if Region.wanted oi (yielded ops a.tmps) = true then Oper.wp Try.prog oi a w K Q else K (a.put N' undef) w := by
  rw [if_pos hw]
  subst hN'
  cases A with
  | some ad =>
    obtain ⟨inner, hrep, hcell⟩ := evs_cells hr
    exact ev_runapp s x ho hs hx hown hN rfl hrep (fun j u hj => (hb.cell (World.block_lt_of_cell? W0 _ (hcell j u hj))).trans (hcell j u hj)) (by simp) hl (fun v' w' h1 h2 h3 => h v' w' h1 h2 h3)
  | none =>
    have hnil : l = [] := by
      cases l with
      | nil => rfl
      | cons p r =>
        obtain ⟨ad, e, _⟩ := hr.2.2 (by simp)
        cases e
    subst hnil
    obtain ⟨i0, hi, hz⟩ := Option.map_eq_some_iff.1 hpt_info
    unfold Oper.wp
    have hr2 : (execOp a.eval oi).run Try.prog w = .ok (.value (.slice (some ⟨g, 0, none⟩) 0 0)) w := by
      have hap : ∀ ty, (Builtin.append_ #[36, 36] ty #[.slice (some ⟨g, 0, none⟩) 0 0, .slice none 0 c]).run Try.prog w = .ok (.slice (some ⟨g, 0, none⟩) 0 0) w := by
        intro ty
        simp [Builtin.append_, Sem.run_bind, run_underlying Try.underlying36, sizeOf, typeInfo, hi, Builtin.lenOf, Builtin.firstCells, storeCells]
      unfold execOp
      simp [ho, hs, hx, Sem.run_bind, resolve, invoke, builtin, hap]
    rw [hr2]
    exact h _ _ hown (Below.refl _ _) (wq_grown_self _ _)
theorem ev_stepone {N' : Option Tmp} (s x : Operand) (hw : Region.wanted oi (yielded ops a.tmps) = true) (hN' : oi.dst = N') (ho : oi.op = .call { callee := .builtin .append, args := #[s, x], argTypes := #[36, 36] }) {W0 : World} {N : Nat} {v : Value} {xs ys : List S44} {ad : Addr} {m c : Nat} {inner : List Value}
    (hs : a.eval s = v) (hx : a.eval x = .slice (some ad) m c) (hown : OE W0 w N v xs) (hN : N ≤ w.heap.size) (hm : ys.length = m) (hrep : Reps (k44.K W0) 13 ys inner) (hcell : ∀ j u, inner[j]? = some u → w.cell? (ad.add j) = some u) (hl1 : xs.length ≤ 10000) (hl2 : ys.length ≤ 10000)
    (h : ∀ v' w', OE W0 w' N v' (xs ++ ys) → Below N w w' → K (a.put N' v') w') : if Region.wanted oi (yielded ops a.tmps) = true then Oper.wp Try.prog oi a w K Q else K (a.put N' undef) w := by
  rw [if_pos hw]
  subst hN'
  exact ev_runapp s x ho hs hx hown hN hm hrep hcell hl1 hl2 (fun v' w' h1 h2 _ => h v' w' h1 h2)
theorem ev_stepnil {N' : Option Tmp} {e : TypeId} (hw : Region.wanted oi (yielded ops a.tmps) = true) (hN' : oi.dst = N') {W0 : World} {N : Nat} (hN : N ≤ w.heap.size) (hrun : (execOp a.eval oi).run Try.prog w = .ok (.value (.slice (some ⟨w.heap.size, 0, none⟩) 0 0)) (w.alloc (.cells #[] e))) (he : e = 44)
    (h : ∀ g w', g = w.heap.size → OE W0 w' N (.slice (some ⟨g, 0, none⟩) 0 0) [] → Below w.heap.size w w' → K (a.put N' (.slice (some ⟨g, 0, none⟩) 0 0)) w') : if Region.wanted oi (yielded ops a.tmps) = true then Oper.wp Try.prog oi a w K Q else K (a.put N' undef) w := by
  subst he
  exact value_ hw hN' hrun (h _ _ rfl (OE.mono ⟨[], World.ownsRow_made w #[] 0 (Nat.le_refl _) (Nat.zero_le _) rfl, Reps.none _ _⟩ hN) (below_alloc (Below.refl _ _) _))
theorem ev_steprow {N' : Option Tmp} {cs : Array Value} {t : TypeId} {m : Nat} (hw : Region.wanted oi (yielded ops a.tmps) = true) (hN' : oi.dst = N') (hrun : (execOp a.eval oi).run Try.prog w = .ok (.value (.slice (some ⟨w.heap.size, 0, none⟩) m m)) (w.alloc (.cells cs t)))
    (h : ∀ g w', g = w.heap.size → w'.heap[g]? = some (.cells cs t (0, 0)) → Below w.heap.size w w' → K (a.put N' (.slice (some ⟨g, 0, none⟩) m m)) w') : if Region.wanted oi (yielded ops a.tmps) = true then Oper.wp Try.prog oi a w K Q else K (a.put N' undef) w :=
  value_ hw hN' hrun (h _ _ rfl (blk_new w _) (below_alloc (Below.refl _ _) _))
end

theorem rd_app {h : List S44} (p : S44) {n : Nat} (hn : n < h.length) : rd_T44 (h ++ [p]) (n : Int) = rd_T44 h (n : Int) := by
  unfold rd_T44
  rw [Int.toNat_natCast, List.getD_eq_getElem?_getD, List.getElem?_append_left hn, ← List.getD_eq_getElem?_getD]
theorem rd_last (h : List S44) (p : S44) : rd_T44 (h ++ [p]) (h.length : Int) = p := by
  unfold rd_T44
  rw [Int.toNat_natCast, List.getD_eq_getElem?_getD, List.getElem?_append_right (Nat.le_refl _), Nat.sub_self]
  rfl
theorem inA_app {inb : List Bool} (b : Bool) {n : Nat} (hn : n < inb.length) : inA (inb ++ [b]) n = inA inb n := by
  unfold inA
  rw [List.getD_eq_getElem?_getD, List.getElem?_append_left hn, ← List.getD_eq_getElem?_getD]
theorem whole_more {h : List S44} {inb : List Bool} {p : S44} (hp : p.f3 < 0) (hin : inb.length = h.length) (hw : wholeP h inb = true) : wholeP (h ++ [p]) (inb ++ [false]) = true := by
  refine wholeP_yes fun j hj => ?_
  rw [List.length_append, List.length_cons, List.length_nil] at hj
  unfold wholeB
  rcases Nat.lt_or_ge j h.length with h1 | h1
  · rw [rd_app p h1, inA_app _ (by omega)]
    exact whole_un hw h1
  · have : j = h.length := by omega
    subst this
    rw [rd_last, decide_eq_false (by omega), Bool.false_and, Bool.false_and]
theorem ready_more {h : List S44} {inb : List Bool} {p : S44} {n : Nat} (hp : p.f3 < 0) (hin : inb.length = h.length) (hn : n < h.length) (hr : readyP h inb n = true) : readyP (h ++ [p]) (inb ++ [false]) n = true := by
  have h1 := ready_in hr
  refine readyP_yes (by rw [inA_app _ (by omega)]; exact h1.1) (by rw [rd_app p hn]; exact h1.2) fun j hj => ?_
  rw [List.length_append, List.length_cons, List.length_nil] at hj
  unfold readyB
  rw [rd_app p hn]
  rcases Nat.lt_or_ge j h.length with h2 | h2
  · rw [rd_app p h2, inA_app _ (by omega)]
    exact ready_un hr h2
  · have : j = h.length := by omega
    subst this
    rw [rd_last]
    unfold bef
    rw [decide_eq_false (show ¬ (0 ≤ p.f3) by omega), Bool.false_and, Bool.and_false]
theorem LG_more {h : List S44} {p : S44} (hp : p.f3 < 0) : ∀ (s : List Nat) (inb : List Bool) (l : List S53), inb.length = h.length → LG h inb l s → LG (h ++ [p]) (inb ++ [false]) l s
  | [], inb, l, hin, hl => whole_more hp hin hl
  | n :: s, inb, l, hin, hl => by
    obtain ⟨h1, h2, h3, h4⟩ := hl
    refine ⟨by rw [List.length_append]; omega, ready_more hp hin h1 h2, ?_, ?_⟩
    · rw [rd_app p h1]; exact h3
    · rw [rd_app p h1, List.set_append_left _ _ (by omega)]
      exact LG_more hp s _ _ (by rw [List.length_set]; exact hin) h4
def offE (e : S44) : S44 := { e with f3 := -1 }
def offH (h : List S44) (k : Nat) : List S44 := h.set k (offE (rd_T44 h (k : Int)))
theorem rd_off {h : List S44} {k : Nat} (hk : k < h.length) (n : Nat) : rd_T44 (offH h k) (n : Int) = if n = k then offE (rd_T44 h (k : Int)) else rd_T44 h (n : Int) := by
  unfold offH
  unfold rd_T44
  simp only [Int.toNat_natCast]
  rw [List.getD_eq_getElem?_getD, List.getElem?_set]
  by_cases c : k = n
  · subst c
    rw [if_pos rfl, if_pos hk, if_pos rfl]
    rfl
  · rw [if_neg c, if_neg (Ne.symm c), List.getD_eq_getElem?_getD]
theorem off_pt (e : S44) : isPt (offE e) = isPt e := rfl
theorem whole_off {h : List S44} {inb : List Bool} {k : Nat} (hk : k < h.length) (hw : wholeP h inb = true) : wholeP (offH h k) inb = true := by
  refine wholeP_yes fun j hj => ?_
  rw [offH, List.length_set] at hj
  unfold wholeB
  rw [rd_off hk]
  by_cases c : j = k
  · rw [if_pos c, decide_eq_false (show ¬ (0 : Int) ≤ (offE (rd_T44 h (k : Int))).f3 from by show ¬ (0 : Int) ≤ -1; omega), Bool.false_and, Bool.false_and]
  · rw [if_neg c]
    exact whole_un hw hj
theorem ready_off {h : List S44} {inb : List Bool} {k n : Nat} (hk : k < h.length) (hr : readyP h inb n = true) : readyP (offH h k) inb n = true := by
  have h1 := ready_in hr
  have hpt : isPt (rd_T44 (offH h k) (n : Int)) = true := by
    rw [rd_off hk]
    by_cases c : n = k
    · rw [if_pos c, off_pt, ← c]; exact h1.2
    · rw [if_neg c]; exact h1.2
  refine readyP_yes h1.1 hpt fun j hj => ?_
  rw [offH, List.length_set] at hj
  have h2 := ready_un hr hj
  unfold readyB at h2 ⊢
  have hb2 : ∀ e : S44, bef e (rd_T44 (offH h k) (n : Int)) = bef e (rd_T44 h (n : Int)) := by
    intro e
    rw [rd_off hk]
    by_cases c : n = k
    · rw [if_pos c, c]; rfl
    · rw [if_neg c]
  rw [hb2, rd_off hk]
  by_cases c : j = k
  · rw [if_pos c]
    have : bef (offE (rd_T44 h (k : Int))) (rd_T44 h (n : Int)) = false := by
      unfold bef
      rw [decide_eq_false (show ¬ (0 : Int) ≤ (offE (rd_T44 h (k : Int))).f3 from by show ¬ (0 : Int) ≤ -1; omega), Bool.false_and]
    rw [this, Bool.and_false]
  · rw [if_neg c]
    exact h2
theorem LG_off {h : List S44} {k : Nat} (hk : k < h.length) : ∀ (s : List Nat) (inb : List Bool) (l : List S53), LG h inb l s → LG (offH h k) inb l s
  | [], inb, l, hl => whole_off hk hl
  | n :: s, inb, l, hl => by
    obtain ⟨h1, h2, h3, h4⟩ := hl
    have hc : (rd_T44 (offH h k) (n : Int)).f5 = (rd_T44 h (n : Int)).f5 := by
      rw [rd_off hk]
      by_cases c : n = k
      · rw [if_pos c, c]; rfl
      · rw [if_neg c]
    refine ⟨by rw [offH, List.length_set]; exact h1, ready_off hk h2, ?_, ?_⟩
    · rw [hc, rd_off hk]
      by_cases c : n = k
      · rw [if_pos c]
        unfold tellsP
        exact if_pos (show (-1 : Int) < 0 by omega)
      · rw [if_neg c]
        exact h3
    · rw [hc]
      exact LG_off hk s _ _ h4
theorem legal_more {h : List S44} {p : S44} (hp : p.f3 < 0) (hl : (orderP h).isSome = true) : (orderP (h ++ [p])).isSome = true := by
  obtain ⟨t, ht⟩ := Option.isSome_iff_exists.mp hl
  have h1 := LG_more hp t (none0 h) [] (by simp [none0]) (order_LG ht)
  refine LG_order (s := t) ?_
  have e : none0 (h ++ [p]) = none0 h ++ [false] := by
    unfold none0
    rw [List.length_append, List.replicate_append_replicate.symm]
    rfl
  rw [e]
  exact h1
theorem legal_off {h : List S44} {k : Nat} (hk : k < h.length) (hl : (orderP h).isSome = true) : (orderP (offH h k)).isSome = true := by
  obtain ⟨t, ht⟩ := Option.isSome_iff_exists.mp hl
  refine LG_order (s := t) ?_
  have e : none0 (offH h k) = none0 h := by
    unfold none0 offH
    rw [List.length_set]
  rw [e]
  exact LG_off hk t (none0 h) [] (order_LG ht)
/-- a row of events, one of whose ends is put off -/
theorem OE.off {W0 w w1 : World} {N g cap : Nat} {l : List S44} (h : OE W0 w N (.slice (some ⟨g, 0, none⟩) l.length cap) l) (k : Nat) (hk : k < l.length) (hw : w1 = w.setCell ⟨g, k * 13 + 3, none⟩ (.int .i64 (-1))) : OE W0 w1 N (.slice (some ⟨g, 0, none⟩) (offH l k).length cap) (offH l k) := by
  obtain ⟨inner, hown, hrep⟩ := h
  subst hw
  have hl : (offH l k).length = l.length := by unfold offH; rw [List.length_set]
  rw [OE]
  refine ⟨inner.set (k * 13 + 3) (.int .i64 (-1)), by rw [hl]; exact row_own_set hown _ _, ?_⟩
  have hx := hrep.2 k _ (List.getElem?_eq_getElem hk)
  obtain ⟨A12, c12, hcs, l12, g12⟩ := k44_open hx
  have hrd : rd_T44 l (k : Int) = l[k] := by unfold rd_T44; simp [List.getD, hk]
  have hset := row_reps_set hrep k hk (k44_mk W0 (offE l[k]) (A12 := A12) (c12 := c12) l12 g12) rfl
  have hfit : k * 13 + 13 ≤ inner.length := by
    have := hrep.1
    have : (k + 1) * 13 ≤ l.length * 13 := Nat.mul_le_mul_right _ hk
    omega
  have e : inner.set (k * 13 + 3) (.int .i64 (-1)) = inner.take (k * 13) ++ ((inner.drop (k * 13)).take 13).set 3 (.int .i64 (-1)) ++ inner.drop (k * 13 + 13) := by
    have e1 : inner = inner.take (k * 13) ++ ((inner.drop (k * 13)).take 13 ++ inner.drop (k * 13 + 13)) := by
      rw [← List.drop_drop, List.take_append_drop, List.take_append_drop]
    conv => lhs; rw [e1]
    rw [List.set_append_right _ _ (by rw [List.length_take]; omega), List.length_take, Nat.min_eq_left (by omega), Nat.add_sub_cancel_left, List.set_append_left _ _ (by rw [List.length_take, List.length_drop]; omega), List.append_assoc]
  rw [e, hcs]
  unfold offH
  rw [hrd]
  exact hset
/-- a store into the end of an event of a row that is owned -/
theorem ev_offstore {ops : Array Oper} {rest : List Oper} {o : Oper} {a : Act} {w : World} {Q : Exit → Act → World → Prop} (hgd : o.guard = none) (hdst : o.dst = none) {p x : Operand} (ho : o.op = .store 3 p x) {W0 : World} {N g cap k : Nat} {l : List S44} (hp : a.eval p = .pointer (some ⟨g, k * 13 + 3, none⟩)) (hx : a.eval x = .int .i64 (-1)) (hk : k < l.length)
    (hoe : OE W0 w N (.slice (some ⟨g, 0, none⟩) l.length cap) l) (h : ∀ w1, OE W0 w1 N (.slice (some ⟨g, 0, none⟩) l.length cap) (offH l k) → w.grownBy w1 (some g) → wpList Try.prog ops Q rest a w1) : wpList Try.prog ops Q (o :: rest) a w := by
  have hl : (offH l k).length = l.length := by unfold offH; rw [List.length_set]
  have hoff := hoe.off k hk rfl
  obtain ⟨inner, hown, hrep⟩ := hoe
  rcases hown.2 with ⟨h1, h2⟩ | ⟨g', cap', cur, h1, h2, h3, h4, h5, h6, h7⟩
  · cases h1
  · cases h1
    have hfit : k * 13 + 13 ≤ cap * 13 := by
      have : (k + 1) * 13 ≤ cap * 13 := Nat.mul_le_mul_right _ (by omega)
      omega
    refine wq_store (ty := 3) (p := p) (x := x) (g := g) (i := k * 13 + 3) (k := 1) (v := .int .i64 (-1)) (vs := [.int .i64 (-1)]) hgd hdst ho hp hx rfl (by kernel_rfl) rfl rfl h3 (by omega) rfl ?_
    intro w1 hb hgr
    refine h w1 ?_ hgr
    rw [hl] at hoff
    obtain ⟨inn2, hown2, hrep2⟩ := hoff
    refine ⟨inn2, ⟨hown2.1, ?_⟩, hrep2⟩
    rcases hown2.2 with ⟨h8, _⟩ | ⟨g3, cap3, cur3, k1, k2, k3, k4⟩
    · cases h8
    · rw [hl] at k1
      cases k1
      refine .inr ⟨g, cap, cur3, by rw [hl], k2, ?_, k4⟩
      have e1 := heap_setCell_same w g (k * 13 + 3) cur 44 (.int .i64 (-1)) h3
      have e2 : cur3 = cur.setIfInBounds (k * 13 + 3) (.int .i64 (-1)) := by
        have := k3.symm.trans e1
        cases this
        rfl
      rw [e2]
      exact hb
theorem li_legal_at (b : Bool) (m : Nat) (A : Option Addr) (c0 : Nat) (h : List S44) (hm : h.length = m) (hh : h.length ≤ 1000) (hl : (orderP h).isSome = b) (W : World) (hr : Kd.C k44 W A h.length h) : Calls Try.prog 17 #[.slice A m c0] W fun e w' => e = .returned (.bool b) ∧ Below W.heap.size W w' := by
  subst hm
  subst hl
  exact li_Legal A c0 h hh W hr
theorem OE.C' {W0 w : World} {N n c : Nat} {A : Option Addr} {l : List S44} (h : OE W0 w N (.slice A n c) l) (hb : Below W0.heap.size W0 w) : Kd.C k44 w A l.length l := by
  obtain ⟨A1, c1, e1, _, h1⟩ := h.C hb
  cases e1
  exact h1

set_option maxHeartbeats 8000000 in
set_option maxRecDepth 100000 in
theorem lp_few (A : Option Addr) (c : Nat) (h : List S44) (a0 a1 a2 a3 n : Int) (W : World) (hr : Kd.C k44 W A h.length h) (hfew : ∀ W2 : World, Kd.C k44 W2 A h.length h → Calls Try.prog 13 #[.slice A h.length c, .int .i64 6] W2 fun e w' => e = .returned (.bool false) ∧ Below W2.heap.size W2 w')  :
    Calls Try.prog 6 #[.slice A h.length c, .agg #[.int .i64 a0, .int .u64 a1, .int .u64 a2, .int .i64 a3], .int .u8 n] W fun e w' => e = .returned (.bool true) ∧ Below W.heap.size W w' := by
  have HR := Aside0.mk hr
  have HF6 := Aside0.mk hfew
  have HB := Aside0.mk (Below.refl W.heap.size W)
  clear hr hfew
  go_enter Try.func6, Try.ntmps6
  go_wp2_with (first | ((with_reducible refine gate_dst (N := 4) rfl ?_); refine box_event ?hg1 (N := 4) ?hd1 (cs := #[.int .i64 a0, .int .u64 a1, .int .u64 a2, .int .i64 a3]) (t := 25) ?hr1 ?_; (case hd1 => rfl); (case hg1 => rfl); (case hr1 => first | (go_simp; done) | (go_simp; rfl)); intro g1 hg w1_ hbox hbk; have HGB1 := Aside0.mk (show W.heap.size ≤ g1 from by rw [hg]; have := HB.out.size; omega); have n_HB := Aside0.mk (below_step HB.out hbk); clear HB; have HB := n_HB; clear n_HB; have B1 := Aside0.mk hbox; clear hbk hbox hg) | (go_at_call 7; (with_reducible refine (li_awake _).mono ?_); rintro e u2_ ⟨rfl, hbk⟩; have n_HB := Aside0.mk (below_step HB.out hbk); have n_B1 := Aside0.mk (blk_below B1.out hbk); clear HB B1; have HB := n_HB; have B1 := n_B1; clear n_HB n_B1; clear hbk) | (go_at_call 13; (with_reducible refine (HF6.out _ (Kd.C_below HR.out HB.out)).mono ?_); rintro e u3_ ⟨rfl, hbk⟩; have n_HB := Aside0.mk (below_step HB.out hbk); have n_B1 := Aside0.mk (blk_below B1.out hbk); clear HB B1; have HB := n_HB; have B1 := n_B1; clear n_HB n_B1; clear hbk))
  go_ret
  exact ⟨rfl, HB.out⟩
def lp_yes1_lb (n m : Nat) : Array Bool := ((List.range n).map (fun i => m.testBit i)).toArray
def lp_yes1.T4 : Bool × List (List Nat × List Nat) := (true, [([], []), ([], []), ([0, 1], [0, 1]), ([], []), ([3], [3]), ([], []), ([4, 5], [4, 5]), ([6], [6]), ([2, 7, 2], [2, 7]), ([8, 8, 0, 1, 2, 3, 4, 5, 6, 7, 8], [8])])
def lp_yes1.B4 : List Nat := [0, 0, 3, 0, 8, 0, 56, 120, 255, 511]
theorem lp_yes1.tab4 : rtab .any (opsOf Try.f6 4) = lp_yes1.T4 := by kernel_rfl
theorem lp_yes1.bits4 : waitsOk lp_yes1.T4.2 lp_yes1.B4 = true := by kernel_rfl
set_option maxHeartbeats 8000000 in
set_option maxRecDepth 100000 in
theorem lp_yes1 (A : Option Addr) (c : Nat) (h : List S44) (a0 a1 a2 a3 n : Int) (W : World) (hr : Kd.C k44 W A h.length h) (hfew : ∀ W2 : World, Kd.C k44 W2 A h.length h → Calls Try.prog 13 #[.slice A h.length c, .int .i64 6] W2 fun e w' => e = .returned (.bool true) ∧ Below W2.heap.size W2 w') (hh : h.length ≤ 6) (hl : (orderP h).isSome = true) (hn : 0 ≤ n ∧ n ≤ 255) (k : Nat) (hk : k < h.length) (hmod : n % (h.length : Int) = (k : Int)) :
    Calls Try.prog 6 #[.slice A h.length c, .agg #[.int .i64 a0, .int .u64 a1, .int .u64 a2, .int .i64 a3], .int .u8 n] W fun e w' => e = .returned (.bool true) ∧ Below W.heap.size W w' := by
  have HR := Aside0.mk hr
  have HF6 := Aside0.mk hfew
  have HB := Aside0.mk (Below.refl W.heap.size W)
  have HH := Aside0.mk hh
  have HL := Aside0.mk hl
  have HN := Aside0.mk hn
  have hn0 : 0 ≤ n := hn.1
  have hn1 : n ≤ 255 := hn.2
  have hw : IntKind.i64.wrap n = n := by rw [IntKind.wrap_i64]; omega
  have hhb : (h.length : Int) ≤ 6 := by omega
  have HK := Aside0.mk hk
  have hpos : (0 : Int) < (h.length : Int) := by omega
  have hne0 : ¬ (h.length : Int) = 0 := by omega
  have hm1 : n % (h.length : Int) = (k : Int) := hmod
  have hm2 : Int.tmod n (h.length : Int) = (k : Int) := by rw [Int.tmod_eq_emod_of_nonneg hn0]; exact hmod
  have hk0 : (0 : Int) ≤ (k : Int) := by omega
  have hkl : (k : Int) < (h.length : Int) := by omega
  clear hmod hk
  clear hh hl hn
  clear hr hfew
  go_enter Try.func6, Try.ntmps6
  go_upto_region 4 with (first | ((with_reducible refine gate_dst (N := 4) rfl ?_); refine box_event ?hg4 (N := 4) ?hd4 (cs := #[.int .i64 a0, .int .u64 a1, .int .u64 a2, .int .i64 a3]) (t := 25) ?hr4 ?_; (case hd4 => rfl); (case hg4 => rfl); (case hr4 => first | (go_simp; done) | (go_simp; rfl)); intro g1 hg w1_ hbox hbk; have HGB1 := Aside0.mk (show W.heap.size ≤ g1 from by rw [hg]; have := HB.out.size; omega); have n_HB := Aside0.mk (below_step HB.out hbk); clear HB; have HB := n_HB; clear n_HB; have B1 := Aside0.mk hbox; clear hbk hbox hg) | (go_at_call 7; (with_reducible refine (li_awake _).mono ?_); rintro e u2_ ⟨rfl, hbk⟩; have n_HB := Aside0.mk (below_step HB.out hbk); have n_B1 := Aside0.mk (blk_below B1.out hbk); clear HB B1; have HB := n_HB; have B1 := n_B1; clear n_HB n_B1; clear hbk) | (go_at_call 13; (with_reducible refine (HF6.out _ (Kd.C_below HR.out HB.out)).mono ?_); rintro e u3_ ⟨rfl, hbk⟩; have n_HB := Aside0.mk (below_step HB.out hbk); have n_B1 := Aside0.mk (blk_below B1.out hbk); clear HB B1; have HB := n_HB; have B1 := n_B1; clear n_HB n_B1; clear hbk))
  obtain ⟨XB1, hXB1, hb_B1⟩ := wq_name B1.out
  clear B1
  have B1 := Aside0.mk hb_B1
  have HXB1 := Aside0.mk hXB1
  clear hXB1 hb_B1
  have n_HB := Aside0.mk (below_drew1 HB.out)
  have n_B1 := Aside0.mk (blk_drew B1.out)
  clear HB B1
  have HB := n_HB
  have B1 := n_B1
  clear n_HB n_B1
  refine start_ (n := 10) (S := fun w' => w'.heap[g1]? = some (.cells XB1 25 (0, 0))) (ds := [8]) #[false, false, false, false, false, false, false, false, false, false] (by kernel_rfl) rfl rfl (B1.out) (fun hHeld => ?_); refine with_tabW lp_yes1.tab4 lp_yes1.bits4 (fun HT_ HW_ => ?_)
  generalize u3_.drew = v4_ at HB B1 hHeld ⊢
  refine pure_ (i := 1) (N := some 16) (v := ?_) (a' := ?_) (lp_yes1_lb 10 2) rfl rfl (any_of HT_.out (by kernel_rfl)) (fun _ _ _ h => h) (Or.inl ⟨by rfl, ?_⟩) ?_ ?_; rotate_left
  · intro w'; go_simp; with_reducible rfl
  rotate_left
  · simp only [Act.put, List.setIfInBounds_toArray, List.set_cons_zero, List.set_cons_succ, i64_w, i32_w]; rfl
  refine pure_ (i := 3) (N := some 18) (v := ?_) (a' := ?_) (lp_yes1_lb 10 10) rfl rfl (any_of HT_.out (by kernel_rfl)) (fun _ _ _ h => h) (Or.inl ⟨by rfl, ?_⟩) ?_ ?_; rotate_left
  · intro w'; go_simp; with_reducible rfl
  rotate_left
  · simp only [Act.put, List.setIfInBounds_toArray, List.set_cons_zero, List.set_cons_succ, i64_w, i32_w]; rfl
  refine pure_ (i := 4) (N := some 19) (v := ?_) (a' := ?_) (lp_yes1_lb 10 26) rfl rfl (any_of HT_.out (by kernel_rfl)) (fun _ _ _ h => h) (Or.inl ⟨by rfl, ?_⟩) ?_ ?_; rotate_left
  · intro w'; go_simp; with_reducible rfl
  rotate_left
  · simp only [Act.put, List.setIfInBounds_toArray, List.set_cons_zero, List.set_cons_succ, i64_w, i32_w]; rfl
  refine take_ (i := 5) (N := some 20) (v := ?_) (a' := ?_) (lp_yes1_lb 10 58) rfl rfl (take_ofW HT_.out HW_.out (by kernel_rfl)) (fun _ _ _ h => h) (Or.inl ⟨by rfl, ?_⟩) hHeld ?_ ?_; rotate_left
  · intro w' s0; refine Eq.trans (wq_run_loadA (ty := 25) (p := .tmp 4) (g := g1) (i := 0) (k := 4) (vs := ?vs16) ?ho16 ?hp16 Try.underlying25 ?hd16 ?hi16 s0 ?hv16 ?hk16) ?fin16; (case hd16 => rfl); (case hi16 => kernel_rfl); (case ho16 => rfl); (case hp16 => rfl); (case hv16 => rewrite [HXB1.out]; simp only [List.drop_succ_cons, List.drop_zero, List.take_succ_cons, List.take_zero, List.take_nil, List.drop_nil]; with_reducible rfl); (case hk16 => rfl); (case fin16 => with_reducible rfl)
  rotate_left
  · simp only [Act.put, List.setIfInBounds_toArray, List.set_cons_zero, List.set_cons_succ, i64_w, i32_w]; rfl
  refine pure_ (i := 6) (N := some 21) (v := ?_) (a' := ?_) (lp_yes1_lb 10 122) rfl rfl (any_of HT_.out (by kernel_rfl)) (fun _ _ _ h => h) (Or.inl ⟨by rfl, ?_⟩) ?_ ?_; rotate_left
  · intro w'; go_simp; with_reducible rfl
  rotate_left
  · simp only [Act.put, List.setIfInBounds_toArray, List.set_cons_zero, List.set_cons_succ, i64_w, i32_w]; rfl
  refine join_ (σ := Nat × Value × Nat) 2 (lp_yes1_lb 10 255) (fun s => [(15, .slice (some ⟨s.1, 0, none⟩) 0 0), (17, s.2.1), (22, .slice (some ⟨s.2.2, 0, none⟩) 1 1)]) (fun s w' => Aside0 (OE W w' W.heap.size s.2.1 h) ∧ Aside0 (w'.heap[s.2.2]? = some (.cells #[.int .i64 9, .int .i64 0, .int .i64 n, .int .i64 (-1), .int .i64 0, .int .i64 a0, .int .u64 a1, .int .u64 a2, .int .i64 a3, .int .i64 0, .bool false, .int .u64 0, .slice none 0 0] 44 (0, 0))) ∧ Aside0 (w'.heap[g1]? = some (.cells XB1 25 (0, 0))) ∧ Aside0 (Below W.heap.size W w')) ?_ ?_
  rotate_left
  · intro hCont
    refine two_ (i := 0) (j := 7) (Ni := some 15) (Nj := some 22) (lp_yes1_lb 10 123) (lp_yes1_lb 10 250) rfl rfl rfl rfl (two_of HT_.out (by kernel_rfl)) (by decide) (by decide) (fun K hK => ?_) (fun K hK => ?_)
    · skip
      refine ev_stepnil (W0 := W) (N := W.heap.size) ?hw8 ?hN8 HB.out.size ?hr8 rfl ?_
      case hw8 => rfl
      case hN8 => rfl
      case hr8 => first | (go_simp; done) | (go_simp; rfl)
      intro g15 f1_ hg ho15 hbk
      have HN4 := Aside0.mk (show g1 ≠ g15 from by rw [hg]; exact Nat.ne_of_lt (blk_lt B1.out))
      have n_HB := Aside0.mk (below_step HB.out hbk)
      have n_B1 := Aside0.mk (blk_below B1.out hbk)
      clear HB B1
      have HB := n_HB
      have B1 := n_B1
      clear n_HB n_B1
      have HE15 := Aside0.mk ho15
      have HS15 := Aside0.mk (show g15 < f1_.heap.size from oe_lt ho15)
      clear ho15 hbk hg
      refine hK.out _ _ (B1.out) (fun hHeld => ?_)
      clear hK K
      refine norm_ (a' := ?_) ?_ ?_
      rotate_left
      · show Act.put _ (some 15) _ = _
        simp only [Act.put, List.setIfInBounds_toArray, List.set_cons_zero, List.set_cons_succ, i64_w, i32_w]
        rfl
      refine two_ (i := 2) (j := 7) (Ni := some 17) (Nj := some 22) (lp_yes1_lb 10 127) (lp_yes1_lb 10 251) rfl rfl rfl rfl (two_of HT_.out (by kernel_rfl)) (by decide) (by decide) (fun K hK => ?_) (fun K hK => ?_)
      · skip
        refine ev_stepapp (g := g15) (A := A) (c := c) (l := h) (.tmp 15) (.tmp 16) ?hw9 ?hN9 ?ho9 ?hx9 ?hv9 HR.out HB.out HE15.out HB.out.size (by have := HH.out; omega) ?_
        case hw9 => rfl
        case hN9 => rfl
        case ho9 => rfl
        case hx9 => rfl
        case hv9 => rfl
        intro v17 f2_ ho17 hb17 hgr17
        have n_HB := Aside0.mk (HB.out.trans hb17)
        have n_B1 := Aside0.mk (wq_blk B1.out hgr17 HN4.out)
        have HE17 := Aside0.mk ho17
        clear ho17 hb17 hgr17 HB HE15 HS15 B1
        have HB := n_HB
        have B1 := n_B1
        clear n_HB n_B1
        refine hK.out _ _ (B1.out) (fun hHeld => ?_)
        clear hK K
        refine norm_ (a' := ?_) ?_ ?_
        rotate_left
        · show Act.put _ (some 17) _ = _
          simp only [Act.put, List.setIfInBounds_toArray, List.set_cons_zero, List.set_cons_succ, i64_w, i32_w]
          rfl
        refine one_ (i := 7) (N := some 22) (lp_yes1_lb 10 255) rfl rfl (one_of HT_.out (by kernel_rfl)) (by decide) (fun K hK => ?_)
        refine ev_steprow (cs := #[.int .i64 9, .int .i64 0, .int .i64 n, .int .i64 (-1), .int .i64 0, .int .i64 a0, .int .u64 a1, .int .u64 a2, .int .i64 a3, .int .i64 0, .bool false, .int .u64 0, .slice none 0 0]) (t := 44) (m := 1) ?hw10 ?hN10 ?hr10 ?_
        case hw10 => rfl
        case hN10 => rfl
        case hr10 => first | (go_simp; done) | (go_simp; rfl)
        intro g22 f3_ hg hb22 hbk
        have n_HB := Aside0.mk (below_step HB.out hbk)
        have n_HE17 := Aside0.mk (OE.below HE17.out hbk)
        have n_B1 := Aside0.mk (blk_below B1.out hbk)
        clear HB HE17 B1
        have HB := n_HB
        have HE17 := n_HE17
        have B1 := n_B1
        clear n_HB n_HE17 n_B1
        have B22 := Aside0.mk hb22
        clear hb22 hbk hg
        refine hK.out _ _ (B1.out) (fun hHeld => ?_)
        clear hK K
        refine norm_ (a' := ?_) ?_ ?_
        rotate_left
        · show Act.put _ (some 22) _ = _
          simp only [Act.put, List.setIfInBounds_toArray, List.set_cons_zero, List.set_cons_succ, i64_w, i32_w]
          rfl
        exact norm_ (by simp only [putAll, Act.put, List.setIfInBounds_toArray, List.set_cons_zero, List.set_cons_succ]) (hCont (g15, v17, g22) _ ⟨HE17, B22, B1, HB⟩)
      · skip
        refine ev_steprow (cs := #[.int .i64 9, .int .i64 0, .int .i64 n, .int .i64 (-1), .int .i64 0, .int .i64 a0, .int .u64 a1, .int .u64 a2, .int .i64 a3, .int .i64 0, .bool false, .int .u64 0, .slice none 0 0]) (t := 44) (m := 1) ?hw11 ?hN11 ?hr11 ?_
        case hw11 => rfl
        case hN11 => rfl
        case hr11 => first | (go_simp; done) | (go_simp; rfl)
        intro g22 f4_ hg hb22 hbk
        have HN22 := Aside0.mk (show g22 ≠ g15 from by rw [hg]; exact Nat.ne_of_gt HS15.out)
        have n_HB := Aside0.mk (below_step HB.out hbk)
        have n_HE15 := Aside0.mk (OE.below HE15.out hbk)
        have n_HS15 := Aside0.mk (Nat.lt_of_lt_of_le HS15.out hbk.size)
        have n_B1 := Aside0.mk (blk_below B1.out hbk)
        clear HB HE15 HS15 B1
        have HB := n_HB
        have HE15 := n_HE15
        have HS15 := n_HS15
        have B1 := n_B1
        clear n_HB n_HE15 n_HS15 n_B1
        have B22 := Aside0.mk hb22
        clear hb22 hbk hg
        refine hK.out _ _ (B1.out) (fun hHeld => ?_)
        clear hK K
        refine norm_ (a' := ?_) ?_ ?_
        rotate_left
        · show Act.put _ (some 22) _ = _
          simp only [Act.put, List.setIfInBounds_toArray, List.set_cons_zero, List.set_cons_succ, i64_w, i32_w]
          rfl
        refine one_ (i := 2) (N := some 17) (lp_yes1_lb 10 255) rfl rfl (one_of HT_.out (by kernel_rfl)) (by decide) (fun K hK => ?_)
        refine ev_stepapp (g := g15) (A := A) (c := c) (l := h) (.tmp 15) (.tmp 16) ?hw12 ?hN12 ?ho12 ?hx12 ?hv12 HR.out HB.out HE15.out HB.out.size (by have := HH.out; omega) ?_
        case hw12 => rfl
        case hN12 => rfl
        case ho12 => rfl
        case hx12 => rfl
        case hv12 => rfl
        intro v17 f5_ ho17 hb17 hgr17
        have n_HB := Aside0.mk (HB.out.trans hb17)
        have n_B1 := Aside0.mk (wq_blk B1.out hgr17 HN4.out)
        have n_B22 := Aside0.mk (wq_blk B22.out hgr17 HN22.out)
        have HE17 := Aside0.mk ho17
        clear ho17 hb17 hgr17 HB HE15 HS15 B1 B22
        have HB := n_HB
        have B1 := n_B1
        have B22 := n_B22
        clear n_HB n_B1 n_B22
        refine hK.out _ _ (B1.out) (fun hHeld => ?_)
        clear hK K
        refine norm_ (a' := ?_) ?_ ?_
        rotate_left
        · show Act.put _ (some 17) _ = _
          simp only [Act.put, List.setIfInBounds_toArray, List.set_cons_zero, List.set_cons_succ, i64_w, i32_w]
          rfl
        exact norm_ (by simp only [putAll, Act.put, List.setIfInBounds_toArray, List.set_cons_zero, List.set_cons_succ]) (hCont (g15, v17, g22) _ ⟨HE17, B22, B1, HB⟩)
    · skip
      refine ev_steprow (cs := #[.int .i64 9, .int .i64 0, .int .i64 n, .int .i64 (-1), .int .i64 0, .int .i64 a0, .int .u64 a1, .int .u64 a2, .int .i64 a3, .int .i64 0, .bool false, .int .u64 0, .slice none 0 0]) (t := 44) (m := 1) ?hw13 ?hN13 ?hr13 ?_
      case hw13 => rfl
      case hN13 => rfl
      case hr13 => first | (go_simp; done) | (go_simp; rfl)
      intro g22 f6_ hg hb22 hbk
      have n_HB := Aside0.mk (below_step HB.out hbk)
      have n_B1 := Aside0.mk (blk_below B1.out hbk)
      clear HB B1
      have HB := n_HB
      have B1 := n_B1
      clear n_HB n_B1
      have B22 := Aside0.mk hb22
      clear hb22 hbk hg
      refine hK.out _ _ (B1.out) (fun hHeld => ?_)
      clear hK K
      refine norm_ (a' := ?_) ?_ ?_
      rotate_left
      · show Act.put _ (some 22) _ = _
        simp only [Act.put, List.setIfInBounds_toArray, List.set_cons_zero, List.set_cons_succ, i64_w, i32_w]
        rfl
      refine one_ (i := 0) (N := some 15) (lp_yes1_lb 10 251) rfl rfl (one_of HT_.out (by kernel_rfl)) (by decide) (fun K hK => ?_)
      refine ev_stepnil (W0 := W) (N := W.heap.size) ?hw14 ?hN14 HB.out.size ?hr14 rfl ?_
      case hw14 => rfl
      case hN14 => rfl
      case hr14 => first | (go_simp; done) | (go_simp; rfl)
      intro g15 f7_ hg ho15 hbk
      have HN4 := Aside0.mk (show g1 ≠ g15 from by rw [hg]; exact Nat.ne_of_lt (blk_lt B1.out))
      have HN22 := Aside0.mk (show g22 ≠ g15 from by rw [hg]; exact Nat.ne_of_lt (blk_lt B22.out))
      have n_HB := Aside0.mk (below_step HB.out hbk)
      have n_B1 := Aside0.mk (blk_below B1.out hbk)
      have n_B22 := Aside0.mk (blk_below B22.out hbk)
      clear HB B1 B22
      have HB := n_HB
      have B1 := n_B1
      have B22 := n_B22
      clear n_HB n_B1 n_B22
      have HE15 := Aside0.mk ho15
      have HS15 := Aside0.mk (show g15 < f7_.heap.size from oe_lt ho15)
      clear ho15 hbk hg
      refine hK.out _ _ (B1.out) (fun hHeld => ?_)
      clear hK K
      refine norm_ (a' := ?_) ?_ ?_
      rotate_left
      · show Act.put _ (some 15) _ = _
        simp only [Act.put, List.setIfInBounds_toArray, List.set_cons_zero, List.set_cons_succ, i64_w, i32_w]
        rfl
      refine one_ (i := 2) (N := some 17) (lp_yes1_lb 10 255) rfl rfl (one_of HT_.out (by kernel_rfl)) (by decide) (fun K hK => ?_)
      refine ev_stepapp (g := g15) (A := A) (c := c) (l := h) (.tmp 15) (.tmp 16) ?hw15 ?hN15 ?ho15 ?hx15 ?hv15 HR.out HB.out HE15.out HB.out.size (by have := HH.out; omega) ?_
      case hw15 => rfl
      case hN15 => rfl
      case ho15 => rfl
      case hx15 => rfl
      case hv15 => rfl
      intro v17 f8_ ho17 hb17 hgr17
      have n_HB := Aside0.mk (HB.out.trans hb17)
      have n_B1 := Aside0.mk (wq_blk B1.out hgr17 HN4.out)
      have n_B22 := Aside0.mk (wq_blk B22.out hgr17 HN22.out)
      have HE17 := Aside0.mk ho17
      clear ho17 hb17 hgr17 HB HE15 HS15 B1 B22
      have HB := n_HB
      have B1 := n_B1
      have B22 := n_B22
      clear n_HB n_B1 n_B22
      refine hK.out _ _ (B1.out) (fun hHeld => ?_)
      clear hK K
      refine norm_ (a' := ?_) ?_ ?_
      rotate_left
      · show Act.put _ (some 17) _ = _
        simp only [Act.put, List.setIfInBounds_toArray, List.set_cons_zero, List.set_cons_succ, i64_w, i32_w]
        rfl
      exact norm_ (by simp only [putAll, Act.put, List.setIfInBounds_toArray, List.set_cons_zero, List.set_cons_succ]) (hCont (g15, v17, g22) _ ⟨HE17, B22, B1, HB⟩)
  clear HB B1 hHeld
  rintro ⟨g15, v17, g22⟩ w9_ ⟨HE17, B22, B1, HB⟩
  have hHeld := (show w9_.heap[g1]? = some (.cells XB1 25 (0, 0)) from B1.out)
  refine norm_ (a' := ?_) ?_ ?_
  rotate_left
  · simp only [putAll, Act.put, List.setIfInBounds_toArray, List.set_cons_zero, List.set_cons_succ]
    rfl
  refine last_ (i := 8) (N := some 23) (lp_yes1_lb 10 511) rfl rfl (one_of HT_.out (by kernel_rfl)) (by decide) (fun K hK => ?_)
  obtain ⟨inr, einr, hrepr, hcellr⟩ := ev_new (W0 := W) (w := w9_) (⟨9, 0, n, -1, 0, ⟨a0, a1, a2, a3⟩, ⟨0, false, 0, []⟩⟩ : S44) rfl
  refine ev_stepone (W0 := W) (N := W.heap.size) (v := v17) (xs := h) (ys := [(⟨9, 0, n, -1, 0, ⟨a0, a1, a2, a3⟩, ⟨0, false, 0, []⟩⟩ : S44)]) (ad := ⟨g22, 0, none⟩) (m := 1) (c := 1) (inner := inr) (.tmp 17) (.tmp 22) ?hw7 ?hN7 ?ho7 ?hx7 ?hv7 HE17.out HB.out.size rfl hrepr (hcellr g22 (by rw [einr]; exact B22.out)) (by have := HH.out; omega) (by simp) ?_
  case hw7 => rfl
  case hN7 => rfl
  case ho7 => rfl
  case hx7 => rfl
  case hv7 => rfl
  intro v23 w10_ ho23 hb23
  have n_HB := Aside0.mk (HB.out.trans hb23)
  have HE23 := Aside0.mk ho23
  clear HB HE17 B22 B1 ho23 hb23 hrepr hcellr einr
  have HB := n_HB
  clear n_HB
  refine hK.out _ _ ?_
  clear hK K
  refine norm_ (a' := ?_) ?_ ?_
  rotate_left
  · show Act.put _ (some 23) _ = _
    simp only [Act.put, List.setIfInBounds_toArray, List.set_cons_zero, List.set_cons_succ, i64_w, i32_w]
    rfl
  refine pure_ (i := 9) (N := some 8) (v := ?_) (a' := ?_) (lp_yes1_lb 10 1023) rfl rfl (any_of HT_.out (by kernel_rfl)) (fun _ _ _ h => h) (Or.inl ⟨by rfl, ?_⟩) ?_ ?_; rotate_left
  · intro w'; go_simp; with_reducible rfl
  rotate_left
  · simp only [Act.put, List.setIfInBounds_toArray, List.set_cons_zero, List.set_cons_succ, i64_w, i32_w]; rfl
  refine done_ (done_of HT_.out (by kernel_rfl)) ?_
  have hX := HXB1.out
  subst hX
  clear HXB1
  go_upto_region 6 with (first | (refine ev_app0 (W0 := W) (A := A) (c := c) (l := h) rfl (.tmp 24) (.tmp 25) rfl HR.out HB.out rfl rfl (by have := HH.out; omega) ?_; intro v26 w5_ ho26 hbk; have hM : ∃ M, W.heap.size ≤ M ∧ (∀ k, (v23 : Value).ownBlock = some k → k < M) ∧ OE W w5_ M v26 h := ⟨_, HB.out.size, fun k hk => (oe_blk HE23.out k hk).2, ho26⟩; have n_HB := Aside0.mk (below_step HB.out hbk); have n_HE23 := Aside0.mk (OE.below HE23.out hbk); clear HB HE23; have HB := n_HB; have HE23 := n_HE23; clear n_HB n_HE23; obtain ⟨M, hm1, hm2, hm3⟩ := hM; have HM := Aside0.mk (And.intro hm1 hm2); have HE26 := Aside0.mk hm3; clear ho26 hbk hm1 hm2 hm3))
  obtain ⟨g26, c26, e26, hg26, _⟩ := HE26.out.form (by have := HK.out; omega)
  subst e26
  have HG26 := Aside0.mk (show W.heap.size ≤ g26 from Nat.le_trans HM.out.1 hg26)
  have HNE := Aside0.mk (show ∀ q, (v23 : Value).ownBlock = some q → q ≠ g26 from fun q hq => by have := HM.out.2 q hq; omega)
  clear hg26
  obtain ⟨A8, c8, e8, _, _⟩ := HE23.out.C HB.out
  obtain ⟨m8, hm8⟩ : ∃ m, m = (h ++ [(⟨9, 0, n, -1, 0, ⟨a0, a1, a2, a3⟩, ⟨0, false, 0, []⟩⟩ : S44)]).length := ⟨_, rfl⟩
  rw [← hm8] at e8
  subst e8
  have HM8 := Aside0.mk hm8.symm
  clear hm8
  go_wp2_with (first | (refine ev_offstore (W0 := W) (k := k) rfl rfl (p := .tmp 37) (x := .const (.int .i64 (-1))) rfl (g := g26) (cap := c26) (l := h) (N := M) rfl rfl HK.out HE26.out ?_; intro w6_ ho27 hgr; have n_HB := Aside0.mk (HB.out.grown hgr HB.out.size (fun k hk => by cases hk; exact HG26.out)); have HE27 := Aside0.mk ho27; have n_HE23 := Aside0.mk (OE.grown_ne HE23.out hgr HNE.out); clear HB HE23 HE26 ho27 hgr; have HB := n_HB; have HE23 := n_HE23; clear n_HB n_HE23) | (go_at_call 17; (with_reducible refine (li_legal_at true h.length A c h rfl (by have := HH.out; omega) HL.out _ (Kd.C_below HR.out HB.out)).mono ?_); rintro e u7_ ⟨rfl, hbk⟩; have n_HB := Aside0.mk (below_step HB.out hbk); have n_HE23 := Aside0.mk (OE.below HE23.out hbk); have n_HE27 := Aside0.mk (OE.below HE27.out hbk); clear HB HE23 HE27; have HB := n_HB; have HE23 := n_HE23; have HE27 := n_HE27; clear n_HB n_HE23 n_HE27; clear hbk) | (go_at_call 17; (with_reducible refine (li_legal_at true m8 A8 c8 (h ++ [(⟨9, 0, n, -1, 0, ⟨a0, a1, a2, a3⟩, ⟨0, false, 0, []⟩⟩ : S44)]) HM8.out (by rw [List.length_append]; have := HH.out; simp; omega) (legal_more (show (-1 : Int) < 0 by omega) HL.out) _ (HE23.out.C' HB.out)).mono ?_); rintro e u8_ ⟨rfl, hbk⟩; have n_HB := Aside0.mk (below_step HB.out hbk); have n_HE23 := Aside0.mk (OE.below HE23.out hbk); have n_HE27 := Aside0.mk (OE.below HE27.out hbk); clear HB HE23 HE27; have HB := n_HB; have HE23 := n_HE23; have HE27 := n_HE27; clear n_HB n_HE23 n_HE27; clear hbk) | (go_at_call 17; (with_reducible refine (li_legal_at true h.length (some ⟨g26, 0, none⟩) c26 (offH h k) (by unfold offH; rw [List.length_set]) (by unfold offH; rw [List.length_set]; have := HH.out; omega) (legal_off HK.out HL.out) _ (HE27.out.C' HB.out)).mono ?_); rintro e u9_ ⟨rfl, hbk⟩; have n_HB := Aside0.mk (below_step HB.out hbk); have n_HE23 := Aside0.mk (OE.below HE23.out hbk); have n_HE27 := Aside0.mk (OE.below HE27.out hbk); clear HB HE23 HE27; have HB := n_HB; have HE23 := n_HE23; have HE27 := n_HE27; clear n_HB n_HE23 n_HE27; clear hbk))
  go_ret
  exact ⟨rfl, HB.out⟩
def lp_yes0_lb (n m : Nat) : Array Bool := ((List.range n).map (fun i => m.testBit i)).toArray
def lp_yes0.T4 : Bool × List (List Nat × List Nat) := (true, [([], []), ([], []), ([0, 1], [0, 1]), ([], []), ([3], [3]), ([], []), ([4, 5], [4, 5]), ([6], [6]), ([2, 7, 2], [2, 7]), ([8, 8, 0, 1, 2, 3, 4, 5, 6, 7, 8], [8])])
def lp_yes0.B4 : List Nat := [0, 0, 3, 0, 8, 0, 56, 120, 255, 511]
theorem lp_yes0.tab4 : rtab .any (opsOf Try.f6 4) = lp_yes0.T4 := by kernel_rfl
theorem lp_yes0.bits4 : waitsOk lp_yes0.T4.2 lp_yes0.B4 = true := by kernel_rfl
set_option maxHeartbeats 8000000 in
set_option maxRecDepth 100000 in
theorem lp_yes0 (A : Option Addr) (c : Nat) (h : List S44) (a0 a1 a2 a3 n : Int) (W : World) (hr : Kd.C k44 W A h.length h) (hfew : ∀ W2 : World, Kd.C k44 W2 A h.length h → Calls Try.prog 13 #[.slice A h.length c, .int .i64 6] W2 fun e w' => e = .returned (.bool true) ∧ Below W2.heap.size W2 w') (hh : h.length ≤ 6) (hl : (orderP h).isSome = true) (hn : 0 ≤ n ∧ n ≤ 255) (hz0 : h.length = 0) :
    Calls Try.prog 6 #[.slice A h.length c, .agg #[.int .i64 a0, .int .u64 a1, .int .u64 a2, .int .i64 a3], .int .u8 n] W fun e w' => e = .returned (.bool true) ∧ Below W.heap.size W w' := by
  have HR := Aside0.mk hr
  have HF6 := Aside0.mk hfew
  have HB := Aside0.mk (Below.refl W.heap.size W)
  have HH := Aside0.mk hh
  have HL := Aside0.mk hl
  have HN := Aside0.mk hn
  have hn0 : 0 ≤ n := hn.1
  have hn1 : n ≤ 255 := hn.2
  have hw : IntKind.i64.wrap n = n := by rw [IntKind.wrap_i64]; omega
  have hhb : (h.length : Int) ≤ 6 := by omega
  have hz : h.length = 0 := hz0
  have HZ := Aside0.mk hz
  have hpos : ¬ (0 : Int) < (h.length : Int) := by omega
  clear hz0 hz
  clear hh hl hn
  clear hr hfew
  go_enter Try.func6, Try.ntmps6
  go_upto_region 4 with (first | ((with_reducible refine gate_dst (N := 4) rfl ?_); refine box_event ?hg20 (N := 4) ?hd20 (cs := #[.int .i64 a0, .int .u64 a1, .int .u64 a2, .int .i64 a3]) (t := 25) ?hr20 ?_; (case hd20 => rfl); (case hg20 => rfl); (case hr20 => first | (go_simp; done) | (go_simp; rfl)); intro g1 hg w1_ hbox hbk; have HGB1 := Aside0.mk (show W.heap.size ≤ g1 from by rw [hg]; have := HB.out.size; omega); have n_HB := Aside0.mk (below_step HB.out hbk); clear HB; have HB := n_HB; clear n_HB; have B1 := Aside0.mk hbox; clear hbk hbox hg) | (go_at_call 7; (with_reducible refine (li_awake _).mono ?_); rintro e u2_ ⟨rfl, hbk⟩; have n_HB := Aside0.mk (below_step HB.out hbk); have n_B1 := Aside0.mk (blk_below B1.out hbk); clear HB B1; have HB := n_HB; have B1 := n_B1; clear n_HB n_B1; clear hbk) | (go_at_call 13; (with_reducible refine (HF6.out _ (Kd.C_below HR.out HB.out)).mono ?_); rintro e u3_ ⟨rfl, hbk⟩; have n_HB := Aside0.mk (below_step HB.out hbk); have n_B1 := Aside0.mk (blk_below B1.out hbk); clear HB B1; have HB := n_HB; have B1 := n_B1; clear n_HB n_B1; clear hbk))
  obtain ⟨XB1, hXB1, hb_B1⟩ := wq_name B1.out
  clear B1
  have B1 := Aside0.mk hb_B1
  have HXB1 := Aside0.mk hXB1
  clear hXB1 hb_B1
  have n_HB := Aside0.mk (below_drew1 HB.out)
  have n_B1 := Aside0.mk (blk_drew B1.out)
  clear HB B1
  have HB := n_HB
  have B1 := n_B1
  clear n_HB n_B1
  refine start_ (n := 10) (S := fun w' => w'.heap[g1]? = some (.cells XB1 25 (0, 0))) (ds := [8]) #[false, false, false, false, false, false, false, false, false, false] (by kernel_rfl) rfl rfl (B1.out) (fun hHeld => ?_); refine with_tabW lp_yes0.tab4 lp_yes0.bits4 (fun HT_ HW_ => ?_)
  generalize u3_.drew = v4_ at HB B1 hHeld ⊢
  refine pure_ (i := 1) (N := some 16) (v := ?_) (a' := ?_) (lp_yes0_lb 10 2) rfl rfl (any_of HT_.out (by kernel_rfl)) (fun _ _ _ h => h) (Or.inl ⟨by rfl, ?_⟩) ?_ ?_; rotate_left
  · intro w'; go_simp; with_reducible rfl
  rotate_left
  · simp only [Act.put, List.setIfInBounds_toArray, List.set_cons_zero, List.set_cons_succ, i64_w, i32_w]; rfl
  refine pure_ (i := 3) (N := some 18) (v := ?_) (a' := ?_) (lp_yes0_lb 10 10) rfl rfl (any_of HT_.out (by kernel_rfl)) (fun _ _ _ h => h) (Or.inl ⟨by rfl, ?_⟩) ?_ ?_; rotate_left
  · intro w'; go_simp; with_reducible rfl
  rotate_left
  · simp only [Act.put, List.setIfInBounds_toArray, List.set_cons_zero, List.set_cons_succ, i64_w, i32_w]; rfl
  refine pure_ (i := 4) (N := some 19) (v := ?_) (a' := ?_) (lp_yes0_lb 10 26) rfl rfl (any_of HT_.out (by kernel_rfl)) (fun _ _ _ h => h) (Or.inl ⟨by rfl, ?_⟩) ?_ ?_; rotate_left
  · intro w'; go_simp; with_reducible rfl
  rotate_left
  · simp only [Act.put, List.setIfInBounds_toArray, List.set_cons_zero, List.set_cons_succ, i64_w, i32_w]; rfl
  refine take_ (i := 5) (N := some 20) (v := ?_) (a' := ?_) (lp_yes0_lb 10 58) rfl rfl (take_ofW HT_.out HW_.out (by kernel_rfl)) (fun _ _ _ h => h) (Or.inl ⟨by rfl, ?_⟩) hHeld ?_ ?_; rotate_left
  · intro w' s0; refine Eq.trans (wq_run_loadA (ty := 25) (p := .tmp 4) (g := g1) (i := 0) (k := 4) (vs := ?vs32) ?ho32 ?hp32 Try.underlying25 ?hd32 ?hi32 s0 ?hv32 ?hk32) ?fin32; (case hd32 => rfl); (case hi32 => kernel_rfl); (case ho32 => rfl); (case hp32 => rfl); (case hv32 => rewrite [HXB1.out]; simp only [List.drop_succ_cons, List.drop_zero, List.take_succ_cons, List.take_zero, List.take_nil, List.drop_nil]; with_reducible rfl); (case hk32 => rfl); (case fin32 => with_reducible rfl)
  rotate_left
  · simp only [Act.put, List.setIfInBounds_toArray, List.set_cons_zero, List.set_cons_succ, i64_w, i32_w]; rfl
  refine pure_ (i := 6) (N := some 21) (v := ?_) (a' := ?_) (lp_yes0_lb 10 122) rfl rfl (any_of HT_.out (by kernel_rfl)) (fun _ _ _ h => h) (Or.inl ⟨by rfl, ?_⟩) ?_ ?_; rotate_left
  · intro w'; go_simp; with_reducible rfl
  rotate_left
  · simp only [Act.put, List.setIfInBounds_toArray, List.set_cons_zero, List.set_cons_succ, i64_w, i32_w]; rfl
  refine join_ (σ := Nat × Value × Nat) 2 (lp_yes0_lb 10 255) (fun s => [(15, .slice (some ⟨s.1, 0, none⟩) 0 0), (17, s.2.1), (22, .slice (some ⟨s.2.2, 0, none⟩) 1 1)]) (fun s w' => Aside0 (OE W w' W.heap.size s.2.1 h) ∧ Aside0 (w'.heap[s.2.2]? = some (.cells #[.int .i64 9, .int .i64 0, .int .i64 n, .int .i64 (-1), .int .i64 0, .int .i64 a0, .int .u64 a1, .int .u64 a2, .int .i64 a3, .int .i64 0, .bool false, .int .u64 0, .slice none 0 0] 44 (0, 0))) ∧ Aside0 (w'.heap[g1]? = some (.cells XB1 25 (0, 0))) ∧ Aside0 (Below W.heap.size W w')) ?_ ?_
  rotate_left
  · intro hCont
    refine two_ (i := 0) (j := 7) (Ni := some 15) (Nj := some 22) (lp_yes0_lb 10 123) (lp_yes0_lb 10 250) rfl rfl rfl rfl (two_of HT_.out (by kernel_rfl)) (by decide) (by decide) (fun K hK => ?_) (fun K hK => ?_)
    · skip
      refine ev_stepnil (W0 := W) (N := W.heap.size) ?hw24 ?hN24 HB.out.size ?hr24 rfl ?_
      case hw24 => rfl
      case hN24 => rfl
      case hr24 => first | (go_simp; done) | (go_simp; rfl)
      intro g15 f1_ hg ho15 hbk
      have HN4 := Aside0.mk (show g1 ≠ g15 from by rw [hg]; exact Nat.ne_of_lt (blk_lt B1.out))
      have n_HB := Aside0.mk (below_step HB.out hbk)
      have n_B1 := Aside0.mk (blk_below B1.out hbk)
      clear HB B1
      have HB := n_HB
      have B1 := n_B1
      clear n_HB n_B1
      have HE15 := Aside0.mk ho15
      have HS15 := Aside0.mk (show g15 < f1_.heap.size from oe_lt ho15)
      clear ho15 hbk hg
      refine hK.out _ _ (B1.out) (fun hHeld => ?_)
      clear hK K
      refine norm_ (a' := ?_) ?_ ?_
      rotate_left
      · show Act.put _ (some 15) _ = _
        simp only [Act.put, List.setIfInBounds_toArray, List.set_cons_zero, List.set_cons_succ, i64_w, i32_w]
        rfl
      refine two_ (i := 2) (j := 7) (Ni := some 17) (Nj := some 22) (lp_yes0_lb 10 127) (lp_yes0_lb 10 251) rfl rfl rfl rfl (two_of HT_.out (by kernel_rfl)) (by decide) (by decide) (fun K hK => ?_) (fun K hK => ?_)
      · skip
        refine ev_stepapp (g := g15) (A := A) (c := c) (l := h) (.tmp 15) (.tmp 16) ?hw25 ?hN25 ?ho25 ?hx25 ?hv25 HR.out HB.out HE15.out HB.out.size (by have := HH.out; omega) ?_
        case hw25 => rfl
        case hN25 => rfl
        case ho25 => rfl
        case hx25 => rfl
        case hv25 => rfl
        intro v17 f2_ ho17 hb17 hgr17
        have n_HB := Aside0.mk (HB.out.trans hb17)
        have n_B1 := Aside0.mk (wq_blk B1.out hgr17 HN4.out)
        have HE17 := Aside0.mk ho17
        clear ho17 hb17 hgr17 HB HE15 HS15 B1
        have HB := n_HB
        have B1 := n_B1
        clear n_HB n_B1
        refine hK.out _ _ (B1.out) (fun hHeld => ?_)
        clear hK K
        refine norm_ (a' := ?_) ?_ ?_
        rotate_left
        · show Act.put _ (some 17) _ = _
          simp only [Act.put, List.setIfInBounds_toArray, List.set_cons_zero, List.set_cons_succ, i64_w, i32_w]
          rfl
        refine one_ (i := 7) (N := some 22) (lp_yes0_lb 10 255) rfl rfl (one_of HT_.out (by kernel_rfl)) (by decide) (fun K hK => ?_)
        refine ev_steprow (cs := #[.int .i64 9, .int .i64 0, .int .i64 n, .int .i64 (-1), .int .i64 0, .int .i64 a0, .int .u64 a1, .int .u64 a2, .int .i64 a3, .int .i64 0, .bool false, .int .u64 0, .slice none 0 0]) (t := 44) (m := 1) ?hw26 ?hN26 ?hr26 ?_
        case hw26 => rfl
        case hN26 => rfl
        case hr26 => first | (go_simp; done) | (go_simp; rfl)
        intro g22 f3_ hg hb22 hbk
        have n_HB := Aside0.mk (below_step HB.out hbk)
        have n_HE17 := Aside0.mk (OE.below HE17.out hbk)
        have n_B1 := Aside0.mk (blk_below B1.out hbk)
        clear HB HE17 B1
        have HB := n_HB
        have HE17 := n_HE17
        have B1 := n_B1
        clear n_HB n_HE17 n_B1
        have B22 := Aside0.mk hb22
        clear hb22 hbk hg
        refine hK.out _ _ (B1.out) (fun hHeld => ?_)
        clear hK K
        refine norm_ (a' := ?_) ?_ ?_
        rotate_left
        · show Act.put _ (some 22) _ = _
          simp only [Act.put, List.setIfInBounds_toArray, List.set_cons_zero, List.set_cons_succ, i64_w, i32_w]
          rfl
        exact norm_ (by simp only [putAll, Act.put, List.setIfInBounds_toArray, List.set_cons_zero, List.set_cons_succ]) (hCont (g15, v17, g22) _ ⟨HE17, B22, B1, HB⟩)
      · skip
        refine ev_steprow (cs := #[.int .i64 9, .int .i64 0, .int .i64 n, .int .i64 (-1), .int .i64 0, .int .i64 a0, .int .u64 a1, .int .u64 a2, .int .i64 a3, .int .i64 0, .bool false, .int .u64 0, .slice none 0 0]) (t := 44) (m := 1) ?hw27 ?hN27 ?hr27 ?_
        case hw27 => rfl
        case hN27 => rfl
        case hr27 => first | (go_simp; done) | (go_simp; rfl)
        intro g22 f4_ hg hb22 hbk
        have HN22 := Aside0.mk (show g22 ≠ g15 from by rw [hg]; exact Nat.ne_of_gt HS15.out)
        have n_HB := Aside0.mk (below_step HB.out hbk)
        have n_HE15 := Aside0.mk (OE.below HE15.out hbk)
        have n_HS15 := Aside0.mk (Nat.lt_of_lt_of_le HS15.out hbk.size)
        have n_B1 := Aside0.mk (blk_below B1.out hbk)
        clear HB HE15 HS15 B1
        have HB := n_HB
        have HE15 := n_HE15
        have HS15 := n_HS15
        have B1 := n_B1
        clear n_HB n_HE15 n_HS15 n_B1
        have B22 := Aside0.mk hb22
        clear hb22 hbk hg
        refine hK.out _ _ (B1.out) (fun hHeld => ?_)
        clear hK K
        refine norm_ (a' := ?_) ?_ ?_
        rotate_left
        · show Act.put _ (some 22) _ = _
          simp only [Act.put, List.setIfInBounds_toArray, List.set_cons_zero, List.set_cons_succ, i64_w, i32_w]
          rfl
        refine one_ (i := 2) (N := some 17) (lp_yes0_lb 10 255) rfl rfl (one_of HT_.out (by kernel_rfl)) (by decide) (fun K hK => ?_)
        refine ev_stepapp (g := g15) (A := A) (c := c) (l := h) (.tmp 15) (.tmp 16) ?hw28 ?hN28 ?ho28 ?hx28 ?hv28 HR.out HB.out HE15.out HB.out.size (by have := HH.out; omega) ?_
        case hw28 => rfl
        case hN28 => rfl
        case ho28 => rfl
        case hx28 => rfl
        case hv28 => rfl
        intro v17 f5_ ho17 hb17 hgr17
        have n_HB := Aside0.mk (HB.out.trans hb17)
        have n_B1 := Aside0.mk (wq_blk B1.out hgr17 HN4.out)
        have n_B22 := Aside0.mk (wq_blk B22.out hgr17 HN22.out)
        have HE17 := Aside0.mk ho17
        clear ho17 hb17 hgr17 HB HE15 HS15 B1 B22
        have HB := n_HB
        have B1 := n_B1
        have B22 := n_B22
        clear n_HB n_B1 n_B22
        refine hK.out _ _ (B1.out) (fun hHeld => ?_)
        clear hK K
        refine norm_ (a' := ?_) ?_ ?_
        rotate_left
        · show Act.put _ (some 17) _ = _
          simp only [Act.put, List.setIfInBounds_toArray, List.set_cons_zero, List.set_cons_succ, i64_w, i32_w]
          rfl
        exact norm_ (by simp only [putAll, Act.put, List.setIfInBounds_toArray, List.set_cons_zero, List.set_cons_succ]) (hCont (g15, v17, g22) _ ⟨HE17, B22, B1, HB⟩)
    · skip
      refine ev_steprow (cs := #[.int .i64 9, .int .i64 0, .int .i64 n, .int .i64 (-1), .int .i64 0, .int .i64 a0, .int .u64 a1, .int .u64 a2, .int .i64 a3, .int .i64 0, .bool false, .int .u64 0, .slice none 0 0]) (t := 44) (m := 1) ?hw29 ?hN29 ?hr29 ?_
      case hw29 => rfl
      case hN29 => rfl
      case hr29 => first | (go_simp; done) | (go_simp; rfl)
      intro g22 f6_ hg hb22 hbk
      have n_HB := Aside0.mk (below_step HB.out hbk)
      have n_B1 := Aside0.mk (blk_below B1.out hbk)
      clear HB B1
      have HB := n_HB
      have B1 := n_B1
      clear n_HB n_B1
      have B22 := Aside0.mk hb22
      clear hb22 hbk hg
      refine hK.out _ _ (B1.out) (fun hHeld => ?_)
      clear hK K
      refine norm_ (a' := ?_) ?_ ?_
      rotate_left
      · show Act.put _ (some 22) _ = _
        simp only [Act.put, List.setIfInBounds_toArray, List.set_cons_zero, List.set_cons_succ, i64_w, i32_w]
        rfl
      refine one_ (i := 0) (N := some 15) (lp_yes0_lb 10 251) rfl rfl (one_of HT_.out (by kernel_rfl)) (by decide) (fun K hK => ?_)
      refine ev_stepnil (W0 := W) (N := W.heap.size) ?hw30 ?hN30 HB.out.size ?hr30 rfl ?_
      case hw30 => rfl
      case hN30 => rfl
      case hr30 => first | (go_simp; done) | (go_simp; rfl)
      intro g15 f7_ hg ho15 hbk
      have HN4 := Aside0.mk (show g1 ≠ g15 from by rw [hg]; exact Nat.ne_of_lt (blk_lt B1.out))
      have HN22 := Aside0.mk (show g22 ≠ g15 from by rw [hg]; exact Nat.ne_of_lt (blk_lt B22.out))
      have n_HB := Aside0.mk (below_step HB.out hbk)
      have n_B1 := Aside0.mk (blk_below B1.out hbk)
      have n_B22 := Aside0.mk (blk_below B22.out hbk)
      clear HB B1 B22
      have HB := n_HB
      have B1 := n_B1
      have B22 := n_B22
      clear n_HB n_B1 n_B22
      have HE15 := Aside0.mk ho15
      have HS15 := Aside0.mk (show g15 < f7_.heap.size from oe_lt ho15)
      clear ho15 hbk hg
      refine hK.out _ _ (B1.out) (fun hHeld => ?_)
      clear hK K
      refine norm_ (a' := ?_) ?_ ?_
      rotate_left
      · show Act.put _ (some 15) _ = _
        simp only [Act.put, List.setIfInBounds_toArray, List.set_cons_zero, List.set_cons_succ, i64_w, i32_w]
        rfl
      refine one_ (i := 2) (N := some 17) (lp_yes0_lb 10 255) rfl rfl (one_of HT_.out (by kernel_rfl)) (by decide) (fun K hK => ?_)
      refine ev_stepapp (g := g15) (A := A) (c := c) (l := h) (.tmp 15) (.tmp 16) ?hw31 ?hN31 ?ho31 ?hx31 ?hv31 HR.out HB.out HE15.out HB.out.size (by have := HH.out; omega) ?_
      case hw31 => rfl
      case hN31 => rfl
      case ho31 => rfl
      case hx31 => rfl
      case hv31 => rfl
      intro v17 f8_ ho17 hb17 hgr17
      have n_HB := Aside0.mk (HB.out.trans hb17)
      have n_B1 := Aside0.mk (wq_blk B1.out hgr17 HN4.out)
      have n_B22 := Aside0.mk (wq_blk B22.out hgr17 HN22.out)
      have HE17 := Aside0.mk ho17
      clear ho17 hb17 hgr17 HB HE15 HS15 B1 B22
      have HB := n_HB
      have B1 := n_B1
      have B22 := n_B22
      clear n_HB n_B1 n_B22
      refine hK.out _ _ (B1.out) (fun hHeld => ?_)
      clear hK K
      refine norm_ (a' := ?_) ?_ ?_
      rotate_left
      · show Act.put _ (some 17) _ = _
        simp only [Act.put, List.setIfInBounds_toArray, List.set_cons_zero, List.set_cons_succ, i64_w, i32_w]
        rfl
      exact norm_ (by simp only [putAll, Act.put, List.setIfInBounds_toArray, List.set_cons_zero, List.set_cons_succ]) (hCont (g15, v17, g22) _ ⟨HE17, B22, B1, HB⟩)
  clear HB B1 hHeld
  rintro ⟨g15, v17, g22⟩ w9_ ⟨HE17, B22, B1, HB⟩
  have hHeld := (show w9_.heap[g1]? = some (.cells XB1 25 (0, 0)) from B1.out)
  refine norm_ (a' := ?_) ?_ ?_
  rotate_left
  · simp only [putAll, Act.put, List.setIfInBounds_toArray, List.set_cons_zero, List.set_cons_succ]
    rfl
  refine last_ (i := 8) (N := some 23) (lp_yes0_lb 10 511) rfl rfl (one_of HT_.out (by kernel_rfl)) (by decide) (fun K hK => ?_)
  obtain ⟨inr, einr, hrepr, hcellr⟩ := ev_new (W0 := W) (w := w9_) (⟨9, 0, n, -1, 0, ⟨a0, a1, a2, a3⟩, ⟨0, false, 0, []⟩⟩ : S44) rfl
  refine ev_stepone (W0 := W) (N := W.heap.size) (v := v17) (xs := h) (ys := [(⟨9, 0, n, -1, 0, ⟨a0, a1, a2, a3⟩, ⟨0, false, 0, []⟩⟩ : S44)]) (ad := ⟨g22, 0, none⟩) (m := 1) (c := 1) (inner := inr) (.tmp 17) (.tmp 22) ?hw23 ?hN23 ?ho23 ?hx23 ?hv23 HE17.out HB.out.size rfl hrepr (hcellr g22 (by rw [einr]; exact B22.out)) (by have := HH.out; omega) (by simp) ?_
  case hw23 => rfl
  case hN23 => rfl
  case ho23 => rfl
  case hx23 => rfl
  case hv23 => rfl
  intro v23 w10_ ho23 hb23
  have n_HB := Aside0.mk (HB.out.trans hb23)
  have HE23 := Aside0.mk ho23
  clear HB HE17 B22 B1 ho23 hb23 hrepr hcellr einr
  have HB := n_HB
  clear n_HB
  refine hK.out _ _ ?_
  clear hK K
  refine norm_ (a' := ?_) ?_ ?_
  rotate_left
  · show Act.put _ (some 23) _ = _
    simp only [Act.put, List.setIfInBounds_toArray, List.set_cons_zero, List.set_cons_succ, i64_w, i32_w]
    rfl
  refine pure_ (i := 9) (N := some 8) (v := ?_) (a' := ?_) (lp_yes0_lb 10 1023) rfl rfl (any_of HT_.out (by kernel_rfl)) (fun _ _ _ h => h) (Or.inl ⟨by rfl, ?_⟩) ?_ ?_; rotate_left
  · intro w'; go_simp; with_reducible rfl
  rotate_left
  · simp only [Act.put, List.setIfInBounds_toArray, List.set_cons_zero, List.set_cons_succ, i64_w, i32_w]; rfl
  refine done_ (done_of HT_.out (by kernel_rfl)) ?_
  have hX := HXB1.out
  subst hX
  clear HXB1
  go_upto_region 6 with (first | (refine ev_app0 (W0 := W) (A := A) (c := c) (l := h) rfl (.tmp 24) (.tmp 25) rfl HR.out HB.out rfl rfl (by have := HH.out; omega) ?_; intro v26 w5_ ho26 hbk; have hM : ∃ M, W.heap.size ≤ M ∧ (∀ k, (v23 : Value).ownBlock = some k → k < M) ∧ OE W w5_ M v26 h := ⟨_, HB.out.size, fun k hk => (oe_blk HE23.out k hk).2, ho26⟩; have n_HB := Aside0.mk (below_step HB.out hbk); have n_HE23 := Aside0.mk (OE.below HE23.out hbk); clear HB HE23; have HB := n_HB; have HE23 := n_HE23; clear n_HB n_HE23; obtain ⟨M, hm1, hm2, hm3⟩ := hM; have HM := Aside0.mk (And.intro hm1 hm2); have HE26 := Aside0.mk hm3; clear ho26 hbk hm1 hm2 hm3))
  obtain ⟨A26, c26, e26, _, _⟩ := HE26.out.C HB.out
  subst e26
  obtain ⟨A8, c8, e8, _, _⟩ := HE23.out.C HB.out
  obtain ⟨m8, hm8⟩ : ∃ m, m = (h ++ [(⟨9, 0, n, -1, 0, ⟨a0, a1, a2, a3⟩, ⟨0, false, 0, []⟩⟩ : S44)]).length := ⟨_, rfl⟩
  rw [← hm8] at e8
  subst e8
  have HM8 := Aside0.mk hm8.symm
  clear hm8
  go_wp2_with (first | (go_at_call 17; (with_reducible refine (li_legal_at true h.length A c h rfl (by have := HH.out; omega) HL.out _ (Kd.C_below HR.out HB.out)).mono ?_); rintro e u6_ ⟨rfl, hbk⟩; have n_HB := Aside0.mk (below_step HB.out hbk); have n_HE23 := Aside0.mk (OE.below HE23.out hbk); have n_HE26 := Aside0.mk (OE.below HE26.out hbk); clear HB HE23 HE26; have HB := n_HB; have HE23 := n_HE23; have HE26 := n_HE26; clear n_HB n_HE23 n_HE26; clear hbk) | (go_at_call 17; (with_reducible refine (li_legal_at true m8 A8 c8 (h ++ [(⟨9, 0, n, -1, 0, ⟨a0, a1, a2, a3⟩, ⟨0, false, 0, []⟩⟩ : S44)]) HM8.out (by rw [List.length_append]; have := HH.out; simp; omega) (legal_more (show (-1 : Int) < 0 by omega) HL.out) _ (HE23.out.C' HB.out)).mono ?_); rintro e u7_ ⟨rfl, hbk⟩; have n_HB := Aside0.mk (below_step HB.out hbk); have n_HE23 := Aside0.mk (OE.below HE23.out hbk); have n_HE26 := Aside0.mk (OE.below HE26.out hbk); clear HB HE23 HE26; have HB := n_HB; have HE23 := n_HE23; have HE26 := n_HE26; clear n_HB n_HE23 n_HE26; clear hbk) | (go_at_call 17; (with_reducible refine (li_legal_at true h.length A26 c26 h rfl (by have := HH.out; omega) HL.out _ (HE26.out.C' HB.out)).mono ?_); rintro e u8_ ⟨rfl, hbk⟩; have n_HB := Aside0.mk (below_step HB.out hbk); have n_HE23 := Aside0.mk (OE.below HE23.out hbk); have n_HE26 := Aside0.mk (OE.below HE26.out hbk); clear HB HE23 HE26; have HB := n_HB; have HE23 := n_HE23; have HE26 := n_HE26; clear n_HB n_HE23 n_HE26; clear hbk))
  go_ret
  exact ⟨rfl, HB.out⟩
def lp_no1_lb (n m : Nat) : Array Bool := ((List.range n).map (fun i => m.testBit i)).toArray
def lp_no1.T4 : Bool × List (List Nat × List Nat) := (true, [([], []), ([], []), ([0, 1], [0, 1]), ([], []), ([3], [3]), ([], []), ([4, 5], [4, 5]), ([6], [6]), ([2, 7, 2], [2, 7]), ([8, 8, 0, 1, 2, 3, 4, 5, 6, 7, 8], [8])])
def lp_no1.B4 : List Nat := [0, 0, 3, 0, 8, 0, 56, 120, 255, 511]
theorem lp_no1.tab4 : rtab .any (opsOf Try.f6 4) = lp_no1.T4 := by kernel_rfl
theorem lp_no1.bits4 : waitsOk lp_no1.T4.2 lp_no1.B4 = true := by kernel_rfl
set_option maxHeartbeats 8000000 in
set_option maxRecDepth 100000 in
theorem lp_no1 (A : Option Addr) (c : Nat) (h : List S44) (a0 a1 a2 a3 n : Int) (W : World) (hr : Kd.C k44 W A h.length h) (hfew : ∀ W2 : World, Kd.C k44 W2 A h.length h → Calls Try.prog 13 #[.slice A h.length c, .int .i64 6] W2 fun e w' => e = .returned (.bool true) ∧ Below W2.heap.size W2 w') (hh : h.length ≤ 6) (hl : (orderP h).isSome = false) (hn : 0 ≤ n ∧ n ≤ 255) (k : Nat) (hk : k < h.length) (hmod : n % (h.length : Int) = (k : Int)) :
    Calls Try.prog 6 #[.slice A h.length c, .agg #[.int .i64 a0, .int .u64 a1, .int .u64 a2, .int .i64 a3], .int .u8 n] W fun e w' => e = .returned (.bool true) ∧ Below W.heap.size W w' := by
  have HR := Aside0.mk hr
  have HF6 := Aside0.mk hfew
  have HB := Aside0.mk (Below.refl W.heap.size W)
  have HH := Aside0.mk hh
  have HL := Aside0.mk hl
  have HN := Aside0.mk hn
  have hn0 : 0 ≤ n := hn.1
  have hn1 : n ≤ 255 := hn.2
  have hw : IntKind.i64.wrap n = n := by rw [IntKind.wrap_i64]; omega
  have hhb : (h.length : Int) ≤ 6 := by omega
  have HK := Aside0.mk hk
  have hpos : (0 : Int) < (h.length : Int) := by omega
  have hne0 : ¬ (h.length : Int) = 0 := by omega
  have hm1 : n % (h.length : Int) = (k : Int) := hmod
  have hm2 : Int.tmod n (h.length : Int) = (k : Int) := by rw [Int.tmod_eq_emod_of_nonneg hn0]; exact hmod
  have hk0 : (0 : Int) ≤ (k : Int) := by omega
  have hkl : (k : Int) < (h.length : Int) := by omega
  clear hmod hk
  clear hh hl hn
  clear hr hfew
  go_enter Try.func6, Try.ntmps6
  go_upto_region 4 with (first | ((with_reducible refine gate_dst (N := 4) rfl ?_); refine box_event ?hg36 (N := 4) ?hd36 (cs := #[.int .i64 a0, .int .u64 a1, .int .u64 a2, .int .i64 a3]) (t := 25) ?hr36 ?_; (case hd36 => rfl); (case hg36 => rfl); (case hr36 => first | (go_simp; done) | (go_simp; rfl)); intro g1 hg w1_ hbox hbk; have HGB1 := Aside0.mk (show W.heap.size ≤ g1 from by rw [hg]; have := HB.out.size; omega); have n_HB := Aside0.mk (below_step HB.out hbk); clear HB; have HB := n_HB; clear n_HB; have B1 := Aside0.mk hbox; clear hbk hbox hg) | (go_at_call 7; (with_reducible refine (li_awake _).mono ?_); rintro e u2_ ⟨rfl, hbk⟩; have n_HB := Aside0.mk (below_step HB.out hbk); have n_B1 := Aside0.mk (blk_below B1.out hbk); clear HB B1; have HB := n_HB; have B1 := n_B1; clear n_HB n_B1; clear hbk) | (go_at_call 13; (with_reducible refine (HF6.out _ (Kd.C_below HR.out HB.out)).mono ?_); rintro e u3_ ⟨rfl, hbk⟩; have n_HB := Aside0.mk (below_step HB.out hbk); have n_B1 := Aside0.mk (blk_below B1.out hbk); clear HB B1; have HB := n_HB; have B1 := n_B1; clear n_HB n_B1; clear hbk))
  obtain ⟨XB1, hXB1, hb_B1⟩ := wq_name B1.out
  clear B1
  have B1 := Aside0.mk hb_B1
  have HXB1 := Aside0.mk hXB1
  clear hXB1 hb_B1
  have n_HB := Aside0.mk (below_drew1 HB.out)
  have n_B1 := Aside0.mk (blk_drew B1.out)
  clear HB B1
  have HB := n_HB
  have B1 := n_B1
  clear n_HB n_B1
  refine start_ (n := 10) (S := fun w' => w'.heap[g1]? = some (.cells XB1 25 (0, 0))) (ds := [8]) #[false, false, false, false, false, false, false, false, false, false] (by kernel_rfl) rfl rfl (B1.out) (fun hHeld => ?_); refine with_tabW lp_no1.tab4 lp_no1.bits4 (fun HT_ HW_ => ?_)
  generalize u3_.drew = v4_ at HB B1 hHeld ⊢
  refine pure_ (i := 1) (N := some 16) (v := ?_) (a' := ?_) (lp_no1_lb 10 2) rfl rfl (any_of HT_.out (by kernel_rfl)) (fun _ _ _ h => h) (Or.inl ⟨by rfl, ?_⟩) ?_ ?_; rotate_left
  · intro w'; go_simp; with_reducible rfl
  rotate_left
  · simp only [Act.put, List.setIfInBounds_toArray, List.set_cons_zero, List.set_cons_succ, i64_w, i32_w]; rfl
  refine pure_ (i := 3) (N := some 18) (v := ?_) (a' := ?_) (lp_no1_lb 10 10) rfl rfl (any_of HT_.out (by kernel_rfl)) (fun _ _ _ h => h) (Or.inl ⟨by rfl, ?_⟩) ?_ ?_; rotate_left
  · intro w'; go_simp; with_reducible rfl
  rotate_left
  · simp only [Act.put, List.setIfInBounds_toArray, List.set_cons_zero, List.set_cons_succ, i64_w, i32_w]; rfl
  refine pure_ (i := 4) (N := some 19) (v := ?_) (a' := ?_) (lp_no1_lb 10 26) rfl rfl (any_of HT_.out (by kernel_rfl)) (fun _ _ _ h => h) (Or.inl ⟨by rfl, ?_⟩) ?_ ?_; rotate_left
  · intro w'; go_simp; with_reducible rfl
  rotate_left
  · simp only [Act.put, List.setIfInBounds_toArray, List.set_cons_zero, List.set_cons_succ, i64_w, i32_w]; rfl
  refine take_ (i := 5) (N := some 20) (v := ?_) (a' := ?_) (lp_no1_lb 10 58) rfl rfl (take_ofW HT_.out HW_.out (by kernel_rfl)) (fun _ _ _ h => h) (Or.inl ⟨by rfl, ?_⟩) hHeld ?_ ?_; rotate_left
  · intro w' s0; refine Eq.trans (wq_run_loadA (ty := 25) (p := .tmp 4) (g := g1) (i := 0) (k := 4) (vs := ?vs48) ?ho48 ?hp48 Try.underlying25 ?hd48 ?hi48 s0 ?hv48 ?hk48) ?fin48; (case hd48 => rfl); (case hi48 => kernel_rfl); (case ho48 => rfl); (case hp48 => rfl); (case hv48 => rewrite [HXB1.out]; simp only [List.drop_succ_cons, List.drop_zero, List.take_succ_cons, List.take_zero, List.take_nil, List.drop_nil]; with_reducible rfl); (case hk48 => rfl); (case fin48 => with_reducible rfl)
  rotate_left
  · simp only [Act.put, List.setIfInBounds_toArray, List.set_cons_zero, List.set_cons_succ, i64_w, i32_w]; rfl
  refine pure_ (i := 6) (N := some 21) (v := ?_) (a' := ?_) (lp_no1_lb 10 122) rfl rfl (any_of HT_.out (by kernel_rfl)) (fun _ _ _ h => h) (Or.inl ⟨by rfl, ?_⟩) ?_ ?_; rotate_left
  · intro w'; go_simp; with_reducible rfl
  rotate_left
  · simp only [Act.put, List.setIfInBounds_toArray, List.set_cons_zero, List.set_cons_succ, i64_w, i32_w]; rfl
  refine join_ (σ := Nat × Value × Nat) 2 (lp_no1_lb 10 255) (fun s => [(15, .slice (some ⟨s.1, 0, none⟩) 0 0), (17, s.2.1), (22, .slice (some ⟨s.2.2, 0, none⟩) 1 1)]) (fun s w' => Aside0 (OE W w' W.heap.size s.2.1 h) ∧ Aside0 (w'.heap[s.2.2]? = some (.cells #[.int .i64 9, .int .i64 0, .int .i64 n, .int .i64 (-1), .int .i64 0, .int .i64 a0, .int .u64 a1, .int .u64 a2, .int .i64 a3, .int .i64 0, .bool false, .int .u64 0, .slice none 0 0] 44 (0, 0))) ∧ Aside0 (w'.heap[g1]? = some (.cells XB1 25 (0, 0))) ∧ Aside0 (Below W.heap.size W w')) ?_ ?_
  rotate_left
  · intro hCont
    refine two_ (i := 0) (j := 7) (Ni := some 15) (Nj := some 22) (lp_no1_lb 10 123) (lp_no1_lb 10 250) rfl rfl rfl rfl (two_of HT_.out (by kernel_rfl)) (by decide) (by decide) (fun K hK => ?_) (fun K hK => ?_)
    · skip
      refine ev_stepnil (W0 := W) (N := W.heap.size) ?hw40 ?hN40 HB.out.size ?hr40 rfl ?_
      case hw40 => rfl
      case hN40 => rfl
      case hr40 => first | (go_simp; done) | (go_simp; rfl)
      intro g15 f1_ hg ho15 hbk
      have HN4 := Aside0.mk (show g1 ≠ g15 from by rw [hg]; exact Nat.ne_of_lt (blk_lt B1.out))
      have n_HB := Aside0.mk (below_step HB.out hbk)
      have n_B1 := Aside0.mk (blk_below B1.out hbk)
      clear HB B1
      have HB := n_HB
      have B1 := n_B1
      clear n_HB n_B1
      have HE15 := Aside0.mk ho15
      have HS15 := Aside0.mk (show g15 < f1_.heap.size from oe_lt ho15)
      clear ho15 hbk hg
      refine hK.out _ _ (B1.out) (fun hHeld => ?_)
      clear hK K
      refine norm_ (a' := ?_) ?_ ?_
      rotate_left
      · show Act.put _ (some 15) _ = _
        simp only [Act.put, List.setIfInBounds_toArray, List.set_cons_zero, List.set_cons_succ, i64_w, i32_w]
        rfl
      refine two_ (i := 2) (j := 7) (Ni := some 17) (Nj := some 22) (lp_no1_lb 10 127) (lp_no1_lb 10 251) rfl rfl rfl rfl (two_of HT_.out (by kernel_rfl)) (by decide) (by decide) (fun K hK => ?_) (fun K hK => ?_)
      · skip
        refine ev_stepapp (g := g15) (A := A) (c := c) (l := h) (.tmp 15) (.tmp 16) ?hw41 ?hN41 ?ho41 ?hx41 ?hv41 HR.out HB.out HE15.out HB.out.size (by have := HH.out; omega) ?_
        case hw41 => rfl
        case hN41 => rfl
        case ho41 => rfl
        case hx41 => rfl
        case hv41 => rfl
        intro v17 f2_ ho17 hb17 hgr17
        have n_HB := Aside0.mk (HB.out.trans hb17)
        have n_B1 := Aside0.mk (wq_blk B1.out hgr17 HN4.out)
        have HE17 := Aside0.mk ho17
        clear ho17 hb17 hgr17 HB HE15 HS15 B1
        have HB := n_HB
        have B1 := n_B1
        clear n_HB n_B1
        refine hK.out _ _ (B1.out) (fun hHeld => ?_)
        clear hK K
        refine norm_ (a' := ?_) ?_ ?_
        rotate_left
        · show Act.put _ (some 17) _ = _
          simp only [Act.put, List.setIfInBounds_toArray, List.set_cons_zero, List.set_cons_succ, i64_w, i32_w]
          rfl
        refine one_ (i := 7) (N := some 22) (lp_no1_lb 10 255) rfl rfl (one_of HT_.out (by kernel_rfl)) (by decide) (fun K hK => ?_)
        refine ev_steprow (cs := #[.int .i64 9, .int .i64 0, .int .i64 n, .int .i64 (-1), .int .i64 0, .int .i64 a0, .int .u64 a1, .int .u64 a2, .int .i64 a3, .int .i64 0, .bool false, .int .u64 0, .slice none 0 0]) (t := 44) (m := 1) ?hw42 ?hN42 ?hr42 ?_
        case hw42 => rfl
        case hN42 => rfl
        case hr42 => first | (go_simp; done) | (go_simp; rfl)
        intro g22 f3_ hg hb22 hbk
        have n_HB := Aside0.mk (below_step HB.out hbk)
        have n_HE17 := Aside0.mk (OE.below HE17.out hbk)
        have n_B1 := Aside0.mk (blk_below B1.out hbk)
        clear HB HE17 B1
        have HB := n_HB
        have HE17 := n_HE17
        have B1 := n_B1
        clear n_HB n_HE17 n_B1
        have B22 := Aside0.mk hb22
        clear hb22 hbk hg
        refine hK.out _ _ (B1.out) (fun hHeld => ?_)
        clear hK K
        refine norm_ (a' := ?_) ?_ ?_
        rotate_left
        · show Act.put _ (some 22) _ = _
          simp only [Act.put, List.setIfInBounds_toArray, List.set_cons_zero, List.set_cons_succ, i64_w, i32_w]
          rfl
        exact norm_ (by simp only [putAll, Act.put, List.setIfInBounds_toArray, List.set_cons_zero, List.set_cons_succ]) (hCont (g15, v17, g22) _ ⟨HE17, B22, B1, HB⟩)
      · skip
        refine ev_steprow (cs := #[.int .i64 9, .int .i64 0, .int .i64 n, .int .i64 (-1), .int .i64 0, .int .i64 a0, .int .u64 a1, .int .u64 a2, .int .i64 a3, .int .i64 0, .bool false, .int .u64 0, .slice none 0 0]) (t := 44) (m := 1) ?hw43 ?hN43 ?hr43 ?_
        case hw43 => rfl
        case hN43 => rfl
        case hr43 => first | (go_simp; done) | (go_simp; rfl)
        intro g22 f4_ hg hb22 hbk
        have HN22 := Aside0.mk (show g22 ≠ g15 from by rw [hg]; exact Nat.ne_of_gt HS15.out)
        have n_HB := Aside0.mk (below_step HB.out hbk)
        have n_HE15 := Aside0.mk (OE.below HE15.out hbk)
        have n_HS15 := Aside0.mk (Nat.lt_of_lt_of_le HS15.out hbk.size)
        have n_B1 := Aside0.mk (blk_below B1.out hbk)
        clear HB HE15 HS15 B1
        have HB := n_HB
        have HE15 := n_HE15
        have HS15 := n_HS15
        have B1 := n_B1
        clear n_HB n_HE15 n_HS15 n_B1
        have B22 := Aside0.mk hb22
        clear hb22 hbk hg
        refine hK.out _ _ (B1.out) (fun hHeld => ?_)
        clear hK K
        refine norm_ (a' := ?_) ?_ ?_
        rotate_left
        · show Act.put _ (some 22) _ = _
          simp only [Act.put, List.setIfInBounds_toArray, List.set_cons_zero, List.set_cons_succ, i64_w, i32_w]
          rfl
        refine one_ (i := 2) (N := some 17) (lp_no1_lb 10 255) rfl rfl (one_of HT_.out (by kernel_rfl)) (by decide) (fun K hK => ?_)
        refine ev_stepapp (g := g15) (A := A) (c := c) (l := h) (.tmp 15) (.tmp 16) ?hw44 ?hN44 ?ho44 ?hx44 ?hv44 HR.out HB.out HE15.out HB.out.size (by have := HH.out; omega) ?_
        case hw44 => rfl
        case hN44 => rfl
        case ho44 => rfl
        case hx44 => rfl
        case hv44 => rfl
        intro v17 f5_ ho17 hb17 hgr17
        have n_HB := Aside0.mk (HB.out.trans hb17)
        have n_B1 := Aside0.mk (wq_blk B1.out hgr17 HN4.out)
        have n_B22 := Aside0.mk (wq_blk B22.out hgr17 HN22.out)
        have HE17 := Aside0.mk ho17
        clear ho17 hb17 hgr17 HB HE15 HS15 B1 B22
        have HB := n_HB
        have B1 := n_B1
        have B22 := n_B22
        clear n_HB n_B1 n_B22
        refine hK.out _ _ (B1.out) (fun hHeld => ?_)
        clear hK K
        refine norm_ (a' := ?_) ?_ ?_
        rotate_left
        · show Act.put _ (some 17) _ = _
          simp only [Act.put, List.setIfInBounds_toArray, List.set_cons_zero, List.set_cons_succ, i64_w, i32_w]
          rfl
        exact norm_ (by simp only [putAll, Act.put, List.setIfInBounds_toArray, List.set_cons_zero, List.set_cons_succ]) (hCont (g15, v17, g22) _ ⟨HE17, B22, B1, HB⟩)
    · skip
      refine ev_steprow (cs := #[.int .i64 9, .int .i64 0, .int .i64 n, .int .i64 (-1), .int .i64 0, .int .i64 a0, .int .u64 a1, .int .u64 a2, .int .i64 a3, .int .i64 0, .bool false, .int .u64 0, .slice none 0 0]) (t := 44) (m := 1) ?hw45 ?hN45 ?hr45 ?_
      case hw45 => rfl
      case hN45 => rfl
      case hr45 => first | (go_simp; done) | (go_simp; rfl)
      intro g22 f6_ hg hb22 hbk
      have n_HB := Aside0.mk (below_step HB.out hbk)
      have n_B1 := Aside0.mk (blk_below B1.out hbk)
      clear HB B1
      have HB := n_HB
      have B1 := n_B1
      clear n_HB n_B1
      have B22 := Aside0.mk hb22
      clear hb22 hbk hg
      refine hK.out _ _ (B1.out) (fun hHeld => ?_)
      clear hK K
      refine norm_ (a' := ?_) ?_ ?_
      rotate_left
      · show Act.put _ (some 22) _ = _
        simp only [Act.put, List.setIfInBounds_toArray, List.set_cons_zero, List.set_cons_succ, i64_w, i32_w]
        rfl
      refine one_ (i := 0) (N := some 15) (lp_no1_lb 10 251) rfl rfl (one_of HT_.out (by kernel_rfl)) (by decide) (fun K hK => ?_)
      refine ev_stepnil (W0 := W) (N := W.heap.size) ?hw46 ?hN46 HB.out.size ?hr46 rfl ?_
      case hw46 => rfl
      case hN46 => rfl
      case hr46 => first | (go_simp; done) | (go_simp; rfl)
      intro g15 f7_ hg ho15 hbk
      have HN4 := Aside0.mk (show g1 ≠ g15 from by rw [hg]; exact Nat.ne_of_lt (blk_lt B1.out))
      have HN22 := Aside0.mk (show g22 ≠ g15 from by rw [hg]; exact Nat.ne_of_lt (blk_lt B22.out))
      have n_HB := Aside0.mk (below_step HB.out hbk)
      have n_B1 := Aside0.mk (blk_below B1.out hbk)
      have n_B22 := Aside0.mk (blk_below B22.out hbk)
      clear HB B1 B22
      have HB := n_HB
      have B1 := n_B1
      have B22 := n_B22
      clear n_HB n_B1 n_B22
      have HE15 := Aside0.mk ho15
      have HS15 := Aside0.mk (show g15 < f7_.heap.size from oe_lt ho15)
      clear ho15 hbk hg
      refine hK.out _ _ (B1.out) (fun hHeld => ?_)
      clear hK K
      refine norm_ (a' := ?_) ?_ ?_
      rotate_left
      · show Act.put _ (some 15) _ = _
        simp only [Act.put, List.setIfInBounds_toArray, List.set_cons_zero, List.set_cons_succ, i64_w, i32_w]
        rfl
      refine one_ (i := 2) (N := some 17) (lp_no1_lb 10 255) rfl rfl (one_of HT_.out (by kernel_rfl)) (by decide) (fun K hK => ?_)
      refine ev_stepapp (g := g15) (A := A) (c := c) (l := h) (.tmp 15) (.tmp 16) ?hw47 ?hN47 ?ho47 ?hx47 ?hv47 HR.out HB.out HE15.out HB.out.size (by have := HH.out; omega) ?_
      case hw47 => rfl
      case hN47 => rfl
      case ho47 => rfl
      case hx47 => rfl
      case hv47 => rfl
      intro v17 f8_ ho17 hb17 hgr17
      have n_HB := Aside0.mk (HB.out.trans hb17)
      have n_B1 := Aside0.mk (wq_blk B1.out hgr17 HN4.out)
      have n_B22 := Aside0.mk (wq_blk B22.out hgr17 HN22.out)
      have HE17 := Aside0.mk ho17
      clear ho17 hb17 hgr17 HB HE15 HS15 B1 B22
      have HB := n_HB
      have B1 := n_B1
      have B22 := n_B22
      clear n_HB n_B1 n_B22
      refine hK.out _ _ (B1.out) (fun hHeld => ?_)
      clear hK K
      refine norm_ (a' := ?_) ?_ ?_
      rotate_left
      · show Act.put _ (some 17) _ = _
        simp only [Act.put, List.setIfInBounds_toArray, List.set_cons_zero, List.set_cons_succ, i64_w, i32_w]
        rfl
      exact norm_ (by simp only [putAll, Act.put, List.setIfInBounds_toArray, List.set_cons_zero, List.set_cons_succ]) (hCont (g15, v17, g22) _ ⟨HE17, B22, B1, HB⟩)
  clear HB B1 hHeld
  rintro ⟨g15, v17, g22⟩ w9_ ⟨HE17, B22, B1, HB⟩
  have hHeld := (show w9_.heap[g1]? = some (.cells XB1 25 (0, 0)) from B1.out)
  refine norm_ (a' := ?_) ?_ ?_
  rotate_left
  · simp only [putAll, Act.put, List.setIfInBounds_toArray, List.set_cons_zero, List.set_cons_succ]
    rfl
  refine last_ (i := 8) (N := some 23) (lp_no1_lb 10 511) rfl rfl (one_of HT_.out (by kernel_rfl)) (by decide) (fun K hK => ?_)
  obtain ⟨inr, einr, hrepr, hcellr⟩ := ev_new (W0 := W) (w := w9_) (⟨9, 0, n, -1, 0, ⟨a0, a1, a2, a3⟩, ⟨0, false, 0, []⟩⟩ : S44) rfl
  refine ev_stepone (W0 := W) (N := W.heap.size) (v := v17) (xs := h) (ys := [(⟨9, 0, n, -1, 0, ⟨a0, a1, a2, a3⟩, ⟨0, false, 0, []⟩⟩ : S44)]) (ad := ⟨g22, 0, none⟩) (m := 1) (c := 1) (inner := inr) (.tmp 17) (.tmp 22) ?hw39 ?hN39 ?ho39 ?hx39 ?hv39 HE17.out HB.out.size rfl hrepr (hcellr g22 (by rw [einr]; exact B22.out)) (by have := HH.out; omega) (by simp) ?_
  case hw39 => rfl
  case hN39 => rfl
  case ho39 => rfl
  case hx39 => rfl
  case hv39 => rfl
  intro v23 w10_ ho23 hb23
  have n_HB := Aside0.mk (HB.out.trans hb23)
  have HE23 := Aside0.mk ho23
  clear HB HE17 B22 B1 ho23 hb23 hrepr hcellr einr
  have HB := n_HB
  clear n_HB
  refine hK.out _ _ ?_
  clear hK K
  refine norm_ (a' := ?_) ?_ ?_
  rotate_left
  · show Act.put _ (some 23) _ = _
    simp only [Act.put, List.setIfInBounds_toArray, List.set_cons_zero, List.set_cons_succ, i64_w, i32_w]
    rfl
  refine pure_ (i := 9) (N := some 8) (v := ?_) (a' := ?_) (lp_no1_lb 10 1023) rfl rfl (any_of HT_.out (by kernel_rfl)) (fun _ _ _ h => h) (Or.inl ⟨by rfl, ?_⟩) ?_ ?_; rotate_left
  · intro w'; go_simp; with_reducible rfl
  rotate_left
  · simp only [Act.put, List.setIfInBounds_toArray, List.set_cons_zero, List.set_cons_succ, i64_w, i32_w]; rfl
  refine done_ (done_of HT_.out (by kernel_rfl)) ?_
  have hX := HXB1.out
  subst hX
  clear HXB1
  go_upto_region 6 with (first | (refine ev_app0 (W0 := W) (A := A) (c := c) (l := h) rfl (.tmp 24) (.tmp 25) rfl HR.out HB.out rfl rfl (by have := HH.out; omega) ?_; intro v26 w5_ ho26 hbk; have hM : ∃ M, W.heap.size ≤ M ∧ (∀ k, (v23 : Value).ownBlock = some k → k < M) ∧ OE W w5_ M v26 h := ⟨_, HB.out.size, fun k hk => (oe_blk HE23.out k hk).2, ho26⟩; have n_HB := Aside0.mk (below_step HB.out hbk); have n_HE23 := Aside0.mk (OE.below HE23.out hbk); clear HB HE23; have HB := n_HB; have HE23 := n_HE23; clear n_HB n_HE23; obtain ⟨M, hm1, hm2, hm3⟩ := hM; have HM := Aside0.mk (And.intro hm1 hm2); have HE26 := Aside0.mk hm3; clear ho26 hbk hm1 hm2 hm3))
  obtain ⟨g26, c26, e26, hg26, _⟩ := HE26.out.form (by have := HK.out; omega)
  subst e26
  have HG26 := Aside0.mk (show W.heap.size ≤ g26 from Nat.le_trans HM.out.1 hg26)
  have HNE := Aside0.mk (show ∀ q, (v23 : Value).ownBlock = some q → q ≠ g26 from fun q hq => by have := HM.out.2 q hq; omega)
  clear hg26
  obtain ⟨A8, c8, e8, _, _⟩ := HE23.out.C HB.out
  obtain ⟨m8, hm8⟩ : ∃ m, m = (h ++ [(⟨9, 0, n, -1, 0, ⟨a0, a1, a2, a3⟩, ⟨0, false, 0, []⟩⟩ : S44)]).length := ⟨_, rfl⟩
  rw [← hm8] at e8
  subst e8
  have HM8 := Aside0.mk hm8.symm
  clear hm8
  go_wp2_with (first | (refine ev_offstore (W0 := W) (k := k) rfl rfl (p := .tmp 37) (x := .const (.int .i64 (-1))) rfl (g := g26) (cap := c26) (l := h) (N := M) rfl rfl HK.out HE26.out ?_; intro w6_ ho27 hgr; have n_HB := Aside0.mk (HB.out.grown hgr HB.out.size (fun k hk => by cases hk; exact HG26.out)); have HE27 := Aside0.mk ho27; have n_HE23 := Aside0.mk (OE.grown_ne HE23.out hgr HNE.out); clear HB HE23 HE26 ho27 hgr; have HB := n_HB; have HE23 := n_HE23; clear n_HB n_HE23) | (go_at_call 17; (with_reducible refine (li_legal_at false h.length A c h rfl (by have := HH.out; omega) HL.out _ (Kd.C_below HR.out HB.out)).mono ?_); rintro e u7_ ⟨rfl, hbk⟩; have n_HB := Aside0.mk (below_step HB.out hbk); have n_HE23 := Aside0.mk (OE.below HE23.out hbk); have n_HE27 := Aside0.mk (OE.below HE27.out hbk); clear HB HE23 HE27; have HB := n_HB; have HE23 := n_HE23; have HE27 := n_HE27; clear n_HB n_HE23 n_HE27; clear hbk))
  go_ret
  exact ⟨rfl, HB.out⟩
def lp_no0_lb (n m : Nat) : Array Bool := ((List.range n).map (fun i => m.testBit i)).toArray
def lp_no0.T4 : Bool × List (List Nat × List Nat) := (true, [([], []), ([], []), ([0, 1], [0, 1]), ([], []), ([3], [3]), ([], []), ([4, 5], [4, 5]), ([6], [6]), ([2, 7, 2], [2, 7]), ([8, 8, 0, 1, 2, 3, 4, 5, 6, 7, 8], [8])])
def lp_no0.B4 : List Nat := [0, 0, 3, 0, 8, 0, 56, 120, 255, 511]
theorem lp_no0.tab4 : rtab .any (opsOf Try.f6 4) = lp_no0.T4 := by kernel_rfl
theorem lp_no0.bits4 : waitsOk lp_no0.T4.2 lp_no0.B4 = true := by kernel_rfl
set_option maxHeartbeats 8000000 in
set_option maxRecDepth 100000 in
theorem lp_no0 (A : Option Addr) (c : Nat) (h : List S44) (a0 a1 a2 a3 n : Int) (W : World) (hr : Kd.C k44 W A h.length h) (hfew : ∀ W2 : World, Kd.C k44 W2 A h.length h → Calls Try.prog 13 #[.slice A h.length c, .int .i64 6] W2 fun e w' => e = .returned (.bool true) ∧ Below W2.heap.size W2 w') (hh : h.length ≤ 6) (hl : (orderP h).isSome = false) (hn : 0 ≤ n ∧ n ≤ 255) (hz0 : h.length = 0) :
    Calls Try.prog 6 #[.slice A h.length c, .agg #[.int .i64 a0, .int .u64 a1, .int .u64 a2, .int .i64 a3], .int .u8 n] W fun e w' => e = .returned (.bool true) ∧ Below W.heap.size W w' := by
  have HR := Aside0.mk hr
  have HF6 := Aside0.mk hfew
  have HB := Aside0.mk (Below.refl W.heap.size W)
  have HH := Aside0.mk hh
  have HL := Aside0.mk hl
  have HN := Aside0.mk hn
  have hn0 : 0 ≤ n := hn.1
  have hn1 : n ≤ 255 := hn.2
  have hw : IntKind.i64.wrap n = n := by rw [IntKind.wrap_i64]; omega
  have hhb : (h.length : Int) ≤ 6 := by omega
  have hz : h.length = 0 := hz0
  have HZ := Aside0.mk hz
  have hpos : ¬ (0 : Int) < (h.length : Int) := by omega
  clear hz0 hz
  clear hh hl hn
  clear hr hfew
  go_enter Try.func6, Try.ntmps6
  go_upto_region 4 with (first | ((with_reducible refine gate_dst (N := 4) rfl ?_); refine box_event ?hg50 (N := 4) ?hd50 (cs := #[.int .i64 a0, .int .u64 a1, .int .u64 a2, .int .i64 a3]) (t := 25) ?hr50 ?_; (case hd50 => rfl); (case hg50 => rfl); (case hr50 => first | (go_simp; done) | (go_simp; rfl)); intro g1 hg w1_ hbox hbk; have HGB1 := Aside0.mk (show W.heap.size ≤ g1 from by rw [hg]; have := HB.out.size; omega); have n_HB := Aside0.mk (below_step HB.out hbk); clear HB; have HB := n_HB; clear n_HB; have B1 := Aside0.mk hbox; clear hbk hbox hg) | (go_at_call 7; (with_reducible refine (li_awake _).mono ?_); rintro e u2_ ⟨rfl, hbk⟩; have n_HB := Aside0.mk (below_step HB.out hbk); have n_B1 := Aside0.mk (blk_below B1.out hbk); clear HB B1; have HB := n_HB; have B1 := n_B1; clear n_HB n_B1; clear hbk) | (go_at_call 13; (with_reducible refine (HF6.out _ (Kd.C_below HR.out HB.out)).mono ?_); rintro e u3_ ⟨rfl, hbk⟩; have n_HB := Aside0.mk (below_step HB.out hbk); have n_B1 := Aside0.mk (blk_below B1.out hbk); clear HB B1; have HB := n_HB; have B1 := n_B1; clear n_HB n_B1; clear hbk))
  obtain ⟨XB1, hXB1, hb_B1⟩ := wq_name B1.out
  clear B1
  have B1 := Aside0.mk hb_B1
  have HXB1 := Aside0.mk hXB1
  clear hXB1 hb_B1
  have n_HB := Aside0.mk (below_drew1 HB.out)
  have n_B1 := Aside0.mk (blk_drew B1.out)
  clear HB B1
  have HB := n_HB
  have B1 := n_B1
  clear n_HB n_B1
  refine start_ (n := 10) (S := fun w' => w'.heap[g1]? = some (.cells XB1 25 (0, 0))) (ds := [8]) #[false, false, false, false, false, false, false, false, false, false] (by kernel_rfl) rfl rfl (B1.out) (fun hHeld => ?_); refine with_tabW lp_no0.tab4 lp_no0.bits4 (fun HT_ HW_ => ?_)
  generalize u3_.drew = v4_ at HB B1 hHeld ⊢
  refine pure_ (i := 1) (N := some 16) (v := ?_) (a' := ?_) (lp_no0_lb 10 2) rfl rfl (any_of HT_.out (by kernel_rfl)) (fun _ _ _ h => h) (Or.inl ⟨by rfl, ?_⟩) ?_ ?_; rotate_left
  · intro w'; go_simp; with_reducible rfl
  rotate_left
  · simp only [Act.put, List.setIfInBounds_toArray, List.set_cons_zero, List.set_cons_succ, i64_w, i32_w]; rfl
  refine pure_ (i := 3) (N := some 18) (v := ?_) (a' := ?_) (lp_no0_lb 10 10) rfl rfl (any_of HT_.out (by kernel_rfl)) (fun _ _ _ h => h) (Or.inl ⟨by rfl, ?_⟩) ?_ ?_; rotate_left
  · intro w'; go_simp; with_reducible rfl
  rotate_left
  · simp only [Act.put, List.setIfInBounds_toArray, List.set_cons_zero, List.set_cons_succ, i64_w, i32_w]; rfl
  refine pure_ (i := 4) (N := some 19) (v := ?_) (a' := ?_) (lp_no0_lb 10 26) rfl rfl (any_of HT_.out (by kernel_rfl)) (fun _ _ _ h => h) (Or.inl ⟨by rfl, ?_⟩) ?_ ?_; rotate_left
  · intro w'; go_simp; with_reducible rfl
  rotate_left
  · simp only [Act.put, List.setIfInBounds_toArray, List.set_cons_zero, List.set_cons_succ, i64_w, i32_w]; rfl
  refine take_ (i := 5) (N := some 20) (v := ?_) (a' := ?_) (lp_no0_lb 10 58) rfl rfl (take_ofW HT_.out HW_.out (by kernel_rfl)) (fun _ _ _ h => h) (Or.inl ⟨by rfl, ?_⟩) hHeld ?_ ?_; rotate_left
  · intro w' s0; refine Eq.trans (wq_run_loadA (ty := 25) (p := .tmp 4) (g := g1) (i := 0) (k := 4) (vs := ?vs62) ?ho62 ?hp62 Try.underlying25 ?hd62 ?hi62 s0 ?hv62 ?hk62) ?fin62; (case hd62 => rfl); (case hi62 => kernel_rfl); (case ho62 => rfl); (case hp62 => rfl); (case hv62 => rewrite [HXB1.out]; simp only [List.drop_succ_cons, List.drop_zero, List.take_succ_cons, List.take_zero, List.take_nil, List.drop_nil]; with_reducible rfl); (case hk62 => rfl); (case fin62 => with_reducible rfl)
  rotate_left
  · simp only [Act.put, List.setIfInBounds_toArray, List.set_cons_zero, List.set_cons_succ, i64_w, i32_w]; rfl
  refine pure_ (i := 6) (N := some 21) (v := ?_) (a' := ?_) (lp_no0_lb 10 122) rfl rfl (any_of HT_.out (by kernel_rfl)) (fun _ _ _ h => h) (Or.inl ⟨by rfl, ?_⟩) ?_ ?_; rotate_left
  · intro w'; go_simp; with_reducible rfl
  rotate_left
  · simp only [Act.put, List.setIfInBounds_toArray, List.set_cons_zero, List.set_cons_succ, i64_w, i32_w]; rfl
  refine join_ (σ := Nat × Value × Nat) 2 (lp_no0_lb 10 255) (fun s => [(15, .slice (some ⟨s.1, 0, none⟩) 0 0), (17, s.2.1), (22, .slice (some ⟨s.2.2, 0, none⟩) 1 1)]) (fun s w' => Aside0 (OE W w' W.heap.size s.2.1 h) ∧ Aside0 (w'.heap[s.2.2]? = some (.cells #[.int .i64 9, .int .i64 0, .int .i64 n, .int .i64 (-1), .int .i64 0, .int .i64 a0, .int .u64 a1, .int .u64 a2, .int .i64 a3, .int .i64 0, .bool false, .int .u64 0, .slice none 0 0] 44 (0, 0))) ∧ Aside0 (w'.heap[g1]? = some (.cells XB1 25 (0, 0))) ∧ Aside0 (Below W.heap.size W w')) ?_ ?_
  rotate_left
  · intro hCont
    refine two_ (i := 0) (j := 7) (Ni := some 15) (Nj := some 22) (lp_no0_lb 10 123) (lp_no0_lb 10 250) rfl rfl rfl rfl (two_of HT_.out (by kernel_rfl)) (by decide) (by decide) (fun K hK => ?_) (fun K hK => ?_)
    · skip
      refine ev_stepnil (W0 := W) (N := W.heap.size) ?hw54 ?hN54 HB.out.size ?hr54 rfl ?_
      case hw54 => rfl
      case hN54 => rfl
      case hr54 => first | (go_simp; done) | (go_simp; rfl)
      intro g15 f1_ hg ho15 hbk
      have HN4 := Aside0.mk (show g1 ≠ g15 from by rw [hg]; exact Nat.ne_of_lt (blk_lt B1.out))
      have n_HB := Aside0.mk (below_step HB.out hbk)
      have n_B1 := Aside0.mk (blk_below B1.out hbk)
      clear HB B1
      have HB := n_HB
      have B1 := n_B1
      clear n_HB n_B1
      have HE15 := Aside0.mk ho15
      have HS15 := Aside0.mk (show g15 < f1_.heap.size from oe_lt ho15)
      clear ho15 hbk hg
      refine hK.out _ _ (B1.out) (fun hHeld => ?_)
      clear hK K
      refine norm_ (a' := ?_) ?_ ?_
      rotate_left
      · show Act.put _ (some 15) _ = _
        simp only [Act.put, List.setIfInBounds_toArray, List.set_cons_zero, List.set_cons_succ, i64_w, i32_w]
        rfl
      refine two_ (i := 2) (j := 7) (Ni := some 17) (Nj := some 22) (lp_no0_lb 10 127) (lp_no0_lb 10 251) rfl rfl rfl rfl (two_of HT_.out (by kernel_rfl)) (by decide) (by decide) (fun K hK => ?_) (fun K hK => ?_)
      · skip
        refine ev_stepapp (g := g15) (A := A) (c := c) (l := h) (.tmp 15) (.tmp 16) ?hw55 ?hN55 ?ho55 ?hx55 ?hv55 HR.out HB.out HE15.out HB.out.size (by have := HH.out; omega) ?_
        case hw55 => rfl
        case hN55 => rfl
        case ho55 => rfl
        case hx55 => rfl
        case hv55 => rfl
        intro v17 f2_ ho17 hb17 hgr17
        have n_HB := Aside0.mk (HB.out.trans hb17)
        have n_B1 := Aside0.mk (wq_blk B1.out hgr17 HN4.out)
        have HE17 := Aside0.mk ho17
        clear ho17 hb17 hgr17 HB HE15 HS15 B1
        have HB := n_HB
        have B1 := n_B1
        clear n_HB n_B1
        refine hK.out _ _ (B1.out) (fun hHeld => ?_)
        clear hK K
        refine norm_ (a' := ?_) ?_ ?_
        rotate_left
        · show Act.put _ (some 17) _ = _
          simp only [Act.put, List.setIfInBounds_toArray, List.set_cons_zero, List.set_cons_succ, i64_w, i32_w]
          rfl
        refine one_ (i := 7) (N := some 22) (lp_no0_lb 10 255) rfl rfl (one_of HT_.out (by kernel_rfl)) (by decide) (fun K hK => ?_)
        refine ev_steprow (cs := #[.int .i64 9, .int .i64 0, .int .i64 n, .int .i64 (-1), .int .i64 0, .int .i64 a0, .int .u64 a1, .int .u64 a2, .int .i64 a3, .int .i64 0, .bool false, .int .u64 0, .slice none 0 0]) (t := 44) (m := 1) ?hw56 ?hN56 ?hr56 ?_
        case hw56 => rfl
        case hN56 => rfl
        case hr56 => first | (go_simp; done) | (go_simp; rfl)
        intro g22 f3_ hg hb22 hbk
        have n_HB := Aside0.mk (below_step HB.out hbk)
        have n_HE17 := Aside0.mk (OE.below HE17.out hbk)
        have n_B1 := Aside0.mk (blk_below B1.out hbk)
        clear HB HE17 B1
        have HB := n_HB
        have HE17 := n_HE17
        have B1 := n_B1
        clear n_HB n_HE17 n_B1
        have B22 := Aside0.mk hb22
        clear hb22 hbk hg
        refine hK.out _ _ (B1.out) (fun hHeld => ?_)
        clear hK K
        refine norm_ (a' := ?_) ?_ ?_
        rotate_left
        · show Act.put _ (some 22) _ = _
          simp only [Act.put, List.setIfInBounds_toArray, List.set_cons_zero, List.set_cons_succ, i64_w, i32_w]
          rfl
        exact norm_ (by simp only [putAll, Act.put, List.setIfInBounds_toArray, List.set_cons_zero, List.set_cons_succ]) (hCont (g15, v17, g22) _ ⟨HE17, B22, B1, HB⟩)
      · skip
        refine ev_steprow (cs := #[.int .i64 9, .int .i64 0, .int .i64 n, .int .i64 (-1), .int .i64 0, .int .i64 a0, .int .u64 a1, .int .u64 a2, .int .i64 a3, .int .i64 0, .bool false, .int .u64 0, .slice none 0 0]) (t := 44) (m := 1) ?hw57 ?hN57 ?hr57 ?_
        case hw57 => rfl
        case hN57 => rfl
        case hr57 => first | (go_simp; done) | (go_simp; rfl)
        intro g22 f4_ hg hb22 hbk
        have HN22 := Aside0.mk (show g22 ≠ g15 from by rw [hg]; exact Nat.ne_of_gt HS15.out)
        have n_HB := Aside0.mk (below_step HB.out hbk)
        have n_HE15 := Aside0.mk (OE.below HE15.out hbk)
        have n_HS15 := Aside0.mk (Nat.lt_of_lt_of_le HS15.out hbk.size)
        have n_B1 := Aside0.mk (blk_below B1.out hbk)
        clear HB HE15 HS15 B1
        have HB := n_HB
        have HE15 := n_HE15
        have HS15 := n_HS15
        have B1 := n_B1
        clear n_HB n_HE15 n_HS15 n_B1
        have B22 := Aside0.mk hb22
        clear hb22 hbk hg
        refine hK.out _ _ (B1.out) (fun hHeld => ?_)
        clear hK K
        refine norm_ (a' := ?_) ?_ ?_
        rotate_left
        · show Act.put _ (some 22) _ = _
          simp only [Act.put, List.setIfInBounds_toArray, List.set_cons_zero, List.set_cons_succ, i64_w, i32_w]
          rfl
        refine one_ (i := 2) (N := some 17) (lp_no0_lb 10 255) rfl rfl (one_of HT_.out (by kernel_rfl)) (by decide) (fun K hK => ?_)
        refine ev_stepapp (g := g15) (A := A) (c := c) (l := h) (.tmp 15) (.tmp 16) ?hw58 ?hN58 ?ho58 ?hx58 ?hv58 HR.out HB.out HE15.out HB.out.size (by have := HH.out; omega) ?_
        case hw58 => rfl
        case hN58 => rfl
        case ho58 => rfl
        case hx58 => rfl
        case hv58 => rfl
        intro v17 f5_ ho17 hb17 hgr17
        have n_HB := Aside0.mk (HB.out.trans hb17)
        have n_B1 := Aside0.mk (wq_blk B1.out hgr17 HN4.out)
        have n_B22 := Aside0.mk (wq_blk B22.out hgr17 HN22.out)
        have HE17 := Aside0.mk ho17
        clear ho17 hb17 hgr17 HB HE15 HS15 B1 B22
        have HB := n_HB
        have B1 := n_B1
        have B22 := n_B22
        clear n_HB n_B1 n_B22
        refine hK.out _ _ (B1.out) (fun hHeld => ?_)
        clear hK K
        refine norm_ (a' := ?_) ?_ ?_
        rotate_left
        · show Act.put _ (some 17) _ = _
          simp only [Act.put, List.setIfInBounds_toArray, List.set_cons_zero, List.set_cons_succ, i64_w, i32_w]
          rfl
        exact norm_ (by simp only [putAll, Act.put, List.setIfInBounds_toArray, List.set_cons_zero, List.set_cons_succ]) (hCont (g15, v17, g22) _ ⟨HE17, B22, B1, HB⟩)
    · skip
      refine ev_steprow (cs := #[.int .i64 9, .int .i64 0, .int .i64 n, .int .i64 (-1), .int .i64 0, .int .i64 a0, .int .u64 a1, .int .u64 a2, .int .i64 a3, .int .i64 0, .bool false, .int .u64 0, .slice none 0 0]) (t := 44) (m := 1) ?hw59 ?hN59 ?hr59 ?_
      case hw59 => rfl
      case hN59 => rfl
      case hr59 => first | (go_simp; done) | (go_simp; rfl)
      intro g22 f6_ hg hb22 hbk
      have n_HB := Aside0.mk (below_step HB.out hbk)
      have n_B1 := Aside0.mk (blk_below B1.out hbk)
      clear HB B1
      have HB := n_HB
      have B1 := n_B1
      clear n_HB n_B1
      have B22 := Aside0.mk hb22
      clear hb22 hbk hg
      refine hK.out _ _ (B1.out) (fun hHeld => ?_)
      clear hK K
      refine norm_ (a' := ?_) ?_ ?_
      rotate_left
      · show Act.put _ (some 22) _ = _
        simp only [Act.put, List.setIfInBounds_toArray, List.set_cons_zero, List.set_cons_succ, i64_w, i32_w]
        rfl
      refine one_ (i := 0) (N := some 15) (lp_no0_lb 10 251) rfl rfl (one_of HT_.out (by kernel_rfl)) (by decide) (fun K hK => ?_)
      refine ev_stepnil (W0 := W) (N := W.heap.size) ?hw60 ?hN60 HB.out.size ?hr60 rfl ?_
      case hw60 => rfl
      case hN60 => rfl
      case hr60 => first | (go_simp; done) | (go_simp; rfl)
      intro g15 f7_ hg ho15 hbk
      have HN4 := Aside0.mk (show g1 ≠ g15 from by rw [hg]; exact Nat.ne_of_lt (blk_lt B1.out))
      have HN22 := Aside0.mk (show g22 ≠ g15 from by rw [hg]; exact Nat.ne_of_lt (blk_lt B22.out))
      have n_HB := Aside0.mk (below_step HB.out hbk)
      have n_B1 := Aside0.mk (blk_below B1.out hbk)
      have n_B22 := Aside0.mk (blk_below B22.out hbk)
      clear HB B1 B22
      have HB := n_HB
      have B1 := n_B1
      have B22 := n_B22
      clear n_HB n_B1 n_B22
      have HE15 := Aside0.mk ho15
      have HS15 := Aside0.mk (show g15 < f7_.heap.size from oe_lt ho15)
      clear ho15 hbk hg
      refine hK.out _ _ (B1.out) (fun hHeld => ?_)
      clear hK K
      refine norm_ (a' := ?_) ?_ ?_
      rotate_left
      · show Act.put _ (some 15) _ = _
        simp only [Act.put, List.setIfInBounds_toArray, List.set_cons_zero, List.set_cons_succ, i64_w, i32_w]
        rfl
      refine one_ (i := 2) (N := some 17) (lp_no0_lb 10 255) rfl rfl (one_of HT_.out (by kernel_rfl)) (by decide) (fun K hK => ?_)
      refine ev_stepapp (g := g15) (A := A) (c := c) (l := h) (.tmp 15) (.tmp 16) ?hw61 ?hN61 ?ho61 ?hx61 ?hv61 HR.out HB.out HE15.out HB.out.size (by have := HH.out; omega) ?_
      case hw61 => rfl
      case hN61 => rfl
      case ho61 => rfl
      case hx61 => rfl
      case hv61 => rfl
      intro v17 f8_ ho17 hb17 hgr17
      have n_HB := Aside0.mk (HB.out.trans hb17)
      have n_B1 := Aside0.mk (wq_blk B1.out hgr17 HN4.out)
      have n_B22 := Aside0.mk (wq_blk B22.out hgr17 HN22.out)
      have HE17 := Aside0.mk ho17
      clear ho17 hb17 hgr17 HB HE15 HS15 B1 B22
      have HB := n_HB
      have B1 := n_B1
      have B22 := n_B22
      clear n_HB n_B1 n_B22
      refine hK.out _ _ (B1.out) (fun hHeld => ?_)
      clear hK K
      refine norm_ (a' := ?_) ?_ ?_
      rotate_left
      · show Act.put _ (some 17) _ = _
        simp only [Act.put, List.setIfInBounds_toArray, List.set_cons_zero, List.set_cons_succ, i64_w, i32_w]
        rfl
      exact norm_ (by simp only [putAll, Act.put, List.setIfInBounds_toArray, List.set_cons_zero, List.set_cons_succ]) (hCont (g15, v17, g22) _ ⟨HE17, B22, B1, HB⟩)
  clear HB B1 hHeld
  rintro ⟨g15, v17, g22⟩ w9_ ⟨HE17, B22, B1, HB⟩
  have hHeld := (show w9_.heap[g1]? = some (.cells XB1 25 (0, 0)) from B1.out)
  refine norm_ (a' := ?_) ?_ ?_
  rotate_left
  · simp only [putAll, Act.put, List.setIfInBounds_toArray, List.set_cons_zero, List.set_cons_succ]
    rfl
  refine last_ (i := 8) (N := some 23) (lp_no0_lb 10 511) rfl rfl (one_of HT_.out (by kernel_rfl)) (by decide) (fun K hK => ?_)
  obtain ⟨inr, einr, hrepr, hcellr⟩ := ev_new (W0 := W) (w := w9_) (⟨9, 0, n, -1, 0, ⟨a0, a1, a2, a3⟩, ⟨0, false, 0, []⟩⟩ : S44) rfl
  refine ev_stepone (W0 := W) (N := W.heap.size) (v := v17) (xs := h) (ys := [(⟨9, 0, n, -1, 0, ⟨a0, a1, a2, a3⟩, ⟨0, false, 0, []⟩⟩ : S44)]) (ad := ⟨g22, 0, none⟩) (m := 1) (c := 1) (inner := inr) (.tmp 17) (.tmp 22) ?hw53 ?hN53 ?ho53 ?hx53 ?hv53 HE17.out HB.out.size rfl hrepr (hcellr g22 (by rw [einr]; exact B22.out)) (by have := HH.out; omega) (by simp) ?_
  case hw53 => rfl
  case hN53 => rfl
  case ho53 => rfl
  case hx53 => rfl
  case hv53 => rfl
  intro v23 w10_ ho23 hb23
  have n_HB := Aside0.mk (HB.out.trans hb23)
  have HE23 := Aside0.mk ho23
  clear HB HE17 B22 B1 ho23 hb23 hrepr hcellr einr
  have HB := n_HB
  clear n_HB
  refine hK.out _ _ ?_
  clear hK K
  refine norm_ (a' := ?_) ?_ ?_
  rotate_left
  · show Act.put _ (some 23) _ = _
    simp only [Act.put, List.setIfInBounds_toArray, List.set_cons_zero, List.set_cons_succ, i64_w, i32_w]
    rfl
  refine pure_ (i := 9) (N := some 8) (v := ?_) (a' := ?_) (lp_no0_lb 10 1023) rfl rfl (any_of HT_.out (by kernel_rfl)) (fun _ _ _ h => h) (Or.inl ⟨by rfl, ?_⟩) ?_ ?_; rotate_left
  · intro w'; go_simp; with_reducible rfl
  rotate_left
  · simp only [Act.put, List.setIfInBounds_toArray, List.set_cons_zero, List.set_cons_succ, i64_w, i32_w]; rfl
  refine done_ (done_of HT_.out (by kernel_rfl)) ?_
  have hX := HXB1.out
  subst hX
  clear HXB1
  go_upto_region 6 with (first | (refine ev_app0 (W0 := W) (A := A) (c := c) (l := h) rfl (.tmp 24) (.tmp 25) rfl HR.out HB.out rfl rfl (by have := HH.out; omega) ?_; intro v26 w5_ ho26 hbk; have hM : ∃ M, W.heap.size ≤ M ∧ (∀ k, (v23 : Value).ownBlock = some k → k < M) ∧ OE W w5_ M v26 h := ⟨_, HB.out.size, fun k hk => (oe_blk HE23.out k hk).2, ho26⟩; have n_HB := Aside0.mk (below_step HB.out hbk); have n_HE23 := Aside0.mk (OE.below HE23.out hbk); clear HB HE23; have HB := n_HB; have HE23 := n_HE23; clear n_HB n_HE23; obtain ⟨M, hm1, hm2, hm3⟩ := hM; have HM := Aside0.mk (And.intro hm1 hm2); have HE26 := Aside0.mk hm3; clear ho26 hbk hm1 hm2 hm3))
  obtain ⟨A26, c26, e26, _, _⟩ := HE26.out.C HB.out
  subst e26
  obtain ⟨A8, c8, e8, _, _⟩ := HE23.out.C HB.out
  obtain ⟨m8, hm8⟩ : ∃ m, m = (h ++ [(⟨9, 0, n, -1, 0, ⟨a0, a1, a2, a3⟩, ⟨0, false, 0, []⟩⟩ : S44)]).length := ⟨_, rfl⟩
  rw [← hm8] at e8
  subst e8
  have HM8 := Aside0.mk hm8.symm
  clear hm8
  go_wp2_with (first | (go_at_call 17; (with_reducible refine (li_legal_at false h.length A c h rfl (by have := HH.out; omega) HL.out _ (Kd.C_below HR.out HB.out)).mono ?_); rintro e u6_ ⟨rfl, hbk⟩; have n_HB := Aside0.mk (below_step HB.out hbk); have n_HE23 := Aside0.mk (OE.below HE23.out hbk); have n_HE26 := Aside0.mk (OE.below HE26.out hbk); clear HB HE23 HE26; have HB := n_HB; have HE23 := n_HE23; have HE26 := n_HE26; clear n_HB n_HE23 n_HE26; clear hbk))
  go_ret
  exact ⟨rfl, HB.out⟩
theorem li_LinPending (A : Option Addr) (c : Nat) (h : List S44) (a0 a1 a2 a3 n : Int) (hn : 0 ≤ n ∧ n ≤ 255) (W : World) (hr : Kd.C k44 W A h.length h) (hc : h.length ≤ c) : Calls Try.prog 6 #[.slice A h.length c, .agg #[.int .i64 a0, .int .u64 a1, .int .u64 a2, .int .i64 a3], .int .u8 n] W fun e w' => e = .returned (.bool true) ∧ Below W.heap.size W w' := by
  obtain ⟨z, hz, hF⟩ := li_Few A c h 6 (by decide) hc W hr
  cases z with
  | false => exact lp_few A c h a0 a1 a2 a3 n W hr hF
  | true =>
    rcases Nat.eq_zero_or_pos h.length with h0 | h0
    · cases ho : (orderP h).isSome with
      | true => exact lp_yes0 A c h a0 a1 a2 a3 n W hr hF (hz rfl) ho hn h0
      | false => exact lp_no0 A c h a0 a1 a2 a3 n W hr hF (hz rfl) ho hn h0
    · have hmod : n % (h.length : Int) = ((n.toNat % h.length : Nat) : Int) := by
        rw [Int.natCast_emod, Int.toNat_of_nonneg hn.1]
      have hk : n.toNat % h.length < h.length := Nat.mod_lt _ h0
      cases ho : (orderP h).isSome with
      | true => exact lp_yes1 A c h a0 a1 a2 a3 n W hr hF (hz rfl) ho hn _ hk hmod
      | false => exact lp_no1 A c h a0 a1 a2 a3 n W hr hF (hz rfl) ho hn _ hk hmod

def corrielaw21_LinPending.f (l0 : List S44) (a1_0 a1_1 a1_2 a1_3 : Int) (a2 : Int) : Option Bool := if 0 ≤ a2 ∧ a2 ≤ 255 then some true else none
theorem corrielaw21_LinPending.calls (A0 : Option Addr) (c0 : Nat) (l0 : List S44) (a1_0 a1_1 a1_2 a1_3 : Int) (a2 : Int) (r : Bool) (w : World) (hr0 : Kd.C k44 w A0 l0.length l0) (hc0 : l0.length ≤ c0) (h : corrielaw21_LinPending.f l0 a1_0 a1_1 a1_2 a1_3 a2 = some r) :
    Calls Try.prog 6 #[.slice A0 l0.length c0, .agg #[.int .i64 a1_0, .int .u64 a1_1, .int .u64 a1_2, .int .i64 a1_3], .int .u8 a2] w fun e w' => e = .returned (.bool r) ∧ Below w.heap.size w w' := by
  unfold corrielaw21_LinPending.f at h
  split at h
  · rename_i hn
    cases h
    exact li_LinPending A0 c0 l0 a1_0 a1_1 a1_2 a1_3 a2 hn w hr0 hc0
  · cases h


end Go.Proofs.Ytcleoahoppggmaa.PLinPending
