-- Written by a program of this session: a variant of the print that takes proofs by hand (wip/tools/mkprint.py)
import Derived.Test.YtcleoahoppggmaaPLinAlonex0
import Derived.Test.YtcleoahoppggmaaPLinAlonex2
import Derived.Test.YtcleoahoppggmaaPLinAlonex3
import Derived.Test.YtcleoahoppggmaaPLinAlonex4
import Derived.Test.YtcleoahoppggmaaPLinAlonex5
import Derived.Test.YtcleoahoppggmaaPLinAlonex6
namespace Go.Proofs.Ytcleoahoppggmaa.PLinAlone
open Go.RowKit Go.Proofs.YtcleoahoppggmaaW.PrintWords Go.Proofs.YtcleoahoppggmaaW.PrintLast Go.Proofs.YtcleoahoppggmaaW.PrintMore
attribute [local go_sem] max2_int min2_int max_two min_two max_three min_three max_four min_four   -- for this text's walks alone
set_option linter.unusedVariables false
set_option linter.unusedSimpArgs false

/-! ### corrielaw21_LinAlone: function 5 (by hand) -/
def LG (h : List S44) : List Bool → List S53 → List Nat → Prop
  | inb, _, [] => wholeP h inb = true
  | inb, l, n :: s => n < h.length ∧ readyP h inb n = true ∧ tellsP (rd_T44 h (n : Int)) (apD l (rd_T44 h (n : Int)).f5.f0 (rd_T44 h (n : Int)).f5.f1) (apV l (rd_T44 h (n : Int)).f5.f0 (rd_T44 h (n : Int)).f5.f1) = true ∧ LG h (inb.set n true) (apL l (rd_T44 h (n : Int)).f5.f0 (rd_T44 h (n : Int)).f5.f1 (rd_T44 h (n : Int)).f5.f2) s
theorem srch_LG (h : List S44) : ∀ (f : Nat) (turn : List Nat) (inb : List Bool) (l : List S53) (t : List Nat), srch h f turn inb l = some t → ∃ s, t = turn ++ s ∧ LG h inb l s
  | 0, turn, inb, l, t, hs => by rw [srch] at hs; cases hs
  | f + 1, turn, inb, l, t, hs => by
    cases hw : wholeP h inb with
    | true =>
      rw [srch_whole hw] at hs
      cases hs
      exact ⟨[], (List.append_nil _).symm, hw⟩
    | false =>
      rw [srch_try hw] at hs
      obtain ⟨n, hn, hg⟩ := List.exists_of_findSome?_eq_some hs
      rw [List.mem_range] at hn
      unfold try1 at hg
      simp only at hg
      split at hg
      · rename_i hrd
        split at hg
        · rename_i htl
          obtain ⟨s, e, hl⟩ := srch_LG h f _ _ _ t hg
          exact ⟨n :: s, by rw [e, List.append_assoc]; rfl, hn, hrd, htl, hl⟩
        · cases hg
      · cases hg
theorem LG_srch (h : List S44) : ∀ (f : Nat) (turn : List Nat) (inb : List Bool) (l : List S53) (s : List Nat), inb.length = h.length → inb.count false < f → LG h inb l s → ∃ t, srch h f turn inb l = some t
  | 0, turn, inb, l, s, _, hf, _ => absurd hf (Nat.not_lt_zero _)
  | f + 1, turn, inb, l, s, hin, hf, hl => by
    cases hw : wholeP h inb with
    | true => exact ⟨turn, srch_whole hw⟩
    | false =>
      cases s with
      | nil =>
        have h2 : wholeP h inb = true := hl
        rw [hw] at h2
        cases h2
      | cons n s =>
        obtain ⟨h1, h2, h3, h4⟩ := hl
        have hc := count_set (inb := inb) (by omega) (ready_in h2).1
        obtain ⟨t, ht⟩ := LG_srch h f (turn ++ [n]) _ _ s (by rw [List.length_set]; exact hin) (by omega) h4
        have hg : try1 h f turn inb l n = some t := (try_on rfl h2 h3).trans ht
        rw [srch_try hw]
        cases hs : (List.range h.length).findSome? (try1 h f turn inb l) with
        | some t2 => exact ⟨t2, rfl⟩
        | none =>
          rw [List.findSome?_eq_none_iff] at hs
          have := hs n (List.mem_range.mpr h1)
          rw [hg] at this
          cases this
def none0 (h : List S44) : List Bool := List.replicate h.length false
theorem order_LG {h : List S44} {t : List Nat} (hs : orderP h = some t) : LG h (none0 h) [] t := by
  obtain ⟨s, e, hl⟩ := srch_LG h _ _ _ _ t hs
  rw [e, List.nil_append]
  exact hl
theorem LG_order {h : List S44} {s : List Nat} (hl : LG h (none0 h) [] s) : (orderP h).isSome = true := by
  obtain ⟨t, ht⟩ := LG_srch h (h.length + 1) [] (none0 h) [] s (by simp [none0]) (by simp [none0]) hl
  unfold orderP
  unfold none0 at ht
  rw [ht]
  rfl
theorem ready_un {h : List S44} {inb : List Bool} {n i : Nat} (h1 : readyP h inb n = true) (hi : i < h.length) : readyB h inb n i = false := by
  unfold readyP at h1
  rw [Bool.and_eq_true, List.all_eq_true] at h1
  have := h1.2 i (List.mem_range.mpr hi)
  simpa using this
theorem whole_un {h : List S44} {inb : List Bool} {i : Nat} (h1 : wholeP h inb = true) (hi : i < h.length) : wholeB h inb i = false := by
  unfold wholeP at h1
  rw [List.all_eq_true] at h1
  have := h1 i (List.mem_range.mpr hi)
  simpa using this
theorem inA_set {inb : List Bool} {n i : Nat} {b : Bool} (hn : n < inb.length) : inA (inb.set n b) i = if i = n then b else inA inb i := by
  unfold inA
  rw [List.getD_eq_getElem?_getD, List.getElem?_set]
  by_cases c : n = i
  · subst c
    rw [if_pos rfl, if_pos hn, if_pos rfl]
    rfl
  · rw [if_neg c, if_neg (Ne.symm c), List.getD_eq_getElem?_getD]

def OE (W0 w : World) (N : Nat) (v : Value) (l : List S44) : Prop := ∃ inner, w.ownsRow N 44 13 v l.length inner ∧ Reps (k44.K W0) 13 l inner
theorem OE.nil (W0 w : World) (N : Nat) : OE W0 w N (.slice none 0 0) [] := ⟨[], ⟨rfl, .inl ⟨rfl, rfl⟩⟩, Reps.none _ _⟩
theorem OE.C {W0 w : World} {N : Nat} {v : Value} {l : List S44} (h : OE W0 w N v l) (hb : Below W0.heap.size W0 w) : ∃ A c, v = .slice A l.length c ∧ l.length ≤ c ∧ Kd.C k44 w A l.length l := by
  obtain ⟨inner, hown, hrep⟩ := h
  obtain ⟨A, c, e, hr⟩ := own_reads_row hown (hrep.imp_ (R' := k44.K w) (fun _ _ hp => k44.K_below hb hp)) rfl
  refine ⟨A, c, e, ?_, hr⟩
  rcases hown.2 with ⟨h1, h2⟩ | ⟨g, cap, cur, h1, _, _, h2, _⟩
  · omega
  · rw [h1] at e
    injection e with _ _ e3
    omega
theorem ownsRow_below {w w' : World} {N : Nat} {e : TypeId} {sz n : Nat} {v : Value} {xs : List Value} (h : w.ownsRow N e sz v n xs) (hb : Below w.heap.size w w') : w'.ownsRow N e sz v n xs := by
  refine ⟨h.1, ?_⟩
  rcases h.2 with h1 | ⟨g, cap, cur, h1, h2, h3, h4⟩
  · exact .inl h1
  · exact .inr ⟨g, cap, cur, h1, h2, blk_below h3 hb, h4⟩
theorem OE.below {W0 w w' : World} {N : Nat} {v : Value} {l : List S44} (h : OE W0 w N v l) (hb : Below w.heap.size w w') : OE W0 w' N v l := by
  obtain ⟨inner, hown, hrep⟩ := h
  exact ⟨inner, ownsRow_below hown hb, hrep⟩
theorem OE.grown_ne {W0 w w1 : World} {N g : Nat} {v : Value} {l : List S44} (h : OE W0 w N v l) (hg : w.grownBy w1 (some g)) (hne : ∀ k, v.ownBlock = some k → k ≠ g) : OE W0 w1 N v l := by
  obtain ⟨inner, hown, hrep⟩ := h
  refine ⟨inner, ⟨hown.1, ?_⟩, hrep⟩
  rcases hown.2 with h1 | ⟨g', cap, cur, h1, h2, h3, h4⟩
  · exact .inl h1
  · exact .inr ⟨g', cap, cur, h1, h2, wq_blk h3 hg (hne g' (by rw [h1]; rfl)), h4⟩
/-- the cells of a row of events that came in -/
theorem evs_cells {W : World} {ad : Addr} {l : List S44} (h : Kd.C k44 W (some ad) l.length l) : ∃ inner, Reps (k44.K W) 13 l inner ∧ ∀ j u, inner[j]? = some u → W.cell? (ad.add j) = some u := by
  obtain ⟨inner, hrep, hcell⟩ := ReadsRow.inner_ (show ReadsRow (k44.K W) 13 W (some ad) l.length l from h)
  exact ⟨inner, hrep, hcell⟩
theorem reps_app {α : Type} {R : α → List Value → Prop} {size : Nat} {xs ys : List α} {cs ds : List Value} (h : Reps R size xs cs) (k : Reps R size ys ds) : Reps R size (xs ++ ys) (cs ++ ds) := by
  refine ⟨by rw [List.length_append, List.length_append, h.1, k.1, Nat.add_mul], fun j p hj => ?_⟩
  rcases Nat.lt_or_ge j xs.length with hl | hl
  · rw [List.getElem?_append_left hl] at hj
    have hle : j * size + size ≤ cs.length := by rw [h.1, ← Nat.succ_mul]; exact Nat.mul_le_mul_right _ hl
    rw [List.drop_append_of_le_length (by omega), List.take_append_of_le_length (by rw [List.length_drop]; omega)]
    exact h.2 j p hj
  · rw [List.getElem?_append_right hl] at hj
    have := k.2 (j - xs.length) p hj
    rw [List.drop_append, List.drop_of_length_le (by rw [h.1]; exact Nat.mul_le_mul_right _ hl), List.nil_append, h.1, ← Nat.sub_mul]
    exact this
theorem ev_runapp {w : World} {o : Oper} {a : Act} (s x : Operand) (ho : o.op = .call { callee := .builtin .append, args := #[s, x], argTypes := #[36, 36] }) {W0 : World} {N : Nat} {v : Value} {xs ys : List S44} {ad : Addr} {m c : Nat} {inner : List Value} {K : Act → World → Prop} {Q : Exit → Act → World → Prop}
    (hs : a.eval s = v) (hx : a.eval x = .slice (some ad) m c) (hown : OE W0 w N v xs) (hN : N ≤ w.heap.size) (hm : ys.length = m) (hrep : Reps (k44.K W0) 13 ys inner) (hcell : ∀ j u, inner[j]? = some u → w.cell? (ad.add j) = some u) (hl1 : xs.length ≤ 10000) (hl2 : ys.length ≤ 10000)
    (h : ∀ v' w', OE W0 w' N v' (xs ++ ys) → Below N w w' → w.grownBy w' v.ownBlock → K (a.put o.dst v') w') : o.wp Try.prog a w K Q := by
  obtain ⟨i0, hi, hz⟩ := Option.map_eq_some_iff.1 hpt_info
  simp only [Prod.mk.injEq] at hz
  obtain ⟨hz0, hz1, hz2⟩ := hz
  obtain ⟨inn, hown1, hrep1⟩ := hown
  subst hm
  refine wp_append_own w s x 36 ho N 44 i0 _ 13 120 Try.underlying36 hi hz0 hz1 hz2 rfl (by decide) v xs.length inn hs hown1 ad ys.length c inner hx hrep.1 hcell (fun u hu => ?_) (by unfold maxLen; omega) (by omega) hN ?_
  · obtain ⟨j, hj⟩ := List.getElem?_of_mem hu
    exact evOne hrep j u hj
  · intro v' w' h1 h2 _
    refine h v' w' ⟨inn ++ inner, by rw [List.length_append]; exact h1, reps_app hrep1 hrep⟩ ((Below.refl N w).grown h2 hN (fun k hk => (World.ownsRow.lt hown1 k hk).1)) h2
section
variable {ops : Array Oper} {rest : List Oper} {o : Oper} {a : Act} {Q : Exit → Act → World → Prop}
theorem ev_app (hgd : o.guard = none) (s x : Operand) (ho : o.op = .call { callee := .builtin .append, args := #[s, x], argTypes := #[36, 36] }) {W0 w : World} {N : Nat} {v : Value} {xs ys : List S44} {ad : Addr} {m c : Nat} {inner : List Value}
    (hs : a.eval s = v) (hx : a.eval x = .slice (some ad) m c) (hown : OE W0 w N v xs) (hN : N ≤ w.heap.size) (hm : ys.length = m) (hrep : Reps (k44.K W0) 13 ys inner) (hcell : ∀ j u, inner[j]? = some u → w.cell? (ad.add j) = some u) (hl1 : xs.length ≤ 10000) (hl2 : ys.length ≤ 10000)
    (h : ∀ v' w', OE W0 w' N v' (xs ++ ys) → Below N w w' → wpList Try.prog ops Q rest (a.put o.dst v') w') : wpList Try.prog ops Q (o :: rest) a w :=
  wpList_plain hgd fun K hK => ev_runapp s x ho hs hx hown hN hm hrep hcell hl1 hl2 (fun v' w' h1 h2 _ => hK _ _ (h v' w' h1 h2))
/-- a row that came in, behind a new empty one -/
theorem ev_app0 (hgd : o.guard = none) (s x : Operand) (ho : o.op = .call { callee := .builtin .append, args := #[s, x], argTypes := #[36, 36] }) {W0 w : World} {A : Option Addr} {c : Nat} {l : List S44} (hr : Kd.C k44 W0 A l.length l) (hb : Below W0.heap.size W0 w)
    (hs : a.eval s = .slice (some ⟨w.heap.size, 0, none⟩) 0 0) (hx : a.eval x = .slice A l.length c) (hl2 : l.length ≤ 10000)
    (h : ∀ v' w', OE W0 w' w.heap.size v' l → Below w.heap.size w w' → wpList Try.prog ops Q rest (a.put o.dst v') w') : wpList Try.prog ops Q (o :: rest) a (w.alloc (.cells #[] 44)) := by
  have hb0 : Below w.heap.size w (w.alloc (.cells #[] 44)) := below_alloc (Below.refl _ _) _
  have ho0 : OE W0 (w.alloc (.cells #[] 44)) w.heap.size (.slice (some ⟨w.heap.size, 0, none⟩) 0 0) [] := ⟨[], World.ownsRow_made w #[] 0 (Nat.le_refl _) (Nat.zero_le _) rfl, Reps.none _ _⟩
  cases A with
  | some ad =>
    obtain ⟨inner, hrep, hcell⟩ := evs_cells hr
    refine ev_app hgd s x ho hs hx ho0 hb0.size rfl hrep (fun j u hj => ?_) (by simp) hl2 (fun v' w' h1 h2 => h v' w' h1 (hb0.trans h2))
    have hx := hcell j u hj
    exact ((below_step hb hb0).cell (World.block_lt_of_cell? W0 _ hx)).trans hx
  | none =>
    have hnil : l = [] := by
      cases l with
      | nil => rfl
      | cons p r =>
        obtain ⟨ad, e, _⟩ := hr.2.2 (by simp)
        cases e
    subst hnil
    obtain ⟨i0, hi, hz⟩ := Option.map_eq_some_iff.1 hpt_info
    refine wpList_plain hgd fun K hK => ?_
    unfold Oper.wp
    have hr2 : (execOp a.eval o).run Try.prog (w.alloc (.cells #[] 44)) = .ok (.value (.slice (some ⟨w.heap.size, 0, none⟩) 0 0)) (w.alloc (.cells #[] 44)) := by
      have hap : ∀ ty, (Builtin.append_ #[36, 36] ty #[.slice (some ⟨w.heap.size, 0, none⟩) 0 0, .slice none 0 c]).run Try.prog (w.alloc (.cells #[] 44)) = .ok (.slice (some ⟨w.heap.size, 0, none⟩) 0 0) (w.alloc (.cells #[] 44)) := by
        intro ty
        simp [Builtin.append_, Sem.run_bind, run_underlying Try.underlying36, sizeOf, typeInfo, hi, Builtin.lenOf, Builtin.firstCells, storeCells]
      unfold execOp
      simp [ho, hs, hx, Sem.run_bind, resolve, invoke, builtin, hap]
    rw [hr2]
    exact hK _ _ (h _ _ ho0 hb0)
end
/-- the row of one event that the call has just laid -/
theorem ev_new {W0 w : World} (p : S44) (hp : p.f6.f3 = []) : ∃ inner, inner = ([.int .i64 p.f0, .int .i64 p.f1, .int .i64 p.f2, .int .i64 p.f3, .int .i64 p.f4, .int .i64 p.f5.f0, .int .u64 p.f5.f1, .int .u64 p.f5.f2, .int .i64 p.f5.f3, .int .i64 p.f6.f0, .bool p.f6.f1, .int .u64 p.f6.f2, .slice none 0 0] : List Value) ∧ Reps (k44.K W0) 13 [p] inner ∧ ∀ g, w.heap[g]? = some (.cells inner.toArray 44 (0, 0)) → ∀ j u, inner[j]? = some u → w.cell? ((⟨g, 0, none⟩ : Addr).add j) = some u := by
  refine ⟨_, rfl, Reps.front ?_ rfl (Reps.none _ _) (List.append_nil _), fun g hg j u hj => ?_⟩
  · have h0 := k44_mk W0 p (A12 := none) (c12 := 0) (by rw [hp]; exact Nat.le_refl _) (by rw [hp]; exact Kd.C_nil _ _)
    rw [hp] at h0
    exact h0
  · rw [wq_add, blk_cell hg]
    simpa using hj
theorem OE.mono {W0 w : World} {N M : Nat} {v : Value} {l : List S44} (h : OE W0 w N v l) (hM : M ≤ N) : OE W0 w M v l := by
  obtain ⟨inner, hown, hrep⟩ := h
  refine ⟨inner, ⟨hown.1, ?_⟩, hrep⟩
  rcases hown.2 with h1 | ⟨g', cap, cur, h1, h2, h3, h4⟩
  · exact .inl h1
  · exact .inr ⟨g', cap, cur, h1, Nat.le_trans hM h2, h3, h4⟩
theorem oe_blk {W0 w : World} {N : Nat} {v : Value} {l : List S44} (h : OE W0 w N v l) : ∀ k, v.ownBlock = some k → N ≤ k ∧ k < w.heap.size := by
  obtain ⟨inner, hown, _⟩ := h
  exact World.ownsRow.lt hown
theorem oe_lt {W0 w : World} {N g n c : Nat} {l : List S44} (h : OE W0 w N (.slice (some ⟨g, 0, none⟩) n c) l) : g < w.heap.size := (oe_blk h g rfl).2
theorem OE.form {W0 w : World} {N : Nat} {v : Value} {l : List S44} (h : OE W0 w N v l) (hl : 0 < l.length) : ∃ g cap, v = .slice (some ⟨g, 0, none⟩) l.length cap ∧ N ≤ g ∧ g < w.heap.size := by
  obtain ⟨inner, hown, hrep⟩ := h
  rcases hown.2 with ⟨h1, h2⟩ | ⟨g', cap, cur, h1, h2, h3, h4⟩
  · omega
  · exact ⟨g', cap, h1, h2, (Array.getElem?_eq_some_iff.mp h3).1⟩
section
variable {ops : Array Oper} {oi : Oper} {a : Act} {w : World} {K : Act → World → Prop} {Q : Exit → Act → World → Prop}
/-- append of a row that came in, as one step of a region that draws -/
theorem ev_stepapp {N' : Option Tmp} (s x : Operand) (hw : Region.wanted oi (yielded ops a.tmps) = true) (hN' : oi.dst = N') (ho : oi.op = .call { callee := .builtin .append, args := #[s, x], argTypes := #[36, 36] }) {W0 : World} {N : Nat} {A : Option Addr} {c : Nat} {l : List S44} {g : Nat}
    (hs : a.eval s = .slice (some ⟨g, 0, none⟩) 0 0) (hx : a.eval x = .slice A l.length c) (hr : Kd.C k44 W0 A l.length l) (hb : Below W0.heap.size W0 w) (hown : OE W0 w N (.slice (some ⟨g, 0, none⟩) 0 0) []) (hN : N ≤ w.heap.size) (hl : l.length ≤ 10000)
    (h : ∀ v' w', OE W0 w' N v' l → Below N w w' → w.grownBy w' (some g) → K (a.put N' v') w') : if Region.wanted oi (yielded ops a.tmps) = true then Oper.wp Try.prog oi a w K Q else K (a.put N' undef) w := by
  rw [if_pos hw]
  subst hN'
  cases A with
  | some ad =>
    obtain ⟨inner, hrep, hcell⟩ := evs_cells hr
    exact ev_runapp s x ho hs hx hown hN rfl hrep (fun j u hj => (hb.cell (World.block_lt_of_cell? W0 _ (hcell j u hj))).trans (hcell j u hj)) (by simp) hl (fun v' w' h1 h2 h3 => h v' w' h1 h2 h3)
  | none =>
    have hnil : l = [] := by
      cases l with
      | nil => rfl
      | cons p r =>
        obtain ⟨ad, e, _⟩ := hr.2.2 (by simp)
        cases e
    subst hnil
    obtain ⟨i0, hi, hz⟩ := Option.map_eq_some_iff.1 hpt_info
    unfold Oper.wp
    have hr2 : (execOp a.eval oi).run Try.prog w = .ok (.value (.slice (some ⟨g, 0, none⟩) 0 0)) w := by
      have hap : ∀ ty, (Builtin.append_ #[36, 36] ty #[.slice (some ⟨g, 0, none⟩) 0 0, .slice none 0 c]).run Try.prog w = .ok (.slice (some ⟨g, 0, none⟩) 0 0) w := by
        intro ty
        simp [Builtin.append_, Sem.run_bind, run_underlying Try.underlying36, sizeOf, typeInfo, hi, Builtin.lenOf, Builtin.firstCells, storeCells]
      unfold execOp
      simp [ho, hs, hx, Sem.run_bind, resolve, invoke, builtin, hap]
    rw [hr2]
    exact h _ _ hown (Below.refl _ _) (wq_grown_self _ _)
theorem ev_stepone {N' : Option Tmp} (s x : Operand) (hw : Region.wanted oi (yielded ops a.tmps) = true) (hN' : oi.dst = N') (ho : oi.op = .call { callee := .builtin .append, args := #[s, x], argTypes := #[36, 36] }) {W0 : World} {N : Nat} {v : Value} {xs ys : List S44} {ad : Addr} {m c : Nat} {inner : List Value}
    (hs : a.eval s = v) (hx : a.eval x = .slice (some ad) m c) (hown : OE W0 w N v xs) (hN : N ≤ w.heap.size) (hm : ys.length = m) (hrep : Reps (k44.K W0) 13 ys inner) (hcell : ∀ j u, inner[j]? = some u → w.cell? (ad.add j) = some u) (hl1 : xs.length ≤ 10000) (hl2 : ys.length ≤ 10000)
    (h : ∀ v' w', OE W0 w' N v' (xs ++ ys) → Below N w w' → K (a.put N' v') w') : if Region.wanted oi (yielded ops a.tmps) = true then Oper.wp Try.prog oi a w K Q else K (a.put N' undef) w := by
  rw [if_pos hw]
  subst hN'
  exact ev_runapp s x ho hs hx hown hN hm hrep hcell hl1 hl2 (fun v' w' h1 h2 _ => h v' w' h1 h2)
theorem ev_stepnil {N' : Option Tmp} {e : TypeId} (hw : Region.wanted oi (yielded ops a.tmps) = true) (hN' : oi.dst = N') {W0 : World} {N : Nat} (hN : N ≤ w.heap.size) (hrun : (execOp a.eval oi).run Try.prog w = .ok (.value (.slice (some ⟨w.heap.size, 0, none⟩) 0 0)) (w.alloc (.cells #[] e))) (he : e = 44)
    (h : ∀ g w', g = w.heap.size → OE W0 w' N (.slice (some ⟨g, 0, none⟩) 0 0) [] → Below w.heap.size w w' → K (a.put N' (.slice (some ⟨g, 0, none⟩) 0 0)) w') : if Region.wanted oi (yielded ops a.tmps) = true then Oper.wp Try.prog oi a w K Q else K (a.put N' undef) w := by
  subst he
  exact value_ hw hN' hrun (h _ _ rfl (OE.mono ⟨[], World.ownsRow_made w #[] 0 (Nat.le_refl _) (Nat.zero_le _) rfl, Reps.none _ _⟩ hN) (below_alloc (Below.refl _ _) _))
theorem ev_steprow {N' : Option Tmp} {cs : Array Value} {t : TypeId} {m : Nat} (hw : Region.wanted oi (yielded ops a.tmps) = true) (hN' : oi.dst = N') (hrun : (execOp a.eval oi).run Try.prog w = .ok (.value (.slice (some ⟨w.heap.size, 0, none⟩) m m)) (w.alloc (.cells cs t)))
    (h : ∀ g w', g = w.heap.size → w'.heap[g]? = some (.cells cs t (0, 0)) → Below w.heap.size w w' → K (a.put N' (.slice (some ⟨g, 0, none⟩) m m)) w') : if Region.wanted oi (yielded ops a.tmps) = true then Oper.wp Try.prog oi a w K Q else K (a.put N' undef) w :=
  value_ hw hN' hrun (h _ _ rfl (blk_new w _) (below_alloc (Below.refl _ _) _))
end

structure AL where
  l : List S53
  right : Bool
  h : List S44
def aDone (l : List S53) (c : S25) (flip : Bool) : Bool := if flip then !(apD l c.f0 c.f1) else apD l c.f0 c.f1
def aPt (c : S25) : Bool := decide (1 ≤ c.f0) && decide (c.f0 ≤ 3)
def aEv (l : List S53) (c : S25) (flip : Bool) (i : Nat) : S44 := ⟨0, 0, 2 * (i : Int), 2 * (i : Int) + 1, 0, c, ⟨0, aDone l c flip, apV l c.f0 c.f1, []⟩⟩
def aNext (s : AL) (c : S25) (flip : Bool) (i : Nat) : AL :=
  ⟨if aPt c = true then apL s.l c.f0 c.f1 c.f2 else s.l, if aPt c = true then s.right && (aDone s.l c flip == apD s.l c.f0 c.f1) else s.right, s.h ++ [aEv s.l c flip i]⟩
def aRun (cs : List S25) (fl : Nat → Bool) : Nat → AL
  | 0 => ⟨[], true, []⟩
  | i + 1 => aNext (aRun cs fl i) (rd_T25 cs (i : Int)) (fl i) i
theorem aRun_len (cs : List S25) (fl : Nat → Bool) : ∀ i, (aRun cs fl i).h.length = i
  | 0 => rfl
  | i + 1 => by
    show ((aRun cs fl i).h ++ [_]).length = i + 1
    rw [List.length_append, aRun_len cs fl i]
    rfl
theorem aRun_rising (cs : List S25) (fl : Nat → Bool) : ∀ i, Rising (aRun cs fl i).l ∧ (aRun cs fl i).l.length ≤ i
  | 0 => ⟨List.Pairwise.nil, Nat.le_refl _⟩
  | i + 1 => by
    have ih := aRun_rising cs fl i
    show Rising (if _ then _ else _) ∧ (if _ then _ else _ : List S53).length ≤ i + 1
    split
    · exact ⟨rising_apL _ _ _ ih.1, by have := apL_len (aRun cs fl i).l (rd_T25 cs (i : Int)).f0 (rd_T25 cs (i : Int)).f1 (rd_T25 cs (i : Int)).f2; omega⟩
    · exact ⟨ih.1, by omega⟩
/-- the events of a longer run begin with those of a shorter one -/
theorem aRun_at (cs : List S25) (fl : Nat → Bool) : ∀ (n i : Nat), i < n → rd_T44 (aRun cs fl n).h (i : Int) = aEv (aRun cs fl i).l (rd_T25 cs (i : Int)) (fl i) i
  | 0, i, h => by omega
  | n + 1, i, h => by
    have hl := aRun_len cs fl n
    have e : (aRun cs fl (n + 1)).h = (aRun cs fl n).h ++ [aEv (aRun cs fl n).l (rd_T25 cs (n : Int)) (fl n) n] := rfl
    unfold rd_T44
    rw [e, Int.toNat_natCast, List.getD_eq_getElem?_getD]
    rcases Nat.lt_or_ge i n with h2 | h2
    · rw [List.getElem?_append_left (by omega), ← List.getD_eq_getElem?_getD]
      have := aRun_at cs fl n i h2
      unfold rd_T44 at this
      rw [Int.toNat_natCast] at this
      exact this
    · have : i = n := by omega
      subst this
      rw [List.getElem?_append_right (by omega), hl, Nat.sub_self]
      rfl
def okAt (cs : List S25) (fl : Nat → Bool) (i : Nat) : Bool := !(aPt (rd_T25 cs (i : Int))) || (aDone (aRun cs fl i).l (rd_T25 cs (i : Int)) (fl i) == apD (aRun cs fl i).l (rd_T25 cs (i : Int)).f0 (rd_T25 cs (i : Int)).f1)
theorem aRun_right (cs : List S25) (fl : Nat → Bool) : ∀ n, (aRun cs fl n).right = (List.range n).all (okAt cs fl)
  | 0 => rfl
  | n + 1 => by
    rw [List.range_succ, List.all_append, ← aRun_right cs fl n]
    show (if aPt (rd_T25 cs (n : Int)) = true then (aRun cs fl n).right && _ else (aRun cs fl n).right) = _
    simp only [List.all_cons, List.all_nil, Bool.and_true, okAt]
    cases h : aPt (rd_T25 cs (n : Int)) <;> simp
theorem la_keep (x : S44) : (!history_Points1.f x) = (decide (x.f5.f0 ≥ 1) && decide (x.f5.f0 ≤ 3) && (x.f6.f0 == 0)) := by
  unfold history_Points1.f
  by_cases h : x.f6.f0 = 0
  · rw [if_pos h]
    by_cases h1 : x.f5.f0 < 1
    · rw [if_pos h1, decide_eq_false (show ¬ x.f5.f0 ≥ 1 by omega)]
      rfl
    · rw [if_neg h1, decide_eq_true (show x.f5.f0 ≥ 1 by omega)]
      by_cases h2 : x.f5.f0 ≤ 3
      · rw [decide_eq_true h2, decide_eq_false (show ¬ 3 < x.f5.f0 by omega)]
        simp [h]
      · rw [decide_eq_false h2, decide_eq_true (show 3 < x.f5.f0 by omega)]
        rfl
  · rw [if_neg h]
    simp [h]
theorem aEv_pt (l : List S53) (c : S25) (flip : Bool) (i : Nat) : isPt (aEv l c flip i) = aPt c := by
  unfold isPt
  rw [la_keep]
  unfold aEv aPt
  simp only [ge_iff_le]
  simp
/-- the points ahead of i -/
def inbAt (cs : List S25) (n i : Nat) : List Bool := (List.range n).map fun j => decide (j < i) && aPt (rd_T25 cs (j : Int))
theorem inbAt_len (cs : List S25) (n i : Nat) : (inbAt cs n i).length = n := by simp [inbAt]
theorem inbAt_in (cs : List S25) (n i j : Nat) (hj : j < n) : inA (inbAt cs n i) j = (decide (j < i) && aPt (rd_T25 cs (j : Int))) := by
  unfold inA inbAt
  simp [List.getD, hj]
theorem inbAt_zero (cs : List S25) (n : Nat) : inbAt cs n 0 = List.replicate n false := by
  apply List.ext_getElem
  · simp [inbAt]
  · intro i h1 h2
    simp [inbAt]
theorem inbAt_set (cs : List S25) (n i : Nat) (hi : i < n) (hp : aPt (rd_T25 cs (i : Int)) = true) : (inbAt cs n i).set i true = inbAt cs n (i + 1) := by
  apply List.ext_getElem
  · simp [inbAt]
  · intro j h1 h2
    rw [List.getElem_set]
    by_cases c : i = j
    · subst c
      simp [inbAt, hp]
    · rw [if_neg c]
      simp only [inbAt, List.getElem_map, List.getElem_range]
      have : decide (j < i) = decide (j < i + 1) := by
        by_cases c2 : j < i
        · rw [decide_eq_true c2, decide_eq_true (by omega)]
        · rw [decide_eq_false c2, decide_eq_false (by omega)]
      rw [this]
theorem inbAt_skip (cs : List S25) (n i : Nat) (hp : aPt (rd_T25 cs (i : Int)) = false) : inbAt cs n (i + 1) = inbAt cs n i := by
  apply List.ext_getElem
  · simp [inbAt]
  · intro j h1 h2
    simp only [inbAt, List.getElem_map, List.getElem_range]
    by_cases c : j = i
    · subst c
      simp [hp]
    · have : decide (j < i + 1) = decide (j < i) := by
        by_cases c2 : j < i
        · rw [decide_eq_true c2, decide_eq_true (by omega)]
        · rw [decide_eq_false c2, decide_eq_false (by omega)]
      rw [this]
section
variable (cs : List S25) (fl : Nat → Bool) (n : Nat)
theorem al_whole (i : Nat) (hw : wholeP (aRun cs fl n).h (inbAt cs n i) = true) : ∀ j, i ≤ j → j < n → aPt (rd_T25 cs (j : Int)) = false := by
  intro j h1 h2
  have h3 := whole_un hw (i := j) (by rw [aRun_len]; exact h2)
  unfold wholeB at h3
  rw [aRun_at cs fl n j h2, inbAt_in cs n i j h2, aEv_pt, decide_eq_false (show ¬ j < i by omega), Bool.false_and, Bool.not_false, Bool.and_true, decide_eq_true (show 0 ≤ (aEv (aRun cs fl j).l (rd_T25 cs (j : Int)) (fl j) j).f3 from by show (0 : Int) ≤ 2 * (j : Int) + 1; omega), Bool.true_and] at h3
  exact h3
theorem al_end : wholeP (aRun cs fl n).h (inbAt cs n n) = true := by
  refine wholeP_yes fun j hj => ?_
  rw [aRun_len] at hj
  unfold wholeB
  rw [aRun_at cs fl n j hj, inbAt_in cs n n j hj, aEv_pt, decide_eq_true hj, Bool.true_and]
  cases aPt (rd_T25 cs (j : Int)) <;> simp
theorem al_bef (i j : Nat) (hi : i < n) (hj : j < n) : bef (rd_T44 (aRun cs fl n).h (i : Int)) (rd_T44 (aRun cs fl n).h (j : Int)) = decide (i < j) := by
  rw [aRun_at cs fl n i hi, aRun_at cs fl n j hj]
  unfold bef aEv
  rw [decide_eq_true (show (0 : Int) ≤ 2 * (i : Int) + 1 by omega), Bool.true_and]
  by_cases c : i < j
  · rw [decide_eq_true c, decide_eq_true (show 2 * (i : Int) + 1 < 2 * (j : Int) by omega)]
  · rw [decide_eq_false c, decide_eq_false (show ¬ 2 * (i : Int) + 1 < 2 * (j : Int) by omega)]
theorem al_ready (i : Nat) (hi : i < n) (hp : aPt (rd_T25 cs (i : Int)) = true) : readyP (aRun cs fl n).h (inbAt cs n i) i = true := by
  refine readyP_yes ?_ ?_ fun j hj => ?_
  · rw [inbAt_in cs n i i hi, decide_eq_false (by omega), Bool.false_and]
  · rw [aRun_at cs fl n i hi, aEv_pt]; exact hp
  · rw [aRun_len] at hj
    unfold readyB
    rw [al_bef cs fl n j i hj hi, aRun_at cs fl n j hj, inbAt_in cs n i j hj, aEv_pt]
    by_cases c : j < i
    · rw [decide_eq_true c, Bool.true_and]
      cases aPt (rd_T25 cs (j : Int)) <;> simp
    · rw [decide_eq_false c, Bool.and_false]
theorem al_ready_of (i m : Nat) (hm : m < n) (hi : i < n) (hp : aPt (rd_T25 cs (i : Int)) = true) (hr : readyP (aRun cs fl n).h (inbAt cs n i) m = true) : m = i := by
  have h1 := (ready_in hr).1
  have h2 := (ready_in hr).2
  rw [aRun_at cs fl n m hm, aEv_pt] at h2
  rw [inbAt_in cs n i m hm, h2, Bool.and_true] at h1
  have h3 := of_decide_eq_false h1
  rcases Nat.lt_or_ge i m with h4 | h4
  · have h5 := ready_un hr (i := i) (by rw [aRun_len]; exact hi)
    unfold readyB at h5
    rw [al_bef cs fl n i m hi hm, aRun_at cs fl n i hi, inbAt_in cs n i i hi, aEv_pt, hp, decide_eq_true h4, decide_eq_false (show ¬ i < i by omega)] at h5
    simp at h5
  · omega
theorem al_tells (i : Nat) (hi : i < n) (hp : aPt (rd_T25 cs (i : Int)) = true) : tellsP (rd_T44 (aRun cs fl n).h (i : Int)) (apD (aRun cs fl i).l (rd_T25 cs (i : Int)).f0 (rd_T25 cs (i : Int)).f1) (apV (aRun cs fl i).l (rd_T25 cs (i : Int)).f0 (rd_T25 cs (i : Int)).f1) = okAt cs fl i := by
  rw [aRun_at cs fl n i hi]
  unfold tellsP okAt aEv
  rw [if_neg (show ¬ (2 * (i : Int) + 1 < 0) by omega), hp]
  simp only [Bool.not_true, Bool.false_or]
  cases aDone (aRun cs fl i).l (rd_T25 cs (i : Int)) (fl i) == apD (aRun cs fl i).l (rd_T25 cs (i : Int)).f0 (rd_T25 cs (i : Int)).f1 <;> simp
theorem al_next (i : Nat) (hp : aPt (rd_T25 cs (i : Int)) = true) : (aRun cs fl (i + 1)).l = apL (aRun cs fl i).l (rd_T25 cs (i : Int)).f0 (rd_T25 cs (i : Int)).f1 (rd_T25 cs (i : Int)).f2 := if_pos hp
theorem al_skip (i : Nat) (hp : aPt (rd_T25 cs (i : Int)) = false) : (aRun cs fl (i + 1)).l = (aRun cs fl i).l := if_neg (by rw [hp]; simp)
theorem al_call (i : Nat) (hi : i < n) : (rd_T44 (aRun cs fl n).h (i : Int)).f5 = rd_T25 cs (i : Int) := by rw [aRun_at cs fl n i hi]; rfl
/-- a right run is a legal one -/
theorem al_to (hok : ∀ i, i < n → okAt cs fl i = true) : ∀ (d i : Nat), n - i = d → i ≤ n → ∃ s, LG (aRun cs fl n).h (inbAt cs n i) (aRun cs fl i).l s
  | 0, i, hd, hi => by
    have : i = n := by omega
    subst this
    exact ⟨[], al_end cs fl i⟩
  | d + 1, i, hd, hi => by
    have hin : i < n := by omega
    obtain ⟨s, hs⟩ := al_to hok d (i + 1) (by omega) (by omega)
    cases hp : aPt (rd_T25 cs (i : Int)) with
    | false =>
      rw [inbAt_skip cs n i hp, al_skip cs fl i hp] at hs
      exact ⟨s, hs⟩
    | true =>
      refine ⟨i :: s, by rw [aRun_len]; exact hin, al_ready cs fl n i hin hp, ?_, ?_⟩
      · rw [al_call cs fl n i hin, al_tells cs fl n i hin hp]
        exact hok i hin
      · rw [al_call cs fl n i hin, inbAt_set cs n i hin hp, ← al_next cs fl i hp]
        exact hs
/-- and the other way round -/
theorem al_of : ∀ (d i : Nat), n - i = d → i ≤ n → ∀ s, LG (aRun cs fl n).h (inbAt cs n i) (aRun cs fl i).l s → ∀ j, i ≤ j → j < n → okAt cs fl j = true
  | 0, i, hd, hi, s, hs, j, h1, h2 => by omega
  | d + 1, i, hd, hi, s, hs, j, h1, h2 => by
    have hin : i < n := by omega
    cases hp : aPt (rd_T25 cs (i : Int)) with
    | false =>
      have hs2 := hs
      rw [← inbAt_skip cs n i hp, ← al_skip cs fl i hp] at hs2
      rcases Nat.lt_or_ge i j with h3 | h3
      · exact al_of d (i + 1) (by omega) (by omega) s hs2 j h3 h2
      · have : j = i := by omega
        subst this
        unfold okAt
        rw [hp]
        rfl
    | true =>
      cases s with
      | nil =>
        have := al_whole cs fl n i hs i (Nat.le_refl _) hin
        rw [hp] at this
        cases this
      | cons m s =>
        obtain ⟨a1, a2, a3, a4⟩ := hs
        rw [aRun_len] at a1
        have hm := al_ready_of cs fl n i m a1 hin hp a2
        subst hm
        rw [al_call cs fl n m hin] at a3 a4
        rw [al_tells cs fl n m hin hp] at a3
        rw [inbAt_set cs n m hin hp, ← al_next cs fl m hp] at a4
        rcases Nat.lt_or_ge m j with h3 | h3
        · exact al_of d (m + 1) (by omega) (by omega) s a4 j h3 h2
        · have : j = m := by omega
          subst this
          exact a3
theorem al_main : (orderP (aRun cs fl n).h).isSome = (aRun cs fl n).right := by
  rw [aRun_right]
  have h0 : none0 (aRun cs fl n).h = inbAt cs n 0 := by rw [inbAt_zero]; unfold none0; rw [aRun_len]
  cases hr : (List.range n).all (okAt cs fl) with
  | true =>
    rw [List.all_eq_true] at hr
    obtain ⟨s, hs⟩ := al_to cs fl n (fun i hi => hr i (List.mem_range.mpr hi)) n 0 rfl (Nat.zero_le _)
    exact LG_order (by rw [h0]; exact hs)
  | false =>
    cases ho : orderP (aRun cs fl n).h with
    | none => rfl
    | some t =>
      have hs := order_LG ho
      rw [h0] at hs
      have := al_of cs fl n n 0 rfl (Nat.zero_le _) t hs
      rw [List.all_eq_false] at hr
      obtain ⟨i, hi, hn⟩ := hr
      exact absurd (this i (Nat.zero_le _) (List.mem_range.mp hi)) hn
end

theorem call_at {w : World} {A : Option Addr} {n : Nat} {xs : List S25} (h : Kd.C k25 w A n xs) (i : Nat) (hi : i < xs.length) : ∃ ad, A = some ad ∧ ∀ j u, ([.int .i64 (rd_T25 xs (i : Int)).f0, .int .u64 (rd_T25 xs (i : Int)).f1, .int .u64 (rd_T25 xs (i : Int)).f2, .int .i64 (rd_T25 xs (i : Int)).f3] : List Value)[j]? = some u → w.cell? ((ad.add (i * 4)).add j) = some u := by
  obtain ⟨ad, c, e, _, hK, hc0⟩ := Kd.C_get h z25 (i : Int) (by omega) (by rw [h.1] at hi; omega)
  rw [Int.toNat_natCast] at hc0 hK
  have hc : ∀ j u, c[j]? = some u → w.cell? (ad.add (i * 4 + j)) = some u := hc0
  obtain rfl := k25_open hK
  refine ⟨ad, e, fun j u hj => ?_⟩
  rw [Addr.add_add]
  exact hc j u (by simpa [rd_T25] using hj)
theorem res_at {w : World} {A : Option Addr} {n : Nat} {xs : List S30} (h : Kd.C k30 w A n xs) (i : Nat) (hi : i < xs.length) : ∃ ad, A = some ad ∧ w.cell? ⟨(ad.add (i * 4)).block, (ad.add (i * 4)).off + 2, none⟩ = some (.int .u64 (xs.getD i z30).f2) := by
  obtain ⟨ad, c, e, _, hK, hc0⟩ := Kd.C_get h z30 (i : Int) (by omega) (by rw [h.1] at hi; omega)
  rw [Int.toNat_natCast] at hc0 hK
  have hc : ∀ j u, c[j]? = some u → w.cell? (ad.add (i * 4 + j)) = some u := hc0
  obtain ⟨A3, c3, rfl, _, _⟩ := k30_open hK
  refine ⟨ad, e, ?_⟩
  rw [← add_field _ _ 2 (by omega)]
  exact hc 2 _ rfl
def flP (rs : List S30) (i : Nat) : Bool := decide (i < rs.length) && ((rs.getD i z30).f2 == 7)
theorem grownBy_none {w w' : World} (r : Option Nat) (h : w.grownBy w' none) : w.grownBy w' r := ⟨h.os, h.tape, h.output, h.size, fun k hk _ => h.block k hk (fun e => by cases e)⟩
/-- one event behind a row that is made; where the row lies then -/
theorem ev_app2 {ops : Array Oper} {rest : List Oper} {o : Oper} {a : Act} {w : World} {Q : Exit → Act → World → Prop} (hgd : o.guard = none) (s x : Operand) (ho : o.op = .call { callee := .builtin .append, args := #[s, x], argTypes := #[36, 36] }) {W0 : World} {N : Nat} {v : Value} {xs ys : List S44} {ad : Addr} {m c : Nat} {inner : List Value}
    (hs : a.eval s = v) (hx : a.eval x = .slice (some ad) m c) (hown : OE W0 w N v xs) (hN : N ≤ w.heap.size) (hm : ys.length = m) (hm0 : 0 < m) (hrep : Reps (k44.K W0) 13 ys inner) (hcell : ∀ j u, inner[j]? = some u → w.cell? (ad.add j) = some u) (hl1 : xs.length ≤ 10000) (hl2 : ys.length ≤ 10000)
    (h : ∀ v' w', OE W0 w' N v' (xs ++ ys) → w.grownBy w' v.ownBlock → (v'.ownBlock = v.ownBlock ∨ ∀ q, v'.ownBlock = some q → w.heap.size ≤ q) → wpList Try.prog ops Q rest (a.put o.dst v') w') : wpList Try.prog ops Q (o :: rest) a w := by
  obtain ⟨i0, hi, hz⟩ := Option.map_eq_some_iff.1 hpt_info
  simp only [Prod.mk.injEq] at hz
  obtain ⟨hz0, hz1, hz2⟩ := hz
  obtain ⟨inn, hown1, hrep1⟩ := hown
  subst hm
  have hone : ∀ u ∈ inner, u.oneCell' = true := fun u hu => by
    obtain ⟨j, hj⟩ := List.getElem?_of_mem hu
    exact evOne hrep j u hj
  have fresh : ∀ v' w', w'.ownsRow w.heap.size 44 13 v' (xs.length + ys.length) (inn ++ inner) → w.grownBy w' none → wpList Try.prog ops Q rest (a.put o.dst v') w' := by
    intro v' w' h1 h2
    have hoe : OE W0 w' w.heap.size v' (xs ++ ys) := ⟨inn ++ inner, by rw [List.length_append]; exact h1, reps_app hrep1 hrep⟩
    exact h v' w' (hoe.mono hN) (grownBy_none _ h2) (.inr (fun q hq => (World.ownsRow.lt h1 q hq).1))
  have hown2 := hown1
  rcases hown1.2 with ⟨rfl, hn⟩ | ⟨g, cap, cur, rfl, hb, hh, hcap, hcm, hsz, htk⟩
  · have hinn : inn = [] := List.eq_nil_of_length_eq_zero (by rw [hown1.1, hn])
    subst hinn
    have hxs : xs.length = 0 := hn
    refine wpList_append_grows w hgd s x 36 ho 44 i0 _ 13 120 Try.underlying36 hi hz0 hz1 hz2 rfl (by decide) none 0 0 [] hs (fun _ => ⟨rfl, rfl⟩) rfl (fun b e => by cases e) ad ys.length c inner hx hrep.1 hcell hone (by omega) (by unfold maxLen; omega) (by omega) ?_
    intro v' w' h1 h2
    exact fresh v' w' (by rw [hxs]; exact h1) h2
  · by_cases hfit : xs.length + ys.length ≤ cap
    · refine wpList_append_fits w hgd s x 36 ho N 44 i0 13 Try.underlying36 hi hz1 g xs.length cap inn hs hown2 ad ys.length c inner hx hrep.1 hcell hone hfit ?_
      intro w' h1 h2
      exact h _ w' ⟨inn ++ inner, by rw [List.length_append]; exact h1, reps_app hrep1 hrep⟩ h2 (.inl rfl)
    · refine wpList_append_grows w hgd s x 36 ho 44 i0 _ 13 120 Try.underlying36 hi hz0 hz1 hz2 rfl (by decide) (some ⟨g, 0, none⟩) xs.length cap inn hs (fun e => by cases e) hown2.1 (fun b e j u hj => by cases e; exact hown2.cells rfl j u hj) ad ys.length c inner hx hrep.1 hcell hone (by omega) (by unfold maxLen; omega) (by omega) ?_
      exact fresh
theorem C_lt {w : World} {ad : Addr} {l : List S53} (h : Kd.C k53 w (some ad) l.length l) (hl : l ≠ []) : ad.block < w.heap.size := by
  cases l with
  | nil => exact absurd rfl hl
  | cons p r =>
    obtain ⟨ad', e, hc⟩ := h.2.2 (by simp)
    cases e
    obtain ⟨c, h1, h2, h3⟩ := hc 0 p rfl
    obtain rfl := k53_open h2
    have hx := h3 0 _ rfl
    have := World.block_lt_of_cell? w _ hx
    rwa [add_block] at this
/-- a row of pairs that lies apart from block q -/
theorem C_grown {w w' : World} {q : Option Nat} {A : Option Addr} {l : List S53} (h : Kd.C k53 w A l.length l) (ha : l ≠ [] → ∀ ad, A = some ad → some ad.block ≠ q) (hg : w.grownBy w' q) : Kd.C k53 w' A l.length l := by
  cases l with
  | nil => exact ⟨rfl, by simp, fun h0 => absurd h0 (by simp)⟩
  | cons p r =>
    refine ⟨rfl, h.2.1, fun _ => ?_⟩
    obtain ⟨ad, rfl, hc⟩ := h.2.2 (by simp)
    refine ⟨ad, rfl, fun j p2 hj => ?_⟩
    obtain ⟨c, h1, h2, h3⟩ := hc j p2 hj
    obtain rfl := k53_open h2
    refine ⟨_, h1, k53_mk w' p2, fun i u hi => ?_⟩
    have hx := h3 i u hi
    refine (cell_block ?_).trans hx
    refine hg.block _ (World.block_lt_of_cell? w _ hx) ?_
    rw [add_block]
    exact ha (by simp) ad rfl
/-- the map's row, and where it lies beside the events' -/
def KA (w : World) (vh : Value) (A : Option Addr) (l : List S53) : Prop := Kd.C k53 w A l.length l ∧ (l ≠ [] → ∀ ad, A = some ad → some ad.block ≠ vh.ownBlock)
theorem KA.C {w : World} {vh : Value} {A : Option Addr} {l : List S53} (h : KA w vh A l) : Kd.C k53 w A l.length l := h.1
theorem KA.below {w w' : World} {vh : Value} {A : Option Addr} {l : List S53} (h : KA w vh A l) (hb : Below w.heap.size w w') : KA w' vh A l := ⟨Kd.C_below h.1 hb, h.2⟩
theorem KA.grown {w w' : World} {g : Nat} {vh : Value} {A : Option Addr} {l : List S53} (h : KA w vh A l) (hg : w.grownBy w' (some g)) (hne : l ≠ [] → ∀ ad, A = some ad → ad.block ≠ g) : KA w' vh A l :=
  ⟨C_grown h.1 (fun h1 ad h2 e => hne h1 ad h2 (Option.some.inj e)) hg, h.2⟩
/-- behind Told -/
theorem KA.told {w w' : World} {W0 : World} {N : Nat} {vh : Value} {A B : Option Addr} {l m : List S53} {H : List S44} (h : KA w vh A l) (hoe : OE W0 w N vh H) (hk : Kd.C k53 w' B m.length m) (hd : (B = A ∧ m = l) ∨ ∀ ad, B = some ad → w.heap.size ≤ ad.block) : KA w' vh B m := by
  refine ⟨hk, fun hm ad hB e => ?_⟩
  rcases hd with ⟨h1, h2⟩ | h1
  · subst h1
    subst h2
    exact h.2 hm ad hB e
  · have h2 := h1 ad hB
    have h3 := (oe_blk hoe ad.block e.symm).2
    omega
/-- behind an append to the events' row -/
theorem KA.app {w w' : World} {vh v' : Value} {A : Option Addr} {l : List S53} (h : KA w vh A l) (hg : w.grownBy w' vh.ownBlock) (hv : v'.ownBlock = vh.ownBlock ∨ ∀ q, v'.ownBlock = some q → w.heap.size ≤ q) : KA w' v' A l := by
  refine ⟨C_grown h.1 h.2 hg, fun hm ad hA e => ?_⟩
  rcases hv with h1 | h1
  · exact h.2 hm ad hA (e.trans h1)
  · have h2 := h1 ad.block e.symm
    subst hA
    have := C_lt h.1 hm
    omega

theorem call_k {w : World} {P : Addr} {cl : S25} (h : ∀ j u, ([.int .i64 cl.f0, .int .u64 cl.f1, .int .u64 cl.f2, .int .i64 cl.f3] : List Value)[j]? = some u → w.cell? (P.add j) = some u) : w.cell? P = some (.int .i64 cl.f0) := by
  have h0 := h 0 _ rfl
  rwa [add_none] at h0
theorem li_legal_at (b : Bool) (m : Nat) (A : Option Addr) (c0 : Nat) (h : List S44) (hm : h.length = m) (hh : h.length ≤ 1000) (hl : (orderP h).isSome = b) (W : World) (hr : Kd.C k44 W A h.length h) : Calls Try.prog 17 #[.slice A m c0] W fun e w' => e = .returned (.bool b) ∧ Below W.heap.size W w' := by
  subst hm
  subst hl
  exact li_Legal A c0 h hh W hr
theorem OE.C' {W0 w : World} {N n c : Nat} {A : Option Addr} {l : List S44} (h : OE W0 w N (.slice A n c) l) (hb : Below W0.heap.size W0 w) : Kd.C k44 w A l.length l := by
  obtain ⟨A1, c1, e1, _, h1⟩ := h.C hb
  cases e1
  exact h1
set_option maxHeartbeats 8000000 in
set_option maxRecDepth 100000 in
theorem la_long1 (A : Option Addr) (c : Nat) (cs : List S25) (B : Option Addr) (d : Nat) (rs : List S30) (W : World) (hr : Kd.C k25 W A cs.length cs) (hcr : cs.length ≤ c) (hq : Kd.C k30 W B rs.length rs) (hcq : rs.length ≤ d) (hl : cs.length > 7) :
    Calls Try.prog 5 #[.slice A cs.length c, .slice B rs.length d] W fun e w' => e = .returned (.bool true) ∧ Below W.heap.size W w' := by
  have HR := Aside0.mk hr
  have HQ := Aside0.mk hq
  have HCR := Aside0.mk hcr
  have HCQ := Aside0.mk hcq
  have HB := Aside0.mk (Below.refl W.heap.size W)
  have hb1 : (7 : Int) < (cs.length : Int) := by omega
  have hb3 : decide ((cs.length : Int) > 7) = true := decide_eq_true (by omega)
  clear hl
  clear hr hq hcr hcq
  go_enter Try.func5, Try.ntmps5
  go_wp2_with (first | (go_at_call 7; (with_reducible refine (li_awake _).mono ?_); rintro e u1_ ⟨rfl, hbk⟩; have n_HB := Aside0.mk (below_step HB.out hbk); clear HB; have HB := n_HB; clear n_HB; clear hbk))
  go_ret
  exact ⟨rfl, HB.out⟩
set_option maxHeartbeats 8000000 in
set_option maxRecDepth 100000 in
theorem la_long2 (A : Option Addr) (c : Nat) (cs : List S25) (B : Option Addr) (d : Nat) (rs : List S30) (W : World) (hr : Kd.C k25 W A cs.length cs) (hcr : cs.length ≤ c) (hq : Kd.C k30 W B rs.length rs) (hcq : rs.length ≤ d) (hl1 : cs.length ≤ 7) (hl : rs.length > 7) :
    Calls Try.prog 5 #[.slice A cs.length c, .slice B rs.length d] W fun e w' => e = .returned (.bool true) ∧ Below W.heap.size W w' := by
  have HR := Aside0.mk hr
  have HQ := Aside0.mk hq
  have HCR := Aside0.mk hcr
  have HCQ := Aside0.mk hcq
  have HB := Aside0.mk (Below.refl W.heap.size W)
  have hb1 : ¬ (7 : Int) < (cs.length : Int) := by omega
  have hb3 : decide ((cs.length : Int) > 7) = false := decide_eq_false (by omega)
  have hb2 : (7 : Int) < (rs.length : Int) := by omega
  have hb4 : decide ((rs.length : Int) > 7) = true := decide_eq_true (by omega)
  clear hl hl1
  clear hr hq hcr hcq
  go_enter Try.func5, Try.ntmps5
  go_wp2_with (first | (go_at_call 7; (with_reducible refine (li_awake _).mono ?_); rintro e u1_ ⟨rfl, hbk⟩; have n_HB := Aside0.mk (below_step HB.out hbk); clear HB; have HB := n_HB; clear n_HB; clear hbk))
  go_ret
  exact ⟨rfl, HB.out⟩
def la_main_lb (n m : Nat) : Array Bool := ((List.range n).map (fun i => m.testBit i)).toArray
def la_main.T11 : Bool × List (List Nat × List Nat) := (true, [([], []), ([0], [0]), ([], []), ([2], [2]), ([3], [3]), ([], []), ([], []), ([5, 6], [5, 6]), ([7], [7]), ([], []), ([1, 4, 8, 9], [1, 4, 8, 9]), ([], []), ([11, 10, 0, 1, 2, 3, 4, 5, 6, 7, 8, 9, 10, 11], [10, 11])])
def la_main.B11 : List Nat := [0, 1, 0, 4, 12, 0, 0, 96, 224, 0, 1023, 0, 4095]
theorem la_main.tab11 : rtab .any (opsOf Try.f5 11) = la_main.T11 := by kernel_rfl
theorem la_main.bits11 : waitsOk la_main.T11.2 la_main.B11 = true := by kernel_rfl
set_option maxHeartbeats 8000000 in
set_option maxRecDepth 100000 in
theorem la_main (A : Option Addr) (c : Nat) (cs : List S25) (B : Option Addr) (d : Nat) (rs : List S30) (W : World) (hr : Kd.C k25 W A cs.length cs) (hcr : cs.length ≤ c) (hq : Kd.C k30 W B rs.length rs) (hcq : rs.length ≤ d) (hl1 : cs.length ≤ 7) (hl2 : rs.length ≤ 7) :
    Calls Try.prog 5 #[.slice A cs.length c, .slice B rs.length d] W fun e w' => e = .returned (.bool true) ∧ Below W.heap.size W w' := by
  have HR := Aside0.mk hr
  have HQ := Aside0.mk hq
  have HCR := Aside0.mk hcr
  have HCQ := Aside0.mk hcq
  have HB := Aside0.mk (Below.refl W.heap.size W)
  have HL := Aside0.mk (And.intro hl1 hl2)
  have hb1 : ¬ ((7 : Int) < (cs.length : Int)) := by omega
  have hb2 : ¬ ((7 : Int) < (rs.length : Int)) := by omega
  have hb3 : decide ((cs.length : Int) > 7) = false := decide_eq_false (by omega)
  have hb4 : decide ((rs.length : Int) > 7) = false := decide_eq_false (by omega)
  have hcb : (cs.length : Int) ≤ 7 := by omega
  have hrb : (rs.length : Int) ≤ 7 := by omega
  clear hl1 hl2
  clear hr hq hcr hcq
  go_enter Try.func5, Try.ntmps5
  go_wp2_with (first | (go_at_call 7; (with_reducible refine (li_awake _).mono ?_); rintro e u1_ ⟨rfl, hbk⟩; have n_HB := Aside0.mk (below_step HB.out hbk); clear HB; have HB := n_HB; clear n_HB; clear hbk))
  go_loopg [6, 7, 8, 9] cs.length (fun kq v6 v7 v8 v9 wr => ∃ (i : Nat) (st : AL) (Al : Option Addr) (kl : Nat), v9 = .int .i64 i ∧ v8 = .bool st.right ∧ v7 = .slice Al st.l.length kl ∧ Aside0 (i ≤ cs.length) ∧ Aside0 (cs.length - i ≤ kq) ∧ Aside0 (st = (aRun cs (flP rs) i)) ∧ Aside0 (st.l.length ≤ kl) ∧ Aside0 (OE W wr W.heap.size v6 st.h) ∧ Aside0 (KA wr v6 Al st.l) ∧ Aside0 (Below W.heap.size W wr))
  case atStart => exact ⟨0, ⟨[], true, []⟩, none, 0, rfl, rfl, rfl, ⟨Nat.zero_le _⟩, ⟨by omega⟩, ⟨rfl⟩, ⟨Nat.le_refl _⟩, ⟨OE.nil _ _ _⟩, ⟨⟨Kd.C_nil _ _, fun h => absurd rfl h⟩⟩, HB⟩
  case round =>
    clear HB
    obtain ⟨i, st, Al, kl, rfl, rfl, rfl, HJ, HK, HST, HKL, HE, HKA, HB⟩ := hrel
    by_cases hil : i < cs.length
    · have hlt : (i : Int) < (cs.length : Int) := by omega
      have hi0 : (0 : Int) ≤ (i : Int) := by omega
      have hib : (i : Int) ≤ 7 := by omega
      have HIL := Aside0.mk hil
      obtain ⟨ad, eA, hcc⟩ := call_at HR.out i hil
      subst eA
      have hrl := aRun_rising cs (flP rs) i
      rw [← HST.out] at hrl
      have HRL := Aside0.mk hrl
      have hlen : st.h.length = i := by rw [HST.out]; exact aRun_len _ _ _
      have HLEN := Aside0.mk hlen
      have hnext : aRun cs (flP rs) (i + 1) = aNext st (rd_T25 cs (i : Int)) (flP rs i) i := by rw [HST.out]; rfl
      generalize rd_T25 cs (i : Int) = cl at hcc hnext
      have HCC := Aside0.mk hcc
      have HNX := Aside0.mk hnext
      have hw2 : wrap64 (2 * (i : Int)) = 2 * (i : Int) := by unfold wrap64; omega
      have hw3 : wrap64 (2 * (i : Int) + 1) = 2 * (i : Int) + 1 := by unfold wrap64; omega
      clear hil hcc hnext hrl hlen
      go_upto_region 11 with (first | ((with_reducible refine gate_dst (N := 35) rfl ?_); refine wq_loadE (ty := 25) (p := .tmp 34) (k := 4) (ad := ad.add (i * 4)) (vs := [.int .i64 cl.f0, .int .u64 cl.f1, .int .u64 cl.f2, .int .i64 cl.f3]) ?hgd4 ?ho4 ?hp4 Try.underlying25 ?hd4 ?hi4 (cells_bel rfl HB.out HCC.out) ?hk4 ?_; (case hd4 => rfl); (case hi4 => kernel_rfl); (case hgd4 => rfl); (case ho4 => rfl); (case hp4 => rfl); (case hk4 => rfl)) | (go_at_call 10; (with_reducible refine (li_TB Al kl st.l cl.f0 cl.f1 cl.f2 cl.f3 (by have := HRL.out.2; have := HIL.out; have := HL.out.1; omega) HRL.out.1 _ (KA.C HKA.out) HKL.out).mono ?_); rintro e au1_ ⟨A9, c9, rfl, hl9, hk9, hbk, hd9⟩; have hk9' := KA.told HKA.out HE.out hk9 hd9; have n_HB := Aside0.mk (below_step HB.out hbk); have n_HE := Aside0.mk (OE.below HE.out hbk); have n_HKA := Aside0.mk (KA.below HKA.out hbk); clear HB HE HKA; have HB := n_HB; have HE := n_HE; have HKA := n_HKA; clear n_HB n_HE n_HKA; have HK9 := Aside0.mk hk9'; have HL9 := Aside0.mk hl9; clear hk9' hk9 hl9 hd9 hbk) | ((with_reducible refine gate_dst (N := 11) rfl ?_); refine box_event ?hg6 (N := 11) ?hd6 (cs := #[.int .i64 0, .bool false, .int .u64 0, .slice none 0 0]) (t := 30) ?hr6 ?_; (case hd6 => rfl); (case hg6 => rfl); (case hr6 => first | (go_simp; done) | (go_simp; rfl)); intro ag10 hg aw2_ hbox hbk; have HGaB10 := Aside0.mk (show W.heap.size ≤ ag10 from by rw [hg]; have := HB.out.size; omega); have HFVaB10 := Aside0.mk (show ∀ q, (u6 : Value).ownBlock = some q → q ≠ ag10 from fun q hq => by rw [hg]; exact Nat.ne_of_lt (oe_blk HE.out q hq).2); have HFHKAaB10 := Aside0.mk (show st.l ≠ [] → ∀ ad, Al = some ad → ad.block ≠ ag10 from fun hm q hq => by rw [hg]; exact Nat.ne_of_lt (C_lt (by have h1 := (KA.C HKA.out); rw [hq] at h1; exact h1) hm)); have HFHK9aB10 := Aside0.mk (show (apL st.l cl.f0 cl.f1 cl.f2) ≠ [] → ∀ ad, A9 = some ad → ad.block ≠ ag10 from fun hm q hq => by rw [hg]; exact Nat.ne_of_lt (C_lt (by have h1 := (KA.C HK9.out); rw [hq] at h1; exact h1) hm)); have n_HB := Aside0.mk (below_step HB.out hbk); have n_HE := Aside0.mk (OE.below HE.out hbk); have n_HKA := Aside0.mk (KA.below HKA.out hbk); have n_HK9 := Aside0.mk (KA.below HK9.out hbk); clear HB HE HKA HK9; have HB := n_HB; have HE := n_HE; have HKA := n_HKA; have HK9 := n_HK9; clear n_HB n_HE n_HKA n_HK9; have aB10 := Aside0.mk hbox; clear hbk hbox hg) | ((with_reducible refine gate_store (p := 11) rfl ?_); refine wq_store (ty := 30) (p := .tmp 11) (x := .tmp 38) (g := ag10) (i := 0) (k := 4) (v := ?v7) (vs := ?vs7) (cs' := ?cs7) ?hgd7 ?hdst7 ?ho7 ?hp7 ?hx7 ?hvc7 ?hi7 ?hk7 ?h17 aB10.out ?hsz7 ?hcs7 ?_; (case hi7 => kernel_rfl); (case hgd7 => rfl); (case hdst7 => rfl); (case ho7 => rfl); (case hp7 => rfl); (case hx7 => go_simp; with_reducible rfl); (case hvc7 => simp only [Value.cells]; with_reducible rfl); (case hk7 => rfl); (case h17 => rfl); (case hsz7 => exact Nat.le_of_ble_eq_true rfl); (case hcs7 => simp only [wqPut, List.setIfInBounds_toArray, List.set_cons_succ, List.set_cons_zero, Nat.reduceAdd]; with_reducible rfl); intro aw3_ hb hgr; have n_HB := Aside0.mk (HB.out.grown hgr HB.out.size (fun k hk => by cases hk; exact HGaB10.out)); have n_HE := Aside0.mk (OE.grown_ne HE.out hgr HFVaB10.out); have n_HKA := Aside0.mk (KA.grown HKA.out hgr HFHKAaB10.out); have n_HK9 := Aside0.mk (KA.grown HK9.out hgr HFHK9aB10.out); have n_aB10 := Aside0.mk hb; clear HB HE HKA HK9 aB10 hb hgr; have HB := n_HB; have HE := n_HE; have HKA := n_HKA; have HK9 := n_HK9; have aB10 := n_aB10; clear n_HB n_HE n_HKA n_HK9 n_aB10))
      obtain ⟨XaB10, hXaB10, hb_aB10⟩ := wq_name aB10.out
      clear aB10
      have aB10 := Aside0.mk hb_aB10
      have HXaB10 := Aside0.mk hXaB10
      clear hXaB10 hb_aB10
      have n_HB := Aside0.mk (below_drew1 HB.out)
      have n_HE := Aside0.mk (OE.below HE.out (below_drew1 (Below.refl _ _)))
      have n_HKA := Aside0.mk (KA.below HKA.out (below_drew1 (Below.refl _ _)))
      have n_HK9 := Aside0.mk (KA.below HK9.out (below_drew1 (Below.refl _ _)))
      have n_aB10 := Aside0.mk (blk_drew aB10.out)
      clear HB HE HKA HK9 aB10
      have HB := n_HB
      have HE := n_HE
      have HKA := n_HKA
      have HK9 := n_HK9
      have aB10 := n_aB10
      clear n_HB n_HE n_HKA n_HK9 n_aB10
      refine start_ (n := 13) (S := fun w' => w'.heap[ag10]? = some (.cells XaB10 30 (0, 0)) ∧ (∀ j u, ([.int .i64 cl.f0, .int .u64 cl.f1, .int .u64 cl.f2, .int .i64 cl.f3] : List Value)[j]? = some u → w'.cell? ((ad.add (i * 4)).add j) = some u)) (ds := [12]) #[false, false, false, false, false, false, false, false, false, false, false, false, false] (by kernel_rfl) rfl rfl ⟨aB10.out, (cells_bel rfl HB.out HCC.out)⟩ (fun hHeld => ?_); refine with_tabW la_main.tab11 la_main.bits11 (fun HT_ HW_ => ?_)
      generalize aw3_.drew = av4_ at HB HE HKA HK9 aB10 hHeld ⊢
      refine pure_ (i := 0) (N := some 39) (v := ?_) (a' := ?_) (la_main_lb 13 1) rfl rfl (any_of HT_.out (by kernel_rfl)) (fun _ _ _ h => h) (Or.inl ⟨by rfl, ?_⟩) ?_ ?_; rotate_left
      · intro w'; go_simp; with_reducible rfl
      rotate_left
      · simp only [Act.put, List.setIfInBounds_toArray, List.set_cons_zero, List.set_cons_succ, i64_w, i32_w]; rfl
      refine pure_ (i := 1) (N := some 40) (v := ?_) (a' := ?_) (la_main_lb 13 3) rfl rfl (any_of HT_.out (by kernel_rfl)) (fun _ _ _ h => h) (Or.inl ⟨by rfl, ?_⟩) ?_ ?_; rotate_left
      · intro w'; go_simp; with_reducible rfl
      rotate_left
      · simp only [Act.put, List.setIfInBounds_toArray, List.set_cons_zero, List.set_cons_succ, i64_w, i32_w]; rfl
      refine pure_ (i := 2) (N := some 41) (v := ?_) (a' := ?_) (la_main_lb 13 7) rfl rfl (any_of HT_.out (by kernel_rfl)) (fun _ _ _ h => h) (Or.inl ⟨by rfl, ?_⟩) ?_ ?_; rotate_left
      · intro w'; go_simp; with_reducible rfl
      rotate_left
      · simp only [Act.put, List.setIfInBounds_toArray, List.set_cons_zero, List.set_cons_succ, i64_w, i32_w]; rfl
      refine pure_ (i := 3) (N := some 42) (v := ?_) (a' := ?_) (la_main_lb 13 15) rfl rfl (any_of HT_.out (by kernel_rfl)) (fun _ _ _ h => h) (Or.inl ⟨by rfl, ?_⟩) ?_ ?_; rotate_left
      · intro w'; go_simp; with_reducible rfl
      rotate_left
      · simp only [Act.put, List.setIfInBounds_toArray, List.set_cons_zero, List.set_cons_succ, i64_w, i32_w]; rfl
      refine pure_ (i := 4) (N := some 43) (v := ?_) (a' := ?_) (la_main_lb 13 31) rfl rfl (any_of HT_.out (by kernel_rfl)) (fun _ _ _ h => h) (Or.inl ⟨by rfl, ?_⟩) ?_ ?_; rotate_left
      · intro w'; go_simp; with_reducible rfl
      rotate_left
      · simp only [Act.put, List.setIfInBounds_toArray, List.set_cons_zero, List.set_cons_succ, i64_w, i32_w]; rfl
      refine pure_ (i := 5) (N := some 44) (v := ?_) (a' := ?_) (la_main_lb 13 63) rfl rfl (any_of HT_.out (by kernel_rfl)) (fun _ _ _ h => h) (Or.inl ⟨by rfl, ?_⟩) ?_ ?_; rotate_left
      · intro w'; go_simp; with_reducible rfl
      rotate_left
      · simp only [Act.put, List.setIfInBounds_toArray, List.set_cons_zero, List.set_cons_succ, i64_w, i32_w]; rfl
      refine pure_ (i := 6) (N := some 45) (v := ?_) (a' := ?_) (la_main_lb 13 127) rfl rfl (any_of HT_.out (by kernel_rfl)) (fun _ _ _ h => h) (Or.inl ⟨by rfl, ?_⟩) ?_ ?_; rotate_left
      · intro w'; go_simp; with_reducible rfl
      rotate_left
      · simp only [Act.put, List.setIfInBounds_toArray, List.set_cons_zero, List.set_cons_succ, i64_w, i32_w]; rfl
      refine pure_ (i := 7) (N := some 46) (v := ?_) (a' := ?_) (la_main_lb 13 255) rfl rfl (any_of HT_.out (by kernel_rfl)) (fun _ _ _ h => h) (Or.inl ⟨by rfl, ?_⟩) ?_ ?_; rotate_left
      · intro w'; go_simp; with_reducible rfl
      rotate_left
      · simp only [Act.put, List.setIfInBounds_toArray, List.set_cons_zero, List.set_cons_succ, i64_w, i32_w]; rfl
      refine take_ (i := 8) (N := some 47) (v := ?_) (a' := ?_) (la_main_lb 13 511) rfl rfl (take_ofW HT_.out HW_.out (by kernel_rfl)) (fun _ _ _ h => h) (Or.inl ⟨by rfl, ?_⟩) hHeld ?_ ?_; rotate_left
      · rintro w' ⟨s0, s1⟩; refine Eq.trans (wq_run_loadE (ty := 25) (p := .tmp 46) (k := 4) (ad := ad.add (i * 4)) (vs := [.int .i64 cl.f0, .int .u64 cl.f1, .int .u64 cl.f2, .int .i64 cl.f3]) ?ho10 ?hp10 Try.underlying25 ?hd10 ?hi10 s1 ?hk10) ?fin10; (case hd10 => rfl); (case hi10 => kernel_rfl); (case ho10 => rfl); (case hp10 => rfl); (case hk10 => rfl); (case fin10 => with_reducible rfl)
      rotate_left
      · simp only [Act.put, List.setIfInBounds_toArray, List.set_cons_zero, List.set_cons_succ, i64_w, i32_w]; rfl
      refine take_ (i := 9) (N := some 48) (v := ?_) (a' := ?_) (la_main_lb 13 1023) rfl rfl (take_ofW HT_.out HW_.out (by kernel_rfl)) (fun _ _ _ h => h) (Or.inl ⟨by rfl, ?_⟩) hHeld ?_ ?_; rotate_left
      · rintro w' ⟨s0, s1⟩; refine Eq.trans (wq_run_loadA (ty := 30) (p := .tmp 11) (g := ag10) (i := 0) (k := 4) (vs := ?vs11) ?ho11 ?hp11 Try.underlying30 ?hd11 ?hi11 s0 ?hv11 ?hk11) ?fin11; (case hd11 => rfl); (case hi11 => kernel_rfl); (case ho11 => rfl); (case hp11 => rfl); (case hv11 => rewrite [HXaB10.out]; simp only [List.drop_succ_cons, List.drop_zero, List.take_succ_cons, List.take_zero, List.take_nil, List.drop_nil]; with_reducible rfl); (case hk11 => rfl); (case fin11 => with_reducible rfl)
      rotate_left
      · simp only [Act.put, List.setIfInBounds_toArray, List.set_cons_zero, List.set_cons_succ, i64_w, i32_w]; rfl
      refine pure_ (i := 10) (N := some 49) (v := ?_) (a' := ?_) (la_main_lb 13 2047) rfl rfl (any_of HT_.out (by kernel_rfl)) (fun _ _ _ h => h) (Or.inl ⟨by rfl, ?_⟩) ?_ ?_; rotate_left
      · intro w'; go_simp; with_reducible rfl
      rotate_left
      · simp only [Act.put, List.setIfInBounds_toArray, List.set_cons_zero, List.set_cons_succ, i64_w, i32_w]; rfl
      refine one_ (i := 11) (N := some 12) (la_main_lb 13 4095) rfl rfl (one_of HT_.out (by kernel_rfl)) (by decide) (fun K hK => ?_)
      refine wq_value ?hw8 ?hN8 (cs := #[.int .i64 0, .int .i64 0, .int .i64 0, .int .i64 0, .int .i64 0, .int .i64 0, .int .u64 0, .int .u64 0, .int .i64 0, .int .i64 0, .bool false, .int .u64 0, .slice none 0 0]) (t := 44) ?hr8 ?_
      case hw8 => rfl
      case hN8 => rfl
      case hr8 => first | (go_simp; done) | (go_simp; rfl)
      intro ag11 hg aw5_ hbox hbk
      have HGaB11 := Aside0.mk (show ag10 ≠ ag11 ∧ W.heap.size ≤ ag11 from by rw [hg]; have := blk_lt aB10.out; have := HB.out.size; omega)
      have HFVaB11 := Aside0.mk (show ∀ q, (u6 : Value).ownBlock = some q → q ≠ ag11 from fun q hq => by rw [hg]; exact Nat.ne_of_lt (oe_blk HE.out q hq).2)
      have HFHKAaB11 := Aside0.mk (show st.l ≠ [] → ∀ ad, Al = some ad → ad.block ≠ ag11 from fun hm q hq => by rw [hg]; exact Nat.ne_of_lt (C_lt (by have h1 := (KA.C HKA.out); rw [hq] at h1; exact h1) hm))
      have HFHK9aB11 := Aside0.mk (show (apL st.l cl.f0 cl.f1 cl.f2) ≠ [] → ∀ ad, A9 = some ad → ad.block ≠ ag11 from fun hm q hq => by rw [hg]; exact Nat.ne_of_lt (C_lt (by have h1 := (KA.C HK9.out); rw [hq] at h1; exact h1) hm))
      have n_HB := Aside0.mk (below_step HB.out hbk)
      have n_HE := Aside0.mk (OE.below HE.out hbk)
      have n_HKA := Aside0.mk (KA.below HKA.out hbk)
      have n_HK9 := Aside0.mk (KA.below HK9.out hbk)
      have n_aB10 := Aside0.mk (blk_below aB10.out hbk)
      clear HB HE HKA HK9 aB10
      have HB := n_HB
      have HE := n_HE
      have HKA := n_HKA
      have HK9 := n_HK9
      have aB10 := n_aB10
      clear n_HB n_HE n_HKA n_HK9 n_aB10
      have aB11 := Aside0.mk hbox
      clear hbk hbox hg
      refine hK.out _ _ ⟨aB10.out, (cells_bel rfl HB.out HCC.out)⟩ (fun hHeld => ?_)
      clear hK K
      refine norm_ (a' := ?_) ?_ ?_
      rotate_left
      · show Act.put _ (some 12) _ = _
        simp only [Act.put, List.setIfInBounds_toArray, List.set_cons_zero, List.set_cons_succ, i64_w, i32_w]
        rfl
      refine last_ (i := 12) (N := none) (la_main_lb 13 8191) rfl rfl (one_of HT_.out (by kernel_rfl)) (by decide) (fun K hK => ?_)
      refine wq_skip (ty := 44) (p := .tmp 12) (x := .tmp 49) (g := ag11) (i := 0) (k := 13) (v := ?v9) (vs := ?vs9) (cs' := ?cs9) ?hw9 ?hN9 ?ho9 ?hp9 ?hx9 ?hvc9 ?hi9 ?hk9 ?h19 aB11.out ?hsz9 ?hcs9 ?_
      case hi9 => kernel_rfl
      case hw9 => rfl
      case hN9 => rfl
      case ho9 => rfl
      case hp9 => rfl
      case hx9 => go_simp; with_reducible rfl
      case hvc9 => simp only [Value.cells]; with_reducible rfl
      case hk9 => rfl
      case h19 => rfl
      case hsz9 => exact Nat.le_of_ble_eq_true rfl
      case hcs9 => simp only [wqPut, List.setIfInBounds_toArray, List.set_cons_succ, List.set_cons_zero, Nat.reduceAdd]; with_reducible rfl
      intro aw6_ hb hgr
      have n_HB := Aside0.mk (HB.out.grown hgr HB.out.size (fun k hk => by cases hk; exact HGaB11.out.2))
      have n_HE := Aside0.mk (OE.grown_ne HE.out hgr HFVaB11.out)
      have n_HKA := Aside0.mk (KA.grown HKA.out hgr HFHKAaB11.out)
      have n_HK9 := Aside0.mk (KA.grown HK9.out hgr HFHK9aB11.out)
      have n_aB10 := Aside0.mk (wq_blk aB10.out hgr HGaB11.out.1)
      have n_aB11 := Aside0.mk hb
      clear HB HE HKA HK9 aB10 aB11 hb hgr
      have HB := n_HB
      have HE := n_HE
      have HKA := n_HKA
      have HK9 := n_HK9
      have aB10 := n_aB10
      have aB11 := n_aB11
      clear n_HB n_HE n_HKA n_HK9 n_aB10 n_aB11
      refine hK.out _ _ ?_
      clear hK K
      refine done_ (done_of HT_.out (by kernel_rfl)) ?_
      have hX := HXaB10.out
      subst hX
      clear HXaB10
      go_upto_region 12 with fail
      cases hfl : flP rs i
      · have HFL := Aside0.mk hfl
        by_cases hri : i < rs.length
        · have hv7 : ((rs.getD i z30).f2 == 7) = false := by unfold flP at hfl; rw [decide_eq_true hri, Bool.true_and] at hfl; exact hfl
          obtain ⟨ad3, e3, hres⟩ := res_at HQ.out i hri
          subst e3
          have hlr : (i : Int) < (rs.length : Int) := by omega
          generalize (rs.getD i z30).f2 = rv at hres hv7
          have HRES := Aside0.mk hres
          clear hfl hres hri
          go_upto_region 14 with (first | ((with_reducible refine gate_dst (N := 59) rfl ?_); refine wq_loadC (ty := 23) (p := .tmp 58) (ad := ⟨(ad3.add (i * 4)).block, (ad3.add (i * 4)).off + 2, none⟩) ?hgd12 ?ho12 ?hp12 Try.underlying23 ?hd12 (pw_cell_below HB.out HRES.out) ?_; (case hd12 => rfl); (case hgd12 => rfl); (case ho12 => rfl); (case hp12 => rfl)))
          by_cases h1 : 1 ≤ cl.f0
          · by_cases h3 : cl.f0 ≤ 3
            · have HPT := Aside0.mk (show aPt cl = true from by unfold aPt; rw [decide_eq_true h1, decide_eq_true h3]; rfl)
              cases hrt : st.right
              · have HRT := Aside0.mk hrt
                go_wp2_with (first | ((with_reducible refine gate_dst (N := 71) rfl ?_); refine wq_loadC (ty := 3) (p := .tmp 70) (ad := ad.add (i * 4)) ?hgd13 ?ho13 ?hp13 Try.underlying3 ?hd13 (call_k (cells_bel rfl HB.out HCC.out)) ?_; (case hd13 => rfl); (case hgd13 => rfl); (case ho13 => rfl); (case hp13 => rfl)) | ((with_reducible refine gate_dst (N := 78) rfl ?_); refine wq_loadC (ty := 3) (p := .tmp 77) (ad := ad.add (i * 4)) ?hgd14 ?ho14 ?hp14 Try.underlying3 ?hd14 (call_k (cells_bel rfl HB.out HCC.out)) ?_; (case hd14 => rfl); (case hgd14 => rfl); (case ho14 => rfl); (case hp14 => rfl)) | ((with_reducible refine gate_dst (N := 87) rfl ?_); refine wq_load1w (ty := 4) (p := .tmp 86) (g := ag11) (i := 10) (v := ?v15) ?hgd15 ?ho15 ?hp15 Try.underlying4 ?hd15 aB11.out ?hv15 ?_; (case hd15 => rfl); (case hgd15 => rfl); (case ho15 => rfl); (case hp15 => rfl); (case hv15 => rfl)) | ((with_reducible refine gate_dst (N := 89) rfl ?_); refine wq_load1w (ty := 4) (p := .tmp 88) (g := ag10) (i := 1) (v := ?v16) ?hgd16 ?ho16 ?hp16 Try.underlying4 ?hd16 aB10.out ?hv16 ?_; (case hd16 => rfl); (case hgd16 => rfl); (case ho16 => rfl); (case hp16 => rfl); (case hv16 => rfl)) | ((with_reducible refine gate_dst (N := 93) rfl ?_); refine wq_loadA (ty := 44) (p := .tmp 12) (g := ag11) (i := 0) (k := 13) (vs := ?vs17) ?hgd17 ?ho17 ?hp17 Try.underlying44 ?hd17 ?hi17 aB11.out ?hv17 ?hk17 ?_; (case hd17 => rfl); (case hi17 => kernel_rfl); (case hgd17 => rfl); (case ho17 => rfl); (case hp17 => rfl); (case hv17 => simp only [List.drop_succ_cons, List.drop_zero, List.take_succ_cons, List.take_zero, List.take_nil, List.drop_nil]; with_reducible rfl); (case hk17 => rfl)) | (obtain ⟨inr, einr, hrepr, hcellr⟩ := ev_new (W0 := W) (w := _) (aEv st.l cl false i) rfl; refine ev_app2 (W0 := W) (N := W.heap.size) (v := u6) (xs := st.h) (ys := [(aEv st.l cl false i)]) (m := 1) (c := 1) (inner := inr) rfl (.tmp 92) (.tmp 94) rfl rfl rfl (OE.below HE.out (below_alloc (Below.refl _ _) _)) (Nat.le_trans HB.out.size (below_alloc (Below.refl _ _) _).size) rfl (by decide) hrepr (hcellr _ (by rw [einr]; exact blk_new _ _)) (by have := HLEN.out; have := HIL.out; have := HL.out.1; omega) (by simp) ?_; intro v95 ainpt0w7_ ho95 hg95 hv95; have n_HB := Aside0.mk ((below_step HB.out (below_alloc (Below.refl _ _) _)).grown hg95 (Nat.le_trans HB.out.size (below_alloc (Below.refl _ _) _).size) (fun k hk => (oe_blk HE.out k hk).1)); have n_KA := Aside0.mk (KA.app (KA.below HK9.out (below_alloc (Below.refl _ _) _)) hg95 hv95); have HE95 := Aside0.mk ho95; clear HB HE HKA HK9 aB10 aB11 hrepr hcellr einr ho95 hg95 hv95; have HB := n_HB; have HKN := n_KA; clear n_HB n_KA))
                go_roundg (cs.length - (i + 1))
                case measure => have := HIL.out; have := HK.out; omega
                case rel =>
                  have hil := HIL.out
                  have hl := HL.out.1
                  exact ⟨i + 1, ⟨(apL st.l cl.f0 cl.f1 cl.f2), (st.right && ((apD st.l cl.f0 cl.f1) == apD st.l cl.f0 cl.f1)), st.h ++ [(aEv st.l cl false i)]⟩, A9, c9, by first | rfl | (rw [show wrap64 ((i : Int) + 1) = ((i + 1 : Nat) : Int) from by unfold wrap64; omega]), (by first | rfl | simp [HRT.out] | (rw [HRT.out]; rfl)), rfl, ⟨hil⟩, ⟨by omega⟩, ⟨by rw [HNX.out]; unfold aNext aDone; rw [HFL.out, HPT.out]; simp⟩, HL9, HE95, HKN, HB⟩
              · have HRT := Aside0.mk hrt
                go_wp2_with (first | ((with_reducible refine gate_dst (N := 71) rfl ?_); refine wq_loadC (ty := 3) (p := .tmp 70) (ad := ad.add (i * 4)) ?hgd18 ?ho18 ?hp18 Try.underlying3 ?hd18 (call_k (cells_bel rfl HB.out HCC.out)) ?_; (case hd18 => rfl); (case hgd18 => rfl); (case ho18 => rfl); (case hp18 => rfl)) | ((with_reducible refine gate_dst (N := 78) rfl ?_); refine wq_loadC (ty := 3) (p := .tmp 77) (ad := ad.add (i * 4)) ?hgd19 ?ho19 ?hp19 Try.underlying3 ?hd19 (call_k (cells_bel rfl HB.out HCC.out)) ?_; (case hd19 => rfl); (case hgd19 => rfl); (case ho19 => rfl); (case hp19 => rfl)) | ((with_reducible refine gate_dst (N := 87) rfl ?_); refine wq_load1w (ty := 4) (p := .tmp 86) (g := ag11) (i := 10) (v := ?v20) ?hgd20 ?ho20 ?hp20 Try.underlying4 ?hd20 aB11.out ?hv20 ?_; (case hd20 => rfl); (case hgd20 => rfl); (case ho20 => rfl); (case hp20 => rfl); (case hv20 => rfl)) | ((with_reducible refine gate_dst (N := 89) rfl ?_); refine wq_load1w (ty := 4) (p := .tmp 88) (g := ag10) (i := 1) (v := ?v21) ?hgd21 ?ho21 ?hp21 Try.underlying4 ?hd21 aB10.out ?hv21 ?_; (case hd21 => rfl); (case hgd21 => rfl); (case ho21 => rfl); (case hp21 => rfl); (case hv21 => rfl)) | ((with_reducible refine gate_dst (N := 93) rfl ?_); refine wq_loadA (ty := 44) (p := .tmp 12) (g := ag11) (i := 0) (k := 13) (vs := ?vs22) ?hgd22 ?ho22 ?hp22 Try.underlying44 ?hd22 ?hi22 aB11.out ?hv22 ?hk22 ?_; (case hd22 => rfl); (case hi22 => kernel_rfl); (case hgd22 => rfl); (case ho22 => rfl); (case hp22 => rfl); (case hv22 => simp only [List.drop_succ_cons, List.drop_zero, List.take_succ_cons, List.take_zero, List.take_nil, List.drop_nil]; with_reducible rfl); (case hk22 => rfl)) | (obtain ⟨inr, einr, hrepr, hcellr⟩ := ev_new (W0 := W) (w := _) (aEv st.l cl false i) rfl; refine ev_app2 (W0 := W) (N := W.heap.size) (v := u6) (xs := st.h) (ys := [(aEv st.l cl false i)]) (m := 1) (c := 1) (inner := inr) rfl (.tmp 92) (.tmp 94) rfl rfl rfl (OE.below HE.out (below_alloc (Below.refl _ _) _)) (Nat.le_trans HB.out.size (below_alloc (Below.refl _ _) _).size) rfl (by decide) hrepr (hcellr _ (by rw [einr]; exact blk_new _ _)) (by have := HLEN.out; have := HIL.out; have := HL.out.1; omega) (by simp) ?_; intro v95 ainpt1w7_ ho95 hg95 hv95; have n_HB := Aside0.mk ((below_step HB.out (below_alloc (Below.refl _ _) _)).grown hg95 (Nat.le_trans HB.out.size (below_alloc (Below.refl _ _) _).size) (fun k hk => (oe_blk HE.out k hk).1)); have n_KA := Aside0.mk (KA.app (KA.below HK9.out (below_alloc (Below.refl _ _) _)) hg95 hv95); have HE95 := Aside0.mk ho95; clear HB HE HKA HK9 aB10 aB11 hrepr hcellr einr ho95 hg95 hv95; have HB := n_HB; have HKN := n_KA; clear n_HB n_KA))
                go_roundg (cs.length - (i + 1))
                case measure => have := HIL.out; have := HK.out; omega
                case rel =>
                  have hil := HIL.out
                  have hl := HL.out.1
                  exact ⟨i + 1, ⟨(apL st.l cl.f0 cl.f1 cl.f2), (st.right && ((apD st.l cl.f0 cl.f1) == apD st.l cl.f0 cl.f1)), st.h ++ [(aEv st.l cl false i)]⟩, A9, c9, by first | rfl | (rw [show wrap64 ((i : Int) + 1) = ((i + 1 : Nat) : Int) from by unfold wrap64; omega]), (by first | rfl | simp [HRT.out] | (rw [HRT.out]; rfl)), rfl, ⟨hil⟩, ⟨by omega⟩, ⟨by rw [HNX.out]; unfold aNext aDone; rw [HFL.out, HPT.out]; simp⟩, HL9, HE95, HKN, HB⟩
            · have HPT := Aside0.mk (show aPt cl = false from by unfold aPt; rw [decide_eq_false h3, Bool.and_false])
              have HRT := Aside0.mk trivial
              go_wp2_with (first | ((with_reducible refine gate_dst (N := 71) rfl ?_); refine wq_loadC (ty := 3) (p := .tmp 70) (ad := ad.add (i * 4)) ?hgd23 ?ho23 ?hp23 Try.underlying3 ?hd23 (call_k (cells_bel rfl HB.out HCC.out)) ?_; (case hd23 => rfl); (case hgd23 => rfl); (case ho23 => rfl); (case hp23 => rfl)) | ((with_reducible refine gate_dst (N := 78) rfl ?_); refine wq_loadC (ty := 3) (p := .tmp 77) (ad := ad.add (i * 4)) ?hgd24 ?ho24 ?hp24 Try.underlying3 ?hd24 (call_k (cells_bel rfl HB.out HCC.out)) ?_; (case hd24 => rfl); (case hgd24 => rfl); (case ho24 => rfl); (case hp24 => rfl)) | ((with_reducible refine gate_dst (N := 93) rfl ?_); refine wq_loadA (ty := 44) (p := .tmp 12) (g := ag11) (i := 0) (k := 13) (vs := ?vs25) ?hgd25 ?ho25 ?hp25 Try.underlying44 ?hd25 ?hi25 aB11.out ?hv25 ?hk25 ?_; (case hd25 => rfl); (case hi25 => kernel_rfl); (case hgd25 => rfl); (case ho25 => rfl); (case hp25 => rfl); (case hv25 => simp only [List.drop_succ_cons, List.drop_zero, List.take_succ_cons, List.take_zero, List.take_nil, List.drop_nil]; with_reducible rfl); (case hk25 => rfl)) | (obtain ⟨inr, einr, hrepr, hcellr⟩ := ev_new (W0 := W) (w := _) (aEv st.l cl false i) rfl; refine ev_app2 (W0 := W) (N := W.heap.size) (v := u6) (xs := st.h) (ys := [(aEv st.l cl false i)]) (m := 1) (c := 1) (inner := inr) rfl (.tmp 92) (.tmp 94) rfl rfl rfl (OE.below HE.out (below_alloc (Below.refl _ _) _)) (Nat.le_trans HB.out.size (below_alloc (Below.refl _ _) _).size) rfl (by decide) hrepr (hcellr _ (by rw [einr]; exact blk_new _ _)) (by have := HLEN.out; have := HIL.out; have := HL.out.1; omega) (by simp) ?_; intro v95 ainno3w7_ ho95 hg95 hv95; have n_HB := Aside0.mk ((below_step HB.out (below_alloc (Below.refl _ _) _)).grown hg95 (Nat.le_trans HB.out.size (below_alloc (Below.refl _ _) _).size) (fun k hk => (oe_blk HE.out k hk).1)); have n_KA := Aside0.mk (KA.app (KA.below HKA.out (below_alloc (Below.refl _ _) _)) hg95 hv95); have HE95 := Aside0.mk ho95; clear HB HE HKA HK9 aB10 aB11 hrepr hcellr einr ho95 hg95 hv95; have HB := n_HB; have HKN := n_KA; clear n_HB n_KA))
              go_roundg (cs.length - (i + 1))
              case measure => have := HIL.out; have := HK.out; omega
              case rel =>
                have hil := HIL.out
                have hl := HL.out.1
                exact ⟨i + 1, ⟨st.l, st.right, st.h ++ [(aEv st.l cl false i)]⟩, Al, kl, by first | rfl | (rw [show wrap64 ((i : Int) + 1) = ((i + 1 : Nat) : Int) from by unfold wrap64; omega]), (by first | rfl | simp [HRT.out] | (rw [HRT.out]; rfl)), rfl, ⟨hil⟩, ⟨by omega⟩, ⟨by rw [HNX.out]; unfold aNext aDone; rw [HFL.out, HPT.out]; simp⟩, HKL, HE95, HKN, HB⟩
          · have HPT := Aside0.mk (show aPt cl = false from by unfold aPt; rw [decide_eq_false h1, Bool.false_and])
            have HRT := Aside0.mk trivial
            go_wp2_with (first | ((with_reducible refine gate_dst (N := 71) rfl ?_); refine wq_loadC (ty := 3) (p := .tmp 70) (ad := ad.add (i * 4)) ?hgd26 ?ho26 ?hp26 Try.underlying3 ?hd26 (call_k (cells_bel rfl HB.out HCC.out)) ?_; (case hd26 => rfl); (case hgd26 => rfl); (case ho26 => rfl); (case hp26 => rfl)) | ((with_reducible refine gate_dst (N := 78) rfl ?_); refine wq_loadC (ty := 3) (p := .tmp 77) (ad := ad.add (i * 4)) ?hgd27 ?ho27 ?hp27 Try.underlying3 ?hd27 (call_k (cells_bel rfl HB.out HCC.out)) ?_; (case hd27 => rfl); (case hgd27 => rfl); (case ho27 => rfl); (case hp27 => rfl)) | ((with_reducible refine gate_dst (N := 93) rfl ?_); refine wq_loadA (ty := 44) (p := .tmp 12) (g := ag11) (i := 0) (k := 13) (vs := ?vs28) ?hgd28 ?ho28 ?hp28 Try.underlying44 ?hd28 ?hi28 aB11.out ?hv28 ?hk28 ?_; (case hd28 => rfl); (case hi28 => kernel_rfl); (case hgd28 => rfl); (case ho28 => rfl); (case hp28 => rfl); (case hv28 => simp only [List.drop_succ_cons, List.drop_zero, List.take_succ_cons, List.take_zero, List.take_nil, List.drop_nil]; with_reducible rfl); (case hk28 => rfl)) | (obtain ⟨inr, einr, hrepr, hcellr⟩ := ev_new (W0 := W) (w := _) (aEv st.l cl false i) rfl; refine ev_app2 (W0 := W) (N := W.heap.size) (v := u6) (xs := st.h) (ys := [(aEv st.l cl false i)]) (m := 1) (c := 1) (inner := inr) rfl (.tmp 92) (.tmp 94) rfl rfl rfl (OE.below HE.out (below_alloc (Below.refl _ _) _)) (Nat.le_trans HB.out.size (below_alloc (Below.refl _ _) _).size) rfl (by decide) hrepr (hcellr _ (by rw [einr]; exact blk_new _ _)) (by have := HLEN.out; have := HIL.out; have := HL.out.1; omega) (by simp) ?_; intro v95 ainno1w7_ ho95 hg95 hv95; have n_HB := Aside0.mk ((below_step HB.out (below_alloc (Below.refl _ _) _)).grown hg95 (Nat.le_trans HB.out.size (below_alloc (Below.refl _ _) _).size) (fun k hk => (oe_blk HE.out k hk).1)); have n_KA := Aside0.mk (KA.app (KA.below HKA.out (below_alloc (Below.refl _ _) _)) hg95 hv95); have HE95 := Aside0.mk ho95; clear HB HE HKA HK9 aB10 aB11 hrepr hcellr einr ho95 hg95 hv95; have HB := n_HB; have HKN := n_KA; clear n_HB n_KA))
            go_roundg (cs.length - (i + 1))
            case measure => have := HIL.out; have := HK.out; omega
            case rel =>
              have hil := HIL.out
              have hl := HL.out.1
              exact ⟨i + 1, ⟨st.l, st.right, st.h ++ [(aEv st.l cl false i)]⟩, Al, kl, by first | rfl | (rw [show wrap64 ((i : Int) + 1) = ((i + 1 : Nat) : Int) from by unfold wrap64; omega]), (by first | rfl | simp [HRT.out] | (rw [HRT.out]; rfl)), rfl, ⟨hil⟩, ⟨by omega⟩, ⟨by rw [HNX.out]; unfold aNext aDone; rw [HFL.out, HPT.out]; simp⟩, HKL, HE95, HKN, HB⟩
        · have hlr : ¬ ((i : Int) < (rs.length : Int)) := by omega
          clear hfl hri
          go_upto_region 14 with fail
          by_cases h1 : 1 ≤ cl.f0
          · by_cases h3 : cl.f0 ≤ 3
            · have HPT := Aside0.mk (show aPt cl = true from by unfold aPt; rw [decide_eq_true h1, decide_eq_true h3]; rfl)
              cases hrt : st.right
              · have HRT := Aside0.mk hrt
                go_wp2_with (first | ((with_reducible refine gate_dst (N := 71) rfl ?_); refine wq_loadC (ty := 3) (p := .tmp 70) (ad := ad.add (i * 4)) ?hgd29 ?ho29 ?hp29 Try.underlying3 ?hd29 (call_k (cells_bel rfl HB.out HCC.out)) ?_; (case hd29 => rfl); (case hgd29 => rfl); (case ho29 => rfl); (case hp29 => rfl)) | ((with_reducible refine gate_dst (N := 78) rfl ?_); refine wq_loadC (ty := 3) (p := .tmp 77) (ad := ad.add (i * 4)) ?hgd30 ?ho30 ?hp30 Try.underlying3 ?hd30 (call_k (cells_bel rfl HB.out HCC.out)) ?_; (case hd30 => rfl); (case hgd30 => rfl); (case ho30 => rfl); (case hp30 => rfl)) | ((with_reducible refine gate_dst (N := 87) rfl ?_); refine wq_load1w (ty := 4) (p := .tmp 86) (g := ag11) (i := 10) (v := ?v31) ?hgd31 ?ho31 ?hp31 Try.underlying4 ?hd31 aB11.out ?hv31 ?_; (case hd31 => rfl); (case hgd31 => rfl); (case ho31 => rfl); (case hp31 => rfl); (case hv31 => rfl)) | ((with_reducible refine gate_dst (N := 89) rfl ?_); refine wq_load1w (ty := 4) (p := .tmp 88) (g := ag10) (i := 1) (v := ?v32) ?hgd32 ?ho32 ?hp32 Try.underlying4 ?hd32 aB10.out ?hv32 ?_; (case hd32 => rfl); (case hgd32 => rfl); (case ho32 => rfl); (case hp32 => rfl); (case hv32 => rfl)) | ((with_reducible refine gate_dst (N := 93) rfl ?_); refine wq_loadA (ty := 44) (p := .tmp 12) (g := ag11) (i := 0) (k := 13) (vs := ?vs33) ?hgd33 ?ho33 ?hp33 Try.underlying44 ?hd33 ?hi33 aB11.out ?hv33 ?hk33 ?_; (case hd33 => rfl); (case hi33 => kernel_rfl); (case hgd33 => rfl); (case ho33 => rfl); (case hp33 => rfl); (case hv33 => simp only [List.drop_succ_cons, List.drop_zero, List.take_succ_cons, List.take_zero, List.take_nil, List.drop_nil]; with_reducible rfl); (case hk33 => rfl)) | (obtain ⟨inr, einr, hrepr, hcellr⟩ := ev_new (W0 := W) (w := _) (aEv st.l cl false i) rfl; refine ev_app2 (W0 := W) (N := W.heap.size) (v := u6) (xs := st.h) (ys := [(aEv st.l cl false i)]) (m := 1) (c := 1) (inner := inr) rfl (.tmp 92) (.tmp 94) rfl rfl rfl (OE.below HE.out (below_alloc (Below.refl _ _) _)) (Nat.le_trans HB.out.size (below_alloc (Below.refl _ _) _).size) rfl (by decide) hrepr (hcellr _ (by rw [einr]; exact blk_new _ _)) (by have := HLEN.out; have := HIL.out; have := HL.out.1; omega) (by simp) ?_; intro v95 aonpt0w7_ ho95 hg95 hv95; have n_HB := Aside0.mk ((below_step HB.out (below_alloc (Below.refl _ _) _)).grown hg95 (Nat.le_trans HB.out.size (below_alloc (Below.refl _ _) _).size) (fun k hk => (oe_blk HE.out k hk).1)); have n_KA := Aside0.mk (KA.app (KA.below HK9.out (below_alloc (Below.refl _ _) _)) hg95 hv95); have HE95 := Aside0.mk ho95; clear HB HE HKA HK9 aB10 aB11 hrepr hcellr einr ho95 hg95 hv95; have HB := n_HB; have HKN := n_KA; clear n_HB n_KA))
                go_roundg (cs.length - (i + 1))
                case measure => have := HIL.out; have := HK.out; omega
                case rel =>
                  have hil := HIL.out
                  have hl := HL.out.1
                  exact ⟨i + 1, ⟨(apL st.l cl.f0 cl.f1 cl.f2), (st.right && ((apD st.l cl.f0 cl.f1) == apD st.l cl.f0 cl.f1)), st.h ++ [(aEv st.l cl false i)]⟩, A9, c9, by first | rfl | (rw [show wrap64 ((i : Int) + 1) = ((i + 1 : Nat) : Int) from by unfold wrap64; omega]), (by first | rfl | simp [HRT.out] | (rw [HRT.out]; rfl)), rfl, ⟨hil⟩, ⟨by omega⟩, ⟨by rw [HNX.out]; unfold aNext aDone; rw [HFL.out, HPT.out]; simp⟩, HL9, HE95, HKN, HB⟩
              · have HRT := Aside0.mk hrt
                go_wp2_with (first | ((with_reducible refine gate_dst (N := 71) rfl ?_); refine wq_loadC (ty := 3) (p := .tmp 70) (ad := ad.add (i * 4)) ?hgd34 ?ho34 ?hp34 Try.underlying3 ?hd34 (call_k (cells_bel rfl HB.out HCC.out)) ?_; (case hd34 => rfl); (case hgd34 => rfl); (case ho34 => rfl); (case hp34 => rfl)) | ((with_reducible refine gate_dst (N := 78) rfl ?_); refine wq_loadC (ty := 3) (p := .tmp 77) (ad := ad.add (i * 4)) ?hgd35 ?ho35 ?hp35 Try.underlying3 ?hd35 (call_k (cells_bel rfl HB.out HCC.out)) ?_; (case hd35 => rfl); (case hgd35 => rfl); (case ho35 => rfl); (case hp35 => rfl)) | ((with_reducible refine gate_dst (N := 87) rfl ?_); refine wq_load1w (ty := 4) (p := .tmp 86) (g := ag11) (i := 10) (v := ?v36) ?hgd36 ?ho36 ?hp36 Try.underlying4 ?hd36 aB11.out ?hv36 ?_; (case hd36 => rfl); (case hgd36 => rfl); (case ho36 => rfl); (case hp36 => rfl); (case hv36 => rfl)) | ((with_reducible refine gate_dst (N := 89) rfl ?_); refine wq_load1w (ty := 4) (p := .tmp 88) (g := ag10) (i := 1) (v := ?v37) ?hgd37 ?ho37 ?hp37 Try.underlying4 ?hd37 aB10.out ?hv37 ?_; (case hd37 => rfl); (case hgd37 => rfl); (case ho37 => rfl); (case hp37 => rfl); (case hv37 => rfl)) | ((with_reducible refine gate_dst (N := 93) rfl ?_); refine wq_loadA (ty := 44) (p := .tmp 12) (g := ag11) (i := 0) (k := 13) (vs := ?vs38) ?hgd38 ?ho38 ?hp38 Try.underlying44 ?hd38 ?hi38 aB11.out ?hv38 ?hk38 ?_; (case hd38 => rfl); (case hi38 => kernel_rfl); (case hgd38 => rfl); (case ho38 => rfl); (case hp38 => rfl); (case hv38 => simp only [List.drop_succ_cons, List.drop_zero, List.take_succ_cons, List.take_zero, List.take_nil, List.drop_nil]; with_reducible rfl); (case hk38 => rfl)) | (obtain ⟨inr, einr, hrepr, hcellr⟩ := ev_new (W0 := W) (w := _) (aEv st.l cl false i) rfl; refine ev_app2 (W0 := W) (N := W.heap.size) (v := u6) (xs := st.h) (ys := [(aEv st.l cl false i)]) (m := 1) (c := 1) (inner := inr) rfl (.tmp 92) (.tmp 94) rfl rfl rfl (OE.below HE.out (below_alloc (Below.refl _ _) _)) (Nat.le_trans HB.out.size (below_alloc (Below.refl _ _) _).size) rfl (by decide) hrepr (hcellr _ (by rw [einr]; exact blk_new _ _)) (by have := HLEN.out; have := HIL.out; have := HL.out.1; omega) (by simp) ?_; intro v95 aonpt1w7_ ho95 hg95 hv95; have n_HB := Aside0.mk ((below_step HB.out (below_alloc (Below.refl _ _) _)).grown hg95 (Nat.le_trans HB.out.size (below_alloc (Below.refl _ _) _).size) (fun k hk => (oe_blk HE.out k hk).1)); have n_KA := Aside0.mk (KA.app (KA.below HK9.out (below_alloc (Below.refl _ _) _)) hg95 hv95); have HE95 := Aside0.mk ho95; clear HB HE HKA HK9 aB10 aB11 hrepr hcellr einr ho95 hg95 hv95; have HB := n_HB; have HKN := n_KA; clear n_HB n_KA))
                go_roundg (cs.length - (i + 1))
                case measure => have := HIL.out; have := HK.out; omega
                case rel =>
                  have hil := HIL.out
                  have hl := HL.out.1
                  exact ⟨i + 1, ⟨(apL st.l cl.f0 cl.f1 cl.f2), (st.right && ((apD st.l cl.f0 cl.f1) == apD st.l cl.f0 cl.f1)), st.h ++ [(aEv st.l cl false i)]⟩, A9, c9, by first | rfl | (rw [show wrap64 ((i : Int) + 1) = ((i + 1 : Nat) : Int) from by unfold wrap64; omega]), (by first | rfl | simp [HRT.out] | (rw [HRT.out]; rfl)), rfl, ⟨hil⟩, ⟨by omega⟩, ⟨by rw [HNX.out]; unfold aNext aDone; rw [HFL.out, HPT.out]; simp⟩, HL9, HE95, HKN, HB⟩
            · have HPT := Aside0.mk (show aPt cl = false from by unfold aPt; rw [decide_eq_false h3, Bool.and_false])
              have HRT := Aside0.mk trivial
              go_wp2_with (first | ((with_reducible refine gate_dst (N := 71) rfl ?_); refine wq_loadC (ty := 3) (p := .tmp 70) (ad := ad.add (i * 4)) ?hgd39 ?ho39 ?hp39 Try.underlying3 ?hd39 (call_k (cells_bel rfl HB.out HCC.out)) ?_; (case hd39 => rfl); (case hgd39 => rfl); (case ho39 => rfl); (case hp39 => rfl)) | ((with_reducible refine gate_dst (N := 78) rfl ?_); refine wq_loadC (ty := 3) (p := .tmp 77) (ad := ad.add (i * 4)) ?hgd40 ?ho40 ?hp40 Try.underlying3 ?hd40 (call_k (cells_bel rfl HB.out HCC.out)) ?_; (case hd40 => rfl); (case hgd40 => rfl); (case ho40 => rfl); (case hp40 => rfl)) | ((with_reducible refine gate_dst (N := 93) rfl ?_); refine wq_loadA (ty := 44) (p := .tmp 12) (g := ag11) (i := 0) (k := 13) (vs := ?vs41) ?hgd41 ?ho41 ?hp41 Try.underlying44 ?hd41 ?hi41 aB11.out ?hv41 ?hk41 ?_; (case hd41 => rfl); (case hi41 => kernel_rfl); (case hgd41 => rfl); (case ho41 => rfl); (case hp41 => rfl); (case hv41 => simp only [List.drop_succ_cons, List.drop_zero, List.take_succ_cons, List.take_zero, List.take_nil, List.drop_nil]; with_reducible rfl); (case hk41 => rfl)) | (obtain ⟨inr, einr, hrepr, hcellr⟩ := ev_new (W0 := W) (w := _) (aEv st.l cl false i) rfl; refine ev_app2 (W0 := W) (N := W.heap.size) (v := u6) (xs := st.h) (ys := [(aEv st.l cl false i)]) (m := 1) (c := 1) (inner := inr) rfl (.tmp 92) (.tmp 94) rfl rfl rfl (OE.below HE.out (below_alloc (Below.refl _ _) _)) (Nat.le_trans HB.out.size (below_alloc (Below.refl _ _) _).size) rfl (by decide) hrepr (hcellr _ (by rw [einr]; exact blk_new _ _)) (by have := HLEN.out; have := HIL.out; have := HL.out.1; omega) (by simp) ?_; intro v95 aonno3w7_ ho95 hg95 hv95; have n_HB := Aside0.mk ((below_step HB.out (below_alloc (Below.refl _ _) _)).grown hg95 (Nat.le_trans HB.out.size (below_alloc (Below.refl _ _) _).size) (fun k hk => (oe_blk HE.out k hk).1)); have n_KA := Aside0.mk (KA.app (KA.below HKA.out (below_alloc (Below.refl _ _) _)) hg95 hv95); have HE95 := Aside0.mk ho95; clear HB HE HKA HK9 aB10 aB11 hrepr hcellr einr ho95 hg95 hv95; have HB := n_HB; have HKN := n_KA; clear n_HB n_KA))
              go_roundg (cs.length - (i + 1))
              case measure => have := HIL.out; have := HK.out; omega
              case rel =>
                have hil := HIL.out
                have hl := HL.out.1
                exact ⟨i + 1, ⟨st.l, st.right, st.h ++ [(aEv st.l cl false i)]⟩, Al, kl, by first | rfl | (rw [show wrap64 ((i : Int) + 1) = ((i + 1 : Nat) : Int) from by unfold wrap64; omega]), (by first | rfl | simp [HRT.out] | (rw [HRT.out]; rfl)), rfl, ⟨hil⟩, ⟨by omega⟩, ⟨by rw [HNX.out]; unfold aNext aDone; rw [HFL.out, HPT.out]; simp⟩, HKL, HE95, HKN, HB⟩
          · have HPT := Aside0.mk (show aPt cl = false from by unfold aPt; rw [decide_eq_false h1, Bool.false_and])
            have HRT := Aside0.mk trivial
            go_wp2_with (first | ((with_reducible refine gate_dst (N := 71) rfl ?_); refine wq_loadC (ty := 3) (p := .tmp 70) (ad := ad.add (i * 4)) ?hgd42 ?ho42 ?hp42 Try.underlying3 ?hd42 (call_k (cells_bel rfl HB.out HCC.out)) ?_; (case hd42 => rfl); (case hgd42 => rfl); (case ho42 => rfl); (case hp42 => rfl)) | ((with_reducible refine gate_dst (N := 78) rfl ?_); refine wq_loadC (ty := 3) (p := .tmp 77) (ad := ad.add (i * 4)) ?hgd43 ?ho43 ?hp43 Try.underlying3 ?hd43 (call_k (cells_bel rfl HB.out HCC.out)) ?_; (case hd43 => rfl); (case hgd43 => rfl); (case ho43 => rfl); (case hp43 => rfl)) | ((with_reducible refine gate_dst (N := 93) rfl ?_); refine wq_loadA (ty := 44) (p := .tmp 12) (g := ag11) (i := 0) (k := 13) (vs := ?vs44) ?hgd44 ?ho44 ?hp44 Try.underlying44 ?hd44 ?hi44 aB11.out ?hv44 ?hk44 ?_; (case hd44 => rfl); (case hi44 => kernel_rfl); (case hgd44 => rfl); (case ho44 => rfl); (case hp44 => rfl); (case hv44 => simp only [List.drop_succ_cons, List.drop_zero, List.take_succ_cons, List.take_zero, List.take_nil, List.drop_nil]; with_reducible rfl); (case hk44 => rfl)) | (obtain ⟨inr, einr, hrepr, hcellr⟩ := ev_new (W0 := W) (w := _) (aEv st.l cl false i) rfl; refine ev_app2 (W0 := W) (N := W.heap.size) (v := u6) (xs := st.h) (ys := [(aEv st.l cl false i)]) (m := 1) (c := 1) (inner := inr) rfl (.tmp 92) (.tmp 94) rfl rfl rfl (OE.below HE.out (below_alloc (Below.refl _ _) _)) (Nat.le_trans HB.out.size (below_alloc (Below.refl _ _) _).size) rfl (by decide) hrepr (hcellr _ (by rw [einr]; exact blk_new _ _)) (by have := HLEN.out; have := HIL.out; have := HL.out.1; omega) (by simp) ?_; intro v95 aonno1w7_ ho95 hg95 hv95; have n_HB := Aside0.mk ((below_step HB.out (below_alloc (Below.refl _ _) _)).grown hg95 (Nat.le_trans HB.out.size (below_alloc (Below.refl _ _) _).size) (fun k hk => (oe_blk HE.out k hk).1)); have n_KA := Aside0.mk (KA.app (KA.below HKA.out (below_alloc (Below.refl _ _) _)) hg95 hv95); have HE95 := Aside0.mk ho95; clear HB HE HKA HK9 aB10 aB11 hrepr hcellr einr ho95 hg95 hv95; have HB := n_HB; have HKN := n_KA; clear n_HB n_KA))
            go_roundg (cs.length - (i + 1))
            case measure => have := HIL.out; have := HK.out; omega
            case rel =>
              have hil := HIL.out
              have hl := HL.out.1
              exact ⟨i + 1, ⟨st.l, st.right, st.h ++ [(aEv st.l cl false i)]⟩, Al, kl, by first | rfl | (rw [show wrap64 ((i : Int) + 1) = ((i + 1 : Nat) : Int) from by unfold wrap64; omega]), (by first | rfl | simp [HRT.out] | (rw [HRT.out]; rfl)), rfl, ⟨hil⟩, ⟨by omega⟩, ⟨by rw [HNX.out]; unfold aNext aDone; rw [HFL.out, HPT.out]; simp⟩, HKL, HE95, HKN, HB⟩
      · have HFL := Aside0.mk hfl
        have hfl2 := hfl
        unfold flP at hfl2
        rw [Bool.and_eq_true] at hfl2
        have hri := of_decide_eq_true hfl2.1
        obtain ⟨ad3, e3, hres⟩ := res_at HQ.out i hri
        subst e3
        have hlr : (i : Int) < (rs.length : Int) := by omega
        have hv7 : ((rs.getD i z30).f2 == 7) = true := hfl2.2
        generalize (rs.getD i z30).f2 = rv at hres hv7
        have HRES := Aside0.mk hres
        clear hfl hfl2 hres hri
        go_upto_region 14 with (first | ((with_reducible refine gate_dst (N := 59) rfl ?_); refine wq_loadC (ty := 23) (p := .tmp 58) (ad := ⟨(ad3.add (i * 4)).block, (ad3.add (i * 4)).off + 2, none⟩) ?hgd45 ?ho45 ?hp45 Try.underlying23 ?hd45 (pw_cell_below HB.out HRES.out) ?_; (case hd45 => rfl); (case hgd45 => rfl); (case ho45 => rfl); (case hp45 => rfl)) | ((with_reducible refine gate_dst (N := 63) rfl ?_); refine wq_load1 (ty := 4) (p := .tmp 62) (g := ag10) (i := 1) (v := ?v46) ?hgd46 ?ho46 ?hp46 Try.underlying4 ?hd46 aB10.out ?hv46 ?_; (case hd46 => rfl); (case hgd46 => rfl); (case ho46 => rfl); (case hp46 => rfl); (case hv46 => rfl)) | ((with_reducible refine gate_store (p := 66) rfl ?_); refine wq_store (ty := 4) (p := .tmp 66) (x := .tmp 64) (g := ag11) (i := 10) (k := 1) (v := ?v47) (vs := ?vs47) (cs' := ?cs47) ?hgd47 ?hdst47 ?ho47 ?hp47 ?hx47 ?hvc47 ?hi47 ?hk47 ?h147 aB11.out ?hsz47 ?hcs47 ?_; (case hi47 => kernel_rfl); (case hgd47 => rfl); (case hdst47 => rfl); (case ho47 => rfl); (case hp47 => rfl); (case hx47 => go_simp; with_reducible rfl); (case hvc47 => simp only [Value.cells]; with_reducible rfl); (case hk47 => rfl); (case h147 => rfl); (case hsz47 => exact Nat.le_of_ble_eq_true rfl); (case hcs47 => simp only [wqPut, List.setIfInBounds_toArray, List.set_cons_succ, List.set_cons_zero, Nat.reduceAdd]; with_reducible rfl); intro ahfw7_ hb hgr; have n_HB := Aside0.mk (HB.out.grown hgr HB.out.size (fun k hk => by cases hk; exact HGaB11.out.2)); have n_HE := Aside0.mk (OE.grown_ne HE.out hgr HFVaB11.out); have n_HKA := Aside0.mk (KA.grown HKA.out hgr HFHKAaB11.out); have n_HK9 := Aside0.mk (KA.grown HK9.out hgr HFHK9aB11.out); have n_aB10 := Aside0.mk (wq_blk aB10.out hgr HGaB11.out.1); have n_aB11 := Aside0.mk hb; clear HB HE HKA HK9 aB10 aB11 hb hgr; have HB := n_HB; have HE := n_HE; have HKA := n_HKA; have HK9 := n_HK9; have aB10 := n_aB10; have aB11 := n_aB11; clear n_HB n_HE n_HKA n_HK9 n_aB10 n_aB11))
        by_cases h1 : 1 ≤ cl.f0
        · by_cases h3 : cl.f0 ≤ 3
          · have HPT := Aside0.mk (show aPt cl = true from by unfold aPt; rw [decide_eq_true h1, decide_eq_true h3]; rfl)
            cases hrt : st.right
            · have HRT := Aside0.mk hrt
              go_wp2_with (first | ((with_reducible refine gate_dst (N := 71) rfl ?_); refine wq_loadC (ty := 3) (p := .tmp 70) (ad := ad.add (i * 4)) ?hgd48 ?ho48 ?hp48 Try.underlying3 ?hd48 (call_k (cells_bel rfl HB.out HCC.out)) ?_; (case hd48 => rfl); (case hgd48 => rfl); (case ho48 => rfl); (case hp48 => rfl)) | ((with_reducible refine gate_dst (N := 78) rfl ?_); refine wq_loadC (ty := 3) (p := .tmp 77) (ad := ad.add (i * 4)) ?hgd49 ?ho49 ?hp49 Try.underlying3 ?hd49 (call_k (cells_bel rfl HB.out HCC.out)) ?_; (case hd49 => rfl); (case hgd49 => rfl); (case ho49 => rfl); (case hp49 => rfl)) | ((with_reducible refine gate_dst (N := 87) rfl ?_); refine wq_load1w (ty := 4) (p := .tmp 86) (g := ag11) (i := 10) (v := ?v50) ?hgd50 ?ho50 ?hp50 Try.underlying4 ?hd50 aB11.out ?hv50 ?_; (case hd50 => rfl); (case hgd50 => rfl); (case ho50 => rfl); (case hp50 => rfl); (case hv50 => rfl)) | ((with_reducible refine gate_dst (N := 89) rfl ?_); refine wq_load1w (ty := 4) (p := .tmp 88) (g := ag10) (i := 1) (v := ?v51) ?hgd51 ?ho51 ?hp51 Try.underlying4 ?hd51 aB10.out ?hv51 ?_; (case hd51 => rfl); (case hgd51 => rfl); (case ho51 => rfl); (case hp51 => rfl); (case hv51 => rfl)) | ((with_reducible refine gate_dst (N := 93) rfl ?_); refine wq_loadA (ty := 44) (p := .tmp 12) (g := ag11) (i := 0) (k := 13) (vs := ?vs52) ?hgd52 ?ho52 ?hp52 Try.underlying44 ?hd52 ?hi52 aB11.out ?hv52 ?hk52 ?_; (case hd52 => rfl); (case hi52 => kernel_rfl); (case hgd52 => rfl); (case ho52 => rfl); (case hp52 => rfl); (case hv52 => simp only [List.drop_succ_cons, List.drop_zero, List.take_succ_cons, List.take_zero, List.take_nil, List.drop_nil]; with_reducible rfl); (case hk52 => rfl)) | (obtain ⟨inr, einr, hrepr, hcellr⟩ := ev_new (W0 := W) (w := _) (aEv st.l cl true i) rfl; refine ev_app2 (W0 := W) (N := W.heap.size) (v := u6) (xs := st.h) (ys := [(aEv st.l cl true i)]) (m := 1) (c := 1) (inner := inr) rfl (.tmp 92) (.tmp 94) rfl rfl rfl (OE.below HE.out (below_alloc (Below.refl _ _) _)) (Nat.le_trans HB.out.size (below_alloc (Below.refl _ _) _).size) rfl (by decide) hrepr (hcellr _ (by rw [einr]; exact blk_new _ _)) (by have := HLEN.out; have := HIL.out; have := HL.out.1; omega) (by simp) ?_; intro v95 ahfpt0w8_ ho95 hg95 hv95; have n_HB := Aside0.mk ((below_step HB.out (below_alloc (Below.refl _ _) _)).grown hg95 (Nat.le_trans HB.out.size (below_alloc (Below.refl _ _) _).size) (fun k hk => (oe_blk HE.out k hk).1)); have n_KA := Aside0.mk (KA.app (KA.below HK9.out (below_alloc (Below.refl _ _) _)) hg95 hv95); have HE95 := Aside0.mk ho95; clear HB HE HKA HK9 aB10 aB11 hrepr hcellr einr ho95 hg95 hv95; have HB := n_HB; have HKN := n_KA; clear n_HB n_KA))
              go_roundg (cs.length - (i + 1))
              case measure => have := HIL.out; have := HK.out; omega
              case rel =>
                have hil := HIL.out
                have hl := HL.out.1
                exact ⟨i + 1, ⟨(apL st.l cl.f0 cl.f1 cl.f2), (st.right && ((!(apD st.l cl.f0 cl.f1)) == apD st.l cl.f0 cl.f1)), st.h ++ [(aEv st.l cl true i)]⟩, A9, c9, by first | rfl | (rw [show wrap64 ((i : Int) + 1) = ((i + 1 : Nat) : Int) from by unfold wrap64; omega]), (by first | rfl | simp [HRT.out] | (rw [HRT.out]; rfl)), rfl, ⟨hil⟩, ⟨by omega⟩, ⟨by rw [HNX.out]; unfold aNext aDone; rw [HFL.out, HPT.out]; simp⟩, HL9, HE95, HKN, HB⟩
            · have HRT := Aside0.mk hrt
              go_wp2_with (first | ((with_reducible refine gate_dst (N := 71) rfl ?_); refine wq_loadC (ty := 3) (p := .tmp 70) (ad := ad.add (i * 4)) ?hgd53 ?ho53 ?hp53 Try.underlying3 ?hd53 (call_k (cells_bel rfl HB.out HCC.out)) ?_; (case hd53 => rfl); (case hgd53 => rfl); (case ho53 => rfl); (case hp53 => rfl)) | ((with_reducible refine gate_dst (N := 78) rfl ?_); refine wq_loadC (ty := 3) (p := .tmp 77) (ad := ad.add (i * 4)) ?hgd54 ?ho54 ?hp54 Try.underlying3 ?hd54 (call_k (cells_bel rfl HB.out HCC.out)) ?_; (case hd54 => rfl); (case hgd54 => rfl); (case ho54 => rfl); (case hp54 => rfl)) | ((with_reducible refine gate_dst (N := 87) rfl ?_); refine wq_load1w (ty := 4) (p := .tmp 86) (g := ag11) (i := 10) (v := ?v55) ?hgd55 ?ho55 ?hp55 Try.underlying4 ?hd55 aB11.out ?hv55 ?_; (case hd55 => rfl); (case hgd55 => rfl); (case ho55 => rfl); (case hp55 => rfl); (case hv55 => rfl)) | ((with_reducible refine gate_dst (N := 89) rfl ?_); refine wq_load1w (ty := 4) (p := .tmp 88) (g := ag10) (i := 1) (v := ?v56) ?hgd56 ?ho56 ?hp56 Try.underlying4 ?hd56 aB10.out ?hv56 ?_; (case hd56 => rfl); (case hgd56 => rfl); (case ho56 => rfl); (case hp56 => rfl); (case hv56 => rfl)) | ((with_reducible refine gate_dst (N := 93) rfl ?_); refine wq_loadA (ty := 44) (p := .tmp 12) (g := ag11) (i := 0) (k := 13) (vs := ?vs57) ?hgd57 ?ho57 ?hp57 Try.underlying44 ?hd57 ?hi57 aB11.out ?hv57 ?hk57 ?_; (case hd57 => rfl); (case hi57 => kernel_rfl); (case hgd57 => rfl); (case ho57 => rfl); (case hp57 => rfl); (case hv57 => simp only [List.drop_succ_cons, List.drop_zero, List.take_succ_cons, List.take_zero, List.take_nil, List.drop_nil]; with_reducible rfl); (case hk57 => rfl)) | (obtain ⟨inr, einr, hrepr, hcellr⟩ := ev_new (W0 := W) (w := _) (aEv st.l cl true i) rfl; refine ev_app2 (W0 := W) (N := W.heap.size) (v := u6) (xs := st.h) (ys := [(aEv st.l cl true i)]) (m := 1) (c := 1) (inner := inr) rfl (.tmp 92) (.tmp 94) rfl rfl rfl (OE.below HE.out (below_alloc (Below.refl _ _) _)) (Nat.le_trans HB.out.size (below_alloc (Below.refl _ _) _).size) rfl (by decide) hrepr (hcellr _ (by rw [einr]; exact blk_new _ _)) (by have := HLEN.out; have := HIL.out; have := HL.out.1; omega) (by simp) ?_; intro v95 ahfpt1w8_ ho95 hg95 hv95; have n_HB := Aside0.mk ((below_step HB.out (below_alloc (Below.refl _ _) _)).grown hg95 (Nat.le_trans HB.out.size (below_alloc (Below.refl _ _) _).size) (fun k hk => (oe_blk HE.out k hk).1)); have n_KA := Aside0.mk (KA.app (KA.below HK9.out (below_alloc (Below.refl _ _) _)) hg95 hv95); have HE95 := Aside0.mk ho95; clear HB HE HKA HK9 aB10 aB11 hrepr hcellr einr ho95 hg95 hv95; have HB := n_HB; have HKN := n_KA; clear n_HB n_KA))
              go_roundg (cs.length - (i + 1))
              case measure => have := HIL.out; have := HK.out; omega
              case rel =>
                have hil := HIL.out
                have hl := HL.out.1
                exact ⟨i + 1, ⟨(apL st.l cl.f0 cl.f1 cl.f2), (st.right && ((!(apD st.l cl.f0 cl.f1)) == apD st.l cl.f0 cl.f1)), st.h ++ [(aEv st.l cl true i)]⟩, A9, c9, by first | rfl | (rw [show wrap64 ((i : Int) + 1) = ((i + 1 : Nat) : Int) from by unfold wrap64; omega]), (by first | rfl | simp [HRT.out] | (rw [HRT.out]; rfl)), rfl, ⟨hil⟩, ⟨by omega⟩, ⟨by rw [HNX.out]; unfold aNext aDone; rw [HFL.out, HPT.out]; simp⟩, HL9, HE95, HKN, HB⟩
          · have HPT := Aside0.mk (show aPt cl = false from by unfold aPt; rw [decide_eq_false h3, Bool.and_false])
            have HRT := Aside0.mk trivial
            go_wp2_with (first | ((with_reducible refine gate_dst (N := 71) rfl ?_); refine wq_loadC (ty := 3) (p := .tmp 70) (ad := ad.add (i * 4)) ?hgd58 ?ho58 ?hp58 Try.underlying3 ?hd58 (call_k (cells_bel rfl HB.out HCC.out)) ?_; (case hd58 => rfl); (case hgd58 => rfl); (case ho58 => rfl); (case hp58 => rfl)) | ((with_reducible refine gate_dst (N := 78) rfl ?_); refine wq_loadC (ty := 3) (p := .tmp 77) (ad := ad.add (i * 4)) ?hgd59 ?ho59 ?hp59 Try.underlying3 ?hd59 (call_k (cells_bel rfl HB.out HCC.out)) ?_; (case hd59 => rfl); (case hgd59 => rfl); (case ho59 => rfl); (case hp59 => rfl)) | ((with_reducible refine gate_dst (N := 93) rfl ?_); refine wq_loadA (ty := 44) (p := .tmp 12) (g := ag11) (i := 0) (k := 13) (vs := ?vs60) ?hgd60 ?ho60 ?hp60 Try.underlying44 ?hd60 ?hi60 aB11.out ?hv60 ?hk60 ?_; (case hd60 => rfl); (case hi60 => kernel_rfl); (case hgd60 => rfl); (case ho60 => rfl); (case hp60 => rfl); (case hv60 => simp only [List.drop_succ_cons, List.drop_zero, List.take_succ_cons, List.take_zero, List.take_nil, List.drop_nil]; with_reducible rfl); (case hk60 => rfl)) | (obtain ⟨inr, einr, hrepr, hcellr⟩ := ev_new (W0 := W) (w := _) (aEv st.l cl true i) rfl; refine ev_app2 (W0 := W) (N := W.heap.size) (v := u6) (xs := st.h) (ys := [(aEv st.l cl true i)]) (m := 1) (c := 1) (inner := inr) rfl (.tmp 92) (.tmp 94) rfl rfl rfl (OE.below HE.out (below_alloc (Below.refl _ _) _)) (Nat.le_trans HB.out.size (below_alloc (Below.refl _ _) _).size) rfl (by decide) hrepr (hcellr _ (by rw [einr]; exact blk_new _ _)) (by have := HLEN.out; have := HIL.out; have := HL.out.1; omega) (by simp) ?_; intro v95 ahfno3w8_ ho95 hg95 hv95; have n_HB := Aside0.mk ((below_step HB.out (below_alloc (Below.refl _ _) _)).grown hg95 (Nat.le_trans HB.out.size (below_alloc (Below.refl _ _) _).size) (fun k hk => (oe_blk HE.out k hk).1)); have n_KA := Aside0.mk (KA.app (KA.below HKA.out (below_alloc (Below.refl _ _) _)) hg95 hv95); have HE95 := Aside0.mk ho95; clear HB HE HKA HK9 aB10 aB11 hrepr hcellr einr ho95 hg95 hv95; have HB := n_HB; have HKN := n_KA; clear n_HB n_KA))
            go_roundg (cs.length - (i + 1))
            case measure => have := HIL.out; have := HK.out; omega
            case rel =>
              have hil := HIL.out
              have hl := HL.out.1
              exact ⟨i + 1, ⟨st.l, st.right, st.h ++ [(aEv st.l cl true i)]⟩, Al, kl, by first | rfl | (rw [show wrap64 ((i : Int) + 1) = ((i + 1 : Nat) : Int) from by unfold wrap64; omega]), (by first | rfl | simp [HRT.out] | (rw [HRT.out]; rfl)), rfl, ⟨hil⟩, ⟨by omega⟩, ⟨by rw [HNX.out]; unfold aNext aDone; rw [HFL.out, HPT.out]; simp⟩, HKL, HE95, HKN, HB⟩
        · have HPT := Aside0.mk (show aPt cl = false from by unfold aPt; rw [decide_eq_false h1, Bool.false_and])
          have HRT := Aside0.mk trivial
          go_wp2_with (first | ((with_reducible refine gate_dst (N := 71) rfl ?_); refine wq_loadC (ty := 3) (p := .tmp 70) (ad := ad.add (i * 4)) ?hgd61 ?ho61 ?hp61 Try.underlying3 ?hd61 (call_k (cells_bel rfl HB.out HCC.out)) ?_; (case hd61 => rfl); (case hgd61 => rfl); (case ho61 => rfl); (case hp61 => rfl)) | ((with_reducible refine gate_dst (N := 78) rfl ?_); refine wq_loadC (ty := 3) (p := .tmp 77) (ad := ad.add (i * 4)) ?hgd62 ?ho62 ?hp62 Try.underlying3 ?hd62 (call_k (cells_bel rfl HB.out HCC.out)) ?_; (case hd62 => rfl); (case hgd62 => rfl); (case ho62 => rfl); (case hp62 => rfl)) | ((with_reducible refine gate_dst (N := 93) rfl ?_); refine wq_loadA (ty := 44) (p := .tmp 12) (g := ag11) (i := 0) (k := 13) (vs := ?vs63) ?hgd63 ?ho63 ?hp63 Try.underlying44 ?hd63 ?hi63 aB11.out ?hv63 ?hk63 ?_; (case hd63 => rfl); (case hi63 => kernel_rfl); (case hgd63 => rfl); (case ho63 => rfl); (case hp63 => rfl); (case hv63 => simp only [List.drop_succ_cons, List.drop_zero, List.take_succ_cons, List.take_zero, List.take_nil, List.drop_nil]; with_reducible rfl); (case hk63 => rfl)) | (obtain ⟨inr, einr, hrepr, hcellr⟩ := ev_new (W0 := W) (w := _) (aEv st.l cl true i) rfl; refine ev_app2 (W0 := W) (N := W.heap.size) (v := u6) (xs := st.h) (ys := [(aEv st.l cl true i)]) (m := 1) (c := 1) (inner := inr) rfl (.tmp 92) (.tmp 94) rfl rfl rfl (OE.below HE.out (below_alloc (Below.refl _ _) _)) (Nat.le_trans HB.out.size (below_alloc (Below.refl _ _) _).size) rfl (by decide) hrepr (hcellr _ (by rw [einr]; exact blk_new _ _)) (by have := HLEN.out; have := HIL.out; have := HL.out.1; omega) (by simp) ?_; intro v95 ahfno1w8_ ho95 hg95 hv95; have n_HB := Aside0.mk ((below_step HB.out (below_alloc (Below.refl _ _) _)).grown hg95 (Nat.le_trans HB.out.size (below_alloc (Below.refl _ _) _).size) (fun k hk => (oe_blk HE.out k hk).1)); have n_KA := Aside0.mk (KA.app (KA.below HKA.out (below_alloc (Below.refl _ _) _)) hg95 hv95); have HE95 := Aside0.mk ho95; clear HB HE HKA HK9 aB10 aB11 hrepr hcellr einr ho95 hg95 hv95; have HB := n_HB; have HKN := n_KA; clear n_HB n_KA))
          go_roundg (cs.length - (i + 1))
          case measure => have := HIL.out; have := HK.out; omega
          case rel =>
            have hil := HIL.out
            have hl := HL.out.1
            exact ⟨i + 1, ⟨st.l, st.right, st.h ++ [(aEv st.l cl true i)]⟩, Al, kl, by first | rfl | (rw [show wrap64 ((i : Int) + 1) = ((i + 1 : Nat) : Int) from by unfold wrap64; omega]), (by first | rfl | simp [HRT.out] | (rw [HRT.out]; rfl)), rfl, ⟨hil⟩, ⟨by omega⟩, ⟨by rw [HNX.out]; unfold aNext aDone; rw [HFL.out, HPT.out]; simp⟩, HKL, HE95, HKN, HB⟩
    · have hnlt : ¬ ((i : Int) < (cs.length : Int)) := by omega
      have hii : i = cs.length := by have := HJ.out; omega
      subst hii
      clear hil
      have hmain := al_main cs (flP rs) cs.length
      rw [← HST.out] at hmain
      obtain ⟨A6, c6, e6, _, _⟩ := HE.out.C HB.out
      subst e6
      have hlen : st.h.length = cs.length := by rw [HST.out]; exact aRun_len _ _ _
      obtain ⟨m6, hm6⟩ : ∃ m, st.h.length = m := ⟨_, rfl⟩
      rw [hm6] at HE ⊢
      have HMN := Aside0.mk hmain
      have HM6 := Aside0.mk hm6
      have HLEN := Aside0.mk hlen
      clear hmain hlen hm6
      cases hrt : st.right
      · have HRT := Aside0.mk hrt
        go_wp2_with (first | (go_at_call 17; (with_reducible refine (li_legal_at false m6 A6 c6 st.h HM6.out (by have := HLEN.out; have := HL.out.1; omega) (HMN.out.trans HRT.out) _ (HE.out.C' HB.out)).mono ?_); rintro e zfu1_ ⟨rfl, hbk⟩; have n_HB := Aside0.mk (below_step HB.out hbk); clear HB; have HB := n_HB; clear n_HB; clear hbk))
        go_ret
        exact ⟨rfl, HB.out⟩
      · have HRT := Aside0.mk hrt
        go_wp2_with (first | (go_at_call 17; (with_reducible refine (li_legal_at true m6 A6 c6 st.h HM6.out (by have := HLEN.out; have := HL.out.1; omega) (HMN.out.trans HRT.out) _ (HE.out.C' HB.out)).mono ?_); rintro e ztu1_ ⟨rfl, hbk⟩; have n_HB := Aside0.mk (below_step HB.out hbk); clear HB; have HB := n_HB; clear n_HB; clear hbk))
        go_ret
        exact ⟨rfl, HB.out⟩
theorem li_LinAlone (A : Option Addr) (c : Nat) (cs : List S25) (B : Option Addr) (d : Nat) (rs : List S30) (W : World) (hr : Kd.C k25 W A cs.length cs) (hcr : cs.length ≤ c) (hq : Kd.C k30 W B rs.length rs) (hcq : rs.length ≤ d) :
    Calls Try.prog 5 #[.slice A cs.length c, .slice B rs.length d] W fun e w' => e = .returned (.bool true) ∧ Below W.heap.size W w' := by
  by_cases h1 : cs.length > 7
  · exact la_long1 A c cs B d rs W hr hcr hq hcq h1
  · by_cases h2 : rs.length > 7
    · exact la_long2 A c cs B d rs W hr hcr hq hcq (by omega) h2
    · exact la_main A c cs B d rs W hr hcr hq hcq (by omega) (by omega)

def corrielaw21_LinAlone.f (l0 : List S25) (l1 : List S30) : Option Bool := some true
theorem corrielaw21_LinAlone.calls (A0 : Option Addr) (c0 : Nat) (l0 : List S25) (A1 : Option Addr) (c1 : Nat) (l1 : List S30) (r : Bool) (w : World) (hr0 : Kd.C k25 w A0 l0.length l0) (hc0 : l0.length ≤ c0) (hr1 : Kd.C k30 w A1 l1.length l1) (hc1 : l1.length ≤ c1) (h : corrielaw21_LinAlone.f l0 l1 = some r) :
    Calls Try.prog 5 #[.slice A0 l0.length c0, .slice A1 l1.length c1] w fun e w' => e = .returned (.bool r) ∧ Below w.heap.size w w' := by
  cases h
  exact li_LinAlone A0 c0 l0 A1 c1 l1 w hr0 hc0 hr1 hc1


end Go.Proofs.Ytcleoahoppggmaa.PLinAlone
