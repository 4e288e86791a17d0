-- Written by a program of this session: a variant of the print that takes proofs by hand (wip/tools/mkprint.py)
import Derived.Test.YtcleoahoppggmaaPLinAlonex0
import Derived.Test.YtcleoahoppggmaaPLinAlonex2
namespace Go.Proofs.Ytcleoahoppggmaa.PLinAlone
open Go.RowKit Go.Proofs.YtcleoahoppggmaaW.PrintWords Go.Proofs.YtcleoahoppggmaaW.PrintLast Go.Proofs.YtcleoahoppggmaaW.PrintMore
attribute [local go_sem] max2_int min2_int max_two min_two max_three min_three max_four min_four   -- for this text's walks alone
set_option linter.unusedVariables false
set_option linter.unusedSimpArgs false

-- NOT PRINTED: function 42 (api_Event_42)

-- NOT PRINTED: function 39 (api_Event_39)

-- NOT PRINTED: function 40 (api_Event_40)

/-! ### history_Points: function 38 (by hand) -/
theorem row_own_set {w : World} {N : Nat} {e : TypeId} {sz n g cap : Nat} {inner : List Value} (h : w.ownsRow N e sz (.slice (some ⟨g, 0, none⟩) n cap) n inner) (o : Nat) (u : Value) :
    (w.setCell ⟨g, o, none⟩ u).ownsRow N e sz (.slice (some ⟨g, 0, none⟩) n cap) n (inner.set o u) := by
  obtain ⟨hl, h2⟩ := h
  refine ⟨by rw [List.length_set]; exact hl, .inr ?_⟩
  rcases h2 with ⟨he, _⟩ | ⟨g', cap', cur, he, hb, hh, h3, h4, h5, h6⟩
  · cases he
  · cases he
    refine ⟨g, cap, cur.setIfInBounds o u, rfl, hb, ?_, h3, h4, by simpa using h5, ?_⟩
    · rw [setCell_eq_setRow w g o cur e (0, 0) u hh]
      exact setRow_heap w g cur _ e (0, 0) hh
    · rw [Array.toList_setIfInBounds, List.take_set, h6]
theorem row_own_sets {N : Nat} {e : TypeId} {sz n g cap : Nat} : ∀ (vs : List Value) (w : World) (inner : List Value) (o : Nat), w.ownsRow N e sz (.slice (some ⟨g, 0, none⟩) n cap) n inner → o + vs.length ≤ inner.length →
    (w.setCells g o vs).ownsRow N e sz (.slice (some ⟨g, 0, none⟩) n cap) n (inner.take o ++ vs ++ inner.drop (o + vs.length))
  | [], w, inner, o, h, _ => by simpa [World.setCells] using h
  | v :: r, w, inner, o, h, hl => by
    simp only [List.length_cons] at hl
    have ih := row_own_sets r (w.setCell ⟨g, o, none⟩ v) (inner.set o v) (o + 1) (row_own_set h o v) (by rw [List.length_set]; omega)
    rw [World.setCells]
    have e1 : (inner.set o v).take (o + 1) ++ r ++ (inner.set o v).drop (o + 1 + r.length) = inner.take o ++ (v :: r) ++ inner.drop (o + (v :: r).length) := by
      rw [List.take_set, List.take_succ_eq_append_getElem (show o < inner.length by omega), List.set_append_right _ _ (by rw [List.length_take]; omega), List.drop_set_of_lt (by omega)]
      rw [show o - (inner.take o).length = 0 by rw [List.length_take]; omega]
      simp [Nat.add_assoc, Nat.add_comm 1]
    rw [← e1]
    exact ih
theorem row_reps_take {α : Type} {R : α → List Value → Prop} {size m : Nat} {ps : List α} {cs : List Value} (h : Reps R size ps cs) (hm : m ≤ ps.length) : Reps R size (ps.take m) (cs.take (m * size)) := by
  refine ⟨by rw [List.length_take, List.length_take, h.1, Nat.min_eq_left hm, Nat.min_eq_left (Nat.mul_le_mul_right _ hm)], fun j p hj => ?_⟩
  rw [List.getElem?_take] at hj
  split at hj
  · rename_i hjm
    have := h.2 j p hj
    have hle : j * size + size ≤ m * size := by rw [← Nat.succ_mul]; exact Nat.mul_le_mul_right _ hjm
    rw [List.drop_take, List.take_take, Nat.min_eq_left (by omega)]
    exact this
  · cases hj
theorem row_reps_set {α : Type} {R : α → List Value → Prop} {size : Nat} {ps : List α} {cs c : List Value} {p : α} (h : Reps R size ps cs) (i : Nat) (hi : i < ps.length) (hp : R p c) (hc : c.length = size) :
    Reps R size (ps.set i p) (cs.take (i * size) ++ c ++ cs.drop (i * size + size)) := by
  have h1 := Kd.reps_set h hi hp hc
  rwa [hc] at h1
theorem row_frozen {w : World} {N : Nat} {e : TypeId} {sz n g cap : Nat} {inner : List Value} (h : w.ownsRow N e sz (.slice (some ⟨g, 0, none⟩) n cap) n inner) (o : Nat) : w.frozen? ⟨g, o, none⟩ = false := by
  rcases h.2 with ⟨he, _⟩ | ⟨g', cap', cur, he, hb, hh, h3, h4, h5, h6⟩
  · cases he
  · cases he
    simp [World.frozen?, hh]
theorem row_sets_below {N g : Nat} (hg : N ≤ g) : ∀ (vs : List Value) (w0 w : World) (o : Nat), Below N w0 w → Below N w0 (w.setCells g o vs)
  | [], _, _, _, h => h
  | v :: r, w0, w, o, h => row_sets_below hg r w0 _ (o + 1) (h.setCell (p := ⟨g, o, none⟩) hg v)
theorem row_cap {w : World} {N : Nat} {e : TypeId} {sz n g cap : Nat} {inner : List Value} (h : w.ownsRow N e sz (.slice (some ⟨g, 0, none⟩) n cap) n inner) : N ≤ g ∧ n ≤ cap ∧ cap ≤ maxLen ∧ g < w.heap.size := by
  rcases h.2 with ⟨he, _⟩ | ⟨g', cap', cur, he, hb, hh, h3, h4, h5, h6⟩
  · cases he
  · cases he
    exact ⟨hb, h3, h4, (Array.getElem?_eq_some_iff.1 hh).1⟩
theorem row_cut {w : World} {N : Nat} {e : TypeId} {sz n g cap : Nat} {inner : List Value} (h : w.ownsRow N e sz (.slice (some ⟨g, 0, none⟩) n cap) n inner) (m : Nat) (hm : m ≤ n) : w.ownsRow N e sz (.slice (some ⟨g, 0, none⟩) m cap) m (inner.take (m * sz)) := by
  obtain ⟨hl, h2⟩ := h
  have hms : m * sz ≤ n * sz := Nat.mul_le_mul_right _ hm
  refine ⟨by rw [List.length_take, hl]; omega, .inr ?_⟩
  rcases h2 with ⟨he, _⟩ | ⟨g', cap', cur, he, hb, hh, h3, h4, h5, h6⟩
  · cases he
  · cases he
    exact ⟨g, cap, cur, rfl, hb, hh, by omega, h4, h5, by rw [← h6, List.take_take, Nat.min_eq_left hms]⟩
theorem row_seg {w : World} {N : Nat} {e : TypeId} {sz n g cap : Nat} {inner : List Value} (h : w.ownsRow N e sz (.slice (some ⟨g, 0, none⟩) n cap) n inner) {α : Type} {R : α → List Value → Prop} {ps : List α} (hr : Reps R sz ps inner) (j : Nat) (x : α) (hj : ps[j]? = some x) (vs : List Value) (hv : vs.length = sz)
    (hc : ∀ q, q < sz → w.cell? ⟨g, j * sz + q, none⟩ = vs[q]?) : R x vs := by
  have h1 := hr.2 j x hj
  have hjl := (List.getElem?_eq_some_iff.1 hj).1
  have hfit : j * sz + sz ≤ inner.length := by rw [hr.1, ← Nat.succ_mul]; exact Nat.mul_le_mul_right _ hjl
  have e1 : (inner.drop (j * sz)).take sz = vs := by
    apply List.ext_getElem?
    intro q
    by_cases hq : q < sz
    · rw [List.getElem?_take_of_lt hq, List.getElem?_drop, ← hc q hq]
      have h2 := h.cells (g := g) rfl (j * sz + q) _ (List.getElem?_eq_getElem (show j * sz + q < inner.length by omega))
      rw [Addr.add_lit, Nat.zero_add] at h2
      rw [h2]
      exact List.getElem?_eq_getElem _
    · rw [List.getElem?_eq_none (by rw [List.length_take]; omega), List.getElem?_eq_none (by omega)]
  rw [e1] at h1
  exact h1
theorem row_clear {P : Program} {w : World} {N : Nat} {e : TypeId} {sz n g cap : Nat} {inner : List Value} (h : w.ownsRow N e sz (.slice (some ⟨g, 0, none⟩) n cap) n inner) (t ty : TypeId) (z : Value) (ht : P.underlying t = some (.slice e)) (hv : ∀ w, (zeroValue e).run P w = .ok z w) (hz : z.cells.size = sz) (h1 : ∀ u ∈ z.cells.toList, u.oneCell' = true) (o c : Nat) (ho : o < n) :
    (Builtin.clear_ #[t] ty #[.slice (some ⟨g, o * sz, none⟩) (n - o) c]).run P w = .ok (.tuple #[]) (w.setCells g (o * sz) (Builtin.zeroCells z.cells (n - o)).toList) := by
  have hlen : (Builtin.zeroCells z.cells (n - o)).toList.length = (n - o) * sz := by simp [Builtin.zeroCells, hz]
  have hfit : o * sz + (n - o) * sz = n * sz := by rw [← Nat.add_mul]; congr 1; omega
  have hst := run_storeCells_cells (P := P) g (o * sz) (Builtin.zeroCells z.cells (n - o)).toList 0 w (fun j hj => by
      have hl := h.1
      have h2 := h.cells (g := g) rfl (o * sz + 0 + j) _ (List.getElem?_eq_getElem (show o * sz + 0 + j < inner.length by omega))
      rw [Addr.add_lit, Nat.zero_add] at h2
      rw [h2]
      rfl) (fun j hj => row_frozen h _) (fun u hu => by
      simp only [Builtin.zeroCells, Array.toList_map, List.mem_map] at hu
      obtain ⟨i, hi, rfl⟩ := hu
      have hi' : i < (n - o) * z.cells.size := by simpa using hi
      have hpos : 0 < z.cells.size := by
        rcases Nat.eq_zero_or_pos z.cells.size with h0 | h0
        · rw [h0, Nat.mul_zero] at hi'; omega
        · exact h0
      have hlt := Nat.mod_lt i hpos
      rw [getElem!_pos z.cells _ hlt]
      exact h1 _ (by rw [← Array.getElem_toList]; exact List.getElem_mem _))
  simp only [Nat.add_zero] at hst
  obtain ⟨m, hm⟩ : ∃ m, n - o = m + 1 := ⟨n - o - 1, by omega⟩
  rw [hm] at hst ⊢
  simp [Builtin.clear_, run_underlying ht, hv, hst]
def history_Points1.f (x : S44) : Bool := if x.f6.f0 = 0 then (if x.f5.f0 < 1 then true else decide (3 < x.f5.f0)) else true
set_option maxHeartbeats 8000000 in
set_option maxRecDepth 100000 in
theorem history_Points1.calls (x : S44) (A : Option Addr) (c : Nat) (W : World) :
    Calls Try.prog 41 #[.agg #[.int .i64 x.f0, .int .i64 x.f1, .int .i64 x.f2, .int .i64 x.f3, .int .i64 x.f4, .int .i64 x.f5.f0, .int .u64 x.f5.f1, .int .u64 x.f5.f2, .int .i64 x.f5.f3, .int .i64 x.f6.f0, .bool x.f6.f1, .int .u64 x.f6.f2, .slice A x.f6.f3.length c]] W fun e w' => e = .returned (.bool (history_Points1.f x)) ∧ Below W.heap.size W w' := by
  have HB := Aside0.mk (Below.refl W.heap.size W)
  unfold history_Points1.f
  by_cases c1 : x.f6.f0 = 0
  · rw [if_pos c1]
    have c1b : (x.f6.f0 != 0) = false := bne_eq_false_iff_eq.mpr c1
    clear c1
    by_cases c2 : x.f5.f0 < 1
    · rw [if_pos c2]
      have c2b : decide (x.f5.f0 < 1) = true := decide_eq_true c2
      clear c2
      go_enter Try.func41, Try.ntmps41
      go_wp2_with (first | ((with_reducible refine gate_dst (N := 1) rfl ?_); refine box_event ?hg (N := 1) ?hd (cs := #[.int .i64 x.f0, .int .i64 x.f1, .int .i64 x.f2, .int .i64 x.f3, .int .i64 x.f4, .int .i64 x.f5.f0, .int .u64 x.f5.f1, .int .u64 x.f5.f2, .int .i64 x.f5.f3, .int .i64 x.f6.f0, .bool x.f6.f1, .int .u64 x.f6.f2, .slice A x.f6.f3.length c]) (t := 44) ?hr ?_; (case hd => rfl); (case hg => rfl); (case hr => first | (go_simp; done) | (go_simp; rfl)); intro gx hg wb_gx hbox hb; have BKgx := Aside0.mk hbox; have n0_ := Aside0.mk (below_step HB.out hb); clear HB; have HB := n0_; clear n0_; have cgx_5 : wb_gx.cell? ⟨gx, 5, none⟩ = some (.int .i64 x.f5.f0) := (blk_cell BKgx.out 5).trans rfl; have cgx_9 : wb_gx.cell? ⟨gx, 9, none⟩ = some (.int .i64 x.f6.f0) := (blk_cell BKgx.out 9).trans rfl; clear hb hbox hg))
      go_ret
      exact ⟨by first | rfl | (simp [*]; done), by repeat (first | (with_reducible first | exact HB.out | apply below_alloc | apply pw_below_drewN | apply below_drew1) | exact HB.out)⟩
    · rw [if_neg c2]
      have c2b : decide (x.f5.f0 < 1) = false := decide_eq_false c2
      clear c2
      go_enter Try.func41, Try.ntmps41
      go_wp2_with (first | ((with_reducible refine gate_dst (N := 1) rfl ?_); refine box_event ?hg (N := 1) ?hd (cs := #[.int .i64 x.f0, .int .i64 x.f1, .int .i64 x.f2, .int .i64 x.f3, .int .i64 x.f4, .int .i64 x.f5.f0, .int .u64 x.f5.f1, .int .u64 x.f5.f2, .int .i64 x.f5.f3, .int .i64 x.f6.f0, .bool x.f6.f1, .int .u64 x.f6.f2, .slice A x.f6.f3.length c]) (t := 44) ?hr ?_; (case hd => rfl); (case hg => rfl); (case hr => first | (go_simp; done) | (go_simp; rfl)); intro gx hg wb_gx hbox hb; have BKgx := Aside0.mk hbox; have n0_ := Aside0.mk (below_step HB.out hb); clear HB; have HB := n0_; clear n0_; have cgx_5 : wb_gx.cell? ⟨gx, 5, none⟩ = some (.int .i64 x.f5.f0) := (blk_cell BKgx.out 5).trans rfl; have cgx_9 : wb_gx.cell? ⟨gx, 9, none⟩ = some (.int .i64 x.f6.f0) := (blk_cell BKgx.out 9).trans rfl; clear hb hbox hg))
      go_ret
      exact ⟨by first | rfl | (simp [*]; done), by repeat (first | (with_reducible first | exact HB.out | apply below_alloc | apply pw_below_drewN | apply below_drew1) | exact HB.out)⟩
  · rw [if_neg c1]
    have c1b : (x.f6.f0 != 0) = true := bne_iff_ne.mpr c1
    clear c1
    go_enter Try.func41, Try.ntmps41
    go_wp2_with (first | ((with_reducible refine gate_dst (N := 1) rfl ?_); refine box_event ?hg (N := 1) ?hd (cs := #[.int .i64 x.f0, .int .i64 x.f1, .int .i64 x.f2, .int .i64 x.f3, .int .i64 x.f4, .int .i64 x.f5.f0, .int .u64 x.f5.f1, .int .u64 x.f5.f2, .int .i64 x.f5.f3, .int .i64 x.f6.f0, .bool x.f6.f1, .int .u64 x.f6.f2, .slice A x.f6.f3.length c]) (t := 44) ?hr ?_; (case hd => rfl); (case hg => rfl); (case hr => first | (go_simp; done) | (go_simp; rfl)); intro gx hg wb_gx hbox hb; have BKgx := Aside0.mk hbox; have n0_ := Aside0.mk (below_step HB.out hb); clear HB; have HB := n0_; clear n0_; have cgx_5 : wb_gx.cell? ⟨gx, 5, none⟩ = some (.int .i64 x.f5.f0) := (blk_cell BKgx.out 5).trans rfl; have cgx_9 : wb_gx.cell? ⟨gx, 9, none⟩ = some (.int .i64 x.f6.f0) := (blk_cell BKgx.out 9).trans rfl; clear hb hbox hg))
    go_ret
    exact ⟨by first | rfl | (simp [*]; done), by repeat (first | (with_reducible first | exact HB.out | apply below_alloc | apply pw_below_drewN | apply below_drew1) | exact HB.out)⟩
def hpt_ix.l0  : Nat → List S44 → Int → Option Int
  | 0, _, _ => none
  | k + 1, l, i => if i < (l.length : Int) then (if 0 ≤ i then (if history_Points1.f (rd_T44 l i) = true then some i else hpt_ix.l0 k l (wrap64 (i + 1))) else none) else some (-1)
theorem hpt_ix.mono_l  : ∀ k l i, LeO (hpt_ix.l0 k l i) (hpt_ix.l0 (k + 1) l i)
  | 0, _, _ => fun r h => by simp [hpt_ix.l0] at h
  | k + 1, l, i => by
    unfold hpt_ix.l0
    exact LeO.ite (LeO.ite (LeO.ite (LeO.refl _) (hpt_ix.mono_l k _ _)) (LeO.refl _)) (LeO.refl _)
set_option maxHeartbeats 8000000 in
set_option maxRecDepth 100000 in
theorem hpt_ix.calls (k : Nat)   (A0 : Option Addr) (c0 : Nat) (l0 : List S44) (r : Int)  (W : World) (hr0 : Kd.C k44 W A0 l0.length l0)  (h : hpt_ix.l0 k l0 0 = some r) :
    Calls Try.prog 42 #[.slice A0 l0.length c0, .func (.func 41) #[] #[]] W fun e_ w' => e_ = .returned (.int .i64 r) ∧ Below W.heap.size W w' := by
  have HR0 := Aside0.mk hr0
  have H' := Aside0.mk h
  have HB := Aside0.mk (Below.refl W.heap.size W)
  clear hr0 h 
  go_enter Try.func42, Try.ntmps42
  go_wp2
  go_loopg [8] k (fun kq v8 w' => ∃ (i : Int), v8 = .int .i64 i ∧ Aside0 (hpt_ix.l0 kq l0 i = some r) ∧ Aside0 (kq ≤ k) ∧ Aside0 (Below W.heap.size W w'))
  case atStart => exact ⟨0, by rfl, H', ⟨Nat.le_refl _⟩, ⟨by repeat (first | (with_reducible first | exact HB.out | apply below_alloc | apply pw_below_drewN | apply below_drew1) | exact HB.out)⟩⟩
  case round =>
    clear H'
    clear HB
    try clear p2
    obtain ⟨i, rfl, HA, HK1, HB⟩ := hrel
    cases gk with
    | zero => exact absurd HA.out (by simp [hpt_ix.l0])
    | succ k1 =>
      have H := HA.out
      clear HA
      simp only [hpt_ix.l0] at H
      by_cases c4 : i < (l0.length : Int)
      · rw [if_pos c4] at H
        have c4b0 : decide (i < (l0.length : Int)) = true := decide_eq_true c4
        by_cases c5 : 0 ≤ i
        · rw [if_pos c5] at H
          have c5b0 : decide (0 ≤ i) = true := decide_eq_true c5
          obtain ⟨ad, A12, c12, e12, hx0, hx1, hx2, hx3, hx4, hx5, hx6, hx7, hx8, hx9, hx10, hx11, hx12, hl12, hi12⟩ := at_T44 (Kd.C_below HR0.out HB.out) i c5 c4
          cases e12
          have HI := Aside0.mk hi12
          have HL := Aside0.mk hl12
          clear hi12 hl12
          by_cases c6 : history_Points1.f (rd_T44 l0 i) = true
          · rw [if_pos c6] at H
            have c6b0 : history_Points1.f (rd_T44 l0 i) = true := c6
            obtain rfl := Option.some.inj H
            clear H
            go_wp2_with (first | (go_at_call 41; (with_reducible refine (history_Points1.calls (rd_T44 l0 i) A12 c12 _ ).mono ?_); rintro e w1 ⟨rfl, hb⟩; have n0_ := Aside0.mk (below_step HB.out hb); clear HB hb; have HB := n0_; clear n0_))
            go_ret
            exact ⟨by first | rfl | (simp [*]; done), by repeat (first | (with_reducible first | exact HB.out | apply below_alloc | apply pw_below_drewN | apply below_drew1) | exact HB.out)⟩
          · rw [if_neg c6] at H
            have c6b0 : history_Points1.f (rd_T44 l0 i) = false := Bool.eq_false_iff.mpr c6
            have H' := Aside0.mk H
            clear H
            go_wp2_with (first | (go_at_call 41; (with_reducible refine (history_Points1.calls (rd_T44 l0 i) A12 c12 _ ).mono ?_); rintro e w1 ⟨rfl, hb⟩; have n0_ := Aside0.mk (below_step HB.out hb); clear HB hb; have HB := n0_; clear n0_))
            go_roundg k1
            case measure => have := HK1.out; omega
            case rel => exact ⟨wrap64 (i + 1), (by first | rfl | (simp; done) | (simp [*]; done)), H', ⟨by have := HK1.out; omega⟩, ⟨by repeat (first | (with_reducible first | exact HB.out | apply below_alloc | apply pw_below_drewN | apply below_drew1) | exact HB.out)⟩⟩
        · rw [if_neg c5] at H
          exact absurd H (by simp)
      · rw [if_neg c4] at H
        have c4b0 : decide (i < (l0.length : Int)) = false := decide_eq_false c4
        clear c4
        obtain rfl := Option.some.inj H
        clear H
        go_wp2
        go_ret
        exact ⟨by first | rfl | (simp [*]; done), by repeat (first | (with_reducible first | exact HB.out | apply below_alloc | apply pw_below_drewN | apply below_drew1) | exact HB.out)⟩
theorem hpt_rd (l : List S44) (i : Nat) (h : i < l.length) : rd_T44 l (i : Int) = l[i] := by
  unfold rd_T44
  simp [List.getD, h]
theorem hpt_ix_spec (l : List S44) (hl : l.length < 1152921504606846976) : ∀ k (i : Nat), i ≤ l.length → l.length - i < k → (hpt_ix.l0 k l i = some (-1) ∧ ∀ j (hj : j < l.length), i ≤ j → history_Points1.f l[j] = false) ∨ ∃ m, ∃ hm : m < l.length, i ≤ m ∧ hpt_ix.l0 k l i = some (m : Int) ∧ history_Points1.f l[m] = true ∧ ∀ j (hj : j < m), i ≤ j → history_Points1.f (l[j]'(by omega)) = false
  | 0, i, _, hk => absurd hk (by omega)
  | k + 1, i, hi, hk => by
    unfold hpt_ix.l0
    by_cases hlt : i < l.length
    · rw [if_pos (by omega), if_pos (by omega), hpt_rd l i hlt]
      cases hf : history_Points1.f l[i] with
      | true =>
        exact .inr ⟨i, hlt, Nat.le_refl _, by rw [if_pos rfl], hf, fun j hj hij => by omega⟩
      | false =>
        rw [if_neg (by simp), show wrap64 ((i : Int) + 1) = ((i + 1 : Nat) : Int) from by unfold wrap64; omega]
        rcases hpt_ix_spec l hl k (i + 1) (by omega) (by omega) with ⟨e, ha⟩ | ⟨m, hm, him, e, ht, ha⟩
        · refine .inl ⟨e, fun j hj hij => ?_⟩
          rcases Nat.lt_or_ge i j with h1 | h1
          · exact ha j hj (by omega)
          · obtain rfl : i = j := by omega
            exact hf
        · refine .inr ⟨m, hm, by omega, e, ht, fun j hj hij => ?_⟩
          rcases Nat.lt_or_ge i j with h1 | h1
          · exact ha j hj (by omega)
          · obtain rfl : i = j := by omega
            exact hf
    · rw [if_neg (by omega)]
      exact .inl ⟨rfl, fun j hj hij => by omega⟩
theorem hpt_keep_all (l : List S44) (h : ∀ j (hj : j < l.length), history_Points1.f l[j] = false) : (l.filter fun x => !history_Points1.f x) = l := by
  refine List.filter_eq_self.2 fun x hx => ?_
  obtain ⟨j, hj, rfl⟩ := List.mem_iff_getElem.1 hx
  rw [h j hj]
  rfl
theorem hpt_keep_take (l : List S44) (m : Nat) (hm : m < l.length) (h : ∀ j (hj : j < m), history_Points1.f (l[j]'(by omega)) = false) (ht : history_Points1.f l[m] = true) : ((l.take (m + 1)).filter fun x => !history_Points1.f x) = l.take m := by
  rw [List.take_succ_eq_append_getElem hm, List.filter_append]
  rw [show ([l[m]].filter fun x => !history_Points1.f x) = [] from by simp [ht], List.append_nil]
  refine List.filter_eq_self.2 fun x hx => ?_
  obtain ⟨j, hj, rfl⟩ := List.mem_iff_getElem.1 hx
  rw [List.length_take] at hj
  rw [List.getElem_take, h j (by omega)]
  rfl
structure HptInv (l dk : List S44) (i j : Nat) : Prop where
  len : dk.length = l.length
  lt : i < j
  low : dk.take i = (l.take j).filter fun x => !history_Points1.f x
  high : dk.drop j = l.drop j
theorem HptInv.rd {l dk : List S44} {i j : Nat} (h : HptInv l dk i j) (hj : j < l.length) : rd_T44 dk (j : Int) = l[j] := by
  have hd : j < dk.length := by rw [h.len]; exact hj
  rw [hpt_rd dk j hd]
  have h1 := congrArg List.head? h.high
  rw [List.head?_drop, List.head?_drop, List.getElem?_eq_getElem hd, List.getElem?_eq_getElem hj] at h1
  exact Option.some.inj h1
theorem HptInv.skip {l dk : List S44} {i j : Nat} (h : HptInv l dk i j) (hj : j < l.length) (hf : history_Points1.f l[j] = true) : HptInv l dk i (j + 1) := by
  refine ⟨h.len, by have := h.lt; omega, ?_, ?_⟩
  · rw [List.take_succ_eq_append_getElem hj, List.filter_append, h.low]
    simp [hf]
  · rw [← List.drop_drop, ← List.drop_drop, h.high]
theorem HptInv.keep {l dk : List S44} {i j : Nat} (h : HptInv l dk i j) (hj : j < l.length) (hf : history_Points1.f l[j] = false) : HptInv l (dk.set i l[j]) (i + 1) (j + 1) := by
  have hlt := h.lt
  have hi : i < dk.length := by rw [h.len]; omega
  refine ⟨by rw [List.length_set]; exact h.len, by omega, ?_, ?_⟩
  · rw [List.take_set, List.take_succ_eq_append_getElem hi, List.set_append_right _ _ (by rw [List.length_take]; omega), List.take_succ_eq_append_getElem hj, List.filter_append, ← h.low]
    rw [show i - (dk.take i).length = 0 from by rw [List.length_take]; omega]
    simp [hf]
  · rw [List.drop_set_of_lt (by omega), ← List.drop_drop, ← List.drop_drop, h.high]
theorem hpt_C {W0 w : World} {N g n cap : Nat} {inner : List Value} {l : List S44} (h : w.ownsRow N 44 13 (.slice (some ⟨g, 0, none⟩) n cap) n inner) (hr : Reps (k44.K W0) 13 l inner) (hb : Below W0.heap.size W0 w) (hn : l.length = n) : Kd.C k44 w (some ⟨g, 0, none⟩) n l := by
  obtain ⟨A, c, he, h2⟩ := own_reads_row h (hr.imp_ (R' := k44.K w) (fun _ _ hp => k44.K_below hb hp)) hn
  cases he
  exact h2
set_option maxHeartbeats 8000000 in
set_option maxRecDepth 100000 in
theorem hpt_Del.calls (W0 W : World) (g cap : Nat) (l : List S44) (inner : List Value) (hown : W.ownsRow W0.heap.size 44 13 (.slice (some ⟨g, 0, none⟩) l.length cap) l.length inner) (hrep : Reps (k44.K W0) 13 l inner) (hb0 : Below W0.heap.size W0 W) (hlen : l.length ≤ 1000000) :
    Calls Try.prog 39 #[.slice (some ⟨g, 0, none⟩) l.length cap, .func (.func 41) #[] #[]] W fun e w' => ∃ inner', e = .returned (.slice (some ⟨g, 0, none⟩) (l.filter fun x => !history_Points1.f x).length cap) ∧ w'.ownsRow W0.heap.size 44 13 (.slice (some ⟨g, 0, none⟩) (l.filter fun x => !history_Points1.f x).length cap) (l.filter fun x => !history_Points1.f x).length inner' ∧ Reps (k44.K W0) 13 (l.filter fun x => !history_Points1.f x) inner' ∧ Below W0.heap.size W0 w' := by
  have HC := Aside0.mk (hpt_C hown hrep hb0 rfl)
  have HO := Aside0.mk hown
  have HR := Aside0.mk hrep
  have HB := Aside0.mk hb0
  have HL := Aside0.mk hlen
  have HCP := Aside0.mk (row_cap hown)
  have hixs := hpt_ix_spec l (by omega) (l.length + 1) 0 (by omega) (by omega)
  clear hown hrep hb0 hlen
  rcases hixs with ⟨e, ha⟩ | ⟨m, hm, _, e, ht, ha⟩
  · have HE := Aside0.mk (show hpt_ix.l0 (l.length + 1) l 0 = some (-1) from e)
    rw [hpt_keep_all l (fun j hj => ha j hj (by omega))]
    clear e ha
    go_enter Try.func39, Try.ntmps39
    go_wp2_with (first | (go_at_call 42; (with_reducible refine (hpt_ix.calls (l.length + 1) (some ⟨g, 0, none⟩) cap l (-1) _ HC.out HE.out).mono ?_); rintro e w1 ⟨rfl, hb⟩; have n0_ := Aside0.mk (below_step HB.out hb); clear HB; have HB := n0_; clear n0_; have HOW1 := Aside0.mk (own_move HO.out (fun k hk => hb.block k (own_lt HO.out k hk))); clear hb HO HC; have HO := HOW1; clear HOW1))
    go_ret
    exact ⟨_, rfl, HO.out, HR.out, HB.out⟩
  · have HE := Aside0.mk (show hpt_ix.l0 (l.length + 1) l 0 = some (m : Int) from e)
    have HI0 := Aside0.mk (show HptInv l l m (m + 1) from ⟨rfl, by omega, (hpt_keep_take l m hm (fun j hj => ha j hj (by omega)) ht).symm, rfl⟩)
    have hne : ((m : Int) == -1) = false := beq_eq_false_iff_ne.2 (by omega)
    have HM := Aside0.mk hm
    clear e ha ht hm
    go_enter Try.func39, Try.ntmps39
    go_wp2_with (first | (go_at_call 42; (with_reducible refine (hpt_ix.calls (l.length + 1) (some ⟨g, 0, none⟩) cap l m _ HC.out HE.out).mono ?_); rintro e w1 ⟨rfl, hb⟩; have n0_ := Aside0.mk (below_step HB.out hb); clear HB; have HB := n0_; clear n0_; have HOW1 := Aside0.mk (own_move HO.out (fun k hk => hb.block k (own_lt HO.out k hk))); clear hb HO HC; have HO := HOW1; clear HOW1))
    go_loopg [5, 6, 7] l.length (fun kq v5 v6 _ wr => ∃ (i j : Nat) (dk : List S44) (inn : List Value), v5 = .int .i64 i ∧ v6 = .int .i64 j ∧ Aside0 (j ≤ l.length) ∧ Aside0 (l.length - j ≤ kq) ∧ Aside0 (HptInv l dk i j) ∧ Aside0 (wr.ownsRow W0.heap.size 44 13 (.slice (some ⟨g, 0, none⟩) l.length cap) l.length inn) ∧ Aside0 (Reps (k44.K W0) 13 dk inn) ∧ Aside0 (Below W0.heap.size W0 wr))
    case atStart => exact ⟨m, m + 1, l, inner, rfl, (by first | rfl | (show Value.int .i64 (wrap64 ((m : Int) + 1)) = _; congr 1; have := HM.out; have := HL.out; unfold wrap64; omega)), ⟨by have := HM.out; omega⟩, ⟨by omega⟩, HI0, HO, HR, HB⟩
    case round =>
      clear HO HB HR HI0
      obtain ⟨i, j, dk, inn, rfl, rfl, HJ, HK, HI, HO, HR, HB⟩ := hrel
      by_cases hlt : j < l.length
      · have hltb : (j : Int) < (l.length : Int) := by omega
        have HLT := Aside0.mk hlt
        have hib : (i : Int) < (l.length : Int) := by have := HI.out.lt; omega
        clear hlt
        obtain ⟨ad, A12, c12, e12, hx0, hx1, hx2, hx3, hx4, hx5, hx6, hx7, hx8, hx9, hx10, hx11, hx12, hl12, hi12⟩ := at_T44 (hpt_C HO.out HR.out HB.out HI.out.len) (j : Int) (by omega) (by have := HLT.out; omega)
        cases e12
        have HI12 := Aside0.mk hi12
        have HL12 := Aside0.mk hl12
        clear hi12 hl12
        have HX := Aside0.mk (HI.out.rd HLT.out)
        generalize rd_T44 dk (j : Int) = x at hx0 hx1 hx2 hx3 hx4 hx5 hx6 hx7 hx8 hx9 hx10 hx11 hx12 HI12 HL12 HX
        simp only [Int.toNat_natCast, Addr.add_lit, Nat.zero_add] at hx0 hx1 hx2 hx3 hx4 hx5 hx6 hx7 hx8 hx9 hx10 hx11 hx12
        have HD := Aside0.mk (show dk[j]? = some x from by have h1 := hpt_rd dk j (by rw [HI.out.len]; exact HLT.out); rw [List.getElem?_eq_getElem (by rw [HI.out.len]; exact HLT.out), ← h1, HI.out.rd HLT.out, HX.out])
        have HK0 := Aside0.mk (row_seg HO.out HR.out j x HD.out [.int .i64 x.f0, .int .i64 x.f1, .int .i64 x.f2, .int .i64 x.f3, .int .i64 x.f4, .int .i64 x.f5.f0, .int .u64 x.f5.f1, .int .u64 x.f5.f2, .int .i64 x.f5.f3, .int .i64 x.f6.f0, .bool x.f6.f1, .int .u64 x.f6.f2, .slice A12 x.f6.f3.length c12] rfl (fun q hq => match q, hq with | 0, _ => hx0 | 1, _ => hx1 | 2, _ => hx2 | 3, _ => hx3 | 4, _ => hx4 | 5, _ => hx5 | 6, _ => hx6 | 7, _ => hx7 | 8, _ => hx8 | 9, _ => hx9 | 10, _ => hx10 | 11, _ => hx11 | 12, _ => hx12))
        cases hq : history_Points1.f x with
        | false =>
          go_wp2_with (first | (go_at_call 41; (with_reducible refine (history_Points1.calls x A12 c12 _).mono ?_); rintro e w2 ⟨rfl, hb⟩; have BX := Aside0.mk (blk_below (g := wr.heap.size) (o := (.cells #[.int .i64 x.f0, .int .i64 x.f1, .int .i64 x.f2, .int .i64 x.f3, .int .i64 x.f4, .int .i64 x.f5.f0, .int .u64 x.f5.f1, .int .u64 x.f5.f2, .int .i64 x.f5.f3, .int .i64 x.f6.f0, .bool x.f6.f1, .int .u64 x.f6.f2, .slice A12 x.f6.f3.length c12] 44)) (blk_new wr _) hb); have n0_ := Aside0.mk (below_step (below_alloc HB.out _) hb); clear HB; have HB := n0_; clear n0_; have n0_ := Aside0.mk (own_move (HO.out.alloc _) (fun k hk => hb.block k (own_lt (HO.out.alloc _) k hk))); clear HO hb; have HO := n0_; clear n0_; have cb_0 : w2.cell? ⟨wr.heap.size, 0, none⟩ = some (.int .i64 x.f0) := (blk_cell BX.out 0).trans rfl; have cb_1 : w2.cell? ⟨wr.heap.size, 1, none⟩ = some (.int .i64 x.f1) := (blk_cell BX.out 1).trans rfl; have cb_2 : w2.cell? ⟨wr.heap.size, 2, none⟩ = some (.int .i64 x.f2) := (blk_cell BX.out 2).trans rfl; have cb_3 : w2.cell? ⟨wr.heap.size, 3, none⟩ = some (.int .i64 x.f3) := (blk_cell BX.out 3).trans rfl; have cb_4 : w2.cell? ⟨wr.heap.size, 4, none⟩ = some (.int .i64 x.f4) := (blk_cell BX.out 4).trans rfl; have cb_5 : w2.cell? ⟨wr.heap.size, 5, none⟩ = some (.int .i64 x.f5.f0) := (blk_cell BX.out 5).trans rfl; have cb_6 : w2.cell? ⟨wr.heap.size, 6, none⟩ = some (.int .u64 x.f5.f1) := (blk_cell BX.out 6).trans rfl; have cb_7 : w2.cell? ⟨wr.heap.size, 7, none⟩ = some (.int .u64 x.f5.f2) := (blk_cell BX.out 7).trans rfl; have cb_8 : w2.cell? ⟨wr.heap.size, 8, none⟩ = some (.int .i64 x.f5.f3) := (blk_cell BX.out 8).trans rfl; have cb_9 : w2.cell? ⟨wr.heap.size, 9, none⟩ = some (.int .i64 x.f6.f0) := (blk_cell BX.out 9).trans rfl; have cb_10 : w2.cell? ⟨wr.heap.size, 10, none⟩ = some (.bool x.f6.f1) := (blk_cell BX.out 10).trans rfl; have cb_11 : w2.cell? ⟨wr.heap.size, 11, none⟩ = some (.int .u64 x.f6.f2) := (blk_cell BX.out 11).trans rfl; have cb_12 : w2.cell? ⟨wr.heap.size, 12, none⟩ = some (.slice A12 x.f6.f3.length c12) := (blk_cell BX.out 12).trans rfl; obtain ⟨ady, Ay, cy, ey, hy0, hy1, hy2, hy3, hy4, hy5, hy6, hy7, hy8, hy9, hy10, hy11, hy12, _, _⟩ := at_T44 (hpt_C HO.out HR.out HB.out HI.out.len) (i : Int) (by omega) (by have := HLT.out; have := HI.out.lt; omega); cases ey; simp only [Int.toNat_natCast, Addr.add_lit, Nat.zero_add] at hy0 hy1 hy2 hy3 hy4 hy5 hy6 hy7 hy8 hy9 hy10 hy11 hy12; have fr0 : w2.frozen? ⟨g, i * 13, none⟩ = false := row_frozen HO.out _; have fr1 : w2.frozen? ⟨g, i * 13 + 1, none⟩ = false := row_frozen HO.out _; have fr2 : w2.frozen? ⟨g, i * 13 + 2, none⟩ = false := row_frozen HO.out _; have fr3 : w2.frozen? ⟨g, i * 13 + 3, none⟩ = false := row_frozen HO.out _; have fr4 : w2.frozen? ⟨g, i * 13 + 4, none⟩ = false := row_frozen HO.out _; have fr5 : w2.frozen? ⟨g, i * 13 + 5, none⟩ = false := row_frozen HO.out _; have fr6 : w2.frozen? ⟨g, i * 13 + 6, none⟩ = false := row_frozen HO.out _; have fr7 : w2.frozen? ⟨g, i * 13 + 7, none⟩ = false := row_frozen HO.out _; have fr8 : w2.frozen? ⟨g, i * 13 + 8, none⟩ = false := row_frozen HO.out _; have fr9 : w2.frozen? ⟨g, i * 13 + 9, none⟩ = false := row_frozen HO.out _; have fr10 : w2.frozen? ⟨g, i * 13 + 10, none⟩ = false := row_frozen HO.out _; have fr11 : w2.frozen? ⟨g, i * 13 + 11, none⟩ = false := row_frozen HO.out _; have fr12 : w2.frozen? ⟨g, i * 13 + 12, none⟩ = false := row_frozen HO.out _))
          go_roundg (l.length - (j + 1))
          case measure => have := HLT.out; have := HK.out; omega
          case rel =>
            have hlt := HLT.out
            have hle := HL.out
            have hij := HI.out.lt
            have hil : inn.length = l.length * 13 := HO.out.1
            exact ⟨i + 1, j + 1, dk.set i x, _, by rw [show wrap64 ((i : Int) + 1) = ((i + 1 : Nat) : Int) from by unfold wrap64; omega], by rw [show wrap64 ((j : Int) + 1) = ((j + 1 : Nat) : Int) from by unfold wrap64; omega], ⟨by omega⟩, ⟨by omega⟩, ⟨by rw [HX.out]; exact HI.out.keep hlt (by rw [← HX.out]; exact hq)⟩, ⟨row_own_sets [.int .i64 x.f0, .int .i64 x.f1, .int .i64 x.f2, .int .i64 x.f3, .int .i64 x.f4, .int .i64 x.f5.f0, .int .u64 x.f5.f1, .int .u64 x.f5.f2, .int .i64 x.f5.f3, .int .i64 x.f6.f0, .bool x.f6.f1, .int .u64 x.f6.f2, .slice A12 x.f6.f3.length c12] _ _ (i * 13) HO.out (by simp; omega)⟩, ⟨row_reps_set HR.out i (by rw [HI.out.len]; omega) HK0.out rfl⟩, ⟨row_sets_below (row_cap HO.out).1 [.int .i64 x.f0, .int .i64 x.f1, .int .i64 x.f2, .int .i64 x.f3, .int .i64 x.f4, .int .i64 x.f5.f0, .int .u64 x.f5.f1, .int .u64 x.f5.f2, .int .i64 x.f5.f3, .int .i64 x.f6.f0, .bool x.f6.f1, .int .u64 x.f6.f2, .slice A12 x.f6.f3.length c12] _ _ (i * 13) HB.out⟩⟩
        | true =>
          go_wp2_with (first | (go_at_call 41; (with_reducible refine (history_Points1.calls x A12 c12 _).mono ?_); rintro e w2 ⟨rfl, hb⟩; have BX := Aside0.mk (blk_below (g := wr.heap.size) (o := (.cells #[.int .i64 x.f0, .int .i64 x.f1, .int .i64 x.f2, .int .i64 x.f3, .int .i64 x.f4, .int .i64 x.f5.f0, .int .u64 x.f5.f1, .int .u64 x.f5.f2, .int .i64 x.f5.f3, .int .i64 x.f6.f0, .bool x.f6.f1, .int .u64 x.f6.f2, .slice A12 x.f6.f3.length c12] 44)) (blk_new wr _) hb); have n0_ := Aside0.mk (below_step (below_alloc HB.out _) hb); clear HB; have HB := n0_; clear n0_; have n0_ := Aside0.mk (own_move (HO.out.alloc _) (fun k hk => hb.block k (own_lt (HO.out.alloc _) k hk))); clear HO hb; have HO := n0_; clear n0_; have cb_0 : w2.cell? ⟨wr.heap.size, 0, none⟩ = some (.int .i64 x.f0) := (blk_cell BX.out 0).trans rfl; have cb_1 : w2.cell? ⟨wr.heap.size, 1, none⟩ = some (.int .i64 x.f1) := (blk_cell BX.out 1).trans rfl; have cb_2 : w2.cell? ⟨wr.heap.size, 2, none⟩ = some (.int .i64 x.f2) := (blk_cell BX.out 2).trans rfl; have cb_3 : w2.cell? ⟨wr.heap.size, 3, none⟩ = some (.int .i64 x.f3) := (blk_cell BX.out 3).trans rfl; have cb_4 : w2.cell? ⟨wr.heap.size, 4, none⟩ = some (.int .i64 x.f4) := (blk_cell BX.out 4).trans rfl; have cb_5 : w2.cell? ⟨wr.heap.size, 5, none⟩ = some (.int .i64 x.f5.f0) := (blk_cell BX.out 5).trans rfl; have cb_6 : w2.cell? ⟨wr.heap.size, 6, none⟩ = some (.int .u64 x.f5.f1) := (blk_cell BX.out 6).trans rfl; have cb_7 : w2.cell? ⟨wr.heap.size, 7, none⟩ = some (.int .u64 x.f5.f2) := (blk_cell BX.out 7).trans rfl; have cb_8 : w2.cell? ⟨wr.heap.size, 8, none⟩ = some (.int .i64 x.f5.f3) := (blk_cell BX.out 8).trans rfl; have cb_9 : w2.cell? ⟨wr.heap.size, 9, none⟩ = some (.int .i64 x.f6.f0) := (blk_cell BX.out 9).trans rfl; have cb_10 : w2.cell? ⟨wr.heap.size, 10, none⟩ = some (.bool x.f6.f1) := (blk_cell BX.out 10).trans rfl; have cb_11 : w2.cell? ⟨wr.heap.size, 11, none⟩ = some (.int .u64 x.f6.f2) := (blk_cell BX.out 11).trans rfl; have cb_12 : w2.cell? ⟨wr.heap.size, 12, none⟩ = some (.slice A12 x.f6.f3.length c12) := (blk_cell BX.out 12).trans rfl; obtain ⟨ady, Ay, cy, ey, hy0, hy1, hy2, hy3, hy4, hy5, hy6, hy7, hy8, hy9, hy10, hy11, hy12, _, _⟩ := at_T44 (hpt_C HO.out HR.out HB.out HI.out.len) (i : Int) (by omega) (by have := HLT.out; have := HI.out.lt; omega); cases ey; simp only [Int.toNat_natCast, Addr.add_lit, Nat.zero_add] at hy0 hy1 hy2 hy3 hy4 hy5 hy6 hy7 hy8 hy9 hy10 hy11 hy12; have fr0 : w2.frozen? ⟨g, i * 13, none⟩ = false := row_frozen HO.out _; have fr1 : w2.frozen? ⟨g, i * 13 + 1, none⟩ = false := row_frozen HO.out _; have fr2 : w2.frozen? ⟨g, i * 13 + 2, none⟩ = false := row_frozen HO.out _; have fr3 : w2.frozen? ⟨g, i * 13 + 3, none⟩ = false := row_frozen HO.out _; have fr4 : w2.frozen? ⟨g, i * 13 + 4, none⟩ = false := row_frozen HO.out _; have fr5 : w2.frozen? ⟨g, i * 13 + 5, none⟩ = false := row_frozen HO.out _; have fr6 : w2.frozen? ⟨g, i * 13 + 6, none⟩ = false := row_frozen HO.out _; have fr7 : w2.frozen? ⟨g, i * 13 + 7, none⟩ = false := row_frozen HO.out _; have fr8 : w2.frozen? ⟨g, i * 13 + 8, none⟩ = false := row_frozen HO.out _; have fr9 : w2.frozen? ⟨g, i * 13 + 9, none⟩ = false := row_frozen HO.out _; have fr10 : w2.frozen? ⟨g, i * 13 + 10, none⟩ = false := row_frozen HO.out _; have fr11 : w2.frozen? ⟨g, i * 13 + 11, none⟩ = false := row_frozen HO.out _; have fr12 : w2.frozen? ⟨g, i * 13 + 12, none⟩ = false := row_frozen HO.out _))
          go_roundg (l.length - (j + 1))
          case measure => have := HLT.out; have := HK.out; omega
          case rel =>
            have hlt := HLT.out
            have hle := HL.out
            exact ⟨i, j + 1, dk, inn, rfl, by rw [show wrap64 ((j : Int) + 1) = ((j + 1 : Nat) : Int) from by unfold wrap64; omega], ⟨by omega⟩, ⟨by omega⟩, ⟨HI.out.skip hlt (by rw [← HX.out]; exact hq)⟩, HO, HR, HB⟩
      · have hj : j = l.length := by have := HJ.out; omega
        subst hj
        have hnlt : ¬ ((l.length : Int) < (l.length : Int)) := by omega
        have hil : i < l.length := HI.out.lt
        have hci : ¬ cap = i := by have := (row_cap HO.out).2.1; omega
        have HIF := Aside0.mk (show i = (l.filter fun x => !history_Points1.f x).length from by
          have h1 := HI.out.low
          rw [List.take_length] at h1
          rw [← h1, List.length_take, HI.out.len]
          omega)
        have hcl : ∀ ty, (Builtin.clear_ #[36] ty #[.slice (some ⟨g, i * 13, none⟩) (l.length - i) (cap - i)]).run Try.prog wr = .ok (.tuple #[]) (wr.setCells g (i * 13) (Builtin.zeroCells _ (l.length - i)).toList) := fun ty => row_clear HO.out _ ty _ Try.underlying36 Try.zeroValue44 rfl (by decide) i (cap - i) hil
        go_wp2
        case isFalse =>
          rename_i hbad
          exact absurd hbad (by have := (row_cap HO.out).2.1; omega)
        go_ret
        have h1 := HI.out.low
        rw [List.take_length] at h1
        have hS := row_cut (row_own_sets (Builtin.zeroCells _ (l.length - i)).toList wr inn (i * 13) HO.out (by
          have hil2 : inn.length = l.length * 13 := HO.out.1
          rw [show (Builtin.zeroCells (Value.agg #[.int .i64 0, .int .i64 0, .int .i64 0, .int .i64 0, .int .i64 0, .int .i64 0, .int .u64 0, .int .u64 0, .int .i64 0, .int .i64 0, .bool false, .int .u64 0, .slice none 0 0]).cells (l.length - i)).toList.length = (l.length - i) * 13 from by simp [Builtin.zeroCells, Value.cells]]
          omega)) i (by omega)
        rw [← HIF.out]
        refine ⟨rfl, _, hS, ?_, row_sets_below (row_cap HO.out).1 _ _ _ (i * 13) HB.out⟩
        rw [← h1]
        have h2 := row_reps_take HR.out (m := i) (by rw [HI.out.len]; omega)
        have hil2 : inn.length = l.length * 13 := HO.out.1
        rw [List.append_assoc, List.take_append_of_le_length (by rw [List.length_take]; omega), List.take_take, Nat.min_self]
        exact h2
set_option maxHeartbeats 4000000 in
set_option maxRecDepth 100000 in
theorem evOne {W : World} {l : List S44} {inner : List Value} (h : Reps (k44.K W) 13 l inner) (j : Nat) (u : Value) (hj : inner[j]? = some u) : u.oneCell' = true := by
  have hl := h.1
  have hjl := (List.getElem?_eq_some_iff.1 hj).1
  have hq : j / 13 < l.length := by omega
  have hk := h.2 (j / 13) _ (List.getElem?_eq_getElem hq)
  refine k44.K_one hk u ?_
  have e : ((inner.drop (j / 13 * 13)).take 13)[j % 13]? = some u := by
    rw [List.getElem?_take_of_lt (by omega), List.getElem?_drop]
    rw [show j / 13 * 13 + j % 13 = j from by omega]
    exact hj
  exact List.mem_of_getElem? e
theorem hpt_info : (Try.prog.info? 44).map (fun i => (i.zero, i.size, i.bytes)) = some (some (.agg #[(.int .i64 0), (.int .i64 0), (.int .i64 0), (.int .i64 0), (.int .i64 0), (.int .i64 0), (.int .u64 0), (.int .u64 0), (.int .i64 0), (.int .i64 0), (.bool false), (.int .u64 0), (.slice none 0 0)]), 13, 120) := by kernel_rfl
set_option maxHeartbeats 4000000 in
set_option maxRecDepth 100000 in
theorem evClone.calls (ad : Addr) (c0 : Nat) (l0 : List S44) (W : World) (hr0 : Kd.C k44 W (some ad) l0.length l0) (hlen : l0.length ≤ 1000000) :
    Calls Try.prog 40 #[.slice (some ad) l0.length c0] W fun e w' => ∃ v inner, e = .returned v ∧ w'.ownsRow W.heap.size 44 13 v l0.length inner ∧ Reps (k44.K W) 13 l0 inner ∧ v ≠ .slice none 0 0 ∧ Below W.heap.size W w' := by
  obtain ⟨inner, hrep, hcell⟩ := ReadsRow.inner_ (show ReadsRow (k44.K W) 13 W (some ad) l0.length l0 from hr0)
  have HR := Aside0.mk hrep
  have HC := Aside0.mk hcell
  have HL := Aside0.mk hlen
  clear hr0 hrep hcell hlen
  obtain ⟨i0, hi, hz⟩ := Option.map_eq_some_iff.1 hpt_info
  simp only [Prod.mk.injEq] at hz
  obtain ⟨hz0, hz1, hz2⟩ := hz
  have q22 : ∀ (w : World) (a : Option Addr) (n c n' c' : Nat), (binOp .eql 36 (.slice a n c) (.slice none n' c')).run Try.prog w = .ok (.bool a.isNone) w := by
    intro w a n c n' c'
    cases a <;> (simp [binOp, Op.equal, Op.equalIn, run_underlying Try.underlying36] <;> rfl)
  go_enter Try.func40, Try.ntmps40
  go_wp2_with (at_builtin; refine wpList_append_own _ rfl _ _ 36 rfl W.heap.size 44 i0 (.agg #[(.int .i64 0), (.int .i64 0), (.int .i64 0), (.int .i64 0), (.int .i64 0), (.int .i64 0), (.int .u64 0), (.int .u64 0), (.int .i64 0), (.int .i64 0), (.bool false), (.int .u64 0), (.slice none 0 0)]) 13 120 Try.underlying36 hi hz0 hz1 hz2 rfl (by decide) _ _ _ rfl (World.ownsRow_made W #[] 0 (Nat.le_refl _) (Nat.zero_le _) rfl) ad l0.length c0 inner rfl ?qc1 ?qc2 ?qc3 ?qc4 ?qc5 ?qc6 ?_)
  case qc1 => have := HR.out.1; omega
  case qc2 =>
    intro j u hj
    have hx := HC.out j u hj
    exact ((below_alloc (Below.refl _ _) _).cell (World.block_lt_of_cell? W _ hx)).trans hx
  case qc3 =>
    intro u hu
    obtain ⟨j, hj⟩ := List.getElem?_of_mem hu
    exact evOne HR.out j u hj
  case qc4 => have := HL.out; unfold maxLen; omega
  case qc5 => have := HL.out; omega
  case qc6 => simp
  intro v' w1 hown hgrow hnil
  go_wp2
  go_ret
  refine ⟨v', inner, rfl, by simpa using hown, HR.out, hnil, ?_⟩
  exact ((Below.refl _ W).alloc (Nat.le_refl _) _).grown hgrow (by simp) (by intro k hk; simp [Value.ownBlock] at hk; omega)
set_option maxHeartbeats 8000000 in
set_option maxRecDepth 100000 in
theorem evClone.nil (c0 : Nat) (W : World) :
    Calls Try.prog 40 #[.slice none 0 c0] W fun e w' => e = .returned (.slice none 0 0) ∧ Below W.heap.size W w' := by
  have HB := Aside0.mk (Below.refl W.heap.size W)
  have q22 : ∀ (w : World) (a : Option Addr) (n c n' c' : Nat), (binOp .eql 36 (.slice a n c) (.slice none n' c')).run Try.prog w = .ok (.bool a.isNone) w := by
    intro w a n c n' c'
    cases a <;> (simp [binOp, Op.equal, Op.equalIn, run_underlying Try.underlying36] <;> rfl)
  go_enter Try.func40, Try.ntmps40
  go_wp2
  go_ret
  exact ⟨rfl, HB.out⟩
set_option maxHeartbeats 8000000 in
set_option maxRecDepth 100000 in
theorem hpt_Del.nil (W : World) :
    Calls Try.prog 39 #[.slice none 0 0, .func (.func 41) #[] #[]] W fun e w' => e = .returned (.slice none 0 0) ∧ Below W.heap.size W w' := by
  have HB := Aside0.mk (Below.refl W.heap.size W)
  have HE := Aside0.mk (show ∀ w : World, Calls Try.prog 42 #[.slice none 0 0, .func (.func 41) #[] #[]] w (fun e w' => e = .returned (.int .i64 (-1)) ∧ Below w.heap.size w w') from fun w => hpt_ix.calls 1 none 0 [] (-1) w (Kd.C_nil _ _) rfl)
  go_enter Try.func39, Try.ntmps39
  go_wp2_with (first | (go_at_call 42; (with_reducible refine (HE.out _).mono ?_); rintro e w1 ⟨rfl, hb⟩; have n0_ := Aside0.mk (below_step HB.out hb); clear HB; have HB := n0_; clear n0_ hb))
  go_ret
  exact ⟨rfl, HB.out⟩
set_option maxHeartbeats 8000000 in
set_option maxRecDepth 100000 in
theorem history_Points.law (A0 : Option Addr) (c0 : Nat) (l : List S44) (W : World) (hr0 : Kd.C k44 W A0 l.length l) (hlen : l.length ≤ 1000000) :
    Calls Try.prog 38 #[.slice A0 l.length c0] W fun e w' => ∃ A c, e = .returned (.slice A (l.filter fun x => !history_Points1.f x).length c) ∧ Kd.C k44 w' A (l.filter fun x => !history_Points1.f x).length (l.filter fun x => !history_Points1.f x) ∧ (l.filter fun x => !history_Points1.f x).length ≤ c ∧ Below W.heap.size W w' := by
  have HR0 := Aside0.mk hr0
  have HL := Aside0.mk hlen
  cases A0 with
  | none =>
    have hz : l = [] := by
      rcases Nat.eq_zero_or_pos l.length with h0 | h0
      · exact List.eq_nil_of_length_eq_zero h0
      · obtain ⟨ad, e, _⟩ := hr0.2.2 h0
        cases e
    subst hz
    clear hr0 hlen HR0 HL
    have HB := Aside0.mk (Below.refl W.heap.size W)
    have HK := Aside0.mk (fun w : World => (Kd.C_nil k44 w))
    show Calls Try.prog 38 #[.slice none 0 c0] W fun e w' => ∃ A c, e = .returned (.slice A 0 c) ∧ Kd.C k44 w' A 0 [] ∧ 0 ≤ c ∧ Below W.heap.size W w'
    go_enter Try.func38, Try.ntmps38
    go_wp2_with (first | (go_at_call 40; (with_reducible refine (evClone.nil c0 _).mono ?_); rintro e w1 ⟨rfl, hb⟩; have n0_ := Aside0.mk (below_step HB.out hb); clear HB; have HB := n0_; clear n0_ hb) | (go_at_call 39; (with_reducible refine (hpt_Del.nil _).mono ?_); rintro e w2 ⟨rfl, hb⟩; have n0_ := Aside0.mk (below_step HB.out hb); clear HB; have HB := n0_; clear n0_ hb))
    go_ret
    exact ⟨none, 0, rfl, HK.out _, Nat.le_refl _, HB.out⟩
  | some ad =>
    clear hr0 hlen
    go_enter Try.func38, Try.ntmps38
    go_wp2_with (first | (go_at_call 40; (with_reducible refine (evClone.calls ad c0 l _ HR0.out HL.out).mono ?_); rintro e w1 ⟨v, inner, rfl, hown, hrep, hnil, hb⟩; obtain ⟨g, cap, cur, rfl, _⟩ := hown.2.resolve_left (fun h => hnil h.1); have HO := Aside0.mk hown; have HR := Aside0.mk hrep; have HB := Aside0.mk hb; clear hown hrep hb hnil) | (go_at_call 39; (with_reducible refine (hpt_Del.calls W _ g cap l inner HO.out HR.out HB.out HL.out).mono ?_); rintro e w2 ⟨inn2, rfl, hown, hrep, hb⟩; have HC := Aside0.mk (hpt_C hown hrep hb rfl); have HCP := Aside0.mk (row_cap hown).2.1; clear HB HO HR; have HB := Aside0.mk hb; clear hown hrep hb))
    go_ret
    exact ⟨_, _, rfl, HC.out, HCP.out, HB.out⟩


/-! ### lin_point: function 35 (by hand) -/
def evv (e : S44) (A : Option Addr) (c : Nat) : List Value := [.int .i64 e.f0, .int .i64 e.f1, .int .i64 e.f2, .int .i64 e.f3, .int .i64 e.f4, .int .i64 e.f5.f0, .int .u64 e.f5.f1, .int .u64 e.f5.f2, .int .i64 e.f5.f3, .int .i64 e.f6.f0, .bool e.f6.f1, .int .u64 e.f6.f2, .slice A e.f6.f3.length c]
theorem evC1' {W : World} {g : Nat} {x : S44} {A : Option Addr} {c : Nat} (hl : x.f6.f3.length ≤ c) (hr : Kd.C k53 W A x.f6.f3.length x.f6.f3) (hg : W.heap[g]? = some (.cells (evv x A c).toArray 44 (0, 0))) : Kd.C k44 W (some ⟨g, 0, none⟩) 1 [x] := by
  refine ⟨rfl, by decide, fun _ => ⟨_, rfl, ?_⟩⟩
  intro j p hj
  have hj0 : j = 0 := by
    have := (List.getElem?_eq_some_iff.1 hj).1
    simp at this
    exact this
  subst hj0
  simp at hj
  subst hj
  refine ⟨_, rfl, k44_mk W x hl hr, fun q u hq => ?_⟩
  rw [wq_add, Nat.zero_mul, Nat.zero_add, Nat.zero_add, blk_cell hg]
  simpa [evv] using hq
/-- an element of a row of events -/
theorem ev_at {w : World} {A : Option Addr} {n : Nat} {xs : List S44} (h : Kd.C k44 w A n xs) (i : Nat) (hi : i < xs.length) : ∃ ad A12 c12, A = some ad ∧ (∀ j u, (evv (rd_T44 xs (i : Int)) A12 c12)[j]? = some u → w.cell? ((ad.add (i * 13)).add j) = some u) ∧ (rd_T44 xs (i : Int)).f6.f3.length ≤ c12 ∧ Kd.C k53 w A12 (rd_T44 xs (i : Int)).f6.f3.length (rd_T44 xs (i : Int)).f6.f3 := by
  obtain ⟨ad, c, e, _, hK, hc0⟩ := Kd.C_get h z44 (i : Int) (by omega) (by rw [h.1] at hi; omega)
  rw [Int.toNat_natCast] at hc0 hK
  have hc : ∀ j u, c[j]? = some u → w.cell? (ad.add (i * 13 + j)) = some u := hc0
  obtain ⟨A12, c12, rfl, l12, g12⟩ := k44_open hK
  refine ⟨ad, A12, c12, e, fun j u hj => ?_, ?_, ?_⟩
  · rw [Addr.add_add]
    exact hc j u (by simpa [evv, rd_T44] using hj)
  · simpa [rd_T44] using l12
  · simpa [rd_T44] using g12
section
variable {P : Program} {ops : Array Oper} {rest : List Oper} {o : Oper} {a : Act} {Q : Exit → Act → World → Prop}
/-- a struct that is read out of a row -/
theorem wq_run_loadE {W : World} {ty : TypeId} {p : Operand} {d : TypeDesc} {k : Nat} {ad : Addr} {vs : List Value} (ho : o.op = .load ty p) (hp : a.eval p = .pointer (some ad)) (hu : P.underlying ty = some d) (hd : (match d with | .struct _ | .array _ _ => true | _ => false) = true) (hi : (P.info? ty).map (·.size) = some k)
    (hc : ∀ j u, vs[j]? = some u → W.cell? (ad.add j) = some u) (hk : vs.length = k) : (execOp a.eval o).run P W = .ok (.value (.agg vs.toArray)) W := by
  have hagg : (isAgg ty).run P W = .ok true W := by
    unfold isAgg
    rw [Sem.run_bind, run_underlying hu W]
    cases d <;> simp_all
  have hl : (loadCells ad k).run P W = .ok vs.toArray W := by
    rw [← hk]
    exact run_loadCells_list (P := P) W ad vs hc
  unfold execOp
  cases hq : P.info? ty with
  | none => simp [hq] at hi
  | some q =>
    have hs : q.size = k := by simpa [hq] using hi
    simp [ho, hp, Instr.loadAt, Instr.sureAddr, loadVar, Sem.run_bind, hagg, sizeOf, typeInfo, hq, hs, hl]
theorem wq_loadE {W : World} {ty : TypeId} {p : Operand} {d : TypeDesc} {k : Nat} {ad : Addr} {vs : List Value} (hgd : o.guard = none) (ho : o.op = .load ty p) (hp : a.eval p = .pointer (some ad)) (hu : P.underlying ty = some d) (hd : (match d with | .struct _ | .array _ _ => true | _ => false) = true) (hi : (P.info? ty).map (·.size) = some k)
    (hc : ∀ j u, vs[j]? = some u → W.cell? (ad.add j) = some u) (hk : vs.length = k) (h : wpList P ops Q rest (a.put o.dst (.agg vs.toArray)) W) : wpList P ops Q (o :: rest) a W :=
  Kd.event_run hgd (wq_run_loadE ho hp hu hd hi hc hk) h
end
section
variable {P : Program} {ops : Array Oper} {rest : List Oper} {o : Oper} {a : Act} {Q : Exit → Act → World → Prop}
/-- as wq_loadA, wq_load1: of an operation that is guarded, and wanted -/
theorem wq_runw {W w1 : World} {v : Value} (hw : Region.wanted o (yielded ops a.tmps) = true) (hrun : (execOp a.eval o).run P W = .ok (.value v) w1) (h : wpList P ops Q rest (a.put o.dst v) w1) : wpList P ops Q (o :: rest) a W :=
  wpList_step fun K hK => by
    rw [if_pos hw]
    unfold Oper.wp
    rw [hrun]
    exact hK _ _ h
theorem wq_loadAw {W : World} {ty : TypeId} {p : Operand} {d : TypeDesc} {k g i : Nat} {t : TypeId} {cs : Array Value} {vs : List Value} (hgd : Region.wanted o (yielded ops a.tmps) = true) (ho : o.op = .load ty p) (hp : a.eval p = .pointer (some ⟨g, i, none⟩)) (hu : P.underlying ty = some d) (hd : (match d with | .struct _ | .array _ _ => true | _ => false) = true) (hi : (P.info? ty).map (·.size) = some k)
    (hb : W.heap[g]? = some (.cells cs t (0, 0))) (hv : (cs.toList.drop i).take k = vs) (hk : vs.length = k) (h : wpList P ops Q rest (a.put o.dst (.agg vs.toArray)) W) : wpList P ops Q (o :: rest) a W :=
  wq_runw hgd (wq_run_loadA ho hp hu hd hi hb hv hk) h
theorem wq_load1w {W : World} {ty : TypeId} {p : Operand} {d : TypeDesc} {g i : Nat} {t : TypeId} {cs : Array Value} {v : Value} (hgd : Region.wanted o (yielded ops a.tmps) = true) (ho : o.op = .load ty p) (hp : a.eval p = .pointer (some ⟨g, i, none⟩)) (hu : P.underlying ty = some d) (hd : (match d with | .struct _ | .array _ _ => true | _ => false) = false)
    (hb : W.heap[g]? = some (.cells cs t (0, 0))) (hv : cs[i]? = some v) (h : wpList P ops Q rest (a.put o.dst v) W) : wpList P ops Q (o :: rest) a W :=
  wq_runw hgd (wq_run_load1 ho hp hu hd hb hv) h
theorem wq_loadEw {W : World} {ty : TypeId} {p : Operand} {d : TypeDesc} {k : Nat} {ad : Addr} {vs : List Value} (hgd : Region.wanted o (yielded ops a.tmps) = true) (ho : o.op = .load ty p) (hp : a.eval p = .pointer (some ad)) (hu : P.underlying ty = some d) (hd : (match d with | .struct _ | .array _ _ => true | _ => false) = true) (hi : (P.info? ty).map (·.size) = some k)
    (hc : ∀ j u, vs[j]? = some u → W.cell? (ad.add j) = some u) (hk : vs.length = k) (h : wpList P ops Q rest (a.put o.dst (.agg vs.toArray)) W) : wpList P ops Q (o :: rest) a W :=
  wq_runw hgd (wq_run_loadE ho hp hu hd hi hc hk) h
end
theorem cells_bel {W w : World} {N : Nat} {ad : Addr} {vs : List Value} (hW : N = W.heap.size) (hb : Below N W w) (h : ∀ j u, vs[j]? = some u → W.cell? (ad.add j) = some u) : ∀ j u, vs[j]? = some u → w.cell? (ad.add j) = some u := by
  subst hW
  exact fun j u hj => (hb.cell (World.block_lt_of_cell? W _ (h j u hj))).trans (h j u hj)
def isPt (e : S44) : Bool := !history_Points1.f e
theorem isPt_one (e : S44) : (((([e].filter fun x => !history_Points1.f x).length : Nat) : Int) == 1) = isPt e := by
  unfold isPt
  cases h : history_Points1.f e <;> simp [h]
theorem li_points1 (e : S44) (A : Option Addr) (c : Nat) (hc : e.f6.f3.length ≤ c) (W : World) (hr : Kd.C k53 W A e.f6.f3.length e.f6.f3) :
    Calls Try.prog 38 #[.slice (some ⟨W.heap.size, 0, none⟩) 1 1] (W.alloc (.cells #[.int .i64 e.f0, .int .i64 e.f1, .int .i64 e.f2, .int .i64 e.f3, .int .i64 e.f4, .int .i64 e.f5.f0, .int .u64 e.f5.f1, .int .u64 e.f5.f2, .int .i64 e.f5.f3, .int .i64 e.f6.f0, .bool e.f6.f1, .int .u64 e.f6.f2, .slice A e.f6.f3.length c] 44)) fun e' w' => ∃ A1 c1, e' = .returned (.slice A1 ([e].filter fun x => !history_Points1.f x).length c1) ∧ Below W.heap.size W w' := by
  have hb0 := below_alloc (Below.refl W.heap.size W) (.cells #[.int .i64 e.f0, .int .i64 e.f1, .int .i64 e.f2, .int .i64 e.f3, .int .i64 e.f4, .int .i64 e.f5.f0, .int .u64 e.f5.f1, .int .u64 e.f5.f2, .int .i64 e.f5.f3, .int .i64 e.f6.f0, .bool e.f6.f1, .int .u64 e.f6.f2, .slice A e.f6.f3.length c] 44)
  refine (history_Points.law (some ⟨W.heap.size, 0, none⟩) 1 [e] _ (evC1' hc (Kd.C_below hr hb0) (blk_new W _)) (by simp)).mono ?_
  rintro e' w' ⟨A1, c1, h1, _, _, hb⟩
  exact ⟨A1, c1, h1, hb0.trans (hb.mono (by simp))⟩
set_option maxHeartbeats 8000000 in
set_option maxRecDepth 100000 in
theorem li_point (e : S44) (A : Option Addr) (c : Nat) (hc : e.f6.f3.length ≤ c) (W : World) (hr : Kd.C k53 W A e.f6.f3.length e.f6.f3) :
    Calls Try.prog 35 #[.agg #[.int .i64 e.f0, .int .i64 e.f1, .int .i64 e.f2, .int .i64 e.f3, .int .i64 e.f4, .int .i64 e.f5.f0, .int .u64 e.f5.f1, .int .u64 e.f5.f2, .int .i64 e.f5.f3, .int .i64 e.f6.f0, .bool e.f6.f1, .int .u64 e.f6.f2, .slice A e.f6.f3.length c]] W fun e' w' => e' = .returned (.bool (isPt e)) ∧ Below W.heap.size W w' := by
  have HC := Aside0.mk hc
  have HR := Aside0.mk hr
  have HB := Aside0.mk (Below.refl W.heap.size W)
  clear hc hr
  go_enter Try.func35, Try.ntmps35
  go_wp2_with (first | ((with_reducible refine gate_dst (N := 1) rfl ?_); refine box_event ?hg1 (N := 1) ?hd1 (cs := #[.int .i64 e.f0, .int .i64 e.f1, .int .i64 e.f2, .int .i64 e.f3, .int .i64 e.f4, .int .i64 e.f5.f0, .int .u64 e.f5.f1, .int .u64 e.f5.f2, .int .i64 e.f5.f3, .int .i64 e.f6.f0, .bool e.f6.f1, .int .u64 e.f6.f2, .slice A e.f6.f3.length c]) (t := 44) ?hr1 ?_; (case hd1 => rfl); (case hg1 => rfl); (case hr1 => first | (go_simp; done) | (go_simp; rfl)); intro g1 hg w1_ hbox hbk; have HGB1 := Aside0.mk (show W.heap.size ≤ g1 from by rw [hg]; have := HB.out.size; omega); have n_HB := Aside0.mk (below_step HB.out hbk); clear HB; have HB := n_HB; clear n_HB; have B1 := Aside0.mk hbox; clear hbk hbox hg) | ((with_reducible refine gate_dst (N := 3) rfl ?_); refine wq_loadA (ty := 44) (p := .tmp 1) (g := g1) (i := 0) (k := 13) (vs := ?vs2) ?hgd2 ?ho2 ?hp2 Try.underlying44 ?hd2 ?hi2 B1.out ?hv2 ?hk2 ?_; (case hd2 => rfl); (case hi2 => kernel_rfl); (case hgd2 => rfl); (case ho2 => rfl); (case hp2 => rfl); (case hv2 => simp only [List.drop_succ_cons, List.drop_zero, List.take_succ_cons, List.take_zero, List.take_nil, List.drop_nil]; with_reducible rfl); (case hk2 => rfl)) | (go_at_call 38; (with_reducible refine (li_points1 e A c HC.out _ (Kd.C_below HR.out HB.out)).mono ?_); rintro e u2_ ⟨A1, c1, rfl, hbk⟩; have n_HB := Aside0.mk (below_step HB.out hbk); have n_B1 := Aside0.mk (blk_below B1.out hbk); clear HB B1; have HB := n_HB; have B1 := n_B1; clear n_HB n_B1; clear hbk))
  go_ret
  exact ⟨congrArg (fun b => Ending.returned (.bool b)) (isPt_one e), HB.out⟩



/-! ### lin_search_whole: function 30 (by hand) -/
def inA (inb : List Bool) (i : Nat) : Bool := inb.getD i false
def wholeB (h : List S44) (inb : List Bool) (i : Nat) : Bool := decide (0 ≤ (rd_T44 h (i : Int)).f3) && !(inA inb i) && isPt (rd_T44 h (i : Int))
def wholeP (h : List S44) (inb : List Bool) : Bool := (List.range h.length).all fun i => !(wholeB h inb i)
theorem wholeP_no {h : List S44} {inb : List Bool} {i : Nat} (hi : i < h.length) (hw : wholeB h inb i = true) : wholeP h inb = false := by
  unfold wholeP
  rw [List.all_eq_false]
  exact ⟨i, List.mem_range.mpr hi, by rw [hw]; decide⟩
theorem wholeP_yes {h : List S44} {inb : List Bool} (hw : ∀ j, j < h.length → wholeB h inb j = false) : wholeP h inb = true := by
  unfold wholeP
  rw [List.all_eq_true]
  intro j hj
  rw [hw j (List.mem_range.mp hj)]
  rfl
theorem in_cell (inb : List Bool) (i : Nat) (h : i < inb.length) : (inb.map Value.bool).toArray[i]? = some (.bool (inA inb i)) := by
  unfold inA
  simp [h, List.getD]
set_option maxHeartbeats 8000000 in
set_option maxRecDepth 100000 in
theorem li_whole (A : Option Addr) (c0 : Nat) (h : List S44) (hh : h.length ≤ 1000) (gs gi : Nat) (inb : List Bool) (hin : inb.length = h.length) (W : World) (hr : Kd.C k44 W A h.length h) (hs : W.heap[gs]? = some (.cells #[.slice A h.length c0, .slice (some ⟨gi, 0, none⟩) h.length h.length] 64 (0, 0))) (hi : W.heap[gi]? = some (.cells (inb.map Value.bool).toArray 4 (0, 0))) :
    Calls Try.prog 30 #[.pointer (some ⟨gs, 0, none⟩)] W fun e w' => e = .returned (.bool (wholeP h inb)) ∧ Below W.heap.size W w' := by
  have HR := Aside0.mk hr
  have HH := Aside0.mk hh
  have HN := Aside0.mk hin
  have BS := Aside0.mk hs
  have BI := Aside0.mk hi
  have HB := Aside0.mk (Below.refl W.heap.size W)
  clear hr hh hin hs hi
  go_enter Try.func30, Try.ntmps30
  go_wp2_with (first | ((with_reducible refine gate_dst (N := 8) rfl ?_); refine wq_load1 (ty := 36) (p := .tmp 7) (g := gs) (i := 0) (v := ?v1) ?hgd1 ?ho1 ?hp1 Try.underlying36 ?hd1 BS.out ?hv1 ?_; (case hd1 => rfl); (case hgd1 => rfl); (case ho1 => rfl); (case hp1 => rfl); (case hv1 => rfl)))
  go_loopg [10] h.length (fun kq v10 wr => ∃ (i : Nat), v10 = .int .i64 i ∧ Aside0 (i ≤ h.length) ∧ Aside0 (h.length - i ≤ kq) ∧ Aside0 (∀ j, j < i → wholeB h inb j = false) ∧ Aside0 (wr.heap[gs]? = some (.cells #[.slice A h.length c0, .slice (some ⟨gi, 0, none⟩) h.length h.length] 64 (0, 0))) ∧ Aside0 (wr.heap[gi]? = some (.cells (inb.map Value.bool).toArray 4 (0, 0))) ∧ Aside0 (Below W.heap.size W wr))
  case atStart => exact ⟨0, rfl, ⟨Nat.zero_le _⟩, ⟨by omega⟩, ⟨fun j hj => by omega⟩, BS, BI, HB⟩
  case round =>
    clear HB BS BI
    obtain ⟨i, rfl, HJ, HK, HW, BS, BI, HB⟩ := hrel
    by_cases hil : i < h.length
    · have hlt : (i : Int) < (h.length : Int) := by omega
      have hi0 : (0 : Int) ≤ (i : Int) := by omega
      have hib : (i : Int) ≤ 1000 := by have := HH.out; omega
      have HIL := Aside0.mk hil
      obtain ⟨ad, A12, c12, rfl, hE, hlc, hrc⟩ := ev_at HR.out i hil
      have hI := in_cell inb i (by have := HN.out; omega)
      have hwb : wholeB h inb i = (decide (0 ≤ (rd_T44 h (i : Int)).f3) && !(inA inb i) && isPt (rd_T44 h (i : Int))) := rfl
      generalize rd_T44 h (i : Int) = e at hE hlc hrc hwb
      have HE := Aside0.mk hE
      have HLC := Aside0.mk hlc
      have HRC := Aside0.mk hrc
      clear hE hlc hrc hil
      by_cases hc : 0 ≤ e.f3
      · have hcb : decide (0 ≤ e.f3) = true := decide_eq_true hc
        rw [hcb, Bool.true_and] at hwb
        cases hin : inA inb i
        · rw [hin, Bool.not_false, Bool.true_and] at hwb
          rw [hin] at hI
          have HI := Aside0.mk hI
          clear hI hin
          cases hpt : isPt e
          · rw [hpt] at hwb
            have HWB := Aside0.mk hwb
            clear hwb
            go_wp2_with (first | ((with_reducible refine gate_dst (N := 14) rfl ?_); refine wq_loadE (ty := 44) (p := .tmp 13) (k := 13) (ad := ad.add (i * 13)) (vs := [.int .i64 e.f0, .int .i64 e.f1, .int .i64 e.f2, .int .i64 e.f3, .int .i64 e.f4, .int .i64 e.f5.f0, .int .u64 e.f5.f1, .int .u64 e.f5.f2, .int .i64 e.f5.f3, .int .i64 e.f6.f0, .bool e.f6.f1, .int .u64 e.f6.f2, .slice A12 e.f6.f3.length c12]) ?hgd2 ?ho2 ?hp2 Try.underlying44 ?hd2 ?hi2 (cells_bel rfl HB.out HE.out) ?hk2 ?_; (case hd2 => rfl); (case hi2 => kernel_rfl); (case hgd2 => rfl); (case ho2 => rfl); (case hp2 => rfl); (case hk2 => rfl)) | ((with_reducible refine gate_dst (N := 4) rfl ?_); refine box_event ?hg3 (N := 4) ?hd3 (cs := #[.int .i64 0, .int .i64 0, .int .i64 0, .int .i64 0, .int .i64 0, .int .i64 0, .int .u64 0, .int .u64 0, .int .i64 0, .int .i64 0, .bool false, .int .u64 0, .slice none 0 0]) (t := 44) ?hr3 ?_; (case hd3 => rfl); (case hg3 => rfl); (case hr3 => first | (go_simp; done) | (go_simp; rfl)); intro pg10 hg pw1_ hbox hbk; have HGpB10 := Aside0.mk (show gs ≠ pg10 ∧ gi ≠ pg10 ∧ W.heap.size ≤ pg10 from by rw [hg]; have := blk_lt BS.out; have := blk_lt BI.out; have := HB.out.size; omega); have n_HB := Aside0.mk (below_step HB.out hbk); have n_BS := Aside0.mk (blk_below BS.out hbk); have n_BI := Aside0.mk (blk_below BI.out hbk); clear HB BS BI; have HB := n_HB; have BS := n_BS; have BI := n_BI; clear n_HB n_BS n_BI; have pB10 := Aside0.mk hbox; clear hbk hbox hg) | ((with_reducible refine gate_store (p := 4) rfl ?_); refine wq_store (ty := 44) (p := .tmp 4) (x := .tmp 14) (g := pg10) (i := 0) (k := 13) (v := ?v4) (vs := ?vs4) (cs' := ?cs4) ?hgd4 ?hdst4 ?ho4 ?hp4 ?hx4 ?hvc4 ?hi4 ?hk4 ?h14 pB10.out ?hsz4 ?hcs4 ?_; (case hi4 => kernel_rfl); (case hgd4 => rfl); (case hdst4 => rfl); (case ho4 => rfl); (case hp4 => rfl); (case hx4 => go_simp; with_reducible rfl); (case hvc4 => simp only [Value.cells]; with_reducible rfl); (case hk4 => rfl); (case h14 => rfl); (case hsz4 => exact Nat.le_of_ble_eq_true rfl); (case hcs4 => simp only [wqPut, List.setIfInBounds_toArray, List.set_cons_succ, List.set_cons_zero, Nat.reduceAdd]; with_reducible rfl); intro pw2_ hb hgr; have n_HB := Aside0.mk (HB.out.grown hgr HB.out.size (fun k hk => by cases hk; exact HGpB10.out.2.2)); have n_BS := Aside0.mk (wq_blk BS.out hgr HGpB10.out.1); have n_BI := Aside0.mk (wq_blk BI.out hgr HGpB10.out.2.1); have n_pB10 := Aside0.mk hb; clear HB BS BI pB10 hb hgr; have HB := n_HB; have BS := n_BS; have BI := n_BI; have pB10 := n_pB10; clear n_HB n_BS n_BI n_pB10) | ((with_reducible refine gate_dst (N := 16) rfl ?_); refine wq_load1 (ty := 3) (p := .tmp 15) (g := pg10) (i := 3) (v := ?v5) ?hgd5 ?ho5 ?hp5 Try.underlying3 ?hd5 pB10.out ?hv5 ?_; (case hd5 => rfl); (case hgd5 => rfl); (case ho5 => rfl); (case hp5 => rfl); (case hv5 => rfl)) | ((with_reducible refine gate_dst (N := 22) rfl ?_); refine wq_load1w (ty := 41) (p := .tmp 21) (g := gs) (i := 1) (v := ?v6) ?hgd6 ?ho6 ?hp6 Try.underlying41 ?hd6 BS.out ?hv6 ?_; (case hd6 => rfl); (case hgd6 => rfl); (case ho6 => rfl); (case hp6 => rfl); (case hv6 => rfl)) | ((with_reducible refine gate_dst (N := 29) rfl ?_); refine wq_loadAw (ty := 44) (p := .tmp 4) (g := pg10) (i := 0) (k := 13) (vs := ?vs7) ?hgd7 ?ho7 ?hp7 Try.underlying44 ?hd7 ?hi7 pB10.out ?hv7 ?hk7 ?_; (case hd7 => rfl); (case hi7 => kernel_rfl); (case hgd7 => rfl); (case ho7 => rfl); (case hp7 => rfl); (case hv7 => simp only [List.drop_succ_cons, List.drop_zero, List.take_succ_cons, List.take_zero, List.take_nil, List.drop_nil]; with_reducible rfl); (case hk7 => rfl)) | (go_at_call 35; (with_reducible refine (li_point e A12 c12 HLC.out _ (Kd.C_below HRC.out HB.out)).mono ?_); rintro e pu3_ ⟨rfl, hbk⟩; have n_HB := Aside0.mk (below_step HB.out hbk); have n_BS := Aside0.mk (blk_below BS.out hbk); have n_BI := Aside0.mk (blk_below BI.out hbk); have n_pB10 := Aside0.mk (blk_below pB10.out hbk); clear HB BS BI pB10; have HB := n_HB; have BS := n_BS; have BI := n_BI; have pB10 := n_pB10; clear n_HB n_BS n_BI n_pB10; clear hbk) | ((with_reducible refine gate_dst (N := 25) rfl ?_); refine wq_load1w (ty := 4) (p := .tmp 24) (g := gi) (i := i) (v := .bool false) ?hgd9 ?ho9 ?hp9 Try.underlying4 ?hd9 BI.out ?hv9 ?_; (case hd9 => rfl); (case hgd9 => rfl); (case ho9 => rfl); (case hp9 => rfl); (case hv9 => exact HI.out)))
            go_roundg (h.length - (i + 1))
            case measure => have := HIL.out; have := HK.out; omega
            case rel =>
              have hil := HIL.out
              have hh := HH.out
              exact ⟨i + 1, by first | rfl | (rw [show wrap64 ((i : Int) + 1) = ((i + 1 : Nat) : Int) from by unfold wrap64; omega]), ⟨hil⟩, ⟨by omega⟩, ⟨fun j hj => by
                rcases Nat.lt_or_ge j i with h3 | h3
                · exact HW.out j h3
                · have h4 : j = i := by omega
                  subst h4
                  exact HWB.out⟩, BS, BI, HB⟩
          · rw [hpt] at hwb
            have HWB := Aside0.mk hwb
            clear hwb
            go_wp2_with (first | ((with_reducible refine gate_dst (N := 14) rfl ?_); refine wq_loadE (ty := 44) (p := .tmp 13) (k := 13) (ad := ad.add (i * 13)) (vs := [.int .i64 e.f0, .int .i64 e.f1, .int .i64 e.f2, .int .i64 e.f3, .int .i64 e.f4, .int .i64 e.f5.f0, .int .u64 e.f5.f1, .int .u64 e.f5.f2, .int .i64 e.f5.f3, .int .i64 e.f6.f0, .bool e.f6.f1, .int .u64 e.f6.f2, .slice A12 e.f6.f3.length c12]) ?hgd10 ?ho10 ?hp10 Try.underlying44 ?hd10 ?hi10 (cells_bel rfl HB.out HE.out) ?hk10 ?_; (case hd10 => rfl); (case hi10 => kernel_rfl); (case hgd10 => rfl); (case ho10 => rfl); (case hp10 => rfl); (case hk10 => rfl)) | ((with_reducible refine gate_dst (N := 4) rfl ?_); refine box_event ?hg11 (N := 4) ?hd11 (cs := #[.int .i64 0, .int .i64 0, .int .i64 0, .int .i64 0, .int .i64 0, .int .i64 0, .int .u64 0, .int .u64 0, .int .i64 0, .int .i64 0, .bool false, .int .u64 0, .slice none 0 0]) (t := 44) ?hr11 ?_; (case hd11 => rfl); (case hg11 => rfl); (case hr11 => first | (go_simp; done) | (go_simp; rfl)); intro qg10 hg qw1_ hbox hbk; have HGqB10 := Aside0.mk (show gs ≠ qg10 ∧ gi ≠ qg10 ∧ W.heap.size ≤ qg10 from by rw [hg]; have := blk_lt BS.out; have := blk_lt BI.out; have := HB.out.size; omega); have n_HB := Aside0.mk (below_step HB.out hbk); have n_BS := Aside0.mk (blk_below BS.out hbk); have n_BI := Aside0.mk (blk_below BI.out hbk); clear HB BS BI; have HB := n_HB; have BS := n_BS; have BI := n_BI; clear n_HB n_BS n_BI; have qB10 := Aside0.mk hbox; clear hbk hbox hg) | ((with_reducible refine gate_store (p := 4) rfl ?_); refine wq_store (ty := 44) (p := .tmp 4) (x := .tmp 14) (g := qg10) (i := 0) (k := 13) (v := ?v12) (vs := ?vs12) (cs' := ?cs12) ?hgd12 ?hdst12 ?ho12 ?hp12 ?hx12 ?hvc12 ?hi12 ?hk12 ?h112 qB10.out ?hsz12 ?hcs12 ?_; (case hi12 => kernel_rfl); (case hgd12 => rfl); (case hdst12 => rfl); (case ho12 => rfl); (case hp12 => rfl); (case hx12 => go_simp; with_reducible rfl); (case hvc12 => simp only [Value.cells]; with_reducible rfl); (case hk12 => rfl); (case h112 => rfl); (case hsz12 => exact Nat.le_of_ble_eq_true rfl); (case hcs12 => simp only [wqPut, List.setIfInBounds_toArray, List.set_cons_succ, List.set_cons_zero, Nat.reduceAdd]; with_reducible rfl); intro qw2_ hb hgr; have n_HB := Aside0.mk (HB.out.grown hgr HB.out.size (fun k hk => by cases hk; exact HGqB10.out.2.2)); have n_BS := Aside0.mk (wq_blk BS.out hgr HGqB10.out.1); have n_BI := Aside0.mk (wq_blk BI.out hgr HGqB10.out.2.1); have n_qB10 := Aside0.mk hb; clear HB BS BI qB10 hb hgr; have HB := n_HB; have BS := n_BS; have BI := n_BI; have qB10 := n_qB10; clear n_HB n_BS n_BI n_qB10) | ((with_reducible refine gate_dst (N := 16) rfl ?_); refine wq_load1 (ty := 3) (p := .tmp 15) (g := qg10) (i := 3) (v := ?v13) ?hgd13 ?ho13 ?hp13 Try.underlying3 ?hd13 qB10.out ?hv13 ?_; (case hd13 => rfl); (case hgd13 => rfl); (case ho13 => rfl); (case hp13 => rfl); (case hv13 => rfl)) | ((with_reducible refine gate_dst (N := 22) rfl ?_); refine wq_load1w (ty := 41) (p := .tmp 21) (g := gs) (i := 1) (v := ?v14) ?hgd14 ?ho14 ?hp14 Try.underlying41 ?hd14 BS.out ?hv14 ?_; (case hd14 => rfl); (case hgd14 => rfl); (case ho14 => rfl); (case hp14 => rfl); (case hv14 => rfl)) | ((with_reducible refine gate_dst (N := 29) rfl ?_); refine wq_loadAw (ty := 44) (p := .tmp 4) (g := qg10) (i := 0) (k := 13) (vs := ?vs15) ?hgd15 ?ho15 ?hp15 Try.underlying44 ?hd15 ?hi15 qB10.out ?hv15 ?hk15 ?_; (case hd15 => rfl); (case hi15 => kernel_rfl); (case hgd15 => rfl); (case ho15 => rfl); (case hp15 => rfl); (case hv15 => simp only [List.drop_succ_cons, List.drop_zero, List.take_succ_cons, List.take_zero, List.take_nil, List.drop_nil]; with_reducible rfl); (case hk15 => rfl)) | (go_at_call 35; (with_reducible refine (li_point e A12 c12 HLC.out _ (Kd.C_below HRC.out HB.out)).mono ?_); rintro e qu3_ ⟨rfl, hbk⟩; have n_HB := Aside0.mk (below_step HB.out hbk); have n_BS := Aside0.mk (blk_below BS.out hbk); have n_BI := Aside0.mk (blk_below BI.out hbk); have n_qB10 := Aside0.mk (blk_below qB10.out hbk); clear HB BS BI qB10; have HB := n_HB; have BS := n_BS; have BI := n_BI; have qB10 := n_qB10; clear n_HB n_BS n_BI n_qB10; clear hbk) | ((with_reducible refine gate_dst (N := 25) rfl ?_); refine wq_load1w (ty := 4) (p := .tmp 24) (g := gi) (i := i) (v := .bool false) ?hgd17 ?ho17 ?hp17 Try.underlying4 ?hd17 BI.out ?hv17 ?_; (case hd17 => rfl); (case hgd17 => rfl); (case ho17 => rfl); (case hp17 => rfl); (case hv17 => exact HI.out)))
            go_ret
            exact ⟨by rw [wholeP_no HIL.out HWB.out]; rfl, HB.out⟩
        · rw [hin, Bool.not_true, Bool.false_and] at hwb
          rw [hin] at hI
          have HI := Aside0.mk hI
          have HWB := Aside0.mk hwb
          clear hI hin hwb
          go_wp2_with (first | ((with_reducible refine gate_dst (N := 14) rfl ?_); refine wq_loadE (ty := 44) (p := .tmp 13) (k := 13) (ad := ad.add (i * 13)) (vs := [.int .i64 e.f0, .int .i64 e.f1, .int .i64 e.f2, .int .i64 e.f3, .int .i64 e.f4, .int .i64 e.f5.f0, .int .u64 e.f5.f1, .int .u64 e.f5.f2, .int .i64 e.f5.f3, .int .i64 e.f6.f0, .bool e.f6.f1, .int .u64 e.f6.f2, .slice A12 e.f6.f3.length c12]) ?hgd18 ?ho18 ?hp18 Try.underlying44 ?hd18 ?hi18 (cells_bel rfl HB.out HE.out) ?hk18 ?_; (case hd18 => rfl); (case hi18 => kernel_rfl); (case hgd18 => rfl); (case ho18 => rfl); (case hp18 => rfl); (case hk18 => rfl)) | ((with_reducible refine gate_dst (N := 4) rfl ?_); refine box_event ?hg19 (N := 4) ?hd19 (cs := #[.int .i64 0, .int .i64 0, .int .i64 0, .int .i64 0, .int .i64 0, .int .i64 0, .int .u64 0, .int .u64 0, .int .i64 0, .int .i64 0, .bool false, .int .u64 0, .slice none 0 0]) (t := 44) ?hr19 ?_; (case hd19 => rfl); (case hg19 => rfl); (case hr19 => first | (go_simp; done) | (go_simp; rfl)); intro rg10 hg rw1_ hbox hbk; have HGrB10 := Aside0.mk (show gs ≠ rg10 ∧ gi ≠ rg10 ∧ W.heap.size ≤ rg10 from by rw [hg]; have := blk_lt BS.out; have := blk_lt BI.out; have := HB.out.size; omega); have n_HB := Aside0.mk (below_step HB.out hbk); have n_BS := Aside0.mk (blk_below BS.out hbk); have n_BI := Aside0.mk (blk_below BI.out hbk); clear HB BS BI; have HB := n_HB; have BS := n_BS; have BI := n_BI; clear n_HB n_BS n_BI; have rB10 := Aside0.mk hbox; clear hbk hbox hg) | ((with_reducible refine gate_store (p := 4) rfl ?_); refine wq_store (ty := 44) (p := .tmp 4) (x := .tmp 14) (g := rg10) (i := 0) (k := 13) (v := ?v20) (vs := ?vs20) (cs' := ?cs20) ?hgd20 ?hdst20 ?ho20 ?hp20 ?hx20 ?hvc20 ?hi20 ?hk20 ?h120 rB10.out ?hsz20 ?hcs20 ?_; (case hi20 => kernel_rfl); (case hgd20 => rfl); (case hdst20 => rfl); (case ho20 => rfl); (case hp20 => rfl); (case hx20 => go_simp; with_reducible rfl); (case hvc20 => simp only [Value.cells]; with_reducible rfl); (case hk20 => rfl); (case h120 => rfl); (case hsz20 => exact Nat.le_of_ble_eq_true rfl); (case hcs20 => simp only [wqPut, List.setIfInBounds_toArray, List.set_cons_succ, List.set_cons_zero, Nat.reduceAdd]; with_reducible rfl); intro rw2_ hb hgr; have n_HB := Aside0.mk (HB.out.grown hgr HB.out.size (fun k hk => by cases hk; exact HGrB10.out.2.2)); have n_BS := Aside0.mk (wq_blk BS.out hgr HGrB10.out.1); have n_BI := Aside0.mk (wq_blk BI.out hgr HGrB10.out.2.1); have n_rB10 := Aside0.mk hb; clear HB BS BI rB10 hb hgr; have HB := n_HB; have BS := n_BS; have BI := n_BI; have rB10 := n_rB10; clear n_HB n_BS n_BI n_rB10) | ((with_reducible refine gate_dst (N := 16) rfl ?_); refine wq_load1 (ty := 3) (p := .tmp 15) (g := rg10) (i := 3) (v := ?v21) ?hgd21 ?ho21 ?hp21 Try.underlying3 ?hd21 rB10.out ?hv21 ?_; (case hd21 => rfl); (case hgd21 => rfl); (case ho21 => rfl); (case hp21 => rfl); (case hv21 => rfl)) | ((with_reducible refine gate_dst (N := 22) rfl ?_); refine wq_load1w (ty := 41) (p := .tmp 21) (g := gs) (i := 1) (v := ?v22) ?hgd22 ?ho22 ?hp22 Try.underlying41 ?hd22 BS.out ?hv22 ?_; (case hd22 => rfl); (case hgd22 => rfl); (case ho22 => rfl); (case hp22 => rfl); (case hv22 => rfl)) | ((with_reducible refine gate_dst (N := 29) rfl ?_); refine wq_loadAw (ty := 44) (p := .tmp 4) (g := rg10) (i := 0) (k := 13) (vs := ?vs23) ?hgd23 ?ho23 ?hp23 Try.underlying44 ?hd23 ?hi23 rB10.out ?hv23 ?hk23 ?_; (case hd23 => rfl); (case hi23 => kernel_rfl); (case hgd23 => rfl); (case ho23 => rfl); (case hp23 => rfl); (case hv23 => simp only [List.drop_succ_cons, List.drop_zero, List.take_succ_cons, List.take_zero, List.take_nil, List.drop_nil]; with_reducible rfl); (case hk23 => rfl)) | (go_at_call 35; (with_reducible refine (li_point e A12 c12 HLC.out _ (Kd.C_below HRC.out HB.out)).mono ?_); rintro e ru3_ ⟨rfl, hbk⟩; have n_HB := Aside0.mk (below_step HB.out hbk); have n_BS := Aside0.mk (blk_below BS.out hbk); have n_BI := Aside0.mk (blk_below BI.out hbk); have n_rB10 := Aside0.mk (blk_below rB10.out hbk); clear HB BS BI rB10; have HB := n_HB; have BS := n_BS; have BI := n_BI; have rB10 := n_rB10; clear n_HB n_BS n_BI n_rB10; clear hbk) | ((with_reducible refine gate_dst (N := 25) rfl ?_); refine wq_load1w (ty := 4) (p := .tmp 24) (g := gi) (i := i) (v := .bool true) ?hgd25 ?ho25 ?hp25 Try.underlying4 ?hd25 BI.out ?hv25 ?_; (case hd25 => rfl); (case hgd25 => rfl); (case ho25 => rfl); (case hp25 => rfl); (case hv25 => exact HI.out)))
          go_roundg (h.length - (i + 1))
          case measure => have := HIL.out; have := HK.out; omega
          case rel =>
            have hil := HIL.out
            have hh := HH.out
            exact ⟨i + 1, by first | rfl | (rw [show wrap64 ((i : Int) + 1) = ((i + 1 : Nat) : Int) from by unfold wrap64; omega]), ⟨hil⟩, ⟨by omega⟩, ⟨fun j hj => by
              rcases Nat.lt_or_ge j i with h3 | h3
              · exact HW.out j h3
              · have h4 : j = i := by omega
                subst h4
                exact HWB.out⟩, BS, BI, HB⟩
      · have hcb : decide (0 ≤ e.f3) = false := decide_eq_false hc
        rw [hcb, Bool.false_and, Bool.false_and] at hwb
        have HI := Aside0.mk hI
        have HWB := Aside0.mk hwb
        clear hI hwb
        go_wp2_with (first | ((with_reducible refine gate_dst (N := 14) rfl ?_); refine wq_loadE (ty := 44) (p := .tmp 13) (k := 13) (ad := ad.add (i * 13)) (vs := [.int .i64 e.f0, .int .i64 e.f1, .int .i64 e.f2, .int .i64 e.f3, .int .i64 e.f4, .int .i64 e.f5.f0, .int .u64 e.f5.f1, .int .u64 e.f5.f2, .int .i64 e.f5.f3, .int .i64 e.f6.f0, .bool e.f6.f1, .int .u64 e.f6.f2, .slice A12 e.f6.f3.length c12]) ?hgd26 ?ho26 ?hp26 Try.underlying44 ?hd26 ?hi26 (cells_bel rfl HB.out HE.out) ?hk26 ?_; (case hd26 => rfl); (case hi26 => kernel_rfl); (case hgd26 => rfl); (case ho26 => rfl); (case hp26 => rfl); (case hk26 => rfl)) | ((with_reducible refine gate_dst (N := 4) rfl ?_); refine box_event ?hg27 (N := 4) ?hd27 (cs := #[.int .i64 0, .int .i64 0, .int .i64 0, .int .i64 0, .int .i64 0, .int .i64 0, .int .u64 0, .int .u64 0, .int .i64 0, .int .i64 0, .bool false, .int .u64 0, .slice none 0 0]) (t := 44) ?hr27 ?_; (case hd27 => rfl); (case hg27 => rfl); (case hr27 => first | (go_simp; done) | (go_simp; rfl)); intro sg10 hg sw1_ hbox hbk; have HGsB10 := Aside0.mk (show gs ≠ sg10 ∧ gi ≠ sg10 ∧ W.heap.size ≤ sg10 from by rw [hg]; have := blk_lt BS.out; have := blk_lt BI.out; have := HB.out.size; omega); have n_HB := Aside0.mk (below_step HB.out hbk); have n_BS := Aside0.mk (blk_below BS.out hbk); have n_BI := Aside0.mk (blk_below BI.out hbk); clear HB BS BI; have HB := n_HB; have BS := n_BS; have BI := n_BI; clear n_HB n_BS n_BI; have sB10 := Aside0.mk hbox; clear hbk hbox hg) | ((with_reducible refine gate_store (p := 4) rfl ?_); refine wq_store (ty := 44) (p := .tmp 4) (x := .tmp 14) (g := sg10) (i := 0) (k := 13) (v := ?v28) (vs := ?vs28) (cs' := ?cs28) ?hgd28 ?hdst28 ?ho28 ?hp28 ?hx28 ?hvc28 ?hi28 ?hk28 ?h128 sB10.out ?hsz28 ?hcs28 ?_; (case hi28 => kernel_rfl); (case hgd28 => rfl); (case hdst28 => rfl); (case ho28 => rfl); (case hp28 => rfl); (case hx28 => go_simp; with_reducible rfl); (case hvc28 => simp only [Value.cells]; with_reducible rfl); (case hk28 => rfl); (case h128 => rfl); (case hsz28 => exact Nat.le_of_ble_eq_true rfl); (case hcs28 => simp only [wqPut, List.setIfInBounds_toArray, List.set_cons_succ, List.set_cons_zero, Nat.reduceAdd]; with_reducible rfl); intro sw2_ hb hgr; have n_HB := Aside0.mk (HB.out.grown hgr HB.out.size (fun k hk => by cases hk; exact HGsB10.out.2.2)); have n_BS := Aside0.mk (wq_blk BS.out hgr HGsB10.out.1); have n_BI := Aside0.mk (wq_blk BI.out hgr HGsB10.out.2.1); have n_sB10 := Aside0.mk hb; clear HB BS BI sB10 hb hgr; have HB := n_HB; have BS := n_BS; have BI := n_BI; have sB10 := n_sB10; clear n_HB n_BS n_BI n_sB10) | ((with_reducible refine gate_dst (N := 16) rfl ?_); refine wq_load1 (ty := 3) (p := .tmp 15) (g := sg10) (i := 3) (v := ?v29) ?hgd29 ?ho29 ?hp29 Try.underlying3 ?hd29 sB10.out ?hv29 ?_; (case hd29 => rfl); (case hgd29 => rfl); (case ho29 => rfl); (case hp29 => rfl); (case hv29 => rfl)) | ((with_reducible refine gate_dst (N := 22) rfl ?_); refine wq_load1w (ty := 41) (p := .tmp 21) (g := gs) (i := 1) (v := ?v30) ?hgd30 ?ho30 ?hp30 Try.underlying41 ?hd30 BS.out ?hv30 ?_; (case hd30 => rfl); (case hgd30 => rfl); (case ho30 => rfl); (case hp30 => rfl); (case hv30 => rfl)) | ((with_reducible refine gate_dst (N := 29) rfl ?_); refine wq_loadAw (ty := 44) (p := .tmp 4) (g := sg10) (i := 0) (k := 13) (vs := ?vs31) ?hgd31 ?ho31 ?hp31 Try.underlying44 ?hd31 ?hi31 sB10.out ?hv31 ?hk31 ?_; (case hd31 => rfl); (case hi31 => kernel_rfl); (case hgd31 => rfl); (case ho31 => rfl); (case hp31 => rfl); (case hv31 => simp only [List.drop_succ_cons, List.drop_zero, List.take_succ_cons, List.take_zero, List.take_nil, List.drop_nil]; with_reducible rfl); (case hk31 => rfl)) | (go_at_call 35; (with_reducible refine (li_point e A12 c12 HLC.out _ (Kd.C_below HRC.out HB.out)).mono ?_); rintro e su3_ ⟨rfl, hbk⟩; have n_HB := Aside0.mk (below_step HB.out hbk); have n_BS := Aside0.mk (blk_below BS.out hbk); have n_BI := Aside0.mk (blk_below BI.out hbk); have n_sB10 := Aside0.mk (blk_below sB10.out hbk); clear HB BS BI sB10; have HB := n_HB; have BS := n_BS; have BI := n_BI; have sB10 := n_sB10; clear n_HB n_BS n_BI n_sB10; clear hbk) | ((with_reducible refine gate_dst (N := 25) rfl ?_); refine wq_load1w (ty := 4) (p := .tmp 24) (g := gi) (i := i) (v := .bool (inA inb i)) ?hgd33 ?ho33 ?hp33 Try.underlying4 ?hd33 BI.out ?hv33 ?_; (case hd33 => rfl); (case hgd33 => rfl); (case ho33 => rfl); (case hp33 => rfl); (case hv33 => exact HI.out)))
        go_roundg (h.length - (i + 1))
        case measure => have := HIL.out; have := HK.out; omega
        case rel =>
          have hil := HIL.out
          have hh := HH.out
          exact ⟨i + 1, by first | rfl | (rw [show wrap64 ((i : Int) + 1) = ((i + 1 : Nat) : Int) from by unfold wrap64; omega]), ⟨hil⟩, ⟨by omega⟩, ⟨fun j hj => by
            rcases Nat.lt_or_ge j i with h3 | h3
            · exact HW.out j h3
            · have h4 : j = i := by omega
              subst h4
              exact HWB.out⟩, BS, BI, HB⟩
    · have hnlt : ¬ ((i : Int) < (h.length : Int)) := by omega
      have hii : i = h.length := by have := HJ.out; omega
      subst hii
      clear hil
      go_wp2
      go_ret
      exact ⟨by rw [wholeP_yes HW.out]; rfl, HB.out⟩



/-! ### history_Before: function 36 -/
def history_Before.f (a0_0 : Int) (a0_1 : Int) (a0_2 : Int) (a0_3 : Int) (a0_4 : Int) (a0_5 : Int) (a0_6 : Int) (a0_7 : Int) (a0_8 : Int) (a0_9 : Int) (a0_10 : Bool) (a0_11 : Int) (l0_12 : List (S53)) (a1_0 : Int) (a1_1 : Int) (a1_2 : Int) (a1_3 : Int) (a1_4 : Int) (a1_5 : Int) (a1_6 : Int) (a1_7 : Int) (a1_8 : Int) (a1_9 : Int) (a1_10 : Bool) (a1_11 : Int) (l1_12 : List (S53)) : Option (Bool) := if a0_3 ≥ 0 then (some (decide (a0_3 < a1_2))) else (some false)
set_option maxHeartbeats 8000000 in
set_option maxRecDepth 100000 in
theorem history_Before.calls (a0_0 : Int) (a0_1 : Int) (a0_2 : Int) (a0_3 : Int) (a0_4 : Int) (a0_5 : Int) (a0_6 : Int) (a0_7 : Int) (a0_8 : Int) (a0_9 : Int) (a0_10 : Bool) (a0_11 : Int) (A0_12 : Option Addr) (c0_12 : Nat) (l0_12 : List (S53)) (a1_0 : Int) (a1_1 : Int) (a1_2 : Int) (a1_3 : Int) (a1_4 : Int) (a1_5 : Int) (a1_6 : Int) (a1_7 : Int) (a1_8 : Int) (a1_9 : Int) (a1_10 : Bool) (a1_11 : Int) (A1_12 : Option Addr) (c1_12 : Nat) (l1_12 : List (S53)) (r : Bool) (w : World) (hr0_12 : Kd.C k53 w A0_12 l0_12.length l0_12) (hc0_12 : l0_12.length ≤ c0_12) (hr1_12 : Kd.C k53 w A1_12 l1_12.length l1_12) (hc1_12 : l1_12.length ≤ c1_12) (h : history_Before.f a0_0 a0_1 a0_2 a0_3 a0_4 a0_5 a0_6 a0_7 a0_8 a0_9 a0_10 a0_11 l0_12 a1_0 a1_1 a1_2 a1_3 a1_4 a1_5 a1_6 a1_7 a1_8 a1_9 a1_10 a1_11 l1_12 = some r) :
    Calls Try.prog 36 #[.agg #[.int .i64 a0_0, .int .i64 a0_1, .int .i64 a0_2, .int .i64 a0_3, .int .i64 a0_4, .int .i64 a0_5, .int .u64 a0_6, .int .u64 a0_7, .int .i64 a0_8, .int .i64 a0_9, .bool a0_10, .int .u64 a0_11, .slice A0_12 l0_12.length c0_12], .agg #[.int .i64 a1_0, .int .i64 a1_1, .int .i64 a1_2, .int .i64 a1_3, .int .i64 a1_4, .int .i64 a1_5, .int .u64 a1_6, .int .u64 a1_7, .int .i64 a1_8, .int .i64 a1_9, .bool a1_10, .int .u64 a1_11, .slice A1_12 l1_12.length c1_12]] w fun e w' => e = .returned (.bool r) ∧ Below w.heap.size w w' := by
  have hu44 := Try.underlying44
  have HR0_12 := Aside0.mk hr0_12
  have HC0_12 := Aside0.mk hc0_12
  clear hr0_12 hc0_12
  have HR1_12 := Aside0.mk hr1_12
  have HC1_12 := Aside0.mk hc1_12
  clear hr1_12 hc1_12
  have HB := Aside0.mk (Below.refl w.heap.size w)
  have H : (if a0_3 ≥ 0 then (some (decide (a0_3 < a1_2))) else (some false)) = some r := h
  clear h
  by_cases c3 : a0_3 ≥ 0
  · rw [if_pos c3] at H
    have c3b0 : decide (0 ≤ a0_3) = true := decide_eq_true c3
    clear c3
    obtain rfl := Option.some.inj H
    go_enter Try.func36, Try.ntmps36
    go_wp2_with (first | ((with_reducible refine gate_dst (N := 2) rfl ?_); refine box_event ?hg (N := 2) ?hd (cs := #[.int .i64 a0_0, .int .i64 a0_1, .int .i64 a0_2, .int .i64 a0_3, .int .i64 a0_4, .int .i64 a0_5, .int .u64 a0_6, .int .u64 a0_7, .int .i64 a0_8, .int .i64 a0_9, .bool a0_10, .int .u64 a0_11, .slice A0_12 l0_12.length c0_12]) (t := 44) ?hr ?_; (case hd => rfl); (case hg => rfl); (case hr => first | (go_simp; done) | (go_simp; rfl)); intro gb108 hg w4 hbox hb; have n0_ := Aside0.mk (below_step (by repeat (first | (with_reducible first | exact HB.out | apply below_alloc | apply pw_below_drewN | apply below_drew1) | exact HB.out)) hb); have n1_ := Aside0.mk (hbox); have n2_ := Aside0.mk ((by rw [hg]; exact (below_size (by repeat (first | (with_reducible first | exact HB.out | apply below_alloc | apply pw_below_drewN | apply below_drew1) | exact HB.out))) : w.heap.size ≤ gb108)); have n3_ := Aside0.mk ((by rw [hg]; exact (below_size (by repeat (first | (with_reducible first | exact HB.out | apply below_alloc | apply pw_below_drewN | apply below_drew1) | exact HB.out))) : w.heap.size ≤ gb108)); clear HB; have HB := n0_; have BK108 := n1_; have GW108 := n2_; have GE108 := n3_; clear n0_ n1_ n2_ n3_; clear hb hbox hg) | ((with_reducible refine gate_dst (N := 3) rfl ?_); refine box_event ?hg (N := 3) ?hd (cs := #[.int .i64 a1_0, .int .i64 a1_1, .int .i64 a1_2, .int .i64 a1_3, .int .i64 a1_4, .int .i64 a1_5, .int .u64 a1_6, .int .u64 a1_7, .int .i64 a1_8, .int .i64 a1_9, .bool a1_10, .int .u64 a1_11, .slice A1_12 l1_12.length c1_12]) (t := 44) ?hr ?_; (case hd => rfl); (case hg => rfl); (case hr => first | (go_simp; done) | (go_simp; rfl)); intro gb109 hg w5 hbox hb; have n0_ := Aside0.mk (blk_below (g := gb108) (o := .cells #[.int .i64 a0_0, .int .i64 a0_1, .int .i64 a0_2, .int .i64 a0_3, .int .i64 a0_4, .int .i64 a0_5, .int .u64 a0_6, .int .u64 a0_7, .int .i64 a0_8, .int .i64 a0_9, .bool a0_10, .int .u64 a0_11, .slice A0_12 l0_12.length c0_12] 44 (0, 0)) (by (with_reducible repeat (first | refine blk_drewN ?_ _ | refine blk_drew ?_ | refine blk_alloc ?_ _)); exact BK108.out) hb); have n1_ := Aside0.mk (below_step (by repeat (first | (with_reducible first | exact HB.out | apply below_alloc | apply pw_below_drewN | apply below_drew1 | refine below_set ?_ GE108.out) | exact HB.out)) hb); have n2_ := Aside0.mk (hbox); have n3_ := Aside0.mk ((by rw [hg]; exact (below_size (by repeat (first | (with_reducible first | exact HB.out | apply below_alloc | apply pw_below_drewN | apply below_drew1 | refine below_set ?_ GE108.out) | exact HB.out))) : w.heap.size ≤ gb109)); have n4_ := Aside0.mk ((by rw [hg]; exact (below_size (by repeat (first | (with_reducible first | exact HB.out | apply below_alloc | apply pw_below_drewN | apply below_drew1 | refine below_set ?_ GE108.out) | exact HB.out))) : w.heap.size ≤ gb109)); have n5_ := Aside0.mk ((by rw [hg]; exact Nat.ne_of_lt (blk_lt (g := gb108) (o := .cells #[.int .i64 a0_0, .int .i64 a0_1, .int .i64 a0_2, .int .i64 a0_3, .int .i64 a0_4, .int .i64 a0_5, .int .u64 a0_6, .int .u64 a0_7, .int .i64 a0_8, .int .i64 a0_9, .bool a0_10, .int .u64 a0_11, .slice A0_12 l0_12.length c0_12] 44 (0, 0)) (by (with_reducible repeat (first | refine blk_drewN ?_ _ | refine blk_drew ?_ | refine blk_alloc ?_ _)); exact BK108.out)) : gb108 ≠ gb109)); have n6_ := Aside0.mk ((by rw [hg]; exact Nat.ne_of_gt (blk_lt (g := gb108) (o := .cells #[.int .i64 a0_0, .int .i64 a0_1, .int .i64 a0_2, .int .i64 a0_3, .int .i64 a0_4, .int .i64 a0_5, .int .u64 a0_6, .int .u64 a0_7, .int .i64 a0_8, .int .i64 a0_9, .bool a0_10, .int .u64 a0_11, .slice A0_12 l0_12.length c0_12] 44 (0, 0)) (by (with_reducible repeat (first | refine blk_drewN ?_ _ | refine blk_drew ?_ | refine blk_alloc ?_ _)); exact BK108.out)) : gb109 ≠ gb108)); clear BK108; clear HB; have BK108 := n0_; have HB := n1_; have BK109 := n2_; have GW109 := n3_; have GE109 := n4_; have NB108_109 := n5_; have NB109_108 := n6_; clear n0_ n1_ n2_ n3_ n4_ n5_ n6_; clear hb hbox hg; have hnb6 := NB108_109.out; have hnc6 := NB109_108.out; have hcz7_0 : w5.cell? ⟨gb108, 0, none⟩ = some (.int .i64 a0_0) := (blk_cell BK108.out 0).trans rfl; have hcz7_1 : w5.cell? ⟨gb108, 1, none⟩ = some (.int .i64 a0_1) := (blk_cell BK108.out 1).trans rfl; have hcz7_2 : w5.cell? ⟨gb108, 2, none⟩ = some (.int .i64 a0_2) := (blk_cell BK108.out 2).trans rfl; have hcz7_3 : w5.cell? ⟨gb108, 3, none⟩ = some (.int .i64 a0_3) := (blk_cell BK108.out 3).trans rfl; have hcz7_4 : w5.cell? ⟨gb108, 4, none⟩ = some (.int .i64 a0_4) := (blk_cell BK108.out 4).trans rfl; have hcz7_5 : w5.cell? ⟨gb108, 5, none⟩ = some (.int .i64 a0_5) := (blk_cell BK108.out 5).trans rfl; have hcz7_6 : w5.cell? ⟨gb108, 6, none⟩ = some (.int .u64 a0_6) := (blk_cell BK108.out 6).trans rfl; have hcz7_7 : w5.cell? ⟨gb108, 7, none⟩ = some (.int .u64 a0_7) := (blk_cell BK108.out 7).trans rfl; have hcz7_8 : w5.cell? ⟨gb108, 8, none⟩ = some (.int .i64 a0_8) := (blk_cell BK108.out 8).trans rfl; have hcz7_9 : w5.cell? ⟨gb108, 9, none⟩ = some (.int .i64 a0_9) := (blk_cell BK108.out 9).trans rfl; have hcz7_10 : w5.cell? ⟨gb108, 10, none⟩ = some (.bool a0_10) := (blk_cell BK108.out 10).trans rfl; have hcz7_11 : w5.cell? ⟨gb108, 11, none⟩ = some (.int .u64 a0_11) := (blk_cell BK108.out 11).trans rfl; have hcz7_12 : w5.cell? ⟨gb108, 12, none⟩ = some (.slice A0_12 l0_12.length c0_12) := (blk_cell BK108.out 12).trans rfl; have hfz7_0 := blk_frozen BK108.out 0; have hfz7_1 := blk_frozen BK108.out 1; have hfz7_2 := blk_frozen BK108.out 2; have hfz7_3 := blk_frozen BK108.out 3; have hfz7_4 := blk_frozen BK108.out 4; have hfz7_5 := blk_frozen BK108.out 5; have hfz7_6 := blk_frozen BK108.out 6; have hfz7_7 := blk_frozen BK108.out 7; have hfz7_8 := blk_frozen BK108.out 8; have hfz7_9 := blk_frozen BK108.out 9; have hfz7_10 := blk_frozen BK108.out 10; have hfz7_11 := blk_frozen BK108.out 11; have hfz7_12 := blk_frozen BK108.out 12; have hcz8_0 : w5.cell? ⟨gb109, 0, none⟩ = some (.int .i64 a1_0) := (blk_cell BK109.out 0).trans rfl; have hcz8_1 : w5.cell? ⟨gb109, 1, none⟩ = some (.int .i64 a1_1) := (blk_cell BK109.out 1).trans rfl; have hcz8_2 : w5.cell? ⟨gb109, 2, none⟩ = some (.int .i64 a1_2) := (blk_cell BK109.out 2).trans rfl; have hcz8_3 : w5.cell? ⟨gb109, 3, none⟩ = some (.int .i64 a1_3) := (blk_cell BK109.out 3).trans rfl; have hcz8_4 : w5.cell? ⟨gb109, 4, none⟩ = some (.int .i64 a1_4) := (blk_cell BK109.out 4).trans rfl; have hcz8_5 : w5.cell? ⟨gb109, 5, none⟩ = some (.int .i64 a1_5) := (blk_cell BK109.out 5).trans rfl; have hcz8_6 : w5.cell? ⟨gb109, 6, none⟩ = some (.int .u64 a1_6) := (blk_cell BK109.out 6).trans rfl; have hcz8_7 : w5.cell? ⟨gb109, 7, none⟩ = some (.int .u64 a1_7) := (blk_cell BK109.out 7).trans rfl; have hcz8_8 : w5.cell? ⟨gb109, 8, none⟩ = some (.int .i64 a1_8) := (blk_cell BK109.out 8).trans rfl; have hcz8_9 : w5.cell? ⟨gb109, 9, none⟩ = some (.int .i64 a1_9) := (blk_cell BK109.out 9).trans rfl; have hcz8_10 : w5.cell? ⟨gb109, 10, none⟩ = some (.bool a1_10) := (blk_cell BK109.out 10).trans rfl; have hcz8_11 : w5.cell? ⟨gb109, 11, none⟩ = some (.int .u64 a1_11) := (blk_cell BK109.out 11).trans rfl; have hcz8_12 : w5.cell? ⟨gb109, 12, none⟩ = some (.slice A1_12 l1_12.length c1_12) := (blk_cell BK109.out 12).trans rfl; have hfz8_0 := blk_frozen BK109.out 0; have hfz8_1 := blk_frozen BK109.out 1; have hfz8_2 := blk_frozen BK109.out 2; have hfz8_3 := blk_frozen BK109.out 3; have hfz8_4 := blk_frozen BK109.out 4; have hfz8_5 := blk_frozen BK109.out 5; have hfz8_6 := blk_frozen BK109.out 6; have hfz8_7 := blk_frozen BK109.out 7; have hfz8_8 := blk_frozen BK109.out 8; have hfz8_9 := blk_frozen BK109.out 9; have hfz8_10 := blk_frozen BK109.out 10; have hfz8_11 := blk_frozen BK109.out 11; have hfz8_12 := blk_frozen BK109.out 12))
    go_ret
    exact ⟨by first | rfl | (simp [errW_none, errW_some] <;> rfl) | (simp [*, errW_none, errW_some] <;> rfl), by repeat (first | (with_reducible first | exact HB.out | apply below_alloc | apply pw_below_drewN | apply below_drew1 | refine below_set ?_ GE108.out | refine below_set ?_ GE109.out) | exact HB.out)⟩
  · rw [if_neg c3] at H
    have c3b0 : decide (0 ≤ a0_3) = false := decide_eq_false c3
    clear c3
    obtain rfl := Option.some.inj H
    go_enter Try.func36, Try.ntmps36
    go_wp2_with (first | ((with_reducible refine gate_dst (N := 2) rfl ?_); refine box_event ?hg (N := 2) ?hd (cs := #[.int .i64 a0_0, .int .i64 a0_1, .int .i64 a0_2, .int .i64 a0_3, .int .i64 a0_4, .int .i64 a0_5, .int .u64 a0_6, .int .u64 a0_7, .int .i64 a0_8, .int .i64 a0_9, .bool a0_10, .int .u64 a0_11, .slice A0_12 l0_12.length c0_12]) (t := 44) ?hr ?_; (case hd => rfl); (case hg => rfl); (case hr => first | (go_simp; done) | (go_simp; rfl)); intro gb108 hg w9 hbox hb; have n0_ := Aside0.mk (below_step (by repeat (first | (with_reducible first | exact HB.out | apply below_alloc | apply pw_below_drewN | apply below_drew1) | exact HB.out)) hb); have n1_ := Aside0.mk (hbox); have n2_ := Aside0.mk ((by rw [hg]; exact (below_size (by repeat (first | (with_reducible first | exact HB.out | apply below_alloc | apply pw_below_drewN | apply below_drew1) | exact HB.out))) : w.heap.size ≤ gb108)); have n3_ := Aside0.mk ((by rw [hg]; exact (below_size (by repeat (first | (with_reducible first | exact HB.out | apply below_alloc | apply pw_below_drewN | apply below_drew1) | exact HB.out))) : w.heap.size ≤ gb108)); clear HB; have HB := n0_; have BK108 := n1_; have GW108 := n2_; have GE108 := n3_; clear n0_ n1_ n2_ n3_; clear hb hbox hg) | ((with_reducible refine gate_dst (N := 3) rfl ?_); refine box_event ?hg (N := 3) ?hd (cs := #[.int .i64 a1_0, .int .i64 a1_1, .int .i64 a1_2, .int .i64 a1_3, .int .i64 a1_4, .int .i64 a1_5, .int .u64 a1_6, .int .u64 a1_7, .int .i64 a1_8, .int .i64 a1_9, .bool a1_10, .int .u64 a1_11, .slice A1_12 l1_12.length c1_12]) (t := 44) ?hr ?_; (case hd => rfl); (case hg => rfl); (case hr => first | (go_simp; done) | (go_simp; rfl)); intro gb109 hg w10 hbox hb; have n0_ := Aside0.mk (blk_below (g := gb108) (o := .cells #[.int .i64 a0_0, .int .i64 a0_1, .int .i64 a0_2, .int .i64 a0_3, .int .i64 a0_4, .int .i64 a0_5, .int .u64 a0_6, .int .u64 a0_7, .int .i64 a0_8, .int .i64 a0_9, .bool a0_10, .int .u64 a0_11, .slice A0_12 l0_12.length c0_12] 44 (0, 0)) (by (with_reducible repeat (first | refine blk_drewN ?_ _ | refine blk_drew ?_ | refine blk_alloc ?_ _)); exact BK108.out) hb); have n1_ := Aside0.mk (below_step (by repeat (first | (with_reducible first | exact HB.out | apply below_alloc | apply pw_below_drewN | apply below_drew1 | refine below_set ?_ GE108.out) | exact HB.out)) hb); have n2_ := Aside0.mk (hbox); have n3_ := Aside0.mk ((by rw [hg]; exact (below_size (by repeat (first | (with_reducible first | exact HB.out | apply below_alloc | apply pw_below_drewN | apply below_drew1 | refine below_set ?_ GE108.out) | exact HB.out))) : w.heap.size ≤ gb109)); have n4_ := Aside0.mk ((by rw [hg]; exact (below_size (by repeat (first | (with_reducible first | exact HB.out | apply below_alloc | apply pw_below_drewN | apply below_drew1 | refine below_set ?_ GE108.out) | exact HB.out))) : w.heap.size ≤ gb109)); have n5_ := Aside0.mk ((by rw [hg]; exact Nat.ne_of_lt (blk_lt (g := gb108) (o := .cells #[.int .i64 a0_0, .int .i64 a0_1, .int .i64 a0_2, .int .i64 a0_3, .int .i64 a0_4, .int .i64 a0_5, .int .u64 a0_6, .int .u64 a0_7, .int .i64 a0_8, .int .i64 a0_9, .bool a0_10, .int .u64 a0_11, .slice A0_12 l0_12.length c0_12] 44 (0, 0)) (by (with_reducible repeat (first | refine blk_drewN ?_ _ | refine blk_drew ?_ | refine blk_alloc ?_ _)); exact BK108.out)) : gb108 ≠ gb109)); have n6_ := Aside0.mk ((by rw [hg]; exact Nat.ne_of_gt (blk_lt (g := gb108) (o := .cells #[.int .i64 a0_0, .int .i64 a0_1, .int .i64 a0_2, .int .i64 a0_3, .int .i64 a0_4, .int .i64 a0_5, .int .u64 a0_6, .int .u64 a0_7, .int .i64 a0_8, .int .i64 a0_9, .bool a0_10, .int .u64 a0_11, .slice A0_12 l0_12.length c0_12] 44 (0, 0)) (by (with_reducible repeat (first | refine blk_drewN ?_ _ | refine blk_drew ?_ | refine blk_alloc ?_ _)); exact BK108.out)) : gb109 ≠ gb108)); clear BK108; clear HB; have BK108 := n0_; have HB := n1_; have BK109 := n2_; have GW109 := n3_; have GE109 := n4_; have NB108_109 := n5_; have NB109_108 := n6_; clear n0_ n1_ n2_ n3_ n4_ n5_ n6_; clear hb hbox hg; have hnb11 := NB108_109.out; have hnc11 := NB109_108.out; have hcz12_0 : w10.cell? ⟨gb108, 0, none⟩ = some (.int .i64 a0_0) := (blk_cell BK108.out 0).trans rfl; have hcz12_1 : w10.cell? ⟨gb108, 1, none⟩ = some (.int .i64 a0_1) := (blk_cell BK108.out 1).trans rfl; have hcz12_2 : w10.cell? ⟨gb108, 2, none⟩ = some (.int .i64 a0_2) := (blk_cell BK108.out 2).trans rfl; have hcz12_3 : w10.cell? ⟨gb108, 3, none⟩ = some (.int .i64 a0_3) := (blk_cell BK108.out 3).trans rfl; have hcz12_4 : w10.cell? ⟨gb108, 4, none⟩ = some (.int .i64 a0_4) := (blk_cell BK108.out 4).trans rfl; have hcz12_5 : w10.cell? ⟨gb108, 5, none⟩ = some (.int .i64 a0_5) := (blk_cell BK108.out 5).trans rfl; have hcz12_6 : w10.cell? ⟨gb108, 6, none⟩ = some (.int .u64 a0_6) := (blk_cell BK108.out 6).trans rfl; have hcz12_7 : w10.cell? ⟨gb108, 7, none⟩ = some (.int .u64 a0_7) := (blk_cell BK108.out 7).trans rfl; have hcz12_8 : w10.cell? ⟨gb108, 8, none⟩ = some (.int .i64 a0_8) := (blk_cell BK108.out 8).trans rfl; have hcz12_9 : w10.cell? ⟨gb108, 9, none⟩ = some (.int .i64 a0_9) := (blk_cell BK108.out 9).trans rfl; have hcz12_10 : w10.cell? ⟨gb108, 10, none⟩ = some (.bool a0_10) := (blk_cell BK108.out 10).trans rfl; have hcz12_11 : w10.cell? ⟨gb108, 11, none⟩ = some (.int .u64 a0_11) := (blk_cell BK108.out 11).trans rfl; have hcz12_12 : w10.cell? ⟨gb108, 12, none⟩ = some (.slice A0_12 l0_12.length c0_12) := (blk_cell BK108.out 12).trans rfl; have hfz12_0 := blk_frozen BK108.out 0; have hfz12_1 := blk_frozen BK108.out 1; have hfz12_2 := blk_frozen BK108.out 2; have hfz12_3 := blk_frozen BK108.out 3; have hfz12_4 := blk_frozen BK108.out 4; have hfz12_5 := blk_frozen BK108.out 5; have hfz12_6 := blk_frozen BK108.out 6; have hfz12_7 := blk_frozen BK108.out 7; have hfz12_8 := blk_frozen BK108.out 8; have hfz12_9 := blk_frozen BK108.out 9; have hfz12_10 := blk_frozen BK108.out 10; have hfz12_11 := blk_frozen BK108.out 11; have hfz12_12 := blk_frozen BK108.out 12))
    go_ret
    exact ⟨by first | rfl | (simp [errW_none, errW_some] <;> rfl) | (simp [*, errW_none, errW_some] <;> rfl), by repeat (first | (with_reducible first | exact HB.out | apply below_alloc | apply pw_below_drewN | apply below_drew1 | refine below_set ?_ GE108.out | refine below_set ?_ GE109.out) | exact HB.out)⟩

end Go.Proofs.Ytcleoahoppggmaa.PLinAlone
