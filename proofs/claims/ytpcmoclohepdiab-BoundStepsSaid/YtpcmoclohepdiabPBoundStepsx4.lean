-- Written by a program of this session: a variant of the print that takes proofs by hand (wip/tools/mkprint.py)
import Derived.Test.YtpcmoclohepdiabPBoundStepsx0
import Derived.Test.YtpcmoclohepdiabPBoundStepsx2
import Derived.Test.YtpcmoclohepdiabPBoundStepsx3
namespace Go.Proofs.Ytpcmoclohepdiab.PBoundSteps
open Go.RowKit Go.Proofs.YtpcmoclohepdiabW.PrintWords Go.Proofs.YtpcmoclohepdiabW.PrintLast Go.Proofs.YtpcmoclohepdiabW.PrintMore
attribute [local go_sem] max2_int min2_int max_two min_two max_three min_three max_four min_four   -- for this text's walks alone
set_option linter.unusedVariables false
set_option linter.unusedSimpArgs false

/-! ### corrieref19_Few: function 14 -/
mutual
def corrieref19_Few.l0 : Nat → List (S38) → Int → Int → Option (Bool)
  | 0, _, _, _ => none
  | k + 1, x0, x1, x5 => if x5 < (x0.length : Int) then (corrieref19_Few.j1 k x0 x1 x5 (decide (x5 ≤ x1))) else (corrieref19_Few.j1 k x0 x1 x5 false)
def corrieref19_Few.j1 : Nat → List (S38) → Int → Int → Bool → Option (Bool)
  | 0, _, _, _, _ => none
  | k + 1, x0, x1, x5, x14 => if x14 = true then (if 0 ≤ x5 then (if x5 < (x0.length : Int) then (if (((rd_T38 x0 x5).f6.f3).length : Int) > 20 then (some false) else (corrieref19_Few.l0 k x0 x1 (wrap64 (x5 + 1)))) else (none)) else (none)) else (some (decide ((x0.length : Int) ≤ x1)))
end
def corrieref19_Few.f (k : Nat) (l0 : List (S38)) (a1 : Int) : Option (Bool) := corrieref19_Few.l0 k l0 a1 0
theorem corrieref19_Few.mono_l : ∀ k, (∀ y0 y1 y2, LeO (corrieref19_Few.l0 k y0 y1 y2) (corrieref19_Few.l0 (k + 1) y0 y1 y2)) ∧ (∀ y0 y1 y2 y3, LeO (corrieref19_Few.j1 k y0 y1 y2 y3) (corrieref19_Few.j1 (k + 1) y0 y1 y2 y3))
  | 0 => ⟨fun _ _ _ r h => by simp [corrieref19_Few.l0] at h, fun _ _ _ _ r h => by simp [corrieref19_Few.j1] at h⟩
  | k + 1 => by
    obtain ⟨ih0, ih1⟩ := corrieref19_Few.mono_l k
    refine ⟨?_, ?_⟩
    · intro y0 y1 y2
      unfold corrieref19_Few.l0
      repeat' first
      | (with_reducible exact ih0 _ _ _)
      | (with_reducible exact ih1 _ _ _ _)
      | (with_reducible exact LeO.refl _)
      | (with_reducible exact LeO.none _)
      | (with_reducible refine LeO.ite ?_ ?_)
      | (with_reducible refine LeO.bind ?_ (fun _ => ?_))
      | exact ih0 _ _ _
      | exact ih1 _ _ _ _
      | exact LeO.none _
      | refine LeO.ite ?_ ?_
      | refine LeO.bind ?_ (fun _ => ?_)
    · intro y0 y1 y2 y3
      unfold corrieref19_Few.j1
      repeat' first
      | (with_reducible exact ih0 _ _ _)
      | (with_reducible exact ih1 _ _ _ _)
      | (with_reducible exact LeO.refl _)
      | (with_reducible exact LeO.none _)
      | (with_reducible refine LeO.ite ?_ ?_)
      | (with_reducible refine LeO.bind ?_ (fun _ => ?_))
      | exact ih0 _ _ _
      | exact ih1 _ _ _ _
      | exact LeO.none _
      | refine LeO.ite ?_ ?_
      | refine LeO.bind ?_ (fun _ => ?_)
theorem corrieref19_Few.mono : ∀ a0 a1 k, LeO (corrieref19_Few.f k a0 a1) (corrieref19_Few.f (k + 1) a0 a1) := by
  intro a0 a1 k
  obtain ⟨ih0, ih1⟩ := corrieref19_Few.mono_l k
  unfold corrieref19_Few.f
  repeat' first
      | (with_reducible exact ih0 _ _ _)
      | (with_reducible exact ih1 _ _ _ _)
      | (with_reducible exact LeO.refl _)
      | (with_reducible exact LeO.none _)
      | (with_reducible refine LeO.ite ?_ ?_)
      | (with_reducible refine LeO.bind ?_ (fun _ => ?_))
      | exact ih0 _ _ _
      | exact ih1 _ _ _ _
      | exact LeO.none _
      | refine LeO.ite ?_ ?_
      | refine LeO.bind ?_ (fun _ => ?_)
set_option maxHeartbeats 8000000 in
set_option maxRecDepth 100000 in
theorem corrieref19_Few.calls (k : Nat) (A0 : Option Addr) (c0 : Nat) (l0 : List (S38)) (a1 : Int) (r : Bool) (w : World) (hr0 : Kd.C k38 w A0 l0.length l0) (hc0 : l0.length ≤ c0) (h : corrieref19_Few.f k l0 a1 = some r) :
    Calls Try.prog 14 #[.slice A0 l0.length c0, .int .i64 a1] w fun e w' => e = .returned (.bool r) ∧ Drawn0 w w' := by
  have HR0 := Aside0.mk hr0
  have HC0 := Aside0.mk hc0
  clear hr0 hc0
  have H : (corrieref19_Few.l0 k l0 a1 0) = some r := h
  clear h
  have H' := Aside0.mk H
  clear H
  go_enter Try.func14, Try.ntmps14
  go_wp2
  go_loopg [5] k (fun kq v5 w' => ∃ (x5_1 : Int), v5 = .int .i64 x5_1 ∧ Aside0 (corrieref19_Few.l0 kq l0 a1 x5_1 = some r) ∧ Aside0 (kq ≤ k) ∧ Drawn0 w w')
  case atStart => exact ⟨(0), (by first | rfl | (simp; done) | (simp [*]; done)), H', ⟨Nat.le_refl _⟩, by repeat (first | exact Drawn0.refl _ | apply Drawn0.step)⟩
  case round =>
    clear H'
    try clear c1
    try clear p2
    obtain ⟨x5_1, rfl, HA, HK1, ⟨m1, rfl⟩⟩ := hrel
    cases gk with
    | zero => exact absurd HA.out (by simp [corrieref19_Few.l0])
    | succ k1 =>
      have H := HA.out
      clear HA
      simp only [corrieref19_Few.l0] at H
      have HC3 := Aside0.mk H
      clear H
      go_upto_region 2 with (fail)
      go_cut [14] (fun v14 wc => ∃ (kq : Nat) (x14_2 : Bool), v14 = .bool x14_2 ∧ Aside0 (corrieref19_Few.j1 kq l0 a1 x5_1 x14_2 = some r) ∧ Aside0 (kq ≤ k1) ∧ Drawn0 w wc)
      case first =>
        have H := HC3.out
        clear HC3
        by_cases c4 : x5_1 < (l0.length : Int)
        · rw [if_pos c4] at H
          have c4b0 : decide (x5_1 < (l0.length : Int)) = true := decide_eq_true c4
          clear c4
          (first | rw [c4b0] | (simp only [i64_w, i32_w]; rw [c4b0]) | skip)
          have H' := Aside0.mk H
          clear H
          go_wp2
          go_meet
          case rel => exact ⟨_, (decide (x5_1 ≤ a1)), (by first | rfl | (simp; done) | (simp [*]; done)), H', ⟨by have := HK1.out; first | omega | exact Nat.le_refl _⟩, by repeat (first | exact Drawn0.refl _ | apply Drawn0.step)⟩
        · rw [if_neg c4] at H
          have c4b0 : decide (x5_1 < (l0.length : Int)) = false := decide_eq_false c4
          clear c4
          (first | rw [c4b0] | (simp only [i64_w, i32_w]; rw [c4b0]) | skip)
          have H' := Aside0.mk H
          clear H
          go_wp2
          go_meet
          case rel => exact ⟨_, (false), (by first | rfl | (simp; done) | (simp [*]; done)), H', ⟨by have := HK1.out; first | omega | exact Nat.le_refl _⟩, by repeat (first | exact Drawn0.refl _ | apply Drawn0.step)⟩
      case rest =>
        clear HC3
        try clear c1
        try clear p2
        try clear c4
        try clear c4b0
        try clear p2
        obtain ⟨kq, x14_2, rfl, HA, HJ2, ⟨mc2, rfl⟩⟩ := hcut
        cases kq with
        | zero => exact absurd HA.out (by simp [corrieref19_Few.j1])
        | succ kj2 =>
          have H := HA.out
          clear HA
          simp only [corrieref19_Few.j1] at H
          by_cases c5 : x14_2 = true
          · subst c5
            have H1 : (if 0 ≤ x5_1 then (if x5_1 < (l0.length : Int) then (if (((rd_T38 l0 x5_1).f6.f3).length : Int) > 20 then (some false) else (corrieref19_Few.l0 kj2 l0 a1 (wrap64 (x5_1 + 1)))) else (none)) else (none)) = some r := by rw [if_pos rfl] at H; exact H
            clear H
            have H := H1
            clear H1
            by_cases c6 : 0 ≤ x5_1
            · rw [if_pos c6] at H
              have c6b0 : decide (0 ≤ x5_1) = true := decide_eq_true c6
              clear c6
              by_cases c7 : x5_1 < (l0.length : Int)
              · rw [if_pos c7] at H
                have c7b0 : decide (x5_1 < (l0.length : Int)) = true := decide_eq_true c7
                clear c7
                by_cases c8 : (((rd_T38 l0 x5_1).f6.f3).length : Int) > 20
                · rw [if_pos c8] at H
                  have c8b0 : decide (20 < (((rd_T38 l0 x5_1).f6.f3).length : Int)) = true := decide_eq_true c8
                  have c8b1 : decide (20 < ((rd_T38 l0 x5_1).f6.f3).length) = true := decide_eq_true (by omega)
                  clear c8
                  obtain rfl := Option.some.inj H
                  have p118 : 0 ≤ (x5_1 : Int) := of_decide_eq_true (by first | (with_reducible assumption) | assumption)
                  have q118 : x5_1 < (l0.length : Int) := of_decide_eq_true (by first | (with_reducible assumption) | assumption)
                  obtain ⟨ad118, A118_12, c118_12, e118, hx118_0, hx118_1, hx118_2, hx118_3, hx118_4, hx118_5, hx118_6, hx118_7, hx118_8, hx118_9, hx118_10, hx118_11, hx118_12, hl118_12, hi118_12⟩ := at_T38 HR0.out x5_1 p118 q118
                  cases e118
                  have HR118_12 := Aside0.mk hi118_12
                  have HC118_12 := Aside0.mk hl118_12
                  clear hi118_12 hl118_12
                  replace p118 := eq_true p118
                  replace q118 := eq_true q118
                  go_wp2
                  go_ret
                  exact ⟨by first | rfl | (simp; done) | (simp [*]; done), by repeat (first | exact Drawn0.refl _ | apply Drawn0.step)⟩
                · rw [if_neg c8] at H
                  have c8b0 : decide (20 < (((rd_T38 l0 x5_1).f6.f3).length : Int)) = false := decide_eq_false c8
                  have c8b1 : decide (20 < ((rd_T38 l0 x5_1).f6.f3).length) = false := decide_eq_false (by omega)
                  clear c8
                  have H' := Aside0.mk H
                  clear H
                  have p118 : 0 ≤ (x5_1 : Int) := of_decide_eq_true (by first | (with_reducible assumption) | assumption)
                  have q118 : x5_1 < (l0.length : Int) := of_decide_eq_true (by first | (with_reducible assumption) | assumption)
                  obtain ⟨ad118, A118_12, c118_12, e118, hx118_0, hx118_1, hx118_2, hx118_3, hx118_4, hx118_5, hx118_6, hx118_7, hx118_8, hx118_9, hx118_10, hx118_11, hx118_12, hl118_12, hi118_12⟩ := at_T38 HR0.out x5_1 p118 q118
                  cases e118
                  have HR118_12 := Aside0.mk hi118_12
                  have HC118_12 := Aside0.mk hl118_12
                  clear hi118_12 hl118_12
                  replace p118 := eq_true p118
                  replace q118 := eq_true q118
                  go_wp2
                  go_roundg kj2
                  case measure => have := HK1.out; have := HJ2.out; omega
                  case rel => exact ⟨(wrap64 (x5_1 + 1)), (by first | rfl | (simp; done) | (simp [*]; done)), H', ⟨by have := HK1.out; have := HJ2.out; omega⟩, by repeat (first | exact Drawn0.refl _ | apply Drawn0.step)⟩
              · rw [if_neg c7] at H
                exact absurd H (by simp)
            · rw [if_neg c6] at H
              exact absurd H (by simp)
          · replace c5 := Bool.eq_false_iff.mpr c5
            subst c5
            have H1 : (some (decide ((l0.length : Int) ≤ a1))) = some r := by rw [if_neg (show ¬ (false = true) by decide)] at H; exact H
            clear H
            have H := H1
            clear H1
            obtain rfl := Option.some.inj H
            go_wp2
            go_ret
            exact ⟨by first | rfl | (simp; done) | (simp [*]; done), by repeat (first | exact Drawn0.refl _ | apply Drawn0.step)⟩

/-! ### corrielaw23_BoundSteps: function 6 (by hand) -/
theorem row_own_set {w : World} {N : Nat} {e : TypeId} {sz n g cap : Nat} {inner : List Value} (h : w.ownsRow N e sz (.slice (some ⟨g, 0, none⟩) n cap) n inner) (o : Nat) (u : Value) :
    (w.setCell ⟨g, o, none⟩ u).ownsRow N e sz (.slice (some ⟨g, 0, none⟩) n cap) n (inner.set o u) := by
  obtain ⟨hl, h2⟩ := h
  refine ⟨by rw [List.length_set]; exact hl, .inr ?_⟩
  rcases h2 with ⟨he, _⟩ | ⟨g', cap', cur, he, hb, hh, h3, h4, h5, h6⟩
  · cases he
  · cases he
    refine ⟨g, cap, cur.setIfInBounds o u, rfl, hb, ?_, h3, h4, by simpa using h5, ?_⟩
    · rw [setCell_eq_setRow w g o cur e (0, 0) u hh]
      exact setRow_heap w g cur _ e (0, 0) hh
    · rw [Array.toList_setIfInBounds, List.take_set, h6]
theorem row_own_sets {N : Nat} {e : TypeId} {sz n g cap : Nat} : ∀ (vs : List Value) (w : World) (inner : List Value) (o : Nat), w.ownsRow N e sz (.slice (some ⟨g, 0, none⟩) n cap) n inner → o + vs.length ≤ inner.length →
    (w.setCells g o vs).ownsRow N e sz (.slice (some ⟨g, 0, none⟩) n cap) n (inner.take o ++ vs ++ inner.drop (o + vs.length))
  | [], w, inner, o, h, _ => by simpa [World.setCells] using h
  | v :: r, w, inner, o, h, hl => by
    simp only [List.length_cons] at hl
    have ih := row_own_sets r (w.setCell ⟨g, o, none⟩ v) (inner.set o v) (o + 1) (row_own_set h o v) (by rw [List.length_set]; omega)
    rw [World.setCells]
    have e1 : (inner.set o v).take (o + 1) ++ r ++ (inner.set o v).drop (o + 1 + r.length) = inner.take o ++ (v :: r) ++ inner.drop (o + (v :: r).length) := by
      rw [List.take_set, List.take_succ_eq_append_getElem (show o < inner.length by omega), List.set_append_right _ _ (by rw [List.length_take]; omega), List.drop_set_of_lt (by omega)]
      rw [show o - (inner.take o).length = 0 by rw [List.length_take]; omega]
      simp [Nat.add_assoc, Nat.add_comm 1]
    rw [← e1]
    exact ih
theorem row_reps_take {α : Type} {R : α → List Value → Prop} {size m : Nat} {ps : List α} {cs : List Value} (h : Reps R size ps cs) (hm : m ≤ ps.length) : Reps R size (ps.take m) (cs.take (m * size)) := by
  refine ⟨by rw [List.length_take, List.length_take, h.1, Nat.min_eq_left hm, Nat.min_eq_left (Nat.mul_le_mul_right _ hm)], fun j p hj => ?_⟩
  rw [List.getElem?_take] at hj
  split at hj
  · rename_i hjm
    have := h.2 j p hj
    have hle : j * size + size ≤ m * size := by rw [← Nat.succ_mul]; exact Nat.mul_le_mul_right _ hjm
    rw [List.drop_take, List.take_take, Nat.min_eq_left (by omega)]
    exact this
  · cases hj
theorem row_reps_set {α : Type} {R : α → List Value → Prop} {size : Nat} {ps : List α} {cs c : List Value} {p : α} (h : Reps R size ps cs) (i : Nat) (hi : i < ps.length) (hp : R p c) (hc : c.length = size) :
    Reps R size (ps.set i p) (cs.take (i * size) ++ c ++ cs.drop (i * size + size)) := by
  have h1 := Kd.reps_set h hi hp hc
  rwa [hc] at h1
theorem row_frozen {w : World} {N : Nat} {e : TypeId} {sz n g cap : Nat} {inner : List Value} (h : w.ownsRow N e sz (.slice (some ⟨g, 0, none⟩) n cap) n inner) (o : Nat) : w.frozen? ⟨g, o, none⟩ = false := by
  rcases h.2 with ⟨he, _⟩ | ⟨g', cap', cur, he, hb, hh, h3, h4, h5, h6⟩
  · cases he
  · cases he
    simp [World.frozen?, hh]
theorem row_sets_below {N g : Nat} (hg : N ≤ g) : ∀ (vs : List Value) (w0 w : World) (o : Nat), Below N w0 w → Below N w0 (w.setCells g o vs)
  | [], _, _, _, h => h
  | v :: r, w0, w, o, h => row_sets_below hg r w0 _ (o + 1) (h.setCell (p := ⟨g, o, none⟩) hg v)
theorem row_cap {w : World} {N : Nat} {e : TypeId} {sz n g cap : Nat} {inner : List Value} (h : w.ownsRow N e sz (.slice (some ⟨g, 0, none⟩) n cap) n inner) : N ≤ g ∧ n ≤ cap ∧ cap ≤ maxLen ∧ g < w.heap.size := by
  rcases h.2 with ⟨he, _⟩ | ⟨g', cap', cur, he, hb, hh, h3, h4, h5, h6⟩
  · cases he
  · cases he
    exact ⟨hb, h3, h4, (Array.getElem?_eq_some_iff.1 hh).1⟩
theorem row_cut {w : World} {N : Nat} {e : TypeId} {sz n g cap : Nat} {inner : List Value} (h : w.ownsRow N e sz (.slice (some ⟨g, 0, none⟩) n cap) n inner) (m : Nat) (hm : m ≤ n) : w.ownsRow N e sz (.slice (some ⟨g, 0, none⟩) m cap) m (inner.take (m * sz)) := by
  obtain ⟨hl, h2⟩ := h
  have hms : m * sz ≤ n * sz := Nat.mul_le_mul_right _ hm
  refine ⟨by rw [List.length_take, hl]; omega, .inr ?_⟩
  rcases h2 with ⟨he, _⟩ | ⟨g', cap', cur, he, hb, hh, h3, h4, h5, h6⟩
  · cases he
  · cases he
    exact ⟨g, cap, cur, rfl, hb, hh, by omega, h4, h5, by rw [← h6, List.take_take, Nat.min_eq_left hms]⟩
theorem row_seg {w : World} {N : Nat} {e : TypeId} {sz n g cap : Nat} {inner : List Value} (h : w.ownsRow N e sz (.slice (some ⟨g, 0, none⟩) n cap) n inner) {α : Type} {R : α → List Value → Prop} {ps : List α} (hr : Reps R sz ps inner) (j : Nat) (x : α) (hj : ps[j]? = some x) (vs : List Value) (hv : vs.length = sz)
    (hc : ∀ q, q < sz → w.cell? ⟨g, j * sz + q, none⟩ = vs[q]?) : R x vs := by
  have h1 := hr.2 j x hj
  have hjl := (List.getElem?_eq_some_iff.1 hj).1
  have hfit : j * sz + sz ≤ inner.length := by rw [hr.1, ← Nat.succ_mul]; exact Nat.mul_le_mul_right _ hjl
  have e1 : (inner.drop (j * sz)).take sz = vs := by
    apply List.ext_getElem?
    intro q
    by_cases hq : q < sz
    · rw [List.getElem?_take_of_lt hq, List.getElem?_drop, ← hc q hq]
      have h2 := h.cells (g := g) rfl (j * sz + q) _ (List.getElem?_eq_getElem (show j * sz + q < inner.length by omega))
      rw [Addr.add_lit, Nat.zero_add] at h2
      rw [h2]
      exact List.getElem?_eq_getElem _
    · rw [List.getElem?_eq_none (by rw [List.length_take]; omega), List.getElem?_eq_none (by omega)]
  rw [e1] at h1
  exact h1
theorem row_clear {P : Program} {w : World} {N : Nat} {e : TypeId} {sz n g cap : Nat} {inner : List Value} (h : w.ownsRow N e sz (.slice (some ⟨g, 0, none⟩) n cap) n inner) (t ty : TypeId) (z : Value) (ht : P.underlying t = some (.slice e)) (hv : ∀ w, (zeroValue e).run P w = .ok z w) (hz : z.cells.size = sz) (h1 : ∀ u ∈ z.cells.toList, u.oneCell' = true) (o c : Nat) (ho : o < n) :
    (Builtin.clear_ #[t] ty #[.slice (some ⟨g, o * sz, none⟩) (n - o) c]).run P w = .ok (.tuple #[]) (w.setCells g (o * sz) (Builtin.zeroCells z.cells (n - o)).toList) := by
  have hlen : (Builtin.zeroCells z.cells (n - o)).toList.length = (n - o) * sz := by simp [Builtin.zeroCells, hz]
  have hfit : o * sz + (n - o) * sz = n * sz := by rw [← Nat.add_mul]; congr 1; omega
  have hst := run_storeCells_cells (P := P) g (o * sz) (Builtin.zeroCells z.cells (n - o)).toList 0 w (fun j hj => by
      have hl := h.1
      have h2 := h.cells (g := g) rfl (o * sz + 0 + j) _ (List.getElem?_eq_getElem (show o * sz + 0 + j < inner.length by omega))
      rw [Addr.add_lit, Nat.zero_add] at h2
      rw [h2]
      rfl) (fun j hj => row_frozen h _) (fun u hu => by
      simp only [Builtin.zeroCells, Array.toList_map, List.mem_map] at hu
      obtain ⟨i, hi, rfl⟩ := hu
      have hi' : i < (n - o) * z.cells.size := by simpa using hi
      have hpos : 0 < z.cells.size := by
        rcases Nat.eq_zero_or_pos z.cells.size with h0 | h0
        · rw [h0, Nat.mul_zero] at hi'; omega
        · exact h0
      have hlt := Nat.mod_lt i hpos
      rw [getElem!_pos z.cells _ hlt]
      exact h1 _ (by rw [← Array.getElem_toList]; exact List.getElem_mem _))
  simp only [Nat.add_zero] at hst
  obtain ⟨m, hm⟩ : ∃ m, n - o = m + 1 := ⟨n - o - 1, by omega⟩
  rw [hm] at hst ⊢
  simp [Builtin.clear_, run_underlying ht, hv, hst]
theorem bst_none {P : Program} {w : World} {ops : Array Oper} {rest : List Oper} {o : Oper} {a : Act} {Q : Exit → Act → World → Prop} (hgd : o.guard = none) (s x : Operand) (t : TypeId)
    (ho : o.op = .call { callee := .builtin .append, args := #[s, x], argTypes := #[t, t] })
    (base : Nat) (e : TypeId) (i : TypeInfo) (size : Nat) (ht : P.underlying t = some (.slice e)) (hi : P.info? e = some i)
    (v : Value) (n : Nat) (xs : List Value) (hown : w.ownsRow base e size v n xs) (c : Nat) (hs : a.eval s = v) (hx : a.eval x = .slice none 0 c)
    (h : w.ownsRow base e size v n xs → wpList P ops Q rest (a.put o.dst v) w) : wpList P ops Q (o :: rest) a w := by
  refine wpList_plain hgd fun K hK => ?_
  have hrun : (Builtin.append_ #[t, t] o.type #[v, .slice none 0 c]).run P w = .ok v w := by
    rcases hown.2 with ⟨rfl, rfl⟩ | ⟨g, cap, cur, rfl, _, _, hnc, _⟩
    · simp [Builtin.append_, run_underlying ht, sizeOf, typeInfo, hi, Builtin.lenOf, Builtin.firstCells]
    · simp [Builtin.append_, run_underlying ht, sizeOf, typeInfo, hi, Builtin.lenOf, Builtin.firstCells, hnc, storeCells]
  unfold Oper.wp
  simp [execOp, ho, resolve, invoke, builtin, hs, hx, hrun, Result.andThen]
  exact hK _ _ (h hown)
theorem bst_info : (Try.prog.info? 38).map (fun i => (i.zero, i.size, i.bytes)) = some (some (.agg #[(.int .i64 0), (.int .i64 0), (.int .i64 0), (.int .i64 0), (.int .i64 0), (.int .i64 0), (.int .u64 0), (.int .u64 0), (.int .i64 0), (.int .i64 0), (.bool false), (.int .u64 0), (.slice none 0 0)]), 13, 120) := by kernel_rfl
def sst (s : Int) (x : S38) : S38 := { x with f4 := s }
theorem bst_K {w : World} {x : S38} {cs : List Value} (h : k38.K w x cs) (s : Int) : k38.K w (sst s x) (cs.set 4 (.int .i64 s)) := by
  obtain ⟨A, c, rfl, hl, hc⟩ := k38_open h
  exact k38_mk w (sst s x) hl hc
theorem bst_reps {w : World} {ps : List S38} {cs : List Value} (h : Reps (k38.K w) 13 ps cs) (i : Nat) (hi : i < ps.length) (s : Int) : Reps (k38.K w) 13 (ps.set i (sst s ps[i])) (cs.set (i * 13 + 4) (.int .i64 s)) := by
  have hl := h.1
  have hk := h.2 i _ (List.getElem?_eq_getElem hi)
  have hseg : ((cs.drop (i * 13)).take 13).length = 13 := by rw [List.length_take, List.length_drop]; omega
  have h1 := row_reps_set h i hi (bst_K hk s) (by rw [List.length_set]; exact hseg)
  have e : cs.set (i * 13 + 4) (.int .i64 s) = cs.take (i * 13) ++ ((cs.drop (i * 13)).take 13).set 4 (.int .i64 s) ++ cs.drop (i * 13 + 13) := by
    have e0 : cs = cs.take (i * 13) ++ ((cs.drop (i * 13)).take 13 ++ cs.drop (i * 13 + 13)) := by
      rw [← List.drop_drop, List.take_append_drop, List.take_append_drop]
    have hA : (cs.take (i * 13)).length = i * 13 := by rw [List.length_take]; omega
    conv => lhs; rw [e0]
    rw [List.set_append_right _ _ (by omega), hA, show i * 13 + 4 - i * 13 = 4 from by omega, List.set_append_left _ _ (by omega), List.append_assoc]
  rw [e]
  exact h1
theorem bst_C {W0 w : World} {N g n cap : Nat} {inner : List Value} {l : List S38} (h : w.ownsRow N 38 13 (.slice (some ⟨g, 0, none⟩) n cap) n inner) (hr : Reps (k38.K W0) 13 l inner) (hb : Below W0.heap.size W0 w) (hn : l.length = n) : Kd.C k38 w (some ⟨g, 0, none⟩) n l := by
  obtain ⟨A, c, he, h2⟩ := own_reads_row h (hr.imp_ (R' := k38.K w) (fun _ _ hp => k38.K_below hb hp)) hn
  cases he
  exact h2
theorem bst_ne {w : World} {N g n cap gc : Nat} {inner : List Value} {cs : Array Value} {fr : Nat × Nat} (h : w.ownsRow N 38 13 (.slice (some ⟨g, 0, none⟩) n cap) n inner) (hc : w.heap[gc]? = some (.cells cs 23 fr)) : gc ≠ g := by
  intro e
  subst e
  rcases h.2 with ⟨he, _⟩ | ⟨g', cap', cur, he, _, hh, _⟩
  · cases he
  · cases he
    rw [hh] at hc
    cases hc
theorem bst_cell {w : World} {N g n cap i : Nat} {q : Int} {inner : List Value} {R : S38 → List Value → Prop} {l : List S38} (h : w.ownsRow N 38 13 (.slice (some ⟨g, 0, none⟩) n cap) n (inner.set (i * 13 + 4) (.int .i64 q))) (hr : Reps R 13 l inner) (hi : i < l.length) : w.cell? ⟨g, i * 13 + 4, none⟩ = some (.int .i64 q) := by
  have hl := hr.1
  have h2 := h.cells (g := g) rfl (i * 13 + 4) (.int .i64 q) (by rw [List.getElem?_set_self (by omega)])
  rw [Addr.add_lit, Nat.zero_add] at h2
  exact h2
theorem bst_step (l : List S38) (j : Nat) (hj : j < l.length) (dk : List S38) (h : dk = (l.take j).map (sst 0) ++ l.drop j) : ∃ hd : j < dk.length, dk.set j (sst 0 dk[j]) = (l.take (j + 1)).map (sst 0) ++ l.drop (j + 1) := by
  have hA : ((l.take j).map (sst 0)).length = j := by rw [List.length_map, List.length_take]; omega
  have hl : dk.length = l.length := by rw [h, List.length_append, hA, List.length_drop]; omega
  refine ⟨by omega, ?_⟩
  have hx : dk[j]'(by omega) = l[j] := by
    have h1 : dk[j]? = l[j]? := by rw [h, List.getElem?_append_right (by omega), hA, Nat.sub_self, List.getElem?_drop, Nat.add_zero]
    rw [List.getElem?_eq_getElem (by omega), List.getElem?_eq_getElem hj] at h1
    exact Option.some.inj h1
  rw [hx, h, List.set_append_right _ _ (by omega), hA, Nat.sub_self, List.drop_eq_getElem_cons hj, List.set_cons_zero, List.take_add_one, List.getElem?_eq_getElem hj, List.map_append, List.append_assoc]
  rfl
def corrielaw23_BoundSteps.T13 : Bool × List (List Nat × List Nat) := (true, [([], []), ([], []), ([], []), ([], []), ([], []), ([], []), ([4, 5], [4, 5]), ([6], [6]), ([2, 3, 7], [2, 3, 7]), ([0, 1, 0, 1, 2, 3, 4, 5, 6, 7, 8], [0, 1]), ([9, 0, 1, 2, 3, 4, 5, 6, 7, 8], [9]), ([10, 8, 8, 0, 1, 2, 3, 4, 5, 6, 7, 8], [8, 10])])
def corrielaw23_BoundSteps.B13 : List Nat := [0, 0, 0, 0, 0, 0, 48, 112, 252, 511, 1023, 2047]
theorem corrielaw23_BoundSteps.tab13 : rtab .any (opsOf Try.f6 13) = corrielaw23_BoundSteps.T13 := by kernel_rfl
theorem corrielaw23_BoundSteps.bits13 : waitsOk corrielaw23_BoundSteps.T13.2 corrielaw23_BoundSteps.B13 = true := by kernel_rfl
def bst_lb (n m : Nat) : Array Bool := ((List.range n).map (fun i => m.testBit i)).toArray
def corrielaw23_BoundSteps.g (k : Nat) (t b i f c : Int) (l0 : List S38) (a2 : Int) : Option Bool := (corrieref04_May.f k t b i f c).bind fun m => if m = 0 then ((corrieref19_Few.f k l0 12).bind fun z => if z = true then (if l0.length ≤ 12 ∧ 0 ≤ wrap64 a2 then (bound_Ok.f k t b i f c (l0.map (sst 0))).bind fun q0 => if l0.length = 0 then (if q0 = true then some true else none) else (bound_Of.g k t b i f c (l0.map (sst 0)) (rd_T38 (l0.map (sst 0)) (((wrap64 a2).tmod (l0.length : Int)).toNat : Nat))).bind fun q => (bound_Ok.f k t b i f c (((l0.map (sst 0))).set ((wrap64 a2).tmod (l0.length : Int)).toNat (sst q (rd_T38 (l0.map (sst 0)) (((wrap64 a2).tmod (l0.length : Int)).toNat : Nat))))).bind fun q1 => (bound_Ok.f k t b i f c (((l0.map (sst 0))).set ((wrap64 a2).tmod (l0.length : Int)).toNat (sst (wrap64 (q + 1)) (rd_T38 (l0.map (sst 0)) (((wrap64 a2).tmod (l0.length : Int)).toNat : Nat))))).bind fun q2 => if q0 = true ∧ q1 = true ∧ q2 = false then some true else none else none) else some true) else some true
theorem corrielaw23_BoundSteps.gmono : ∀ t b i f c l0 a2 k, LeO (corrielaw23_BoundSteps.g k t b i f c l0 a2) (corrielaw23_BoundSteps.g (k + 1) t b i f c l0 a2) := by
  intros
  exact LeO.bind (corrieref04_May.mono _ _ _ _ _ _) (fun _ => LeO.ite (LeO.bind (corrieref19_Few.mono _ _ _) (fun _ => LeO.ite (LeO.ite (LeO.bind (bound_Ok.mono _ _ _ _ _ _ _) (fun _ => LeO.ite (LeO.refl _) (LeO.bind (bound_Of.gmono _ _ _ _ _ _ _ _) (fun _ => LeO.bind (bound_Ok.mono _ _ _ _ _ _ _) (fun _ => LeO.bind (bound_Ok.mono _ _ _ _ _ _ _) (fun _ => LeO.refl _)))))) (LeO.refl _)) (LeO.refl _))) (LeO.refl _))
set_option maxHeartbeats 8000000 in
set_option maxRecDepth 100000 in
theorem corrielaw23_BoundSteps.law (k : Nat) (t b i f c : Int) (A0 : Option Addr) (c0 : Nat) (l0 : List S38) (a2 : Int) (r : Bool) (w : World) (hr0 : Kd.C k38 w A0 l0.length l0) (hc0 : l0.length ≤ c0) (h : corrielaw23_BoundSteps.g k t b i f c l0 a2 = some r) :
    Calls Try.prog 6 #[.agg #[.int .i64 t, .int .i64 b, .int .i64 i, .int .i64 f, .int .i64 c], .slice A0 l0.length c0, .int .u8 a2] w fun e w' => e = .returned (.bool r) ∧ Below w.heap.size w w' := by
  have HR0 := Aside0.mk hr0
  have HC0 := Aside0.mk hc0
  have HB := Aside0.mk (Below.refl w.heap.size w)
  unfold corrielaw23_BoundSteps.g at h
  obtain ⟨m, hm, h⟩ := Option.bind_eq_some_iff.mp h
  have Hm := Aside0.mk hm
  clear hm
  by_cases hm0 : m = 0
  rotate_left
  · rw [if_neg hm0] at h
    obtain rfl := Option.some.inj h
    have hmb : (m != 0) = true := bne_iff_ne.mpr hm0
    clear h hm0
    go_enter Try.func6, Try.ntmps6
    go_wp2_with (first | ((with_reducible refine gate_dst (N := 3) rfl ?_); refine box_event ?hg (N := 3) ?hd (cs := #[.int .i64 t, .int .i64 b, .int .i64 i, .int .i64 f, .int .i64 c]) (t := 23) ?hr ?_; (case hd => rfl); (case hg => rfl); (case hr => first | (go_simp; done) | (go_simp; rfl)); intro gc hg wb_gc hbox hb; have BKgc := Aside0.mk hbox; have n0_ := Aside0.mk (below_step HB.out hb); clear HB; have HB := n0_; clear n0_; have HGC := Aside0.mk (show w.heap.size ≤ gc from by omega); clear hb hbox hg) | (go_at_call 8; (with_reducible refine (corrielaw23_awake.calls true _ rfl).mono ?_); rintro e w1 ⟨rfl, hb⟩; have n_B := Aside0.mk (blk_below (g := gc) (o := .cells #[.int .i64 t, .int .i64 b, .int .i64 i, .int .i64 f, .int .i64 c] 23 (0, 0)) BKgc.out hb); clear BKgc; have BKgc := n_B; clear n_B; have n0_ := Aside0.mk (below_step HB.out hb); clear HB hb; have HB := n0_; clear n0_; have cw1gc_0 : w1.cell? ⟨gc, 0, none⟩ = some (.int .i64 t) := (blk_cell BKgc.out 0).trans rfl; have cw1gc_1 : w1.cell? ⟨gc, 1, none⟩ = some (.int .i64 b) := (blk_cell BKgc.out 1).trans rfl; have cw1gc_2 : w1.cell? ⟨gc, 2, none⟩ = some (.int .i64 i) := (blk_cell BKgc.out 2).trans rfl; have cw1gc_3 : w1.cell? ⟨gc, 3, none⟩ = some (.int .i64 f) := (blk_cell BKgc.out 3).trans rfl; have cw1gc_4 : w1.cell? ⟨gc, 4, none⟩ = some (.int .i64 c) := (blk_cell BKgc.out 4).trans rfl; have zw1 : gc < w1.heap.size := blk_lt BKgc.out) | (go_at_call 9; (with_reducible refine (corrieref04_May.calls k t b i f c m _ Hm.out).mono ?_); rintro e w2 ⟨rfl, hb⟩; have n_B := Aside0.mk (blk_below (g := gc) (o := .cells #[.int .i64 t, .int .i64 b, .int .i64 i, .int .i64 f, .int .i64 c] 23 (0, 0)) BKgc.out hb); clear BKgc; have BKgc := n_B; clear n_B; have n0_ := Aside0.mk (below_step HB.out hb); clear HB hb; have HB := n0_; clear n0_; have cw2gc_0 : w2.cell? ⟨gc, 0, none⟩ = some (.int .i64 t) := (blk_cell BKgc.out 0).trans rfl; have cw2gc_1 : w2.cell? ⟨gc, 1, none⟩ = some (.int .i64 b) := (blk_cell BKgc.out 1).trans rfl; have cw2gc_2 : w2.cell? ⟨gc, 2, none⟩ = some (.int .i64 i) := (blk_cell BKgc.out 2).trans rfl; have cw2gc_3 : w2.cell? ⟨gc, 3, none⟩ = some (.int .i64 f) := (blk_cell BKgc.out 3).trans rfl; have cw2gc_4 : w2.cell? ⟨gc, 4, none⟩ = some (.int .i64 c) := (blk_cell BKgc.out 4).trans rfl; have zw2 : gc < w2.heap.size := blk_lt BKgc.out))
    go_ret
    exact ⟨by first | rfl | (simp [*]; done), by repeat (first | (with_reducible first | exact HB.out | apply below_alloc | apply pw_below_drewN | apply below_drew1) | exact HB.out)⟩
  subst hm0
  rw [if_pos rfl] at h
  obtain ⟨z, hz, h⟩ := Option.bind_eq_some_iff.mp h
  have Hz := Aside0.mk hz
  clear hz
  cases z with
  | false =>
    obtain rfl := Option.some.inj h
    clear h
    go_enter Try.func6, Try.ntmps6
    go_wp2_with (first | ((with_reducible refine gate_dst (N := 3) rfl ?_); refine box_event ?hg (N := 3) ?hd (cs := #[.int .i64 t, .int .i64 b, .int .i64 i, .int .i64 f, .int .i64 c]) (t := 23) ?hr ?_; (case hd => rfl); (case hg => rfl); (case hr => first | (go_simp; done) | (go_simp; rfl)); intro gc hg wb_gc hbox hb; have BKgc := Aside0.mk hbox; have n0_ := Aside0.mk (below_step HB.out hb); clear HB; have HB := n0_; clear n0_; have HGC := Aside0.mk (show w.heap.size ≤ gc from by omega); clear hb hbox hg) | (go_at_call 8; (with_reducible refine (corrielaw23_awake.calls true _ rfl).mono ?_); rintro e w1 ⟨rfl, hb⟩; have n_B := Aside0.mk (blk_below (g := gc) (o := .cells #[.int .i64 t, .int .i64 b, .int .i64 i, .int .i64 f, .int .i64 c] 23 (0, 0)) BKgc.out hb); clear BKgc; have BKgc := n_B; clear n_B; have n0_ := Aside0.mk (below_step HB.out hb); clear HB hb; have HB := n0_; clear n0_; have cw1gc_0 : w1.cell? ⟨gc, 0, none⟩ = some (.int .i64 t) := (blk_cell BKgc.out 0).trans rfl; have cw1gc_1 : w1.cell? ⟨gc, 1, none⟩ = some (.int .i64 b) := (blk_cell BKgc.out 1).trans rfl; have cw1gc_2 : w1.cell? ⟨gc, 2, none⟩ = some (.int .i64 i) := (blk_cell BKgc.out 2).trans rfl; have cw1gc_3 : w1.cell? ⟨gc, 3, none⟩ = some (.int .i64 f) := (blk_cell BKgc.out 3).trans rfl; have cw1gc_4 : w1.cell? ⟨gc, 4, none⟩ = some (.int .i64 c) := (blk_cell BKgc.out 4).trans rfl; have zw1 : gc < w1.heap.size := blk_lt BKgc.out) | (go_at_call 9; (with_reducible refine (corrieref04_May.calls k t b i f c 0 _ Hm.out).mono ?_); rintro e w2 ⟨rfl, hb⟩; have n_B := Aside0.mk (blk_below (g := gc) (o := .cells #[.int .i64 t, .int .i64 b, .int .i64 i, .int .i64 f, .int .i64 c] 23 (0, 0)) BKgc.out hb); clear BKgc; have BKgc := n_B; clear n_B; have n0_ := Aside0.mk (below_step HB.out hb); clear HB hb; have HB := n0_; clear n0_; have cw2gc_0 : w2.cell? ⟨gc, 0, none⟩ = some (.int .i64 t) := (blk_cell BKgc.out 0).trans rfl; have cw2gc_1 : w2.cell? ⟨gc, 1, none⟩ = some (.int .i64 b) := (blk_cell BKgc.out 1).trans rfl; have cw2gc_2 : w2.cell? ⟨gc, 2, none⟩ = some (.int .i64 i) := (blk_cell BKgc.out 2).trans rfl; have cw2gc_3 : w2.cell? ⟨gc, 3, none⟩ = some (.int .i64 f) := (blk_cell BKgc.out 3).trans rfl; have cw2gc_4 : w2.cell? ⟨gc, 4, none⟩ = some (.int .i64 c) := (blk_cell BKgc.out 4).trans rfl; have zw2 : gc < w2.heap.size := blk_lt BKgc.out) | (go_at_call 14; (with_reducible refine (corrieref19_Few.calls k A0 c0 l0 12 false _ (Kd.C_below HR0.out HB.out) HC0.out Hz.out).mono ?_); rintro e w3 ⟨rfl, hd⟩; have hb := Drawn0.below hd; clear hd; have n_B := Aside0.mk (blk_below (g := gc) (o := .cells #[.int .i64 t, .int .i64 b, .int .i64 i, .int .i64 f, .int .i64 c] 23 (0, 0)) BKgc.out hb); clear BKgc; have BKgc := n_B; clear n_B; have n0_ := Aside0.mk (below_step HB.out hb); clear HB hb; have HB := n0_; clear n0_; have cw3gc_0 : w3.cell? ⟨gc, 0, none⟩ = some (.int .i64 t) := (blk_cell BKgc.out 0).trans rfl; have cw3gc_1 : w3.cell? ⟨gc, 1, none⟩ = some (.int .i64 b) := (blk_cell BKgc.out 1).trans rfl; have cw3gc_2 : w3.cell? ⟨gc, 2, none⟩ = some (.int .i64 i) := (blk_cell BKgc.out 2).trans rfl; have cw3gc_3 : w3.cell? ⟨gc, 3, none⟩ = some (.int .i64 f) := (blk_cell BKgc.out 3).trans rfl; have cw3gc_4 : w3.cell? ⟨gc, 4, none⟩ = some (.int .i64 c) := (blk_cell BKgc.out 4).trans rfl; have zw3 : gc < w3.heap.size := blk_lt BKgc.out))
    go_ret
    exact ⟨by first | rfl | (simp [*]; done), by repeat (first | (with_reducible first | exact HB.out | apply below_alloc | apply pw_below_drewN | apply below_drew1) | exact HB.out)⟩
  | true =>
    replace h := (if_pos (c := (true = true)) rfl).symm.trans h
    by_cases hl : l0.length ≤ 12 ∧ 0 ≤ wrap64 a2
    rotate_left
    · rw [if_neg hl] at h
      cases h
    rw [if_pos hl] at h
    have HL := Aside0.mk hl.1
    have HA := Aside0.mk hl.2
    clear hl
    have HH := Aside0.mk h
    clear h
    cases A0 with
    | some ad0 =>
      obtain ⟨i0, hi, hz0, hz1, hz2⟩ := info_parts bst_info
      obtain ⟨inner, hrep, hcell⟩ := ReadsRow.inner_ (show ReadsRow (k38.K w) 13 w (some ad0) l0.length l0 from hr0)
      have HRI := Aside0.mk hrep
      have HCE := Aside0.mk hcell
      clear hr0 hrep hcell hc0
      go_enter Try.func6, Try.ntmps6
      go_wp2_with (first | ((with_reducible refine gate_dst (N := 3) rfl ?_); refine box_event ?hg (N := 3) ?hd (cs := #[.int .i64 t, .int .i64 b, .int .i64 i, .int .i64 f, .int .i64 c]) (t := 23) ?hr ?_; (case hd => rfl); (case hg => rfl); (case hr => first | (go_simp; done) | (go_simp; rfl)); intro gc hg wb_gc hbox hb; have BKgc := Aside0.mk hbox; have n0_ := Aside0.mk (below_step HB.out hb); clear HB; have HB := n0_; clear n0_; have HGC := Aside0.mk (show w.heap.size ≤ gc from by omega); clear hb hbox hg) | (go_at_call 8; (with_reducible refine (corrielaw23_awake.calls true _ rfl).mono ?_); rintro e w1 ⟨rfl, hb⟩; have n_B := Aside0.mk (blk_below (g := gc) (o := .cells #[.int .i64 t, .int .i64 b, .int .i64 i, .int .i64 f, .int .i64 c] 23 (0, 0)) BKgc.out hb); clear BKgc; have BKgc := n_B; clear n_B; have n0_ := Aside0.mk (below_step HB.out hb); clear HB hb; have HB := n0_; clear n0_; have cw1gc_0 : w1.cell? ⟨gc, 0, none⟩ = some (.int .i64 t) := (blk_cell BKgc.out 0).trans rfl; have cw1gc_1 : w1.cell? ⟨gc, 1, none⟩ = some (.int .i64 b) := (blk_cell BKgc.out 1).trans rfl; have cw1gc_2 : w1.cell? ⟨gc, 2, none⟩ = some (.int .i64 i) := (blk_cell BKgc.out 2).trans rfl; have cw1gc_3 : w1.cell? ⟨gc, 3, none⟩ = some (.int .i64 f) := (blk_cell BKgc.out 3).trans rfl; have cw1gc_4 : w1.cell? ⟨gc, 4, none⟩ = some (.int .i64 c) := (blk_cell BKgc.out 4).trans rfl; have zw1 : gc < w1.heap.size := blk_lt BKgc.out) | (go_at_call 9; (with_reducible refine (corrieref04_May.calls k t b i f c 0 _ Hm.out).mono ?_); rintro e w2 ⟨rfl, hb⟩; have n_B := Aside0.mk (blk_below (g := gc) (o := .cells #[.int .i64 t, .int .i64 b, .int .i64 i, .int .i64 f, .int .i64 c] 23 (0, 0)) BKgc.out hb); clear BKgc; have BKgc := n_B; clear n_B; have n0_ := Aside0.mk (below_step HB.out hb); clear HB hb; have HB := n0_; clear n0_; have cw2gc_0 : w2.cell? ⟨gc, 0, none⟩ = some (.int .i64 t) := (blk_cell BKgc.out 0).trans rfl; have cw2gc_1 : w2.cell? ⟨gc, 1, none⟩ = some (.int .i64 b) := (blk_cell BKgc.out 1).trans rfl; have cw2gc_2 : w2.cell? ⟨gc, 2, none⟩ = some (.int .i64 i) := (blk_cell BKgc.out 2).trans rfl; have cw2gc_3 : w2.cell? ⟨gc, 3, none⟩ = some (.int .i64 f) := (blk_cell BKgc.out 3).trans rfl; have cw2gc_4 : w2.cell? ⟨gc, 4, none⟩ = some (.int .i64 c) := (blk_cell BKgc.out 4).trans rfl; have zw2 : gc < w2.heap.size := blk_lt BKgc.out) | (go_at_call 14; (with_reducible refine (corrieref19_Few.calls k (some ad0) c0 l0 12 true _ (Kd.C_below HR0.out HB.out) HC0.out Hz.out).mono ?_); rintro e w3 ⟨rfl, hd⟩; have hb := Drawn0.below hd; clear hd; have n_B := Aside0.mk (blk_below (g := gc) (o := .cells #[.int .i64 t, .int .i64 b, .int .i64 i, .int .i64 f, .int .i64 c] 23 (0, 0)) BKgc.out hb); clear BKgc; have BKgc := n_B; clear n_B; have n0_ := Aside0.mk (below_step HB.out hb); clear HB hb; have HB := n0_; clear n0_; have cw3gc_0 : w3.cell? ⟨gc, 0, none⟩ = some (.int .i64 t) := (blk_cell BKgc.out 0).trans rfl; have cw3gc_1 : w3.cell? ⟨gc, 1, none⟩ = some (.int .i64 b) := (blk_cell BKgc.out 1).trans rfl; have cw3gc_2 : w3.cell? ⟨gc, 2, none⟩ = some (.int .i64 i) := (blk_cell BKgc.out 2).trans rfl; have cw3gc_3 : w3.cell? ⟨gc, 3, none⟩ = some (.int .i64 f) := (blk_cell BKgc.out 3).trans rfl; have cw3gc_4 : w3.cell? ⟨gc, 4, none⟩ = some (.int .i64 c) := (blk_cell BKgc.out 4).trans rfl; have zw3 : gc < w3.heap.size := blk_lt BKgc.out) | (at_builtin; refine wpList_append_own _ rfl _ _ 29 rfl w.heap.size 38 i0 (.agg #[(.int .i64 0), (.int .i64 0), (.int .i64 0), (.int .i64 0), (.int .i64 0), (.int .i64 0), (.int .u64 0), (.int .u64 0), (.int .i64 0), (.int .i64 0), (.bool false), (.int .u64 0), (.slice none 0 0)]) 13 120 Try.underlying29 hi hz0 hz1 hz2 rfl (by decide) _ _ _ (by rfl) (World.ownsRow_made (e := 38) (base := w.heap.size) w3 #[] 0 HB.out.size (Nat.zero_le _) rfl) ad0 l0.length c0 inner (by rfl) ?qc1 ?qc2 ?qc3 ?qc4 ?qc5 ?qc6 ?_; rotate_right; intro v1 w5 hown hgrow hnil; obtain ⟨g, cap, cur, rfl, _⟩ := hown.2.resolve_left (fun h => by have h1 := (hnil.1 h.1).1; cases h1); have HO := Aside0.mk (show w5.ownsRow w.heap.size 38 13 (.slice (some ⟨g, 0, none⟩) l0.length cap) l0.length inner from by simpa using hown); have hgl := blk_lt BKgc.out; have n_B := Aside0.mk ((hgrow.block gc (by simp; omega) (by simp [Value.ownBlock]; omega)).trans (blk_below BKgc.out (below_alloc (Below.refl _ _) (.cells #[] 38)))); have n0_ := Aside0.mk (((HB.out.alloc HB.out.size _).grown hgrow (Nat.le_trans HB.out.size (by simp)) (by intro k hk; simp [Value.ownBlock] at hk; have := HB.out.size; omega))); clear hown hgrow hnil hgl; clear BKgc; have BKgc := n_B; clear n_B; clear HB; have HB := n0_; clear n0_))
      case qc1 => have := HRI.out.1; omega
      case qc2 =>
        intro j u hj
        have hx := pw_cell_below HB.out (HCE.out j u hj)
        exact ((below_alloc (Below.refl _ _) _).cell (World.block_lt_of_cell? w3 _ hx)).trans hx
      case qc3 => exact fun u hu => Kd.reps_one HRI.out (by decide) (fun _ _ hp => k38.K_one hp) u hu
      case qc4 => have := HL.out; unfold maxLen; omega
      case qc5 => have := HL.out; omega
      case qc6 => have := HB.out.size; simp; omega
      have hgc := bst_ne HO.out BKgc.out
      have HCAP := Aside0.mk (row_cap HO.out).2.1
      have HOK := Aside0.mk (show ∀ (L : List S38) (q : Bool) (W : World), L.length = l0.length → Kd.C k38 W (some ⟨g, 0, none⟩) l0.length L → bound_Ok.f k t b i f c L = some q → Calls Try.prog 17 #[.agg #[.int .i64 t, .int .i64 b, .int .i64 i, .int .i64 f, .int .i64 c], .slice (some ⟨g, 0, none⟩) l0.length cap] W (fun e w' => e = .returned (.bool q) ∧ Below W.heap.size W w') from fun L q W hl hC h => by
        have h2 := bound_Ok.law k t b i f c (some ⟨g, 0, none⟩) cap L q W (by rw [hl]; exact hC) (by rw [hl]; exact HCAP.out) h
        rw [hl] at h2
        exact h2)
      have HOF := Aside0.mk (show ∀ (W : World) (e : S38) (Ae : Option Addr) (ce : Nat) (q : Int), Kd.C k38 W (some ⟨g, 0, none⟩) l0.length (l0.map (sst 0)) → bound_Of.g k t b i f c (l0.map (sst 0)) e = some q → Calls Try.prog 15 #[.agg #[.int .i64 t, .int .i64 b, .int .i64 i, .int .i64 f, .int .i64 c], .slice (some ⟨g, 0, none⟩) l0.length cap, .agg #[.int .i64 e.f0, .int .i64 e.f1, .int .i64 e.f2, .int .i64 e.f3, .int .i64 e.f4, .int .i64 e.f5.f0, .int .u64 e.f5.f1, .int .u64 e.f5.f2, .int .i64 e.f5.f3, .int .i64 e.f6.f0, .bool e.f6.f1, .int .u64 e.f6.f2, .slice Ae e.f6.f3.length ce]] W (fun e_ w' => e_ = .returned (.int .i64 q) ∧ Below W.heap.size W w') from fun W e Ae ce q hC h => by
        have hl : (l0.map (sst 0)).length = l0.length := List.length_map _
        have h2 := bound_Of.law k t b i f c (some ⟨g, 0, none⟩) cap (l0.map (sst 0)) e Ae ce q W (by rw [hl]; exact hC) (by rw [hl]; exact HCAP.out) h
        rw [hl] at h2
        exact h2)
      go_loopg [9] l0.length (fun kq v9 wr => ∃ (j : Nat) (dk : List S38) (inn : List Value), v9 = .int .i64 j ∧ Aside0 (j ≤ l0.length) ∧ Aside0 (l0.length - j ≤ kq) ∧ Aside0 (dk = (l0.take j).map (sst 0) ++ l0.drop j) ∧ Aside0 (wr.ownsRow w.heap.size 38 13 (.slice (some ⟨g, 0, none⟩) l0.length cap) l0.length inn) ∧ Aside0 (Reps (k38.K w) 13 dk inn) ∧ Aside0 (wr.heap[gc]? = some (.cells #[.int .i64 t, .int .i64 b, .int .i64 i, .int .i64 f, .int .i64 c] 23 (0, 0))) ∧ Aside0 (Below w.heap.size w wr))
      case atStart => exact ⟨0, l0, inner, rfl, ⟨Nat.zero_le _⟩, ⟨by omega⟩, ⟨by simp⟩, HO, HRI, BKgc, HB⟩
      case round =>
        clear HB HO BKgc HRI
        obtain ⟨j, dk, inn, rfl, HJ, HK, HDK, HO, HR, BKgc, HB⟩ := hrel
        by_cases hlt : j < l0.length
        · have hltb : (j : Int) < (l0.length : Int) := by omega
          have HLT := Aside0.mk hlt
          obtain ⟨u, cS⟩ : ∃ u, wr.cell? ⟨g, j * 13 + 4, none⟩ = some u := by
            have hl := HO.out.1
            have h2 := HO.out.cells (g := g) rfl (j * 13 + 4) _ (List.getElem?_eq_getElem (show j * 13 + 4 < inn.length by omega))
            rw [Addr.add_lit, Nat.zero_add] at h2
            exact ⟨_, h2⟩
          have fS : wr.frozen? ⟨g, j * 13 + 4, none⟩ = false := row_frozen HO.out _
          go_wp2
          go_roundg (l0.length - (j + 1))
          case measure => have := HLT.out; have := HK.out; omega
          case rel =>
            have hlt := HLT.out
            have hle := HL.out
            obtain ⟨hd, hset⟩ := bst_step l0 j hlt dk HDK.out
            exact ⟨j + 1, dk.set j (sst 0 dk[j]), inn.set (j * 13 + 4) (.int .i64 0), by rw [show wrap64 ((j : Int) + 1) = ((j + 1 : Nat) : Int) from by unfold wrap64; omega], ⟨by omega⟩, ⟨by omega⟩, ⟨hset⟩, ⟨row_own_set HO.out _ _⟩, ⟨bst_reps HR.out j hd 0⟩, ⟨(Below.heap_setCell _ ⟨g, j * 13 + 4, none⟩ _ gc hgc).trans BKgc.out⟩, ⟨HB.out.setCell (p := ⟨g, j * 13 + 4, none⟩) (row_cap HO.out).1 _⟩⟩
        · have hj : j = l0.length := by have := HJ.out; omega
          subst hj
          have hnlt : ¬ ((l0.length : Int) < (l0.length : Int)) := by omega
          have hdk : dk = (l0.map (sst 0)) := by rw [HDK.out]; simp
          subst hdk
          have h := HH.out
          obtain ⟨q0, hq0, h⟩ := Option.bind_eq_some_iff.mp h
          have Hq0 := Aside0.mk hq0
          clear hq0 HH
          have cw_0 : wr.cell? ⟨gc, 0, none⟩ = some (.int .i64 t) := (blk_cell BKgc.out 0).trans rfl
          have cw_1 : wr.cell? ⟨gc, 1, none⟩ = some (.int .i64 b) := (blk_cell BKgc.out 1).trans rfl
          have cw_2 : wr.cell? ⟨gc, 2, none⟩ = some (.int .i64 i) := (blk_cell BKgc.out 2).trans rfl
          have cw_3 : wr.cell? ⟨gc, 3, none⟩ = some (.int .i64 f) := (blk_cell BKgc.out 3).trans rfl
          have cw_4 : wr.cell? ⟨gc, 4, none⟩ = some (.int .i64 c) := (blk_cell BKgc.out 4).trans rfl
          by_cases hz : l0.length = 0
          · rw [if_pos hz] at h
            have hzb : ((l0.length : Int) == 0) = true := beq_iff_eq.mpr (by omega)
            by_cases hq : q0 = true
            rotate_left
            · rw [if_neg hq] at h
              cases h
            subst hq
            rw [if_pos rfl] at h
            obtain rfl := Option.some.inj h
            clear h hz
            go_wp2_with (first | (go_at_call 17; (with_reducible refine (HOK.out (l0.map (sst 0)) true _ (by simp) (bst_C HO.out HR.out HB.out (by simp)) Hq0.out).mono ?_); rintro e w8 ⟨rfl, hb⟩; have n1_ := Aside0.mk (own_move HO.out (fun k hk => hb.block k (own_lt HO.out k hk))); have n2_ := Aside0.mk (show w8.heap[gc]? = some (.cells #[.int .i64 t, .int .i64 b, .int .i64 i, .int .i64 f, .int .i64 c] 23 (0, 0)) from blk_below BKgc.out hb); have n3_ := Aside0.mk (below_step HB.out hb); clear HO BKgc HB hb; have HO := n1_; have BKgc := n2_; have HB := n3_; clear n1_ n2_ n3_; have cw8_0 : w8.cell? ⟨gc, 0, none⟩ = some (.int .i64 t) := (blk_cell BKgc.out 0).trans rfl; have cw8_1 : w8.cell? ⟨gc, 1, none⟩ = some (.int .i64 b) := (blk_cell BKgc.out 1).trans rfl; have cw8_2 : w8.cell? ⟨gc, 2, none⟩ = some (.int .i64 i) := (blk_cell BKgc.out 2).trans rfl; have cw8_3 : w8.cell? ⟨gc, 3, none⟩ = some (.int .i64 f) := (blk_cell BKgc.out 3).trans rfl; have cw8_4 : w8.cell? ⟨gc, 4, none⟩ = some (.int .i64 c) := (blk_cell BKgc.out 4).trans rfl))
            go_ret
            exact ⟨by first | rfl | (simp [*]; done), HB.out⟩
          · rw [if_neg hz] at h
            have hzb : ((l0.length : Int) == 0) = false := beq_eq_false_iff_ne.mpr (by omega)
            have hnz : ¬ (l0.length : Int) = 0 := by omega
            obtain ⟨kk, hi⟩ : ∃ i : Nat, (wrap64 a2).tmod (l0.length : Int) = (i : Int) := ⟨((wrap64 a2).tmod (l0.length : Int)).toNat, by have h1 := HA.out; rw [Int.tmod_eq_emod_of_nonneg h1]; have h2 := Int.emod_nonneg (wrap64 a2) (show (l0.length : Int) ≠ 0 from by omega); omega⟩
            have HI := Aside0.mk (show kk < l0.length from by
              have h1 := HA.out
              rw [Int.tmod_eq_emod_of_nonneg h1] at hi
              have h2 := Int.emod_lt_of_pos (wrap64 a2) (show 0 < (l0.length : Int) from by omega)
              omega)
            rw [hi, show ((kk : Int)).toNat = kk from rfl] at h
            obtain ⟨q, hq, h⟩ := Option.bind_eq_some_iff.mp h
            obtain ⟨q1, hq1, h⟩ := Option.bind_eq_some_iff.mp h
            obtain ⟨q2, hq2, h⟩ := Option.bind_eq_some_iff.mp h
            by_cases cc : q0 = true ∧ q1 = true ∧ q2 = false
            rotate_left
            · rw [if_neg cc] at h
              cases h
            rw [if_pos cc] at h
            obtain rfl := Option.some.inj h
            obtain ⟨rfl, rfl, rfl⟩ := cc
            have Hq := Aside0.mk hq
            have Hq1 := Aside0.mk hq1
            have Hq2 := Aside0.mk hq2
            clear h hq hq1 hq2 hz
            have hkb : (kk : Int) < (l0.length : Int) := by have := HI.out; omega
            go_upto_region 13 with (first | (go_at_call 17; (with_reducible refine (HOK.out (l0.map (sst 0)) true _ (by simp) (bst_C HO.out HR.out HB.out (by simp)) Hq0.out).mono ?_); rintro e w8 ⟨rfl, hb⟩; have n1_ := Aside0.mk (own_move HO.out (fun k hk => hb.block k (own_lt HO.out k hk))); have n2_ := Aside0.mk (show w8.heap[gc]? = some (.cells #[.int .i64 t, .int .i64 b, .int .i64 i, .int .i64 f, .int .i64 c] 23 (0, 0)) from blk_below BKgc.out hb); have n3_ := Aside0.mk (below_step HB.out hb); clear HO BKgc HB hb; have HO := n1_; have BKgc := n2_; have HB := n3_; clear n1_ n2_ n3_; have cw8_0 : w8.cell? ⟨gc, 0, none⟩ = some (.int .i64 t) := (blk_cell BKgc.out 0).trans rfl; have cw8_1 : w8.cell? ⟨gc, 1, none⟩ = some (.int .i64 b) := (blk_cell BKgc.out 1).trans rfl; have cw8_2 : w8.cell? ⟨gc, 2, none⟩ = some (.int .i64 i) := (blk_cell BKgc.out 2).trans rfl; have cw8_3 : w8.cell? ⟨gc, 3, none⟩ = some (.int .i64 f) := (blk_cell BKgc.out 3).trans rfl; have cw8_4 : w8.cell? ⟨gc, 4, none⟩ = some (.int .i64 c) := (blk_cell BKgc.out 4).trans rfl))
            clear cw_0 cw_1 cw_2 cw_3 cw_4 cw8_0 cw8_1 cw8_2 cw8_3 cw8_4
            obtain ⟨ad, A12, c12, e12, hx0, hx1, hx2, hx3, hx4, hx5, hx6, hx7, hx8, hx9, hx10, hx11, hx12, hl12, hi12⟩ := at_T38 (bst_C HO.out HR.out HB.out (by simp)) (kk : Int) (by omega) hkb
            cases e12
            simp only [Int.toNat_natCast, Addr.add_lit, Nat.zero_add] at hx0 hx1 hx2 hx3 hx4 hx5 hx6 hx7 hx8 hx9 hx10 hx11 hx12
            clear hl12 hi12
            have HX := Aside0.mk (show (rd_T38 (l0.map (sst 0)) (kk : Nat)) = ((l0.map (sst 0)))[kk]'(by simpa using HI.out) from by unfold rd_T38; simp [List.getD, HI.out])
            obtain ⟨x, hx⟩ : ∃ x, (rd_T38 (l0.map (sst 0)) (kk : Nat)) = x := ⟨_, rfl⟩
            have HQ := Aside0.mk (show bound_Of.g k t b i f c (l0.map (sst 0)) x = some q from by rw [← hx]; exact Hq.out)
            have HQ1 := Aside0.mk (show bound_Ok.f k t b i f c (((l0.map (sst 0))).set kk (sst q x)) = some true from by rw [← hx]; exact Hq1.out)
            have HQ2 := Aside0.mk (show bound_Ok.f k t b i f c (((l0.map (sst 0))).set kk (sst (wrap64 (q + 1)) x)) = some false from by rw [← hx]; exact Hq2.out)
            rw [hx] at hx0 hx1 hx2 hx3 hx4 hx5 hx6 hx7 hx8 hx9 hx10 hx11 hx12 HX
            clear hx Hq Hq1 Hq2
            have n1_ := Aside0.mk (show w8.drew.ownsRow w.heap.size 38 13 (.slice (some ⟨g, 0, none⟩) l0.length cap) l0.length inn from own_move HO.out (fun _ _ => rfl))
            have n2_ := Aside0.mk (show w8.drew.heap[gc]? = some (.cells #[.int .i64 t, .int .i64 b, .int .i64 i, .int .i64 f, .int .i64 c] 23 (0, 0)) from BKgc.out)
            have n3_ := Aside0.mk (below_drew1 HB.out)
            clear HO BKgc HB
            have HO := n1_
            have BKgc := n2_
            have HB := n3_
            clear n1_ n2_ n3_
            refine start_ (n := 12) (S := fun w' => w'.cell? ⟨gc, 0, none⟩ = some (.int .i64 t) ∧ w'.cell? ⟨gc, 1, none⟩ = some (.int .i64 b) ∧ w'.cell? ⟨gc, 2, none⟩ = some (.int .i64 i) ∧ w'.cell? ⟨gc, 3, none⟩ = some (.int .i64 f) ∧ w'.cell? ⟨gc, 4, none⟩ = some (.int .i64 c) ∧ w'.cell? ⟨g, kk * 13, none⟩ = some (.int .i64 x.f0) ∧ w'.cell? ⟨g, kk * 13 + 1, none⟩ = some (.int .i64 x.f1) ∧ w'.cell? ⟨g, kk * 13 + 2, none⟩ = some (.int .i64 x.f2) ∧ w'.cell? ⟨g, kk * 13 + 3, none⟩ = some (.int .i64 x.f3) ∧ w'.cell? ⟨g, kk * 13 + 4, none⟩ = some (.int .i64 x.f4) ∧ w'.cell? ⟨g, kk * 13 + 5, none⟩ = some (.int .i64 x.f5.f0) ∧ w'.cell? ⟨g, kk * 13 + 6, none⟩ = some (.int .u64 x.f5.f1) ∧ w'.cell? ⟨g, kk * 13 + 7, none⟩ = some (.int .u64 x.f5.f2) ∧ w'.cell? ⟨g, kk * 13 + 8, none⟩ = some (.int .i64 x.f5.f3) ∧ w'.cell? ⟨g, kk * 13 + 9, none⟩ = some (.int .i64 x.f6.f0) ∧ w'.cell? ⟨g, kk * 13 + 10, none⟩ = some (.bool x.f6.f1) ∧ w'.cell? ⟨g, kk * 13 + 11, none⟩ = some (.int .u64 x.f6.f2) ∧ w'.cell? ⟨g, kk * 13 + 12, none⟩ = some (.slice A12 x.f6.f3.length c12)) (ds := [11]) #[false, false, false, false, false, false, false, false, false, false, false, false] (by kernel_rfl) rfl rfl ⟨((blk_cell BKgc.out 0).trans rfl), ((blk_cell BKgc.out 1).trans rfl), ((blk_cell BKgc.out 2).trans rfl), ((blk_cell BKgc.out 3).trans rfl), ((blk_cell BKgc.out 4).trans rfl), hx0, hx1, hx2, hx3, hx4, hx5, hx6, hx7, hx8, hx9, hx10, hx11, hx12⟩ (fun hHeld => ?_); refine with_tabW corrielaw23_BoundSteps.tab13 corrielaw23_BoundSteps.bits13 (fun HT_ HW_ => ?_)
            generalize w8.drew = W1 at HO BKgc HB hHeld ⊢
            refine pure_ (i := 0) (N := some 51) (v := ?_) (a' := ?_) (bst_lb 12 1) rfl rfl (any_of HT_.out (by kernel_rfl)) (fun _ _ _ h => h) (Or.inl ⟨by rfl, ?_⟩) ?_ ?_; rotate_left
            · intro w'; go_simp; with_reducible rfl
            rotate_left
            · simp only [Act.put, List.setIfInBounds_toArray, List.set_cons_zero, List.set_cons_succ, i64_w, i32_w]; rfl
            refine pure_ (i := 1) (N := some 52) (v := ?_) (a' := ?_) (bst_lb 12 3) rfl rfl (any_of HT_.out (by kernel_rfl)) (fun _ _ _ h => h) (Or.inl ⟨by rfl, ?_⟩) ?_ ?_; rotate_left
            · intro w'; go_simp; with_reducible rfl
            rotate_left
            · simp only [Act.put, List.setIfInBounds_toArray, List.set_cons_zero, List.set_cons_succ, i64_w, i32_w]; rfl
            refine pure_ (i := 3) (N := some 54) (v := ?_) (a' := ?_) (bst_lb 12 11) rfl rfl (any_of HT_.out (by kernel_rfl)) (fun _ _ _ h => h) (Or.inl ⟨by rfl, ?_⟩) ?_ ?_; rotate_left
            · intro w'; go_simp; with_reducible rfl
            rotate_left
            · simp only [Act.put, List.setIfInBounds_toArray, List.set_cons_zero, List.set_cons_succ, i64_w, i32_w]; rfl
            refine pure_ (i := 4) (N := some 55) (v := ?_) (a' := ?_) (bst_lb 12 27) rfl rfl (any_of HT_.out (by kernel_rfl)) (fun _ _ _ h => h) (Or.inl ⟨by rfl, ?_⟩) ?_ ?_; rotate_left
            · intro w'; go_simp; with_reducible rfl
            rotate_left
            · simp only [Act.put, List.setIfInBounds_toArray, List.set_cons_zero, List.set_cons_succ, i64_w, i32_w]; rfl
            refine pure_ (i := 5) (N := some 56) (v := ?_) (a' := ?_) (bst_lb 12 59) rfl rfl (any_of HT_.out (by kernel_rfl)) (fun _ _ _ h => h) (Or.inl ⟨by rfl, ?_⟩) ?_ ?_; rotate_left
            · intro w'; go_simp; with_reducible rfl
            rotate_left
            · simp only [Act.put, List.setIfInBounds_toArray, List.set_cons_zero, List.set_cons_succ, i64_w, i32_w]; rfl
            refine pure_ (i := 6) (N := some 57) (v := ?_) (a' := ?_) (bst_lb 12 123) rfl rfl (any_of HT_.out (by kernel_rfl)) (fun _ _ _ h => h) (Or.inl ⟨by rfl, ?_⟩) ?_ ?_; rotate_left
            · intro w'; go_simp; with_reducible rfl
            rotate_left
            · simp only [Act.put, List.setIfInBounds_toArray, List.set_cons_zero, List.set_cons_succ, i64_w, i32_w]; rfl
            refine take_ (i := 2) (N := some 53) (v := ?_) (a' := ?_) (bst_lb 12 127) rfl rfl (take_ofW HT_.out HW_.out (by kernel_rfl)) (fun _ _ _ h => h) (Or.inl ⟨by rfl, ?_⟩) hHeld ?_ ?_; rotate_left
            · rintro w' ⟨s0, s1, s2, s3, s4, s5, s6, s7, s8, s9, s10, s11, s12, s13, s14, s15, s16, s17⟩; go_simp; with_reducible rfl
            rotate_left
            · simp only [Act.put, List.setIfInBounds_toArray, List.set_cons_zero, List.set_cons_succ, i64_w, i32_w]; rfl
            refine take_ (i := 7) (N := some 58) (v := ?_) (a' := ?_) (bst_lb 12 255) rfl rfl (take_ofW HT_.out HW_.out (by kernel_rfl)) (fun _ _ _ h => h) (Or.inl ⟨by rfl, ?_⟩) hHeld ?_ ?_; rotate_left
            · rintro w' ⟨s0, s1, s2, s3, s4, s5, s6, s7, s8, s9, s10, s11, s12, s13, s14, s15, s16, s17⟩; go_simp; with_reducible rfl
            rotate_left
            · simp only [Act.put, List.setIfInBounds_toArray, List.set_cons_zero, List.set_cons_succ, i64_w, i32_w]; rfl
            refine one_ (i := 8) (N := some 59) (bst_lb 12 511) rfl rfl (one_of HT_.out (by kernel_rfl)) (by decide) (fun K hK => ?_)
            refine goes_ Try.func15 (by kernel_rfl) rfl #[.agg #[.int .i64 t, .int .i64 b, .int .i64 i, .int .i64 f, .int .i64 c], .slice (some ⟨g, 0, none⟩) l0.length cap, .agg #[.int .i64 x.f0, .int .i64 x.f1, .int .i64 x.f2, .int .i64 x.f3, .int .i64 x.f4, .int .i64 x.f5.f0, .int .u64 x.f5.f1, .int .u64 x.f5.f2, .int .i64 x.f5.f3, .int .i64 x.f6.f0, .bool x.f6.f1, .int .u64 x.f6.f2, .slice A12 x.f6.f3.length c12]] (by rfl) rfl rfl (by (try simp only [List.map_toArray, List.map_cons, List.map_nil]); first | done | rfl) ?_
            with_reducible refine (HOF.out _ x A12 c12 q (bst_C HO.out HR.out HB.out (by simp)) HQ.out).mono ?_
            rintro e w9 ⟨rfl, hbk⟩
            refine ⟨_, rfl, ?_⟩
            have n1_ := Aside0.mk (own_move HO.out (fun k hk => hbk.block k (own_lt HO.out k hk)))
            have n2_ := Aside0.mk (show w9.heap[gc]? = some (.cells #[.int .i64 t, .int .i64 b, .int .i64 i, .int .i64 f, .int .i64 c] 23 (0, 0)) from blk_below BKgc.out hbk)
            have n3_ := Aside0.mk (below_step HB.out hbk)
            clear HO BKgc HB
            have HO := n1_
            have BKgc := n2_
            have HB := n3_
            clear n1_ n2_ n3_
            refine hK.out _ _ ⟨(pw_cell_below hbk hHeld.1), (pw_cell_below hbk hHeld.2.1), (pw_cell_below hbk hHeld.2.2.1), (pw_cell_below hbk hHeld.2.2.2.1), (pw_cell_below hbk hHeld.2.2.2.2.1), (pw_cell_below hbk hHeld.2.2.2.2.2.1), (pw_cell_below hbk hHeld.2.2.2.2.2.2.1), (pw_cell_below hbk hHeld.2.2.2.2.2.2.2.1), (pw_cell_below hbk hHeld.2.2.2.2.2.2.2.2.1), (pw_cell_below hbk hHeld.2.2.2.2.2.2.2.2.2.1), (pw_cell_below hbk hHeld.2.2.2.2.2.2.2.2.2.2.1), (pw_cell_below hbk hHeld.2.2.2.2.2.2.2.2.2.2.2.1), (pw_cell_below hbk hHeld.2.2.2.2.2.2.2.2.2.2.2.2.1), (pw_cell_below hbk hHeld.2.2.2.2.2.2.2.2.2.2.2.2.2.1), (pw_cell_below hbk hHeld.2.2.2.2.2.2.2.2.2.2.2.2.2.2.1), (pw_cell_below hbk hHeld.2.2.2.2.2.2.2.2.2.2.2.2.2.2.2.1), (pw_cell_below hbk hHeld.2.2.2.2.2.2.2.2.2.2.2.2.2.2.2.2.1), (pw_cell_below hbk hHeld.2.2.2.2.2.2.2.2.2.2.2.2.2.2.2.2.2)⟩ (fun hHeld => ?_)
            clear hK K
            refine norm_ (a' := ?_) ?_ ?_
            rotate_left
            · show Act.put _ (some 59) _ = _
              simp only [Act.put, List.setIfInBounds_toArray, List.set_cons_zero, List.set_cons_succ, i64_w, i32_w]
              rfl
            refine pure_ (i := 9) (N := some 60) (v := ?_) (a' := ?_) (bst_lb 12 1023) rfl rfl (any_of HT_.out (by kernel_rfl)) (fun _ _ _ h => h) (Or.inl ⟨by rfl, ?_⟩) ?_ ?_; rotate_left
            · intro w'; go_simp; with_reducible rfl
            rotate_left
            · simp only [Act.put, List.setIfInBounds_toArray, List.set_cons_zero, List.set_cons_succ, i64_w, i32_w]; rfl
            refine pure_ (i := 10) (N := some 61) (v := ?_) (a' := ?_) (bst_lb 12 2047) rfl rfl (any_of HT_.out (by kernel_rfl)) (fun _ _ _ h => h) (Or.inl ⟨by rfl, ?_⟩) ?_ ?_; rotate_left
            · intro w'; go_simp; with_reducible rfl
            rotate_left
            · simp only [Act.put, List.setIfInBounds_toArray, List.set_cons_zero, List.set_cons_succ, i64_w, i32_w]; rfl
            refine last_ (i := 11) (N := none) (bst_lb 12 4095) rfl rfl (one_of HT_.out (by kernel_rfl)) (by decide) (fun K hK => ?_)
            have cS := hHeld.2.2.2.2.2.2.2.2.2.1
            have fS : w9.frozen? ⟨g, kk * 13 + 4, none⟩ = false := row_frozen HO.out _
            refine skip_ (w1 := ?_) (by rfl) rfl ?_ ?_
            rotate_left
            · go_simp
              rfl
            clear cS fS
            refine hK.out _ _ ?_
            clear hK K
            refine done_ (done_of HT_.out (by kernel_rfl)) ?_
            obtain ⟨x9, hx9⟩ : ∃ W_, w9.setCell ⟨g, kk * 13 + 4, none⟩ (.int .i64 q) = W_ := ⟨_, rfl⟩
            rw [hx9]
            have n1_ := Aside0.mk (show x9.ownsRow w.heap.size 38 13 (.slice (some ⟨g, 0, none⟩) l0.length cap) l0.length (inn.set (kk * 13 + 4) (.int .i64 q)) from by rw [← hx9]; exact row_own_set HO.out _ _)
            have n2_ := Aside0.mk (show x9.heap[gc]? = some (.cells #[.int .i64 t, .int .i64 b, .int .i64 i, .int .i64 f, .int .i64 c] 23 (0, 0)) from by rw [← hx9]; exact (Below.heap_setCell _ ⟨g, kk * 13 + 4, none⟩ _ gc hgc).trans BKgc.out)
            have n3_ := Aside0.mk (show Below w.heap.size w x9 from by rw [← hx9]; exact HB.out.setCell (p := ⟨g, kk * 13 + 4, none⟩) (row_cap HO.out).1 _)
            clear HO BKgc HB hx9
            have HO := n1_
            have BKgc := n2_
            have HB := n3_
            clear n1_ n2_ n3_
            have HR1 := Aside0.mk (show Reps (k38.K w) 13 (((l0.map (sst 0))).set kk (sst q x)) (inn.set (kk * 13 + 4) (.int .i64 q)) from by
              have h1 := bst_reps HR.out kk (by simpa using HI.out) q
              rw [← HX.out] at h1
              exact h1)
            have cx9_0 : x9.cell? ⟨gc, 0, none⟩ = some (.int .i64 t) := (blk_cell BKgc.out 0).trans rfl
            have cx9_1 : x9.cell? ⟨gc, 1, none⟩ = some (.int .i64 b) := (blk_cell BKgc.out 1).trans rfl
            have cx9_2 : x9.cell? ⟨gc, 2, none⟩ = some (.int .i64 i) := (blk_cell BKgc.out 2).trans rfl
            have cx9_3 : x9.cell? ⟨gc, 3, none⟩ = some (.int .i64 f) := (blk_cell BKgc.out 3).trans rfl
            have cx9_4 : x9.cell? ⟨gc, 4, none⟩ = some (.int .i64 c) := (blk_cell BKgc.out 4).trans rfl
            go_upto_region 16 with (first | (go_at_call 17; (with_reducible refine (HOK.out (((l0.map (sst 0))).set kk (sst q x)) true _ (by simp) (bst_C HO.out HR1.out HB.out (by simp)) HQ1.out).mono ?_); rintro e x10 ⟨rfl, hb⟩; have n1_ := Aside0.mk (own_move HO.out (fun k hk => hb.block k (own_lt HO.out k hk))); have n2_ := Aside0.mk (show x10.heap[gc]? = some (.cells #[.int .i64 t, .int .i64 b, .int .i64 i, .int .i64 f, .int .i64 c] 23 (0, 0)) from blk_below BKgc.out hb); have n3_ := Aside0.mk (below_step HB.out hb); clear HO BKgc HB hb; have HO := n1_; have BKgc := n2_; have HB := n3_; clear n1_ n2_ n3_; have cx10_0 : x10.cell? ⟨gc, 0, none⟩ = some (.int .i64 t) := (blk_cell BKgc.out 0).trans rfl; have cx10_1 : x10.cell? ⟨gc, 1, none⟩ = some (.int .i64 b) := (blk_cell BKgc.out 1).trans rfl; have cx10_2 : x10.cell? ⟨gc, 2, none⟩ = some (.int .i64 i) := (blk_cell BKgc.out 2).trans rfl; have cx10_3 : x10.cell? ⟨gc, 3, none⟩ = some (.int .i64 f) := (blk_cell BKgc.out 3).trans rfl; have cx10_4 : x10.cell? ⟨gc, 4, none⟩ = some (.int .i64 c) := (blk_cell BKgc.out 4).trans rfl; have cS : x10.cell? ⟨g, kk * 13 + 4, none⟩ = some (.int .i64 q) := (bst_cell HO.out HR.out (by simpa using HI.out)); have fS : x10.frozen? ⟨g, kk * 13 + 4, none⟩ = false := row_frozen HO.out _))
            clear cS fS cx9_0 cx10_0 cx9_1 cx10_1 cx9_2 cx10_2 cx9_3 cx10_3 cx9_4 cx10_4
            obtain ⟨y1, hy1⟩ : ∃ W_, x10.setCell ⟨g, kk * 13 + 4, none⟩ (.int .i64 (wrap64 (q + 1))) = W_ := ⟨_, rfl⟩
            rw [hy1]
            have n1_ := Aside0.mk (show y1.ownsRow w.heap.size 38 13 (.slice (some ⟨g, 0, none⟩) l0.length cap) l0.length ((inn.set (kk * 13 + 4) (.int .i64 q)).set (kk * 13 + 4) (.int .i64 (wrap64 (q + 1)))) from by rw [← hy1]; exact row_own_set HO.out _ _)
            have n2_ := Aside0.mk (show y1.heap[gc]? = some (.cells #[.int .i64 t, .int .i64 b, .int .i64 i, .int .i64 f, .int .i64 c] 23 (0, 0)) from by rw [← hy1]; exact (Below.heap_setCell _ ⟨g, kk * 13 + 4, none⟩ _ gc hgc).trans BKgc.out)
            have n3_ := Aside0.mk (show Below w.heap.size w y1 from by rw [← hy1]; exact HB.out.setCell (p := ⟨g, kk * 13 + 4, none⟩) (row_cap HO.out).1 _)
            clear HO BKgc HB hy1
            have HO := n1_
            have BKgc := n2_
            have HB := n3_
            clear n1_ n2_ n3_
            have HR2 := Aside0.mk (show Reps (k38.K w) 13 (((l0.map (sst 0))).set kk (sst (wrap64 (q + 1)) x)) ((inn.set (kk * 13 + 4) (.int .i64 q)).set (kk * 13 + 4) (.int .i64 (wrap64 (q + 1)))) from by
              have h1 := bst_reps HR1.out kk (by simpa using HI.out) (wrap64 (q + 1))
              rw [List.set_set, List.getElem_set_self] at h1
              exact h1)
            have cy1_0 : y1.cell? ⟨gc, 0, none⟩ = some (.int .i64 t) := (blk_cell BKgc.out 0).trans rfl
            have cy1_1 : y1.cell? ⟨gc, 1, none⟩ = some (.int .i64 b) := (blk_cell BKgc.out 1).trans rfl
            have cy1_2 : y1.cell? ⟨gc, 2, none⟩ = some (.int .i64 i) := (blk_cell BKgc.out 2).trans rfl
            have cy1_3 : y1.cell? ⟨gc, 3, none⟩ = some (.int .i64 f) := (blk_cell BKgc.out 3).trans rfl
            have cy1_4 : y1.cell? ⟨gc, 4, none⟩ = some (.int .i64 c) := (blk_cell BKgc.out 4).trans rfl
            go_wp2_with (first | (go_at_call 17; (with_reducible refine (HOK.out (((l0.map (sst 0))).set kk (sst (wrap64 (q + 1)) x)) false _ (by simp) (bst_C HO.out HR2.out HB.out (by simp)) HQ2.out).mono ?_); rintro e y2 ⟨rfl, hb⟩; have n1_ := Aside0.mk (own_move HO.out (fun k hk => hb.block k (own_lt HO.out k hk))); have n2_ := Aside0.mk (show y2.heap[gc]? = some (.cells #[.int .i64 t, .int .i64 b, .int .i64 i, .int .i64 f, .int .i64 c] 23 (0, 0)) from blk_below BKgc.out hb); have n3_ := Aside0.mk (below_step HB.out hb); clear HO BKgc HB hb; have HO := n1_; have BKgc := n2_; have HB := n3_; clear n1_ n2_ n3_; have cy2_0 : y2.cell? ⟨gc, 0, none⟩ = some (.int .i64 t) := (blk_cell BKgc.out 0).trans rfl; have cy2_1 : y2.cell? ⟨gc, 1, none⟩ = some (.int .i64 b) := (blk_cell BKgc.out 1).trans rfl; have cy2_2 : y2.cell? ⟨gc, 2, none⟩ = some (.int .i64 i) := (blk_cell BKgc.out 2).trans rfl; have cy2_3 : y2.cell? ⟨gc, 3, none⟩ = some (.int .i64 f) := (blk_cell BKgc.out 3).trans rfl; have cy2_4 : y2.cell? ⟨gc, 4, none⟩ = some (.int .i64 c) := (blk_cell BKgc.out 4).trans rfl))
            go_ret
            exact ⟨by first | rfl | (simp [*]; done), HB.out⟩
    | none =>
      obtain ⟨i0, hi, hz0, hz1, hz2⟩ := info_parts bst_info
      have hz : l0 = [] := by
        rcases Nat.eq_zero_or_pos l0.length with h0 | h0
        · exact List.eq_nil_of_length_eq_zero h0
        · obtain ⟨ad, e, _⟩ := hr0.2.2 h0
          cases e
      have HZ := Aside0.mk hz
      have HRI := Aside0.mk (show Reps (k38.K w) 13 l0 ([] : List Value) from by rw [hz]; exact Reps.none _ _)
      clear hr0 hc0 hz
      go_enter Try.func6, Try.ntmps6
      go_wp2_with (first | ((with_reducible refine gate_dst (N := 3) rfl ?_); refine box_event ?hg (N := 3) ?hd (cs := #[.int .i64 t, .int .i64 b, .int .i64 i, .int .i64 f, .int .i64 c]) (t := 23) ?hr ?_; (case hd => rfl); (case hg => rfl); (case hr => first | (go_simp; done) | (go_simp; rfl)); intro gc hg wb_gc hbox hb; have BKgc := Aside0.mk hbox; have n0_ := Aside0.mk (below_step HB.out hb); clear HB; have HB := n0_; clear n0_; have HGC := Aside0.mk (show w.heap.size ≤ gc from by omega); clear hb hbox hg) | (go_at_call 8; (with_reducible refine (corrielaw23_awake.calls true _ rfl).mono ?_); rintro e w1 ⟨rfl, hb⟩; have n_B := Aside0.mk (blk_below (g := gc) (o := .cells #[.int .i64 t, .int .i64 b, .int .i64 i, .int .i64 f, .int .i64 c] 23 (0, 0)) BKgc.out hb); clear BKgc; have BKgc := n_B; clear n_B; have n0_ := Aside0.mk (below_step HB.out hb); clear HB hb; have HB := n0_; clear n0_; have cw1gc_0 : w1.cell? ⟨gc, 0, none⟩ = some (.int .i64 t) := (blk_cell BKgc.out 0).trans rfl; have cw1gc_1 : w1.cell? ⟨gc, 1, none⟩ = some (.int .i64 b) := (blk_cell BKgc.out 1).trans rfl; have cw1gc_2 : w1.cell? ⟨gc, 2, none⟩ = some (.int .i64 i) := (blk_cell BKgc.out 2).trans rfl; have cw1gc_3 : w1.cell? ⟨gc, 3, none⟩ = some (.int .i64 f) := (blk_cell BKgc.out 3).trans rfl; have cw1gc_4 : w1.cell? ⟨gc, 4, none⟩ = some (.int .i64 c) := (blk_cell BKgc.out 4).trans rfl; have zw1 : gc < w1.heap.size := blk_lt BKgc.out) | (go_at_call 9; (with_reducible refine (corrieref04_May.calls k t b i f c 0 _ Hm.out).mono ?_); rintro e w2 ⟨rfl, hb⟩; have n_B := Aside0.mk (blk_below (g := gc) (o := .cells #[.int .i64 t, .int .i64 b, .int .i64 i, .int .i64 f, .int .i64 c] 23 (0, 0)) BKgc.out hb); clear BKgc; have BKgc := n_B; clear n_B; have n0_ := Aside0.mk (below_step HB.out hb); clear HB hb; have HB := n0_; clear n0_; have cw2gc_0 : w2.cell? ⟨gc, 0, none⟩ = some (.int .i64 t) := (blk_cell BKgc.out 0).trans rfl; have cw2gc_1 : w2.cell? ⟨gc, 1, none⟩ = some (.int .i64 b) := (blk_cell BKgc.out 1).trans rfl; have cw2gc_2 : w2.cell? ⟨gc, 2, none⟩ = some (.int .i64 i) := (blk_cell BKgc.out 2).trans rfl; have cw2gc_3 : w2.cell? ⟨gc, 3, none⟩ = some (.int .i64 f) := (blk_cell BKgc.out 3).trans rfl; have cw2gc_4 : w2.cell? ⟨gc, 4, none⟩ = some (.int .i64 c) := (blk_cell BKgc.out 4).trans rfl; have zw2 : gc < w2.heap.size := blk_lt BKgc.out) | (go_at_call 14; (with_reducible refine (corrieref19_Few.calls k none c0 l0 12 true _ (Kd.C_below HR0.out HB.out) HC0.out Hz.out).mono ?_); rintro e w3 ⟨rfl, hd⟩; have hb := Drawn0.below hd; clear hd; have n_B := Aside0.mk (blk_below (g := gc) (o := .cells #[.int .i64 t, .int .i64 b, .int .i64 i, .int .i64 f, .int .i64 c] 23 (0, 0)) BKgc.out hb); clear BKgc; have BKgc := n_B; clear n_B; have n0_ := Aside0.mk (below_step HB.out hb); clear HB hb; have HB := n0_; clear n0_; have cw3gc_0 : w3.cell? ⟨gc, 0, none⟩ = some (.int .i64 t) := (blk_cell BKgc.out 0).trans rfl; have cw3gc_1 : w3.cell? ⟨gc, 1, none⟩ = some (.int .i64 b) := (blk_cell BKgc.out 1).trans rfl; have cw3gc_2 : w3.cell? ⟨gc, 2, none⟩ = some (.int .i64 i) := (blk_cell BKgc.out 2).trans rfl; have cw3gc_3 : w3.cell? ⟨gc, 3, none⟩ = some (.int .i64 f) := (blk_cell BKgc.out 3).trans rfl; have cw3gc_4 : w3.cell? ⟨gc, 4, none⟩ = some (.int .i64 c) := (blk_cell BKgc.out 4).trans rfl; have zw3 : gc < w3.heap.size := blk_lt BKgc.out) | (at_builtin; refine bst_none rfl _ _ 29 rfl w.heap.size 38 i0 13 Try.underlying29 hi _ 0 [] (World.ownsRow_made (e := 38) (base := w.heap.size) w3 #[] 0 HB.out.size (Nat.zero_le _) rfl) c0 (by rfl) (show Value.slice none l0.length c0 = _ from by rw [HZ.out]; rfl) ?_; intro hown; obtain ⟨g, hg⟩ : ∃ g, w3.heap.size = g := ⟨_, rfl⟩; have HO := Aside0.mk (show (w3.alloc (.cells #[] 38)).ownsRow w.heap.size 38 13 (.slice (some ⟨g, 0, none⟩) l0.length 0) l0.length [] from by rw [HZ.out, ← hg]; exact hown); have n_B := Aside0.mk (blk_below BKgc.out (below_alloc (Below.refl _ _) (.cells #[] 38))); have n0_ := Aside0.mk (HB.out.alloc HB.out.size (.cells #[] 38)); clear hown; clear BKgc; have BKgc := n_B; clear n_B; clear HB; have HB := n0_; clear n0_; generalize w3.alloc (.cells #[] 38) = w5 at HO BKgc HB ⊢; rw [hg, show Value.slice (some ⟨g, 0, none⟩) 0 0 = Value.slice (some ⟨g, 0, none⟩) l0.length 0 from by rw [HZ.out]; rfl]; clear hg))
      have hgc := bst_ne HO.out BKgc.out
      have HCAP := Aside0.mk (row_cap HO.out).2.1
      have HOK := Aside0.mk (show ∀ (L : List S38) (q : Bool) (W : World), L.length = l0.length → Kd.C k38 W (some ⟨g, 0, none⟩) l0.length L → bound_Ok.f k t b i f c L = some q → Calls Try.prog 17 #[.agg #[.int .i64 t, .int .i64 b, .int .i64 i, .int .i64 f, .int .i64 c], .slice (some ⟨g, 0, none⟩) l0.length 0] W (fun e w' => e = .returned (.bool q) ∧ Below W.heap.size W w') from fun L q W hl hC h => by
        have h2 := bound_Ok.law k t b i f c (some ⟨g, 0, none⟩) 0 L q W (by rw [hl]; exact hC) (by rw [hl]; exact HCAP.out) h
        rw [hl] at h2
        exact h2)
      have HOF := Aside0.mk (show ∀ (W : World) (e : S38) (Ae : Option Addr) (ce : Nat) (q : Int), Kd.C k38 W (some ⟨g, 0, none⟩) l0.length (l0.map (sst 0)) → bound_Of.g k t b i f c (l0.map (sst 0)) e = some q → Calls Try.prog 15 #[.agg #[.int .i64 t, .int .i64 b, .int .i64 i, .int .i64 f, .int .i64 c], .slice (some ⟨g, 0, none⟩) l0.length 0, .agg #[.int .i64 e.f0, .int .i64 e.f1, .int .i64 e.f2, .int .i64 e.f3, .int .i64 e.f4, .int .i64 e.f5.f0, .int .u64 e.f5.f1, .int .u64 e.f5.f2, .int .i64 e.f5.f3, .int .i64 e.f6.f0, .bool e.f6.f1, .int .u64 e.f6.f2, .slice Ae e.f6.f3.length ce]] W (fun e_ w' => e_ = .returned (.int .i64 q) ∧ Below W.heap.size W w') from fun W e Ae ce q hC h => by
        have hl : (l0.map (sst 0)).length = l0.length := List.length_map _
        have h2 := bound_Of.law k t b i f c (some ⟨g, 0, none⟩) 0 (l0.map (sst 0)) e Ae ce q W (by rw [hl]; exact hC) (by rw [hl]; exact HCAP.out) h
        rw [hl] at h2
        exact h2)
      go_loopg [9] l0.length (fun kq v9 wr => ∃ (j : Nat) (dk : List S38) (inn : List Value), v9 = .int .i64 j ∧ Aside0 (j ≤ l0.length) ∧ Aside0 (l0.length - j ≤ kq) ∧ Aside0 (dk = (l0.take j).map (sst 0) ++ l0.drop j) ∧ Aside0 (wr.ownsRow w.heap.size 38 13 (.slice (some ⟨g, 0, none⟩) l0.length 0) l0.length inn) ∧ Aside0 (Reps (k38.K w) 13 dk inn) ∧ Aside0 (wr.heap[gc]? = some (.cells #[.int .i64 t, .int .i64 b, .int .i64 i, .int .i64 f, .int .i64 c] 23 (0, 0))) ∧ Aside0 (Below w.heap.size w wr))
      case atStart => exact ⟨0, l0, [], rfl, ⟨Nat.zero_le _⟩, ⟨by omega⟩, ⟨by simp⟩, HO, HRI, BKgc, HB⟩
      case round =>
        clear HB HO BKgc HRI
        obtain ⟨j, dk, inn, rfl, HJ, HK, HDK, HO, HR, BKgc, HB⟩ := hrel
        by_cases hlt : j < l0.length
        · have hltb : (j : Int) < (l0.length : Int) := by omega
          have HLT := Aside0.mk hlt
          obtain ⟨u, cS⟩ : ∃ u, wr.cell? ⟨g, j * 13 + 4, none⟩ = some u := by
            have hl := HO.out.1
            have h2 := HO.out.cells (g := g) rfl (j * 13 + 4) _ (List.getElem?_eq_getElem (show j * 13 + 4 < inn.length by omega))
            rw [Addr.add_lit, Nat.zero_add] at h2
            exact ⟨_, h2⟩
          have fS : wr.frozen? ⟨g, j * 13 + 4, none⟩ = false := row_frozen HO.out _
          go_wp2
          go_roundg (l0.length - (j + 1))
          case measure => have := HLT.out; have := HK.out; omega
          case rel =>
            have hlt := HLT.out
            have hle := HL.out
            obtain ⟨hd, hset⟩ := bst_step l0 j hlt dk HDK.out
            exact ⟨j + 1, dk.set j (sst 0 dk[j]), inn.set (j * 13 + 4) (.int .i64 0), by rw [show wrap64 ((j : Int) + 1) = ((j + 1 : Nat) : Int) from by unfold wrap64; omega], ⟨by omega⟩, ⟨by omega⟩, ⟨hset⟩, ⟨row_own_set HO.out _ _⟩, ⟨bst_reps HR.out j hd 0⟩, ⟨(Below.heap_setCell _ ⟨g, j * 13 + 4, none⟩ _ gc hgc).trans BKgc.out⟩, ⟨HB.out.setCell (p := ⟨g, j * 13 + 4, none⟩) (row_cap HO.out).1 _⟩⟩
        · have hj : j = l0.length := by have := HJ.out; omega
          subst hj
          have hnlt : ¬ ((l0.length : Int) < (l0.length : Int)) := by omega
          have hdk : dk = (l0.map (sst 0)) := by rw [HDK.out]; simp
          subst hdk
          have h := HH.out
          obtain ⟨q0, hq0, h⟩ := Option.bind_eq_some_iff.mp h
          have Hq0 := Aside0.mk hq0
          clear hq0 HH
          have cw_0 : wr.cell? ⟨gc, 0, none⟩ = some (.int .i64 t) := (blk_cell BKgc.out 0).trans rfl
          have cw_1 : wr.cell? ⟨gc, 1, none⟩ = some (.int .i64 b) := (blk_cell BKgc.out 1).trans rfl
          have cw_2 : wr.cell? ⟨gc, 2, none⟩ = some (.int .i64 i) := (blk_cell BKgc.out 2).trans rfl
          have cw_3 : wr.cell? ⟨gc, 3, none⟩ = some (.int .i64 f) := (blk_cell BKgc.out 3).trans rfl
          have cw_4 : wr.cell? ⟨gc, 4, none⟩ = some (.int .i64 c) := (blk_cell BKgc.out 4).trans rfl
          by_cases hz : l0.length = 0
          · rw [if_pos hz] at h
            have hzb : ((l0.length : Int) == 0) = true := beq_iff_eq.mpr (by omega)
            by_cases hq : q0 = true
            rotate_left
            · rw [if_neg hq] at h
              cases h
            subst hq
            rw [if_pos rfl] at h
            obtain rfl := Option.some.inj h
            clear h hz
            go_wp2_with (first | (go_at_call 17; (with_reducible refine (HOK.out (l0.map (sst 0)) true _ (by simp) (bst_C HO.out HR.out HB.out (by simp)) Hq0.out).mono ?_); rintro e w8 ⟨rfl, hb⟩; have n1_ := Aside0.mk (own_move HO.out (fun k hk => hb.block k (own_lt HO.out k hk))); have n2_ := Aside0.mk (show w8.heap[gc]? = some (.cells #[.int .i64 t, .int .i64 b, .int .i64 i, .int .i64 f, .int .i64 c] 23 (0, 0)) from blk_below BKgc.out hb); have n3_ := Aside0.mk (below_step HB.out hb); clear HO BKgc HB hb; have HO := n1_; have BKgc := n2_; have HB := n3_; clear n1_ n2_ n3_; have cw8_0 : w8.cell? ⟨gc, 0, none⟩ = some (.int .i64 t) := (blk_cell BKgc.out 0).trans rfl; have cw8_1 : w8.cell? ⟨gc, 1, none⟩ = some (.int .i64 b) := (blk_cell BKgc.out 1).trans rfl; have cw8_2 : w8.cell? ⟨gc, 2, none⟩ = some (.int .i64 i) := (blk_cell BKgc.out 2).trans rfl; have cw8_3 : w8.cell? ⟨gc, 3, none⟩ = some (.int .i64 f) := (blk_cell BKgc.out 3).trans rfl; have cw8_4 : w8.cell? ⟨gc, 4, none⟩ = some (.int .i64 c) := (blk_cell BKgc.out 4).trans rfl))
            go_ret
            exact ⟨by first | rfl | (simp [*]; done), HB.out⟩
          · rw [if_neg hz] at h
            have hzb : ((l0.length : Int) == 0) = false := beq_eq_false_iff_ne.mpr (by omega)
            have hnz : ¬ (l0.length : Int) = 0 := by omega
            obtain ⟨kk, hi⟩ : ∃ i : Nat, (wrap64 a2).tmod (l0.length : Int) = (i : Int) := ⟨((wrap64 a2).tmod (l0.length : Int)).toNat, by have h1 := HA.out; rw [Int.tmod_eq_emod_of_nonneg h1]; have h2 := Int.emod_nonneg (wrap64 a2) (show (l0.length : Int) ≠ 0 from by omega); omega⟩
            have HI := Aside0.mk (show kk < l0.length from by
              have h1 := HA.out
              rw [Int.tmod_eq_emod_of_nonneg h1] at hi
              have h2 := Int.emod_lt_of_pos (wrap64 a2) (show 0 < (l0.length : Int) from by omega)
              omega)
            rw [hi, show ((kk : Int)).toNat = kk from rfl] at h
            obtain ⟨q, hq, h⟩ := Option.bind_eq_some_iff.mp h
            obtain ⟨q1, hq1, h⟩ := Option.bind_eq_some_iff.mp h
            obtain ⟨q2, hq2, h⟩ := Option.bind_eq_some_iff.mp h
            by_cases cc : q0 = true ∧ q1 = true ∧ q2 = false
            rotate_left
            · rw [if_neg cc] at h
              cases h
            rw [if_pos cc] at h
            obtain rfl := Option.some.inj h
            obtain ⟨rfl, rfl, rfl⟩ := cc
            have Hq := Aside0.mk hq
            have Hq1 := Aside0.mk hq1
            have Hq2 := Aside0.mk hq2
            clear h hq hq1 hq2 hz
            have hkb : (kk : Int) < (l0.length : Int) := by have := HI.out; omega
            go_upto_region 13 with (first | (go_at_call 17; (with_reducible refine (HOK.out (l0.map (sst 0)) true _ (by simp) (bst_C HO.out HR.out HB.out (by simp)) Hq0.out).mono ?_); rintro e w8 ⟨rfl, hb⟩; have n1_ := Aside0.mk (own_move HO.out (fun k hk => hb.block k (own_lt HO.out k hk))); have n2_ := Aside0.mk (show w8.heap[gc]? = some (.cells #[.int .i64 t, .int .i64 b, .int .i64 i, .int .i64 f, .int .i64 c] 23 (0, 0)) from blk_below BKgc.out hb); have n3_ := Aside0.mk (below_step HB.out hb); clear HO BKgc HB hb; have HO := n1_; have BKgc := n2_; have HB := n3_; clear n1_ n2_ n3_; have cw8_0 : w8.cell? ⟨gc, 0, none⟩ = some (.int .i64 t) := (blk_cell BKgc.out 0).trans rfl; have cw8_1 : w8.cell? ⟨gc, 1, none⟩ = some (.int .i64 b) := (blk_cell BKgc.out 1).trans rfl; have cw8_2 : w8.cell? ⟨gc, 2, none⟩ = some (.int .i64 i) := (blk_cell BKgc.out 2).trans rfl; have cw8_3 : w8.cell? ⟨gc, 3, none⟩ = some (.int .i64 f) := (blk_cell BKgc.out 3).trans rfl; have cw8_4 : w8.cell? ⟨gc, 4, none⟩ = some (.int .i64 c) := (blk_cell BKgc.out 4).trans rfl))
            clear cw_0 cw_1 cw_2 cw_3 cw_4 cw8_0 cw8_1 cw8_2 cw8_3 cw8_4
            obtain ⟨ad, A12, c12, e12, hx0, hx1, hx2, hx3, hx4, hx5, hx6, hx7, hx8, hx9, hx10, hx11, hx12, hl12, hi12⟩ := at_T38 (bst_C HO.out HR.out HB.out (by simp)) (kk : Int) (by omega) hkb
            cases e12
            simp only [Int.toNat_natCast, Addr.add_lit, Nat.zero_add] at hx0 hx1 hx2 hx3 hx4 hx5 hx6 hx7 hx8 hx9 hx10 hx11 hx12
            clear hl12 hi12
            have HX := Aside0.mk (show (rd_T38 (l0.map (sst 0)) (kk : Nat)) = ((l0.map (sst 0)))[kk]'(by simpa using HI.out) from by unfold rd_T38; simp [List.getD, HI.out])
            obtain ⟨x, hx⟩ : ∃ x, (rd_T38 (l0.map (sst 0)) (kk : Nat)) = x := ⟨_, rfl⟩
            have HQ := Aside0.mk (show bound_Of.g k t b i f c (l0.map (sst 0)) x = some q from by rw [← hx]; exact Hq.out)
            have HQ1 := Aside0.mk (show bound_Ok.f k t b i f c (((l0.map (sst 0))).set kk (sst q x)) = some true from by rw [← hx]; exact Hq1.out)
            have HQ2 := Aside0.mk (show bound_Ok.f k t b i f c (((l0.map (sst 0))).set kk (sst (wrap64 (q + 1)) x)) = some false from by rw [← hx]; exact Hq2.out)
            rw [hx] at hx0 hx1 hx2 hx3 hx4 hx5 hx6 hx7 hx8 hx9 hx10 hx11 hx12 HX
            clear hx Hq Hq1 Hq2
            have n1_ := Aside0.mk (show w8.drew.ownsRow w.heap.size 38 13 (.slice (some ⟨g, 0, none⟩) l0.length 0) l0.length inn from own_move HO.out (fun _ _ => rfl))
            have n2_ := Aside0.mk (show w8.drew.heap[gc]? = some (.cells #[.int .i64 t, .int .i64 b, .int .i64 i, .int .i64 f, .int .i64 c] 23 (0, 0)) from BKgc.out)
            have n3_ := Aside0.mk (below_drew1 HB.out)
            clear HO BKgc HB
            have HO := n1_
            have BKgc := n2_
            have HB := n3_
            clear n1_ n2_ n3_
            refine start_ (n := 12) (S := fun w' => w'.cell? ⟨gc, 0, none⟩ = some (.int .i64 t) ∧ w'.cell? ⟨gc, 1, none⟩ = some (.int .i64 b) ∧ w'.cell? ⟨gc, 2, none⟩ = some (.int .i64 i) ∧ w'.cell? ⟨gc, 3, none⟩ = some (.int .i64 f) ∧ w'.cell? ⟨gc, 4, none⟩ = some (.int .i64 c) ∧ w'.cell? ⟨g, kk * 13, none⟩ = some (.int .i64 x.f0) ∧ w'.cell? ⟨g, kk * 13 + 1, none⟩ = some (.int .i64 x.f1) ∧ w'.cell? ⟨g, kk * 13 + 2, none⟩ = some (.int .i64 x.f2) ∧ w'.cell? ⟨g, kk * 13 + 3, none⟩ = some (.int .i64 x.f3) ∧ w'.cell? ⟨g, kk * 13 + 4, none⟩ = some (.int .i64 x.f4) ∧ w'.cell? ⟨g, kk * 13 + 5, none⟩ = some (.int .i64 x.f5.f0) ∧ w'.cell? ⟨g, kk * 13 + 6, none⟩ = some (.int .u64 x.f5.f1) ∧ w'.cell? ⟨g, kk * 13 + 7, none⟩ = some (.int .u64 x.f5.f2) ∧ w'.cell? ⟨g, kk * 13 + 8, none⟩ = some (.int .i64 x.f5.f3) ∧ w'.cell? ⟨g, kk * 13 + 9, none⟩ = some (.int .i64 x.f6.f0) ∧ w'.cell? ⟨g, kk * 13 + 10, none⟩ = some (.bool x.f6.f1) ∧ w'.cell? ⟨g, kk * 13 + 11, none⟩ = some (.int .u64 x.f6.f2) ∧ w'.cell? ⟨g, kk * 13 + 12, none⟩ = some (.slice A12 x.f6.f3.length c12)) (ds := [11]) #[false, false, false, false, false, false, false, false, false, false, false, false] (by kernel_rfl) rfl rfl ⟨((blk_cell BKgc.out 0).trans rfl), ((blk_cell BKgc.out 1).trans rfl), ((blk_cell BKgc.out 2).trans rfl), ((blk_cell BKgc.out 3).trans rfl), ((blk_cell BKgc.out 4).trans rfl), hx0, hx1, hx2, hx3, hx4, hx5, hx6, hx7, hx8, hx9, hx10, hx11, hx12⟩ (fun hHeld => ?_); refine with_tabW corrielaw23_BoundSteps.tab13 corrielaw23_BoundSteps.bits13 (fun HT_ HW_ => ?_)
            generalize w8.drew = W1 at HO BKgc HB hHeld ⊢
            refine pure_ (i := 0) (N := some 51) (v := ?_) (a' := ?_) (bst_lb 12 1) rfl rfl (any_of HT_.out (by kernel_rfl)) (fun _ _ _ h => h) (Or.inl ⟨by rfl, ?_⟩) ?_ ?_; rotate_left
            · intro w'; go_simp; with_reducible rfl
            rotate_left
            · simp only [Act.put, List.setIfInBounds_toArray, List.set_cons_zero, List.set_cons_succ, i64_w, i32_w]; rfl
            refine pure_ (i := 1) (N := some 52) (v := ?_) (a' := ?_) (bst_lb 12 3) rfl rfl (any_of HT_.out (by kernel_rfl)) (fun _ _ _ h => h) (Or.inl ⟨by rfl, ?_⟩) ?_ ?_; rotate_left
            · intro w'; go_simp; with_reducible rfl
            rotate_left
            · simp only [Act.put, List.setIfInBounds_toArray, List.set_cons_zero, List.set_cons_succ, i64_w, i32_w]; rfl
            refine pure_ (i := 3) (N := some 54) (v := ?_) (a' := ?_) (bst_lb 12 11) rfl rfl (any_of HT_.out (by kernel_rfl)) (fun _ _ _ h => h) (Or.inl ⟨by rfl, ?_⟩) ?_ ?_; rotate_left
            · intro w'; go_simp; with_reducible rfl
            rotate_left
            · simp only [Act.put, List.setIfInBounds_toArray, List.set_cons_zero, List.set_cons_succ, i64_w, i32_w]; rfl
            refine pure_ (i := 4) (N := some 55) (v := ?_) (a' := ?_) (bst_lb 12 27) rfl rfl (any_of HT_.out (by kernel_rfl)) (fun _ _ _ h => h) (Or.inl ⟨by rfl, ?_⟩) ?_ ?_; rotate_left
            · intro w'; go_simp; with_reducible rfl
            rotate_left
            · simp only [Act.put, List.setIfInBounds_toArray, List.set_cons_zero, List.set_cons_succ, i64_w, i32_w]; rfl
            refine pure_ (i := 5) (N := some 56) (v := ?_) (a' := ?_) (bst_lb 12 59) rfl rfl (any_of HT_.out (by kernel_rfl)) (fun _ _ _ h => h) (Or.inl ⟨by rfl, ?_⟩) ?_ ?_; rotate_left
            · intro w'; go_simp; with_reducible rfl
            rotate_left
            · simp only [Act.put, List.setIfInBounds_toArray, List.set_cons_zero, List.set_cons_succ, i64_w, i32_w]; rfl
            refine pure_ (i := 6) (N := some 57) (v := ?_) (a' := ?_) (bst_lb 12 123) rfl rfl (any_of HT_.out (by kernel_rfl)) (fun _ _ _ h => h) (Or.inl ⟨by rfl, ?_⟩) ?_ ?_; rotate_left
            · intro w'; go_simp; with_reducible rfl
            rotate_left
            · simp only [Act.put, List.setIfInBounds_toArray, List.set_cons_zero, List.set_cons_succ, i64_w, i32_w]; rfl
            refine take_ (i := 2) (N := some 53) (v := ?_) (a' := ?_) (bst_lb 12 127) rfl rfl (take_ofW HT_.out HW_.out (by kernel_rfl)) (fun _ _ _ h => h) (Or.inl ⟨by rfl, ?_⟩) hHeld ?_ ?_; rotate_left
            · rintro w' ⟨s0, s1, s2, s3, s4, s5, s6, s7, s8, s9, s10, s11, s12, s13, s14, s15, s16, s17⟩; go_simp; with_reducible rfl
            rotate_left
            · simp only [Act.put, List.setIfInBounds_toArray, List.set_cons_zero, List.set_cons_succ, i64_w, i32_w]; rfl
            refine take_ (i := 7) (N := some 58) (v := ?_) (a' := ?_) (bst_lb 12 255) rfl rfl (take_ofW HT_.out HW_.out (by kernel_rfl)) (fun _ _ _ h => h) (Or.inl ⟨by rfl, ?_⟩) hHeld ?_ ?_; rotate_left
            · rintro w' ⟨s0, s1, s2, s3, s4, s5, s6, s7, s8, s9, s10, s11, s12, s13, s14, s15, s16, s17⟩; go_simp; with_reducible rfl
            rotate_left
            · simp only [Act.put, List.setIfInBounds_toArray, List.set_cons_zero, List.set_cons_succ, i64_w, i32_w]; rfl
            refine one_ (i := 8) (N := some 59) (bst_lb 12 511) rfl rfl (one_of HT_.out (by kernel_rfl)) (by decide) (fun K hK => ?_)
            refine goes_ Try.func15 (by kernel_rfl) rfl #[.agg #[.int .i64 t, .int .i64 b, .int .i64 i, .int .i64 f, .int .i64 c], .slice (some ⟨g, 0, none⟩) l0.length 0, .agg #[.int .i64 x.f0, .int .i64 x.f1, .int .i64 x.f2, .int .i64 x.f3, .int .i64 x.f4, .int .i64 x.f5.f0, .int .u64 x.f5.f1, .int .u64 x.f5.f2, .int .i64 x.f5.f3, .int .i64 x.f6.f0, .bool x.f6.f1, .int .u64 x.f6.f2, .slice A12 x.f6.f3.length c12]] (by rfl) rfl rfl (by (try simp only [List.map_toArray, List.map_cons, List.map_nil]); first | done | rfl) ?_
            with_reducible refine (HOF.out _ x A12 c12 q (bst_C HO.out HR.out HB.out (by simp)) HQ.out).mono ?_
            rintro e w9 ⟨rfl, hbk⟩
            refine ⟨_, rfl, ?_⟩
            have n1_ := Aside0.mk (own_move HO.out (fun k hk => hbk.block k (own_lt HO.out k hk)))
            have n2_ := Aside0.mk (show w9.heap[gc]? = some (.cells #[.int .i64 t, .int .i64 b, .int .i64 i, .int .i64 f, .int .i64 c] 23 (0, 0)) from blk_below BKgc.out hbk)
            have n3_ := Aside0.mk (below_step HB.out hbk)
            clear HO BKgc HB
            have HO := n1_
            have BKgc := n2_
            have HB := n3_
            clear n1_ n2_ n3_
            refine hK.out _ _ ⟨(pw_cell_below hbk hHeld.1), (pw_cell_below hbk hHeld.2.1), (pw_cell_below hbk hHeld.2.2.1), (pw_cell_below hbk hHeld.2.2.2.1), (pw_cell_below hbk hHeld.2.2.2.2.1), (pw_cell_below hbk hHeld.2.2.2.2.2.1), (pw_cell_below hbk hHeld.2.2.2.2.2.2.1), (pw_cell_below hbk hHeld.2.2.2.2.2.2.2.1), (pw_cell_below hbk hHeld.2.2.2.2.2.2.2.2.1), (pw_cell_below hbk hHeld.2.2.2.2.2.2.2.2.2.1), (pw_cell_below hbk hHeld.2.2.2.2.2.2.2.2.2.2.1), (pw_cell_below hbk hHeld.2.2.2.2.2.2.2.2.2.2.2.1), (pw_cell_below hbk hHeld.2.2.2.2.2.2.2.2.2.2.2.2.1), (pw_cell_below hbk hHeld.2.2.2.2.2.2.2.2.2.2.2.2.2.1), (pw_cell_below hbk hHeld.2.2.2.2.2.2.2.2.2.2.2.2.2.2.1), (pw_cell_below hbk hHeld.2.2.2.2.2.2.2.2.2.2.2.2.2.2.2.1), (pw_cell_below hbk hHeld.2.2.2.2.2.2.2.2.2.2.2.2.2.2.2.2.1), (pw_cell_below hbk hHeld.2.2.2.2.2.2.2.2.2.2.2.2.2.2.2.2.2)⟩ (fun hHeld => ?_)
            clear hK K
            refine norm_ (a' := ?_) ?_ ?_
            rotate_left
            · show Act.put _ (some 59) _ = _
              simp only [Act.put, List.setIfInBounds_toArray, List.set_cons_zero, List.set_cons_succ, i64_w, i32_w]
              rfl
            refine pure_ (i := 9) (N := some 60) (v := ?_) (a' := ?_) (bst_lb 12 1023) rfl rfl (any_of HT_.out (by kernel_rfl)) (fun _ _ _ h => h) (Or.inl ⟨by rfl, ?_⟩) ?_ ?_; rotate_left
            · intro w'; go_simp; with_reducible rfl
            rotate_left
            · simp only [Act.put, List.setIfInBounds_toArray, List.set_cons_zero, List.set_cons_succ, i64_w, i32_w]; rfl
            refine pure_ (i := 10) (N := some 61) (v := ?_) (a' := ?_) (bst_lb 12 2047) rfl rfl (any_of HT_.out (by kernel_rfl)) (fun _ _ _ h => h) (Or.inl ⟨by rfl, ?_⟩) ?_ ?_; rotate_left
            · intro w'; go_simp; with_reducible rfl
            rotate_left
            · simp only [Act.put, List.setIfInBounds_toArray, List.set_cons_zero, List.set_cons_succ, i64_w, i32_w]; rfl
            refine last_ (i := 11) (N := none) (bst_lb 12 4095) rfl rfl (one_of HT_.out (by kernel_rfl)) (by decide) (fun K hK => ?_)
            have cS := hHeld.2.2.2.2.2.2.2.2.2.1
            have fS : w9.frozen? ⟨g, kk * 13 + 4, none⟩ = false := row_frozen HO.out _
            refine skip_ (w1 := ?_) (by rfl) rfl ?_ ?_
            rotate_left
            · go_simp
              rfl
            clear cS fS
            refine hK.out _ _ ?_
            clear hK K
            refine done_ (done_of HT_.out (by kernel_rfl)) ?_
            obtain ⟨x9, hx9⟩ : ∃ W_, w9.setCell ⟨g, kk * 13 + 4, none⟩ (.int .i64 q) = W_ := ⟨_, rfl⟩
            rw [hx9]
            have n1_ := Aside0.mk (show x9.ownsRow w.heap.size 38 13 (.slice (some ⟨g, 0, none⟩) l0.length 0) l0.length (inn.set (kk * 13 + 4) (.int .i64 q)) from by rw [← hx9]; exact row_own_set HO.out _ _)
            have n2_ := Aside0.mk (show x9.heap[gc]? = some (.cells #[.int .i64 t, .int .i64 b, .int .i64 i, .int .i64 f, .int .i64 c] 23 (0, 0)) from by rw [← hx9]; exact (Below.heap_setCell _ ⟨g, kk * 13 + 4, none⟩ _ gc hgc).trans BKgc.out)
            have n3_ := Aside0.mk (show Below w.heap.size w x9 from by rw [← hx9]; exact HB.out.setCell (p := ⟨g, kk * 13 + 4, none⟩) (row_cap HO.out).1 _)
            clear HO BKgc HB hx9
            have HO := n1_
            have BKgc := n2_
            have HB := n3_
            clear n1_ n2_ n3_
            have HR1 := Aside0.mk (show Reps (k38.K w) 13 (((l0.map (sst 0))).set kk (sst q x)) (inn.set (kk * 13 + 4) (.int .i64 q)) from by
              have h1 := bst_reps HR.out kk (by simpa using HI.out) q
              rw [← HX.out] at h1
              exact h1)
            have cx9_0 : x9.cell? ⟨gc, 0, none⟩ = some (.int .i64 t) := (blk_cell BKgc.out 0).trans rfl
            have cx9_1 : x9.cell? ⟨gc, 1, none⟩ = some (.int .i64 b) := (blk_cell BKgc.out 1).trans rfl
            have cx9_2 : x9.cell? ⟨gc, 2, none⟩ = some (.int .i64 i) := (blk_cell BKgc.out 2).trans rfl
            have cx9_3 : x9.cell? ⟨gc, 3, none⟩ = some (.int .i64 f) := (blk_cell BKgc.out 3).trans rfl
            have cx9_4 : x9.cell? ⟨gc, 4, none⟩ = some (.int .i64 c) := (blk_cell BKgc.out 4).trans rfl
            go_upto_region 16 with (first | (go_at_call 17; (with_reducible refine (HOK.out (((l0.map (sst 0))).set kk (sst q x)) true _ (by simp) (bst_C HO.out HR1.out HB.out (by simp)) HQ1.out).mono ?_); rintro e x10 ⟨rfl, hb⟩; have n1_ := Aside0.mk (own_move HO.out (fun k hk => hb.block k (own_lt HO.out k hk))); have n2_ := Aside0.mk (show x10.heap[gc]? = some (.cells #[.int .i64 t, .int .i64 b, .int .i64 i, .int .i64 f, .int .i64 c] 23 (0, 0)) from blk_below BKgc.out hb); have n3_ := Aside0.mk (below_step HB.out hb); clear HO BKgc HB hb; have HO := n1_; have BKgc := n2_; have HB := n3_; clear n1_ n2_ n3_; have cx10_0 : x10.cell? ⟨gc, 0, none⟩ = some (.int .i64 t) := (blk_cell BKgc.out 0).trans rfl; have cx10_1 : x10.cell? ⟨gc, 1, none⟩ = some (.int .i64 b) := (blk_cell BKgc.out 1).trans rfl; have cx10_2 : x10.cell? ⟨gc, 2, none⟩ = some (.int .i64 i) := (blk_cell BKgc.out 2).trans rfl; have cx10_3 : x10.cell? ⟨gc, 3, none⟩ = some (.int .i64 f) := (blk_cell BKgc.out 3).trans rfl; have cx10_4 : x10.cell? ⟨gc, 4, none⟩ = some (.int .i64 c) := (blk_cell BKgc.out 4).trans rfl; have cS : x10.cell? ⟨g, kk * 13 + 4, none⟩ = some (.int .i64 q) := (bst_cell HO.out HR.out (by simpa using HI.out)); have fS : x10.frozen? ⟨g, kk * 13 + 4, none⟩ = false := row_frozen HO.out _))
            clear cS fS cx9_0 cx10_0 cx9_1 cx10_1 cx9_2 cx10_2 cx9_3 cx10_3 cx9_4 cx10_4
            obtain ⟨y1, hy1⟩ : ∃ W_, x10.setCell ⟨g, kk * 13 + 4, none⟩ (.int .i64 (wrap64 (q + 1))) = W_ := ⟨_, rfl⟩
            rw [hy1]
            have n1_ := Aside0.mk (show y1.ownsRow w.heap.size 38 13 (.slice (some ⟨g, 0, none⟩) l0.length 0) l0.length ((inn.set (kk * 13 + 4) (.int .i64 q)).set (kk * 13 + 4) (.int .i64 (wrap64 (q + 1)))) from by rw [← hy1]; exact row_own_set HO.out _ _)
            have n2_ := Aside0.mk (show y1.heap[gc]? = some (.cells #[.int .i64 t, .int .i64 b, .int .i64 i, .int .i64 f, .int .i64 c] 23 (0, 0)) from by rw [← hy1]; exact (Below.heap_setCell _ ⟨g, kk * 13 + 4, none⟩ _ gc hgc).trans BKgc.out)
            have n3_ := Aside0.mk (show Below w.heap.size w y1 from by rw [← hy1]; exact HB.out.setCell (p := ⟨g, kk * 13 + 4, none⟩) (row_cap HO.out).1 _)
            clear HO BKgc HB hy1
            have HO := n1_
            have BKgc := n2_
            have HB := n3_
            clear n1_ n2_ n3_
            have HR2 := Aside0.mk (show Reps (k38.K w) 13 (((l0.map (sst 0))).set kk (sst (wrap64 (q + 1)) x)) ((inn.set (kk * 13 + 4) (.int .i64 q)).set (kk * 13 + 4) (.int .i64 (wrap64 (q + 1)))) from by
              have h1 := bst_reps HR1.out kk (by simpa using HI.out) (wrap64 (q + 1))
              rw [List.set_set, List.getElem_set_self] at h1
              exact h1)
            have cy1_0 : y1.cell? ⟨gc, 0, none⟩ = some (.int .i64 t) := (blk_cell BKgc.out 0).trans rfl
            have cy1_1 : y1.cell? ⟨gc, 1, none⟩ = some (.int .i64 b) := (blk_cell BKgc.out 1).trans rfl
            have cy1_2 : y1.cell? ⟨gc, 2, none⟩ = some (.int .i64 i) := (blk_cell BKgc.out 2).trans rfl
            have cy1_3 : y1.cell? ⟨gc, 3, none⟩ = some (.int .i64 f) := (blk_cell BKgc.out 3).trans rfl
            have cy1_4 : y1.cell? ⟨gc, 4, none⟩ = some (.int .i64 c) := (blk_cell BKgc.out 4).trans rfl
            go_wp2_with (first | (go_at_call 17; (with_reducible refine (HOK.out (((l0.map (sst 0))).set kk (sst (wrap64 (q + 1)) x)) false _ (by simp) (bst_C HO.out HR2.out HB.out (by simp)) HQ2.out).mono ?_); rintro e y2 ⟨rfl, hb⟩; have n1_ := Aside0.mk (own_move HO.out (fun k hk => hb.block k (own_lt HO.out k hk))); have n2_ := Aside0.mk (show y2.heap[gc]? = some (.cells #[.int .i64 t, .int .i64 b, .int .i64 i, .int .i64 f, .int .i64 c] 23 (0, 0)) from blk_below BKgc.out hb); have n3_ := Aside0.mk (below_step HB.out hb); clear HO BKgc HB hb; have HO := n1_; have BKgc := n2_; have HB := n3_; clear n1_ n2_ n3_; have cy2_0 : y2.cell? ⟨gc, 0, none⟩ = some (.int .i64 t) := (blk_cell BKgc.out 0).trans rfl; have cy2_1 : y2.cell? ⟨gc, 1, none⟩ = some (.int .i64 b) := (blk_cell BKgc.out 1).trans rfl; have cy2_2 : y2.cell? ⟨gc, 2, none⟩ = some (.int .i64 i) := (blk_cell BKgc.out 2).trans rfl; have cy2_3 : y2.cell? ⟨gc, 3, none⟩ = some (.int .i64 f) := (blk_cell BKgc.out 3).trans rfl; have cy2_4 : y2.cell? ⟨gc, 4, none⟩ = some (.int .i64 c) := (blk_cell BKgc.out 4).trans rfl))
            go_ret
            exact ⟨by first | rfl | (simp [*]; done), HB.out⟩
def corrielaw23_BoundSteps.f (k : Nat) (a0_0 a0_1 a0_2 a0_3 a0_4 : Int) (l1 : List S38) (a2 : Int) : Option Bool := corrielaw23_BoundSteps.g k a0_0 a0_1 a0_2 a0_3 a0_4 l1 a2
theorem corrielaw23_BoundSteps.mono : ∀ a0_0 a0_1 a0_2 a0_3 a0_4 l1 a2 k, LeO (corrielaw23_BoundSteps.f k a0_0 a0_1 a0_2 a0_3 a0_4 l1 a2) (corrielaw23_BoundSteps.f (k + 1) a0_0 a0_1 a0_2 a0_3 a0_4 l1 a2) := by
  intros
  exact corrielaw23_BoundSteps.gmono _ _ _ _ _ _ _ _
theorem corrielaw23_BoundSteps.calls (k : Nat) (a0_0 a0_1 a0_2 a0_3 a0_4 : Int) (A1 : Option Addr) (c1 : Nat) (l1 : List S38) (a2 : Int) (r : Bool) (w : World) (hr1 : Kd.C k38 w A1 l1.length l1) (hc1 : l1.length ≤ c1) (h : corrielaw23_BoundSteps.f k a0_0 a0_1 a0_2 a0_3 a0_4 l1 a2 = some r) :
    Calls Try.prog 6 #[.agg #[.int .i64 a0_0, .int .i64 a0_1, .int .i64 a0_2, .int .i64 a0_3, .int .i64 a0_4], .slice A1 l1.length c1, .int .u8 a2] w fun e w' => e = .returned (.bool r) ∧ Below w.heap.size w w' := by
  exact corrielaw23_BoundSteps.law k a0_0 a0_1 a0_2 a0_3 a0_4 A1 c1 l1 a2 r w hr1 hc1 h


end Go.Proofs.Ytpcmoclohepdiab.PBoundSteps
