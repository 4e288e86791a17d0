-- Written by a program of this session: a variant of the print that takes proofs by hand (wip/tools/mkprint.py)
import Derived.Test.YtcleoahoppggmaaPLinApplyx0
import Derived.Test.YtcleoahoppggmaaPLinApplyx1
import Derived.Test.YtcleoahoppggmaaPLinApplyx3
import Derived.Test.YtcleoahoppggmaaPLinApplyx4
import Derived.Test.YtcleoahoppggmaaPLinApplyx6
import Derived.Test.YtcleoahoppggmaaPLinApplyx7
namespace Go.Proofs.Ytcleoahoppggmaa.PLinApply
open Go.RowKit Go.Proofs.YtcleoahoppggmaaW.PrintWords Go.Proofs.YtcleoahoppggmaaW.PrintLast Go.Proofs.YtcleoahoppggmaaW.PrintMore
attribute [local go_sem] max2_int min2_int max_two min_two max_three min_three max_four min_four   -- for this text's walks alone
set_option linter.unusedVariables false
set_option linter.unusedSimpArgs false

attribute [local go_sem high] eqA53
/-! ### corrieref09_Same: function 11 -/
def corrieref09_Same.l0 : Nat → List (S53) → List (S53) → Int → Option (Bool)
  | 0, _, _, _ => none
  | k + 1, x0, x1, x5 => if x5 < (x0.length : Int) then (if 0 ≤ x5 then (if x5 < (x1.length : Int) then (if (!(((rd_T53 x0 x5).f0) == ((rd_T53 x1 x5).f0)) || (!(((rd_T53 x0 x5).f1) == ((rd_T53 x1 x5).f1)))) = true then (some false) else (corrieref09_Same.l0 k x0 x1 (wrap64 (x5 + 1)))) else (none)) else (none)) else (some true)
def corrieref09_Same.f (k : Nat) (l0 : List (S53)) (l1 : List (S53)) : Option (Bool) := if (l0.length : Int) = (l1.length : Int) then (corrieref09_Same.l0 k l0 l1 0) else (some false)
theorem corrieref09_Same.mono_l : ∀ k, (∀ y0 y1 y2, LeO (corrieref09_Same.l0 k y0 y1 y2) (corrieref09_Same.l0 (k + 1) y0 y1 y2))
  | 0 => fun _ _ _ r h => by simp [corrieref09_Same.l0] at h
  | k + 1 => by
    have ih0 := corrieref09_Same.mono_l k
    · intro y0 y1 y2
      unfold corrieref09_Same.l0
      repeat' first
      | (with_reducible exact ih0 _ _ _)
      | (with_reducible exact LeO.refl _)
      | (with_reducible exact LeO.none _)
      | (with_reducible refine LeO.ite ?_ ?_)
      | (with_reducible refine LeO.bind ?_ (fun _ => ?_))
      | exact ih0 _ _ _
      | exact LeO.none _
      | refine LeO.ite ?_ ?_
      | refine LeO.bind ?_ (fun _ => ?_)
theorem corrieref09_Same.mono : ∀ a0 a1 k, LeO (corrieref09_Same.f k a0 a1) (corrieref09_Same.f (k + 1) a0 a1) := by
  intro a0 a1 k
  have ih0 := corrieref09_Same.mono_l k
  unfold corrieref09_Same.f
  repeat' first
      | (with_reducible exact ih0 _ _ _)
      | (with_reducible exact LeO.refl _)
      | (with_reducible exact LeO.none _)
      | (with_reducible refine LeO.ite ?_ ?_)
      | (with_reducible refine LeO.bind ?_ (fun _ => ?_))
      | exact ih0 _ _ _
      | exact LeO.none _
      | refine LeO.ite ?_ ?_
      | refine LeO.bind ?_ (fun _ => ?_)
set_option maxHeartbeats 8000000 in
set_option maxRecDepth 100000 in
theorem corrieref09_Same.calls (k : Nat) (A0 : Option Addr) (c0 : Nat) (l0 : List (S53)) (A1 : Option Addr) (c1 : Nat) (l1 : List (S53)) (r : Bool) (w : World) (hr0 : Kd.C k53 w A0 l0.length l0) (hc0 : l0.length ≤ c0) (hr1 : Kd.C k53 w A1 l1.length l1) (hc1 : l1.length ≤ c1) (h : corrieref09_Same.f k l0 l1 = some r) :
    Calls Try.prog 11 #[.slice A0 l0.length c0, .slice A1 l1.length c1] w fun e w' => e = .returned (.bool r) ∧ Drawn0 w w' := by
  have hu53 := Try.underlying53
  have HR0 := Aside0.mk hr0
  have HC0 := Aside0.mk hc0
  clear hr0 hc0
  have HR1 := Aside0.mk hr1
  have HC1 := Aside0.mk hc1
  clear hr1 hc1
  have H : (if (l0.length : Int) = (l1.length : Int) then (corrieref09_Same.l0 k l0 l1 0) else (some false)) = some r := h
  clear h
  by_cases c3 : (l0.length : Int) = (l1.length : Int)
  · rw [if_pos c3] at H
    have c3b0 : ((l0.length : Int) == (l1.length : Int)) = true := beq_iff_eq.mpr c3
    have c3b1 : ((l0.length : Int) != (l1.length : Int)) = false := bne_eq_false_iff_eq.mpr c3
    have c3b2 : (l0.length == l1.length) = true := by first | simpa using c3 | (simp at c3 ⊢; omega)
    clear c3
    have H' := Aside0.mk H
    clear H
    go_enter Try.func11, Try.ntmps11
    go_wp2
    repeat (go_quiet (fail); try go_wp2)
    go_loopg [5] k (fun kq v5 w' => ∃ (x5_1 : Int), v5 = .int .i64 x5_1 ∧ Aside0 (corrieref09_Same.l0 kq l0 l1 x5_1 = some r) ∧ Aside0 (kq ≤ k) ∧ Drawn0 w w')
    case atStart => exact ⟨(0), (by first | rfl | (simp; done) | (simp [*]; done)), H', ⟨Nat.le_refl _⟩, by repeat (first | exact Drawn0.refl _ | apply Drawn0.step)⟩
    case round =>
      clear H'
      try clear c1
      try clear p2
      try clear c3
      try clear c3b0
      try clear c3b1
      try clear c3b2
      obtain ⟨x5_1, rfl, HA, HK1, ⟨m1, rfl⟩⟩ := hrel
      cases gk with
      | zero => exact absurd HA.out (by simp [corrieref09_Same.l0])
      | succ k1 =>
        have H := HA.out
        clear HA
        simp only [corrieref09_Same.l0] at H
        by_cases c4 : x5_1 < (l0.length : Int)
        · rw [if_pos c4] at H
          have c4b0 : decide (x5_1 < (l0.length : Int)) = true := decide_eq_true c4
          clear c4
          by_cases c5 : 0 ≤ x5_1
          · rw [if_pos c5] at H
            have c5b0 : decide (0 ≤ x5_1) = true := decide_eq_true c5
            clear c5
            by_cases c6 : x5_1 < (l1.length : Int)
            · rw [if_pos c6] at H
              have c6b0 : decide (x5_1 < (l1.length : Int)) = true := decide_eq_true c6
              clear c6
              by_cases c7 : (!(((rd_T53 l0 x5_1).f0) == ((rd_T53 l1 x5_1).f0)) || (!(((rd_T53 l0 x5_1).f1) == ((rd_T53 l1 x5_1).f1)))) = true
              · rw [if_pos c7] at H
                have c7b0 : (!(((rd_T53 l0 x5_1).f0) == ((rd_T53 l1 x5_1).f0)) || (!(((rd_T53 l0 x5_1).f1) == ((rd_T53 l1 x5_1).f1)))) = true := c7
                clear c7
                obtain rfl := Option.some.inj H
                have p118 : 0 ≤ (x5_1 : Int) := of_decide_eq_true (by first | (with_reducible assumption) | assumption)
                have q118 : x5_1 < (l0.length : Int) := of_decide_eq_true (by first | (with_reducible assumption) | assumption)
                obtain ⟨ad118, e118, hx118_0, hx118_1⟩ := at_T53 HR0.out x5_1 p118 q118
                cases e118
                replace p118 := eq_true p118
                replace q118 := eq_true q118
                have p119 : 0 ≤ (x5_1 : Int) := of_decide_eq_true (by first | (with_reducible assumption) | assumption)
                have q119 : x5_1 < (l1.length : Int) := of_decide_eq_true (by first | (with_reducible assumption) | assumption)
                obtain ⟨ad119, e119, hx119_0, hx119_1⟩ := at_T53 HR1.out x5_1 p119 q119
                cases e119
                replace p119 := eq_true p119
                replace q119 := eq_true q119
                go_wp2
                repeat (go_quiet (fail); try go_wp2)
                go_ret
                exact ⟨by first | rfl | (simp; done) | (simp [*]; done), by repeat (first | exact Drawn0.refl _ | apply Drawn0.step)⟩
              · rw [if_neg c7] at H
                have c7b0 : (!(((rd_T53 l0 x5_1).f0) == ((rd_T53 l1 x5_1).f0)) || (!(((rd_T53 l0 x5_1).f1) == ((rd_T53 l1 x5_1).f1)))) = false := by simpa using c7
                clear c7
                have H' := Aside0.mk H
                clear H
                have p118 : 0 ≤ (x5_1 : Int) := of_decide_eq_true (by first | (with_reducible assumption) | assumption)
                have q118 : x5_1 < (l0.length : Int) := of_decide_eq_true (by first | (with_reducible assumption) | assumption)
                obtain ⟨ad118, e118, hx118_0, hx118_1⟩ := at_T53 HR0.out x5_1 p118 q118
                cases e118
                replace p118 := eq_true p118
                replace q118 := eq_true q118
                have p119 : 0 ≤ (x5_1 : Int) := of_decide_eq_true (by first | (with_reducible assumption) | assumption)
                have q119 : x5_1 < (l1.length : Int) := of_decide_eq_true (by first | (with_reducible assumption) | assumption)
                obtain ⟨ad119, e119, hx119_0, hx119_1⟩ := at_T53 HR1.out x5_1 p119 q119
                cases e119
                replace p119 := eq_true p119
                replace q119 := eq_true q119
                go_wp2
                repeat (go_quiet (fail); try go_wp2)
                go_roundg k1
                case measure => have := HK1.out; omega
                case rel => exact ⟨(wrap64 (x5_1 + 1)), (by first | rfl | (simp; done) | (simp [*]; done)), H', ⟨by have := HK1.out; omega⟩, by repeat (first | exact Drawn0.refl _ | apply Drawn0.step)⟩
            · rw [if_neg c6] at H
              exact absurd H (by simp)
          · rw [if_neg c5] at H
            exact absurd H (by simp)
        · rw [if_neg c4] at H
          have c4b0 : decide (x5_1 < (l0.length : Int)) = false := decide_eq_false c4
          clear c4
          obtain rfl := Option.some.inj H
          go_wp2
          repeat (go_quiet (fail); try go_wp2)
          go_ret
          exact ⟨by first | rfl | (simp; done) | (simp [*]; done), by repeat (first | exact Drawn0.refl _ | apply Drawn0.step)⟩
  · rw [if_neg c3] at H
    have c3b0 : ((l0.length : Int) == (l1.length : Int)) = false := beq_eq_false_iff_ne.mpr c3
    have c3b1 : ((l0.length : Int) != (l1.length : Int)) = true := bne_iff_ne.mpr c3
    have c3b2 : (l0.length == l1.length) = false := by first | simpa using c3 | (simp at c3 ⊢; omega)
    obtain rfl := Option.some.inj H
    go_enter Try.func11, Try.ntmps11
    go_wp2
    repeat (go_quiet (fail); try go_wp2)
    go_ret
    exact ⟨by first | rfl | (simp; done) | (simp [*]; done), by repeat (first | exact Drawn0.refl _ | apply Drawn0.step)⟩

/-! ### corrieref14_Equal: function 12 -/
def corrieref14_Equal.f (a0_0 : Int) (a0_1 : Bool) (a0_2 : Int) (l0_3 : List (S53)) (a1_0 : Int) (a1_1 : Bool) (a1_2 : Int) (l1_3 : List (S53)) : Option (Bool) := if a0_0 = a1_0 then (if (a0_1 == a1_1) = true then (some (a0_2 == a1_2)) else (some false)) else (some false)
set_option maxHeartbeats 8000000 in
set_option maxRecDepth 100000 in
theorem corrieref14_Equal.calls (a0_0 : Int) (a0_1 : Bool) (a0_2 : Int) (A0_3 : Option Addr) (c0_3 : Nat) (l0_3 : List (S53)) (a1_0 : Int) (a1_1 : Bool) (a1_2 : Int) (A1_3 : Option Addr) (c1_3 : Nat) (l1_3 : List (S53)) (r : Bool) (w : World) (hr0_3 : Kd.C k53 w A0_3 l0_3.length l0_3) (hc0_3 : l0_3.length ≤ c0_3) (hr1_3 : Kd.C k53 w A1_3 l1_3.length l1_3) (hc1_3 : l1_3.length ≤ c1_3) (h : corrieref14_Equal.f a0_0 a0_1 a0_2 l0_3 a1_0 a1_1 a1_2 l1_3 = some r) :
    Calls Try.prog 12 #[.agg #[.int .i64 a0_0, .bool a0_1, .int .u64 a0_2, .slice A0_3 l0_3.length c0_3], .agg #[.int .i64 a1_0, .bool a1_1, .int .u64 a1_2, .slice A1_3 l1_3.length c1_3]] w fun e w' => e = .returned (.bool r) ∧ Below w.heap.size w w' := by
  have hu30 := Try.underlying30
  have HR0_3 := Aside0.mk hr0_3
  have HC0_3 := Aside0.mk hc0_3
  clear hr0_3 hc0_3
  have HR1_3 := Aside0.mk hr1_3
  have HC1_3 := Aside0.mk hc1_3
  clear hr1_3 hc1_3
  have HB := Aside0.mk (Below.refl w.heap.size w)
  have H : (if a0_0 = a1_0 then (if (a0_1 == a1_1) = true then (some (a0_2 == a1_2)) else (some false)) else (some false)) = some r := h
  clear h
  by_cases c3 : a0_0 = a1_0
  · rw [if_pos c3] at H
    have c3b0 : (a0_0 == a1_0) = true := beq_iff_eq.mpr c3
    have c3b1 : (a0_0 != a1_0) = false := bne_eq_false_iff_eq.mpr c3
    clear c3
    by_cases c4 : (a0_1 == a1_1) = true
    · rw [if_pos c4] at H
      have c4b0 : (a0_1 == a1_1) = true := c4
      (try (have c4b1 : decide (a0_1 = a1_1) = true := by simpa using c4))
      (try (have c4b2 : (a0_1 == a1_1) = true := by simpa using c4))
      clear c4
      obtain rfl := Option.some.inj H
      go_enter Try.func12, Try.ntmps12
      go_wp2_with (first | ((with_reducible refine gate_dst (N := 2) rfl ?_); refine box_event ?hg (N := 2) ?hd (cs := #[.int .i64 a0_0, .bool a0_1, .int .u64 a0_2, .slice A0_3 l0_3.length c0_3]) (t := 30) ?hr ?_; (case hd => rfl); (case hg => rfl); (case hr => first | (go_simp; done) | (go_simp; rfl)); intro gb120 hg w5 hbox hb; have n0_ := Aside0.mk (below_step (by repeat (first | (with_reducible first | exact HB.out | apply below_alloc | apply pw_below_drewN | apply below_drew1) | exact HB.out)) hb); have n1_ := Aside0.mk (hbox); have n2_ := Aside0.mk ((by rw [hg]; exact (below_size (by repeat (first | (with_reducible first | exact HB.out | apply below_alloc | apply pw_below_drewN | apply below_drew1) | exact HB.out))) : w.heap.size ≤ gb120)); have n3_ := Aside0.mk ((by rw [hg]; exact (below_size (by repeat (first | (with_reducible first | exact HB.out | apply below_alloc | apply pw_below_drewN | apply below_drew1) | exact HB.out))) : w.heap.size ≤ gb120)); clear HB; have HB := n0_; have BK120 := n1_; have GW120 := n2_; have GE120 := n3_; clear n0_ n1_ n2_ n3_; clear hb hbox hg) | ((with_reducible refine gate_dst (N := 3) rfl ?_); refine box_event ?hg (N := 3) ?hd (cs := #[.int .i64 a1_0, .bool a1_1, .int .u64 a1_2, .slice A1_3 l1_3.length c1_3]) (t := 30) ?hr ?_; (case hd => rfl); (case hg => rfl); (case hr => first | (go_simp; done) | (go_simp; rfl)); intro gb121 hg w6 hbox hb; have n0_ := Aside0.mk (blk_below (g := gb120) (o := .cells #[.int .i64 a0_0, .bool a0_1, .int .u64 a0_2, .slice A0_3 l0_3.length c0_3] 30 (0, 0)) (by (with_reducible repeat (first | refine blk_drewN ?_ _ | refine blk_drew ?_ | refine blk_alloc ?_ _)); exact BK120.out) hb); have n1_ := Aside0.mk (below_step (by repeat (first | (with_reducible first | exact HB.out | apply below_alloc | apply pw_below_drewN | apply below_drew1 | refine below_set ?_ GE120.out) | exact HB.out)) hb); have n2_ := Aside0.mk (hbox); have n3_ := Aside0.mk ((by rw [hg]; exact (below_size (by repeat (first | (with_reducible first | exact HB.out | apply below_alloc | apply pw_below_drewN | apply below_drew1 | refine below_set ?_ GE120.out) | exact HB.out))) : w.heap.size ≤ gb121)); have n4_ := Aside0.mk ((by rw [hg]; exact (below_size (by repeat (first | (with_reducible first | exact HB.out | apply below_alloc | apply pw_below_drewN | apply below_drew1 | refine below_set ?_ GE120.out) | exact HB.out))) : w.heap.size ≤ gb121)); have n5_ := Aside0.mk ((by rw [hg]; exact Nat.ne_of_lt (blk_lt (g := gb120) (o := .cells #[.int .i64 a0_0, .bool a0_1, .int .u64 a0_2, .slice A0_3 l0_3.length c0_3] 30 (0, 0)) (by (with_reducible repeat (first | refine blk_drewN ?_ _ | refine blk_drew ?_ | refine blk_alloc ?_ _)); exact BK120.out)) : gb120 ≠ gb121)); have n6_ := Aside0.mk ((by rw [hg]; exact Nat.ne_of_gt (blk_lt (g := gb120) (o := .cells #[.int .i64 a0_0, .bool a0_1, .int .u64 a0_2, .slice A0_3 l0_3.length c0_3] 30 (0, 0)) (by (with_reducible repeat (first | refine blk_drewN ?_ _ | refine blk_drew ?_ | refine blk_alloc ?_ _)); exact BK120.out)) : gb121 ≠ gb120)); clear BK120; clear HB; have BK120 := n0_; have HB := n1_; have BK121 := n2_; have GW121 := n3_; have GE121 := n4_; have NB120_121 := n5_; have NB121_120 := n6_; clear n0_ n1_ n2_ n3_ n4_ n5_ n6_; clear hb hbox hg; have hnb7 := NB120_121.out; have hnc7 := NB121_120.out; have hcz8_0 : w6.cell? ⟨gb120, 0, none⟩ = some (.int .i64 a0_0) := (blk_cell BK120.out 0).trans rfl; have hcz8_1 : w6.cell? ⟨gb120, 1, none⟩ = some (.bool a0_1) := (blk_cell BK120.out 1).trans rfl; have hcz8_2 : w6.cell? ⟨gb120, 2, none⟩ = some (.int .u64 a0_2) := (blk_cell BK120.out 2).trans rfl; have hcz8_3 : w6.cell? ⟨gb120, 3, none⟩ = some (.slice A0_3 l0_3.length c0_3) := (blk_cell BK120.out 3).trans rfl; have hfz8_0 := blk_frozen BK120.out 0; have hfz8_1 := blk_frozen BK120.out 1; have hfz8_2 := blk_frozen BK120.out 2; have hfz8_3 := blk_frozen BK120.out 3; have hcz9_0 : w6.cell? ⟨gb121, 0, none⟩ = some (.int .i64 a1_0) := (blk_cell BK121.out 0).trans rfl; have hcz9_1 : w6.cell? ⟨gb121, 1, none⟩ = some (.bool a1_1) := (blk_cell BK121.out 1).trans rfl; have hcz9_2 : w6.cell? ⟨gb121, 2, none⟩ = some (.int .u64 a1_2) := (blk_cell BK121.out 2).trans rfl; have hcz9_3 : w6.cell? ⟨gb121, 3, none⟩ = some (.slice A1_3 l1_3.length c1_3) := (blk_cell BK121.out 3).trans rfl; have hfz9_0 := blk_frozen BK121.out 0; have hfz9_1 := blk_frozen BK121.out 1; have hfz9_2 := blk_frozen BK121.out 2; have hfz9_3 := blk_frozen BK121.out 3))
      go_ret
      exact ⟨by first | rfl | (simp [errW_none, errW_some] <;> rfl) | (simp [*, errW_none, errW_some] <;> rfl), by repeat (first | (with_reducible first | exact HB.out | apply below_alloc | apply pw_below_drewN | apply below_drew1 | refine below_set ?_ GE120.out | refine below_set ?_ GE121.out) | exact HB.out)⟩
    · rw [if_neg c4] at H
      have c4b0 : (a0_1 == a1_1) = false := by simpa using c4
      (try (have c4b1 : decide (a0_1 = a1_1) = false := by simpa using c4))
      (try (have c4b2 : (a0_1 == a1_1) = false := by simpa using c4))
      (try (have c4b3 : ¬ (a0_1 = a1_1) := by simpa using c4))
      clear c4
      obtain rfl := Option.some.inj H
      go_enter Try.func12, Try.ntmps12
      go_wp2_with (first | ((with_reducible refine gate_dst (N := 2) rfl ?_); refine box_event ?hg (N := 2) ?hd (cs := #[.int .i64 a0_0, .bool a0_1, .int .u64 a0_2, .slice A0_3 l0_3.length c0_3]) (t := 30) ?hr ?_; (case hd => rfl); (case hg => rfl); (case hr => first | (go_simp; done) | (go_simp; rfl)); intro gb120 hg w10 hbox hb; have n0_ := Aside0.mk (below_step (by repeat (first | (with_reducible first | exact HB.out | apply below_alloc | apply pw_below_drewN | apply below_drew1) | exact HB.out)) hb); have n1_ := Aside0.mk (hbox); have n2_ := Aside0.mk ((by rw [hg]; exact (below_size (by repeat (first | (with_reducible first | exact HB.out | apply below_alloc | apply pw_below_drewN | apply below_drew1) | exact HB.out))) : w.heap.size ≤ gb120)); have n3_ := Aside0.mk ((by rw [hg]; exact (below_size (by repeat (first | (with_reducible first | exact HB.out | apply below_alloc | apply pw_below_drewN | apply below_drew1) | exact HB.out))) : w.heap.size ≤ gb120)); clear HB; have HB := n0_; have BK120 := n1_; have GW120 := n2_; have GE120 := n3_; clear n0_ n1_ n2_ n3_; clear hb hbox hg) | ((with_reducible refine gate_dst (N := 3) rfl ?_); refine box_event ?hg (N := 3) ?hd (cs := #[.int .i64 a1_0, .bool a1_1, .int .u64 a1_2, .slice A1_3 l1_3.length c1_3]) (t := 30) ?hr ?_; (case hd => rfl); (case hg => rfl); (case hr => first | (go_simp; done) | (go_simp; rfl)); intro gb121 hg w11 hbox hb; have n0_ := Aside0.mk (blk_below (g := gb120) (o := .cells #[.int .i64 a0_0, .bool a0_1, .int .u64 a0_2, .slice A0_3 l0_3.length c0_3] 30 (0, 0)) (by (with_reducible repeat (first | refine blk_drewN ?_ _ | refine blk_drew ?_ | refine blk_alloc ?_ _)); exact BK120.out) hb); have n1_ := Aside0.mk (below_step (by repeat (first | (with_reducible first | exact HB.out | apply below_alloc | apply pw_below_drewN | apply below_drew1 | refine below_set ?_ GE120.out) | exact HB.out)) hb); have n2_ := Aside0.mk (hbox); have n3_ := Aside0.mk ((by rw [hg]; exact (below_size (by repeat (first | (with_reducible first | exact HB.out | apply below_alloc | apply pw_below_drewN | apply below_drew1 | refine below_set ?_ GE120.out) | exact HB.out))) : w.heap.size ≤ gb121)); have n4_ := Aside0.mk ((by rw [hg]; exact (below_size (by repeat (first | (with_reducible first | exact HB.out | apply below_alloc | apply pw_below_drewN | apply below_drew1 | refine below_set ?_ GE120.out) | exact HB.out))) : w.heap.size ≤ gb121)); have n5_ := Aside0.mk ((by rw [hg]; exact Nat.ne_of_lt (blk_lt (g := gb120) (o := .cells #[.int .i64 a0_0, .bool a0_1, .int .u64 a0_2, .slice A0_3 l0_3.length c0_3] 30 (0, 0)) (by (with_reducible repeat (first | refine blk_drewN ?_ _ | refine blk_drew ?_ | refine blk_alloc ?_ _)); exact BK120.out)) : gb120 ≠ gb121)); have n6_ := Aside0.mk ((by rw [hg]; exact Nat.ne_of_gt (blk_lt (g := gb120) (o := .cells #[.int .i64 a0_0, .bool a0_1, .int .u64 a0_2, .slice A0_3 l0_3.length c0_3] 30 (0, 0)) (by (with_reducible repeat (first | refine blk_drewN ?_ _ | refine blk_drew ?_ | refine blk_alloc ?_ _)); exact BK120.out)) : gb121 ≠ gb120)); clear BK120; clear HB; have BK120 := n0_; have HB := n1_; have BK121 := n2_; have GW121 := n3_; have GE121 := n4_; have NB120_121 := n5_; have NB121_120 := n6_; clear n0_ n1_ n2_ n3_ n4_ n5_ n6_; clear hb hbox hg; have hnb12 := NB120_121.out; have hnc12 := NB121_120.out; have hcz13_0 : w11.cell? ⟨gb120, 0, none⟩ = some (.int .i64 a0_0) := (blk_cell BK120.out 0).trans rfl; have hcz13_1 : w11.cell? ⟨gb120, 1, none⟩ = some (.bool a0_1) := (blk_cell BK120.out 1).trans rfl; have hcz13_2 : w11.cell? ⟨gb120, 2, none⟩ = some (.int .u64 a0_2) := (blk_cell BK120.out 2).trans rfl; have hcz13_3 : w11.cell? ⟨gb120, 3, none⟩ = some (.slice A0_3 l0_3.length c0_3) := (blk_cell BK120.out 3).trans rfl; have hfz13_0 := blk_frozen BK120.out 0; have hfz13_1 := blk_frozen BK120.out 1; have hfz13_2 := blk_frozen BK120.out 2; have hfz13_3 := blk_frozen BK120.out 3; have hcz14_0 : w11.cell? ⟨gb121, 0, none⟩ = some (.int .i64 a1_0) := (blk_cell BK121.out 0).trans rfl; have hcz14_1 : w11.cell? ⟨gb121, 1, none⟩ = some (.bool a1_1) := (blk_cell BK121.out 1).trans rfl; have hcz14_2 : w11.cell? ⟨gb121, 2, none⟩ = some (.int .u64 a1_2) := (blk_cell BK121.out 2).trans rfl; have hcz14_3 : w11.cell? ⟨gb121, 3, none⟩ = some (.slice A1_3 l1_3.length c1_3) := (blk_cell BK121.out 3).trans rfl; have hfz14_0 := blk_frozen BK121.out 0; have hfz14_1 := blk_frozen BK121.out 1; have hfz14_2 := blk_frozen BK121.out 2; have hfz14_3 := blk_frozen BK121.out 3))
      go_ret
      exact ⟨by first | rfl | (simp [errW_none, errW_some] <;> rfl) | (simp [*, errW_none, errW_some] <;> rfl), by repeat (first | (with_reducible first | exact HB.out | apply below_alloc | apply pw_below_drewN | apply below_drew1 | refine below_set ?_ GE120.out | refine below_set ?_ GE121.out) | exact HB.out)⟩
  · rw [if_neg c3] at H
    have c3b0 : (a0_0 == a1_0) = false := beq_eq_false_iff_ne.mpr c3
    have c3b1 : (a0_0 != a1_0) = true := bne_iff_ne.mpr c3
    obtain rfl := Option.some.inj H
    go_enter Try.func12, Try.ntmps12
    go_wp2_with (first | ((with_reducible refine gate_dst (N := 2) rfl ?_); refine box_event ?hg (N := 2) ?hd (cs := #[.int .i64 a0_0, .bool a0_1, .int .u64 a0_2, .slice A0_3 l0_3.length c0_3]) (t := 30) ?hr ?_; (case hd => rfl); (case hg => rfl); (case hr => first | (go_simp; done) | (go_simp; rfl)); intro gb120 hg w15 hbox hb; have n0_ := Aside0.mk (below_step (by repeat (first | (with_reducible first | exact HB.out | apply below_alloc | apply pw_below_drewN | apply below_drew1) | exact HB.out)) hb); have n1_ := Aside0.mk (hbox); have n2_ := Aside0.mk ((by rw [hg]; exact (below_size (by repeat (first | (with_reducible first | exact HB.out | apply below_alloc | apply pw_below_drewN | apply below_drew1) | exact HB.out))) : w.heap.size ≤ gb120)); have n3_ := Aside0.mk ((by rw [hg]; exact (below_size (by repeat (first | (with_reducible first | exact HB.out | apply below_alloc | apply pw_below_drewN | apply below_drew1) | exact HB.out))) : w.heap.size ≤ gb120)); clear HB; have HB := n0_; have BK120 := n1_; have GW120 := n2_; have GE120 := n3_; clear n0_ n1_ n2_ n3_; clear hb hbox hg) | ((with_reducible refine gate_dst (N := 3) rfl ?_); refine box_event ?hg (N := 3) ?hd (cs := #[.int .i64 a1_0, .bool a1_1, .int .u64 a1_2, .slice A1_3 l1_3.length c1_3]) (t := 30) ?hr ?_; (case hd => rfl); (case hg => rfl); (case hr => first | (go_simp; done) | (go_simp; rfl)); intro gb121 hg w16 hbox hb; have n0_ := Aside0.mk (blk_below (g := gb120) (o := .cells #[.int .i64 a0_0, .bool a0_1, .int .u64 a0_2, .slice A0_3 l0_3.length c0_3] 30 (0, 0)) (by (with_reducible repeat (first | refine blk_drewN ?_ _ | refine blk_drew ?_ | refine blk_alloc ?_ _)); exact BK120.out) hb); have n1_ := Aside0.mk (below_step (by repeat (first | (with_reducible first | exact HB.out | apply below_alloc | apply pw_below_drewN | apply below_drew1 | refine below_set ?_ GE120.out) | exact HB.out)) hb); have n2_ := Aside0.mk (hbox); have n3_ := Aside0.mk ((by rw [hg]; exact (below_size (by repeat (first | (with_reducible first | exact HB.out | apply below_alloc | apply pw_below_drewN | apply below_drew1 | refine below_set ?_ GE120.out) | exact HB.out))) : w.heap.size ≤ gb121)); have n4_ := Aside0.mk ((by rw [hg]; exact (below_size (by repeat (first | (with_reducible first | exact HB.out | apply below_alloc | apply pw_below_drewN | apply below_drew1 | refine below_set ?_ GE120.out) | exact HB.out))) : w.heap.size ≤ gb121)); have n5_ := Aside0.mk ((by rw [hg]; exact Nat.ne_of_lt (blk_lt (g := gb120) (o := .cells #[.int .i64 a0_0, .bool a0_1, .int .u64 a0_2, .slice A0_3 l0_3.length c0_3] 30 (0, 0)) (by (with_reducible repeat (first | refine blk_drewN ?_ _ | refine blk_drew ?_ | refine blk_alloc ?_ _)); exact BK120.out)) : gb120 ≠ gb121)); have n6_ := Aside0.mk ((by rw [hg]; exact Nat.ne_of_gt (blk_lt (g := gb120) (o := .cells #[.int .i64 a0_0, .bool a0_1, .int .u64 a0_2, .slice A0_3 l0_3.length c0_3] 30 (0, 0)) (by (with_reducible repeat (first | refine blk_drewN ?_ _ | refine blk_drew ?_ | refine blk_alloc ?_ _)); exact BK120.out)) : gb121 ≠ gb120)); clear BK120; clear HB; have BK120 := n0_; have HB := n1_; have BK121 := n2_; have GW121 := n3_; have GE121 := n4_; have NB120_121 := n5_; have NB121_120 := n6_; clear n0_ n1_ n2_ n3_ n4_ n5_ n6_; clear hb hbox hg; have hnb17 := NB120_121.out; have hnc17 := NB121_120.out; have hcz18_0 : w16.cell? ⟨gb120, 0, none⟩ = some (.int .i64 a0_0) := (blk_cell BK120.out 0).trans rfl; have hcz18_1 : w16.cell? ⟨gb120, 1, none⟩ = some (.bool a0_1) := (blk_cell BK120.out 1).trans rfl; have hcz18_2 : w16.cell? ⟨gb120, 2, none⟩ = some (.int .u64 a0_2) := (blk_cell BK120.out 2).trans rfl; have hcz18_3 : w16.cell? ⟨gb120, 3, none⟩ = some (.slice A0_3 l0_3.length c0_3) := (blk_cell BK120.out 3).trans rfl; have hfz18_0 := blk_frozen BK120.out 0; have hfz18_1 := blk_frozen BK120.out 1; have hfz18_2 := blk_frozen BK120.out 2; have hfz18_3 := blk_frozen BK120.out 3; have hcz19_0 : w16.cell? ⟨gb121, 0, none⟩ = some (.int .i64 a1_0) := (blk_cell BK121.out 0).trans rfl; have hcz19_1 : w16.cell? ⟨gb121, 1, none⟩ = some (.bool a1_1) := (blk_cell BK121.out 1).trans rfl; have hcz19_2 : w16.cell? ⟨gb121, 2, none⟩ = some (.int .u64 a1_2) := (blk_cell BK121.out 2).trans rfl; have hcz19_3 : w16.cell? ⟨gb121, 3, none⟩ = some (.slice A1_3 l1_3.length c1_3) := (blk_cell BK121.out 3).trans rfl; have hfz19_0 := blk_frozen BK121.out 0; have hfz19_1 := blk_frozen BK121.out 1; have hfz19_2 := blk_frozen BK121.out 2; have hfz19_3 := blk_frozen BK121.out 3))
    go_ret
    exact ⟨by first | rfl | (simp [errW_none, errW_some] <;> rfl) | (simp [*, errW_none, errW_some] <;> rfl), by repeat (first | (with_reducible first | exact HB.out | apply below_alloc | apply pw_below_drewN | apply below_drew1 | refine below_set ?_ GE120.out | refine below_set ?_ GE121.out) | exact HB.out)⟩

/-! ### corrielaw21_LinApply: function 3 (by hand) -/
def RF (l : List S53) (i : Nat) : Prop := ∀ j, i ≤ j → j < l.length → 0 < j → (rd_T53 l ((j : Nat) - 1 : Int)).f0 < (rd_T53 l (j : Int)).f0
theorem rf_rising {l : List S53} : RF l 1 ↔ Rising l := by
  constructor
  · intro h
    have step : ∀ j (hj : j + 1 < l.length), l[j].f0 < l[j + 1].f0 := by
      intro j hj
      have := h (j + 1) (by omega) hj (by omega)
      rw [show (((j + 1 : Nat) : Int) - 1) = (j : Int) from by omega, li_rd _ _ (by omega), li_rd _ _ hj] at this
      exact this
    refine List.pairwise_iff_getElem.mpr fun i j hi hj hij => ?_
    obtain ⟨d, rfl⟩ : ∃ d, j = i + 1 + d := ⟨j - i - 1, by omega⟩
    induction d with
    | zero => exact step i hj
    | succ d ih => exact Int.lt_trans (ih (by omega) (by omega)) (step (i + 1 + d) hj)
  · intro h j h1 h2 h3
    rw [show ((j : Int) - 1) = ((j - 1 : Nat) : Int) from by omega, li_rd _ _ (by omega), li_rd _ _ h2]
    exact rising_lt h (j - 1) j (by omega) h2
theorem rises_l (l : List S53) (hl : l.length ≤ 1000000) : ∀ (d i k : Nat), l.length - i = d → 1 ≤ i → i ≤ l.length + 1 → d < k → ∃ b, corrielaw21_rises.l0 k l (i : Int) = some b ∧ (b = true ↔ RF l i) := by
  intro d
  induction d with
  | zero =>
    intro i k hd h1 h2 hk
    obtain ⟨k, rfl⟩ : ∃ m, k = m + 1 := ⟨k - 1, by omega⟩
    simp only [corrielaw21_rises.l0]
    rw [if_neg (by omega)]
    exact ⟨true, rfl, by simp only [true_iff]; intro j hj hjl _; omega⟩
  | succ d ih =>
    intro i k hd h1 h2 hk
    obtain ⟨k, rfl⟩ : ∃ m, k = m + 1 := ⟨k - 1, by omega⟩
    have w1 : wrap64 ((i : Int) - 1) = (i : Int) - 1 := by unfold wrap64; omega
    have w2 : wrap64 ((i : Int) + 1) = ((i + 1 : Nat) : Int) := by unfold wrap64; omega
    simp only [corrielaw21_rises.l0]
    rw [if_pos (by omega), if_pos (by omega), w1, if_pos (by omega), if_pos (by omega)]
    by_cases c : (rd_T53 l (i : Int)).f0 ≤ (rd_T53 l ((i : Int) - 1)).f0
    · rw [if_pos c]
      refine ⟨false, rfl, ?_⟩
      simp only [Bool.false_eq_true, false_iff]
      intro h
      have := h i (Nat.le_refl _) (by omega) (by omega)
      omega
    · rw [if_neg c, w2]
      obtain ⟨b, hb, hbb⟩ := ih (i + 1) k (by omega) (by omega) (by omega) (by omega)
      refine ⟨b, hb, hbb.trans ⟨fun h j hj hjl h0 => ?_, fun h j hj hjl h0 => h j (by omega) hjl h0⟩⟩
      rcases Nat.lt_or_ge i j with h3 | h3
      · exact h j h3 hjl h0
      · have : j = i := by omega
        subst this
        omega
instance rising_dec (l : List S53) : Decidable (Rising l) := inferInstanceAs (Decidable (l.Pairwise _))
def risesB (l : List S53) : Bool := decide (Rising l)
theorem li_rises (A : Option Addr) (c : Nat) (l : List S53) (hl : l.length ≤ 1000000) (hc : l.length ≤ c) (W : World) (hr : Kd.C k53 W A l.length l) : Calls Try.prog 8 #[.slice A l.length c] W fun e w' => e = .returned (.bool (risesB l)) ∧ Below W.heap.size W w' := by
  obtain ⟨b, hb, hbb⟩ := rises_l l hl (l.length - 1) 1 (l.length + 1) rfl (Nat.le_refl _) (by omega) (by omega)
  refine (corrielaw21_rises.calls (l.length + 1) A c l b W hr hc hb).mono ?_
  rintro e w' ⟨rfl, hd⟩
  have e1 : b = risesB l := by
    have h2 := hbb.trans rf_rising
    unfold risesB
    cases b with
    | true => exact (decide_eq_true (h2.mp rfl)).symm
    | false => exact (decide_eq_false (fun h => by have := h2.mpr h; cases this)).symm
  rw [e1]
  exact ⟨rfl, hd.below⟩
theorem same_l (l : List S53) (hl : l.length ≤ 1000000) : ∀ (d i k : Nat), l.length - i = d → i ≤ l.length → d < k → corrieref09_Same.l0 k l l (i : Int) = some true := by
  intro d
  induction d with
  | zero =>
    intro i k hd h2 hk
    obtain ⟨k, rfl⟩ : ∃ m, k = m + 1 := ⟨k - 1, by omega⟩
    simp only [corrieref09_Same.l0]
    rw [if_neg (by omega)]
  | succ d ih =>
    intro i k hd h2 hk
    obtain ⟨k, rfl⟩ : ∃ m, k = m + 1 := ⟨k - 1, by omega⟩
    have w2 : wrap64 ((i : Int) + 1) = ((i + 1 : Nat) : Int) := by unfold wrap64; omega
    simp only [corrieref09_Same.l0]
    rw [if_pos (by omega), if_pos (by omega), if_pos (by omega), if_neg (by simp), w2]
    exact ih (i + 1) k (by omega) (by omega) (by omega)
theorem li_Same (A B : Option Addr) (c d : Nat) (l : List S53) (hl : l.length ≤ 1000000) (hc : l.length ≤ c) (hd : l.length ≤ d) (W : World) (hr : Kd.C k53 W A l.length l) (hs : Kd.C k53 W B l.length l) : Calls Try.prog 11 #[.slice A l.length c, .slice B l.length d] W fun e w' => e = .returned (.bool true) ∧ Below W.heap.size W w' := by
  have h : corrieref09_Same.f (l.length + 1) l l = some true := by
    unfold corrieref09_Same.f
    rw [if_pos rfl]
    exact same_l l hl l.length 0 (l.length + 1) rfl (Nat.zero_le _) (by omega)
  refine (corrieref09_Same.calls (l.length + 1) A c l B d l true W hr hc hs hd h).mono ?_
  rintro e w' ⟨rfl, hq⟩
  exact ⟨rfl, by first | exact hq | exact hq.below⟩
theorem li_Equal (b : Bool) (v : Int) (W : World) : Calls Try.prog 12 #[.agg #[.int .i64 0, .bool b, .int .u64 v, .slice none 0 0], .agg #[.int .i64 0, .bool b, .int .u64 v, .slice none 0 0]] W fun e w' => e = .returned (.bool true) ∧ Below W.heap.size W w' := by
  refine (corrieref14_Equal.calls 0 b v none 0 [] 0 b v none 0 [] true W (Kd.C_nil _ _) (Nat.le_refl _) (Kd.C_nil _ _) (Nat.le_refl _) ?_).mono ?_
  · unfold corrieref14_Equal.f
    rw [if_pos rfl, if_pos (by simp)]
    simp
  · rintro e w' ⟨rfl, hq⟩
    exact ⟨rfl, by first | exact hq | exact hq.below⟩
theorem li_ev0m {ops : Array Oper} {rest : List Oper} {o : Oper} {a : Act} {Q : Exit → Act → World → Prop} {l : List S53} (hl : l = []) (hgd : o.guard = none) (s x : Operand) (ho : o.op = .call { callee := .builtin .append, args := #[s, x], argTypes := #[22, 22] }) {w : World} {c : Nat}
    (hs : a.eval s = .slice (some ⟨w.heap.size, 0, none⟩) 0 0) (hx : a.eval x = .slice none l.length c)
    (h : ∀ v' w', OW w' w.heap.size v' l → Below w.heap.size w w' → wpList Try.prog ops Q rest (a.put o.dst v') w') : wpList Try.prog ops Q (o :: rest) a (w.alloc (.cells #[] 53)) := by
  subst hl
  exact li_ev0n hgd s x ho hs hx h
set_option maxHeartbeats 8000000 in
set_option maxRecDepth 100000 in
theorem li_la_long (A : Option Addr) (c : Nat) (l : List S53) (a0 a1 a2 a3 : Int) (W : World) (hr : Kd.C k53 W A l.length l) (hc : l.length ≤ c) (hl : l.length > 20) :
    Calls Try.prog 3 #[.slice A l.length c, .agg #[.int .i64 a0, .int .u64 a1, .int .u64 a2, .int .i64 a3]] W fun e w' => e = .returned (.bool true) ∧ Below W.heap.size W w' := by
  have HR := Aside0.mk hr
  have HC := Aside0.mk hc
  have HB := Aside0.mk (Below.refl W.heap.size W)
  have hlb : decide ((l.length : Int) > 20) = true := decide_eq_true (by omega)
  have hlb2 : ((20 : Int) < (l.length : Int)) := by omega
  clear hl
  clear hr hc
  go_enter Try.func3, Try.ntmps3
  go_wp2_with (first | ((with_reducible refine gate_dst (N := 3) rfl ?_); refine box_event ?hg1 (N := 3) ?hd1 (cs := #[.int .i64 a0, .int .u64 a1, .int .u64 a2, .int .i64 a3]) (t := 25) ?hr1 ?_; (case hd1 => rfl); (case hg1 => rfl); (case hr1 => first | (go_simp; done) | (go_simp; rfl)); intro g1 hg w1_ hbox hbk; have HGB1 := Aside0.mk (show W.heap.size ≤ g1 from by rw [hg]; have := HB.out.size; omega); have n_HB := Aside0.mk (below_step HB.out hbk); clear HB; have HB := n_HB; clear n_HB; have B1 := Aside0.mk hbox; clear hbk hbox hg) | (go_at_call 7; (with_reducible refine (li_awake _).mono ?_); rintro e u2_ ⟨rfl, hbk⟩; have n_HB := Aside0.mk (below_step HB.out hbk); have n_B1 := Aside0.mk (blk_below B1.out hbk); clear HB B1; have HB := n_HB; have B1 := n_B1; clear n_HB n_B1; clear hbk) | (go_at_call 8; (with_reducible refine (li_rises A c l (by omega) HC.out _ (Kd.C_below HR.out HB.out)).mono ?_); rintro e u3_ ⟨rfl, hbk⟩; have n_HB := Aside0.mk (below_step HB.out hbk); have n_B1 := Aside0.mk (blk_below B1.out hbk); clear HB B1; have HB := n_HB; have B1 := n_B1; clear n_HB n_B1; clear hbk))
  go_ret
  exact ⟨rfl, HB.out⟩
set_option maxHeartbeats 8000000 in
set_option maxRecDepth 100000 in
theorem li_la_no (A : Option Addr) (c : Nat) (l : List S53) (a0 a1 a2 a3 : Int) (W : World) (hr : Kd.C k53 W A l.length l) (hc : l.length ≤ c) (hl : l.length ≤ 20) (hq : risesB l = false) :
    Calls Try.prog 3 #[.slice A l.length c, .agg #[.int .i64 a0, .int .u64 a1, .int .u64 a2, .int .i64 a3]] W fun e w' => e = .returned (.bool true) ∧ Below W.heap.size W w' := by
  have HR := Aside0.mk hr
  have HC := Aside0.mk hc
  have HB := Aside0.mk (Below.refl W.heap.size W)
  have HL := Aside0.mk hl
  have hlb : decide ((l.length : Int) > 20) = false := decide_eq_false (by omega)
  have hlb2 : ¬ ((20 : Int) < (l.length : Int)) := by omega
  clear hl
  clear hr hc
  go_enter Try.func3, Try.ntmps3
  go_wp2_with (first | ((with_reducible refine gate_dst (N := 3) rfl ?_); refine box_event ?hg4 (N := 3) ?hd4 (cs := #[.int .i64 a0, .int .u64 a1, .int .u64 a2, .int .i64 a3]) (t := 25) ?hr4 ?_; (case hd4 => rfl); (case hg4 => rfl); (case hr4 => first | (go_simp; done) | (go_simp; rfl)); intro g1 hg w1_ hbox hbk; have HGB1 := Aside0.mk (show W.heap.size ≤ g1 from by rw [hg]; have := HB.out.size; omega); have n_HB := Aside0.mk (below_step HB.out hbk); clear HB; have HB := n_HB; clear n_HB; have B1 := Aside0.mk hbox; clear hbk hbox hg) | (go_at_call 7; (with_reducible refine (li_awake _).mono ?_); rintro e u2_ ⟨rfl, hbk⟩; have n_HB := Aside0.mk (below_step HB.out hbk); have n_B1 := Aside0.mk (blk_below B1.out hbk); clear HB B1; have HB := n_HB; have B1 := n_B1; clear n_HB n_B1; clear hbk) | (go_at_call 8; (with_reducible refine (li_rises A c l (by have := HL.out; omega) HC.out _ (Kd.C_below HR.out HB.out)).mono ?_); rintro e u3_ ⟨rfl, hbk⟩; have n_HB := Aside0.mk (below_step HB.out hbk); have n_B1 := Aside0.mk (blk_below B1.out hbk); clear HB B1; have HB := n_HB; have B1 := n_B1; clear n_HB n_B1; clear hbk))
  go_ret
  exact ⟨rfl, HB.out⟩
set_option maxHeartbeats 8000000 in
set_option maxRecDepth 100000 in
theorem li_la_nil (A : Option Addr) (c : Nat) (l : List S53) (a0 a1 a2 a3 : Int) (W : World) (hr : Kd.C k53 W A l.length l) (hc : l.length ≤ c) (hl : l.length ≤ 20) (hq : risesB l = true) (hA : A = none) (hnil : l = []) :
    Calls Try.prog 3 #[.slice A l.length c, .agg #[.int .i64 a0, .int .u64 a1, .int .u64 a2, .int .i64 a3]] W fun e w' => e = .returned (.bool true) ∧ Below W.heap.size W w' := by
  have HR := Aside0.mk hr
  have HC := Aside0.mk hc
  have HB := Aside0.mk (Below.refl W.heap.size W)
  subst hA
  have HNIL := Aside0.mk hnil
  clear hnil
  have HRS := Aside0.mk (show Rising l from of_decide_eq_true hq)
  have HLA := Aside0.mk (show (apL l a0 a1 a2).length ≤ 1000000 from by have := apL_len l a0 a1 a2; omega)
  have hra : risesB (apL l a0 a1 a2) = true := decide_eq_true (rising_apL _ _ _ HRS.out)
  have HL := Aside0.mk hl
  have hlb : decide ((l.length : Int) > 20) = false := decide_eq_false (by omega)
  have hlb2 : ¬ ((20 : Int) < (l.length : Int)) := by omega
  clear hl
  clear hr hc
  go_enter Try.func3, Try.ntmps3
  go_wp2_with (first | ((with_reducible refine gate_dst (N := 3) rfl ?_); refine box_event ?hg7 (N := 3) ?hd7 (cs := #[.int .i64 a0, .int .u64 a1, .int .u64 a2, .int .i64 a3]) (t := 25) ?hr7 ?_; (case hd7 => rfl); (case hg7 => rfl); (case hr7 => first | (go_simp; done) | (go_simp; rfl)); intro g1 hg w1_ hbox hbk; have HGB1 := Aside0.mk (show W.heap.size ≤ g1 from by rw [hg]; have := HB.out.size; omega); have n_HB := Aside0.mk (below_step HB.out hbk); clear HB; have HB := n_HB; clear n_HB; have B1 := Aside0.mk hbox; clear hbk hbox hg) | (go_at_call 7; (with_reducible refine (li_awake _).mono ?_); rintro e u2_ ⟨rfl, hbk⟩; have n_HB := Aside0.mk (below_step HB.out hbk); have n_B1 := Aside0.mk (blk_below B1.out hbk); clear HB B1; have HB := n_HB; have B1 := n_B1; clear n_HB n_B1; clear hbk) | (go_at_call 8; (with_reducible refine (li_rises none c l (by have := HL.out; omega) HC.out _ (Kd.C_below HR.out HB.out)).mono ?_); rintro e u3_ ⟨rfl, hbk⟩; have n_HB := Aside0.mk (below_step HB.out hbk); have n_B1 := Aside0.mk (blk_below B1.out hbk); clear HB B1; have HB := n_HB; have B1 := n_B1; clear n_HB n_B1; clear hbk) | (refine li_ev0m (l := l) (c := c) HNIL.out rfl (.tmp 21) (.tmp 22) rfl rfl (by rfl) ?_; intro v6 w4_ ho hb6; have hbk := hb6; have n_HB := Aside0.mk (below_step HB.out hbk); have n_B1 := Aside0.mk (blk_below B1.out hbk); clear HB B1; have HB := n_HB; have B1 := n_B1; clear n_HB n_B1; clear hbk hb6; obtain ⟨A6, c6, rfl, hl6, hk6⟩ := OW.C ho; have hq : ∃ w6 : World, (Kd.C k53 w6 A6 l.length l ∧ l.length ≤ c6) ∧ Below w6.heap.size w6 w4_ := ⟨_, ⟨hk6, hl6⟩, Below.refl _ _⟩; obtain ⟨w6, ⟨q0, q1⟩, hbn⟩ := hq; have HK6 := Aside0.mk q0; have HL6 := Aside0.mk q1; have HB6 := Aside0.mk hbn; clear hbn q0 q1; clear ho hl6 hk6) | ((with_reducible refine gate_dst (N := 26) rfl ?_); refine wq_loadA (ty := 25) (p := .tmp 3) (g := g1) (i := 0) (k := 4) (vs := ?vs10) ?hgd10 ?ho10 ?hp10 Try.underlying25 ?hd10 ?hi10 B1.out ?hv10 ?hk10 ?_; (case hd10 => rfl); (case hi10 => kernel_rfl); (case hgd10 => rfl); (case ho10 => rfl); (case hp10 => rfl); (case hv10 => simp only [List.drop_succ_cons, List.drop_zero, List.take_succ_cons, List.take_zero, List.take_nil, List.drop_nil]; with_reducible rfl); (case hk10 => rfl)) | (go_at_call 9; (with_reducible refine (li_Apply none c l a0 a1 a2 a3 (by have := HL.out; omega) HRS.out _ (Kd.C_below HR.out HB.out)).mono ?_); rintro e u5_ ⟨v7, rfl, ho, hbk⟩; have n_HB := Aside0.mk (below_step HB.out hbk); have n_HB6 := Aside0.mk (below_step HB6.out hbk); have n_B1 := Aside0.mk (blk_below B1.out hbk); clear HB HB6 B1; have HB := n_HB; have HB6 := n_HB6; have B1 := n_B1; clear n_HB n_HB6 n_B1; clear hbk; obtain ⟨A7, c7, rfl, hl7, hk7⟩ := OW.C ho; have hq : ∃ w7 : World, (Kd.C k53 w7 A7 (apL l a0 a1 a2).length (apL l a0 a1 a2) ∧ (apL l a0 a1 a2).length ≤ c7) ∧ Below w7.heap.size w7 u5_ := ⟨_, ⟨hk7, hl7⟩, Below.refl _ _⟩; obtain ⟨w7, ⟨q0, q1⟩, hbn⟩ := hq; have HK7 := Aside0.mk q0; have HL7 := Aside0.mk q1; have HB7 := Aside0.mk hbn; clear hbn q0 q1; clear ho hl7 hk7) | ((with_reducible refine gate_dst (N := 8) rfl ?_); refine box_event ?hg12 (N := 8) ?hd12 (cs := #[.int .i64 0, .bool false, .int .u64 0, .slice none 0 0]) (t := 30) ?hr12 ?_; (case hd12 => rfl); (case hg12 => rfl); (case hr12 => first | (go_simp; done) | (go_simp; rfl)); intro g2 hg w6_ hbox hbk; have HGB2 := Aside0.mk (show g1 ≠ g2 ∧ W.heap.size ≤ g2 from by rw [hg]; have := blk_lt B1.out; have := HB.out.size; omega); have HFHB6B2 := Aside0.mk (show w6.heap.size ≤ g2 from by rw [hg]; exact HB6.out.size); have HFHB7B2 := Aside0.mk (show w7.heap.size ≤ g2 from by rw [hg]; exact HB7.out.size); have n_HB := Aside0.mk (below_step HB.out hbk); have n_HB6 := Aside0.mk (below_step HB6.out hbk); have n_HB7 := Aside0.mk (below_step HB7.out hbk); have n_B1 := Aside0.mk (blk_below B1.out hbk); clear HB HB6 HB7 B1; have HB := n_HB; have HB6 := n_HB6; have HB7 := n_HB7; have B1 := n_B1; clear n_HB n_HB6 n_HB7 n_B1; have B2 := Aside0.mk hbox; clear hbk hbox hg) | ((with_reducible refine gate_store (p := 8) rfl ?_); refine wq_store (ty := 30) (p := .tmp 8) (x := .tmp 29) (g := g2) (i := 0) (k := 4) (v := ?v13) (vs := ?vs13) (cs' := ?cs13) ?hgd13 ?hdst13 ?ho13 ?hp13 ?hx13 ?hvc13 ?hi13 ?hk13 ?h113 B2.out ?hsz13 ?hcs13 ?_; (case hi13 => kernel_rfl); (case hgd13 => rfl); (case hdst13 => rfl); (case ho13 => rfl); (case hp13 => rfl); (case hx13 => go_simp; with_reducible rfl); (case hvc13 => simp only [Value.cells]; with_reducible rfl); (case hk13 => rfl); (case h113 => rfl); (case hsz13 => exact Nat.le_of_ble_eq_true rfl); (case hcs13 => simp only [wqPut, List.setIfInBounds_toArray, List.set_cons_succ, List.set_cons_zero, Nat.reduceAdd]; with_reducible rfl); intro w7_ hb hgr; have n_HB := Aside0.mk (HB.out.grown hgr HB.out.size (fun k hk => by cases hk; exact HGB2.out.2)); have n_HB6 := Aside0.mk (HB6.out.grown hgr HB6.out.size (fun k hk => by cases hk; exact HFHB6B2.out)); have n_HB7 := Aside0.mk (HB7.out.grown hgr HB7.out.size (fun k hk => by cases hk; exact HFHB7B2.out)); have n_B1 := Aside0.mk (wq_blk B1.out hgr HGB2.out.1); have n_B2 := Aside0.mk hb; clear HB HB6 HB7 B1 B2 hb hgr; have HB := n_HB; have HB6 := n_HB6; have HB7 := n_HB7; have B1 := n_B1; have B2 := n_B2; clear n_HB n_HB6 n_HB7 n_B1 n_B2) | ((with_reducible refine gate_dst (N := 32) rfl ?_); refine wq_loadA (ty := 25) (p := .tmp 3) (g := g1) (i := 0) (k := 4) (vs := ?vs14) ?hgd14 ?ho14 ?hp14 Try.underlying25 ?hd14 ?hi14 B1.out ?hv14 ?hk14 ?_; (case hd14 => rfl); (case hi14 => kernel_rfl); (case hgd14 => rfl); (case ho14 => rfl); (case hp14 => rfl); (case hv14 => simp only [List.drop_succ_cons, List.drop_zero, List.take_succ_cons, List.take_zero, List.take_nil, List.drop_nil]; with_reducible rfl); (case hk14 => rfl)) | (go_at_call 10; (with_reducible refine (li_Told none c l a0 a1 a2 a3 (by have := HL.out; omega) HRS.out _ (Kd.C_below HR.out HB.out) HC.out).mono ?_); rintro e u8_ ⟨A9, c9, rfl, hl9, hk9, hbk⟩; have n_HB := Aside0.mk (below_step HB.out hbk); have n_HB6 := Aside0.mk (below_step HB6.out hbk); have n_HB7 := Aside0.mk (below_step HB7.out hbk); have n_B1 := Aside0.mk (blk_below B1.out hbk); have n_B2 := Aside0.mk (blk_below B2.out hbk); clear HB HB6 HB7 B1 B2; have HB := n_HB; have HB6 := n_HB6; have HB7 := n_HB7; have B1 := n_B1; have B2 := n_B2; clear n_HB n_HB6 n_HB7 n_B1 n_B2; clear hbk; have hq : ∃ w9 : World, (Kd.C k53 w9 A9 (apL l a0 a1 a2).length (apL l a0 a1 a2) ∧ (apL l a0 a1 a2).length ≤ c9) ∧ Below w9.heap.size w9 u8_ := ⟨_, ⟨hk9, hl9⟩, Below.refl _ _⟩; obtain ⟨w9, ⟨q0, q1⟩, hbn⟩ := hq; have HK9 := Aside0.mk q0; have HL9 := Aside0.mk q1; have HB9 := Aside0.mk hbn; clear hbn q0 q1; clear hl9 hk9) | ((with_reducible refine gate_dst (N := 10) rfl ?_); refine box_event ?hg16 (N := 10) ?hd16 (cs := #[.int .i64 0, .bool false, .int .u64 0, .slice none 0 0]) (t := 30) ?hr16 ?_; (case hd16 => rfl); (case hg16 => rfl); (case hr16 => first | (go_simp; done) | (go_simp; rfl)); intro g3 hg w9_ hbox hbk; have HGB3 := Aside0.mk (show g1 ≠ g3 ∧ g2 ≠ g3 ∧ W.heap.size ≤ g3 from by rw [hg]; have := blk_lt B1.out; have := blk_lt B2.out; have := HB.out.size; omega); have HFHB6B3 := Aside0.mk (show w6.heap.size ≤ g3 from by rw [hg]; exact HB6.out.size); have HFHB7B3 := Aside0.mk (show w7.heap.size ≤ g3 from by rw [hg]; exact HB7.out.size); have HFHB9B3 := Aside0.mk (show w9.heap.size ≤ g3 from by rw [hg]; exact HB9.out.size); have n_HB := Aside0.mk (below_step HB.out hbk); have n_HB6 := Aside0.mk (below_step HB6.out hbk); have n_HB7 := Aside0.mk (below_step HB7.out hbk); have n_HB9 := Aside0.mk (below_step HB9.out hbk); have n_B1 := Aside0.mk (blk_below B1.out hbk); have n_B2 := Aside0.mk (blk_below B2.out hbk); clear HB HB6 HB7 HB9 B1 B2; have HB := n_HB; have HB6 := n_HB6; have HB7 := n_HB7; have HB9 := n_HB9; have B1 := n_B1; have B2 := n_B2; clear n_HB n_HB6 n_HB7 n_HB9 n_B1 n_B2; have B3 := Aside0.mk hbox; clear hbk hbox hg) | ((with_reducible refine gate_store (p := 10) rfl ?_); refine wq_store (ty := 30) (p := .tmp 10) (x := .tmp 35) (g := g3) (i := 0) (k := 4) (v := ?v17) (vs := ?vs17) (cs' := ?cs17) ?hgd17 ?hdst17 ?ho17 ?hp17 ?hx17 ?hvc17 ?hi17 ?hk17 ?h117 B3.out ?hsz17 ?hcs17 ?_; (case hi17 => kernel_rfl); (case hgd17 => rfl); (case hdst17 => rfl); (case ho17 => rfl); (case hp17 => rfl); (case hx17 => go_simp; with_reducible rfl); (case hvc17 => simp only [Value.cells]; with_reducible rfl); (case hk17 => rfl); (case h117 => rfl); (case hsz17 => exact Nat.le_of_ble_eq_true rfl); (case hcs17 => simp only [wqPut, List.setIfInBounds_toArray, List.set_cons_succ, List.set_cons_zero, Nat.reduceAdd]; with_reducible rfl); intro w10_ hb hgr; have n_HB := Aside0.mk (HB.out.grown hgr HB.out.size (fun k hk => by cases hk; exact HGB3.out.2.2)); have n_HB6 := Aside0.mk (HB6.out.grown hgr HB6.out.size (fun k hk => by cases hk; exact HFHB6B3.out)); have n_HB7 := Aside0.mk (HB7.out.grown hgr HB7.out.size (fun k hk => by cases hk; exact HFHB7B3.out)); have n_HB9 := Aside0.mk (HB9.out.grown hgr HB9.out.size (fun k hk => by cases hk; exact HFHB9B3.out)); have n_B1 := Aside0.mk (wq_blk B1.out hgr HGB3.out.1); have n_B2 := Aside0.mk (wq_blk B2.out hgr HGB3.out.2.1); have n_B3 := Aside0.mk hb; clear HB HB6 HB7 HB9 B1 B2 B3 hb hgr; have HB := n_HB; have HB6 := n_HB6; have HB7 := n_HB7; have HB9 := n_HB9; have B1 := n_B1; have B2 := n_B2; have B3 := n_B3; clear n_HB n_HB6 n_HB7 n_HB9 n_B1 n_B2 n_B3) | (go_at_call 11; (with_reducible refine (li_Same A7 A9 c7 c9 (apL l a0 a1 a2) HLA.out HL7.out HL9.out _ (Kd.C_below HK7.out HB7.out) (Kd.C_below HK9.out HB9.out)).mono ?_); rintro e u11_ ⟨rfl, hbk⟩; have n_HB := Aside0.mk (below_step HB.out hbk); have n_HB6 := Aside0.mk (below_step HB6.out hbk); have n_HB7 := Aside0.mk (below_step HB7.out hbk); have n_HB9 := Aside0.mk (below_step HB9.out hbk); have n_B1 := Aside0.mk (blk_below B1.out hbk); have n_B2 := Aside0.mk (blk_below B2.out hbk); have n_B3 := Aside0.mk (blk_below B3.out hbk); clear HB HB6 HB7 HB9 B1 B2 B3; have HB := n_HB; have HB6 := n_HB6; have HB7 := n_HB7; have HB9 := n_HB9; have B1 := n_B1; have B2 := n_B2; have B3 := n_B3; clear n_HB n_HB6 n_HB7 n_HB9 n_B1 n_B2 n_B3; clear hbk) | ((with_reducible refine gate_dst (N := 43) rfl ?_); refine wq_loadAw (ty := 30) (p := .tmp 8) (g := g2) (i := 0) (k := 4) (vs := ?vs19) ?hgd19 ?ho19 ?hp19 Try.underlying30 ?hd19 ?hi19 B2.out ?hv19 ?hk19 ?_; (case hd19 => rfl); (case hi19 => kernel_rfl); (case hgd19 => rfl); (case ho19 => rfl); (case hp19 => rfl); (case hv19 => simp only [List.drop_succ_cons, List.drop_zero, List.take_succ_cons, List.take_zero, List.take_nil, List.drop_nil]; with_reducible rfl); (case hk19 => rfl)) | ((with_reducible refine gate_dst (N := 44) rfl ?_); refine wq_loadAw (ty := 30) (p := .tmp 10) (g := g3) (i := 0) (k := 4) (vs := ?vs20) ?hgd20 ?ho20 ?hp20 Try.underlying30 ?hd20 ?hi20 B3.out ?hv20 ?hk20 ?_; (case hd20 => rfl); (case hi20 => kernel_rfl); (case hgd20 => rfl); (case ho20 => rfl); (case hp20 => rfl); (case hv20 => simp only [List.drop_succ_cons, List.drop_zero, List.take_succ_cons, List.take_zero, List.take_nil, List.drop_nil]; with_reducible rfl); (case hk20 => rfl)) | (go_at_call 12; (with_reducible refine (li_Equal _ _ _).mono ?_); rintro e u12_ ⟨rfl, hbk⟩; have n_HB := Aside0.mk (below_step HB.out hbk); have n_HB6 := Aside0.mk (below_step HB6.out hbk); have n_HB7 := Aside0.mk (below_step HB7.out hbk); have n_HB9 := Aside0.mk (below_step HB9.out hbk); have n_B1 := Aside0.mk (blk_below B1.out hbk); have n_B2 := Aside0.mk (blk_below B2.out hbk); have n_B3 := Aside0.mk (blk_below B3.out hbk); clear HB HB6 HB7 HB9 B1 B2 B3; have HB := n_HB; have HB6 := n_HB6; have HB7 := n_HB7; have HB9 := n_HB9; have B1 := n_B1; have B2 := n_B2; have B3 := n_B3; clear n_HB n_HB6 n_HB7 n_HB9 n_B1 n_B2 n_B3; clear hbk) | ((with_reducible refine gate_dst (N := 49) rfl ?_); refine wq_load1w (ty := 22) (p := .tmp 48) (g := g2) (i := 3) (v := ?v22) ?hgd22 ?ho22 ?hp22 Try.underlying22 ?hd22 B2.out ?hv22 ?_; (case hd22 => rfl); (case hgd22 => rfl); (case ho22 => rfl); (case hp22 => rfl); (case hv22 => rfl)) | (go_at_call 8; (with_reducible refine (li_rises A7 c7 (apL l a0 a1 a2) HLA.out HL7.out _ (Kd.C_below HK7.out HB7.out)).mono ?_); rintro e u13_ ⟨rfl, hbk⟩; have n_HB := Aside0.mk (below_step HB.out hbk); have n_HB6 := Aside0.mk (below_step HB6.out hbk); have n_HB7 := Aside0.mk (below_step HB7.out hbk); have n_HB9 := Aside0.mk (below_step HB9.out hbk); have n_B1 := Aside0.mk (blk_below B1.out hbk); have n_B2 := Aside0.mk (blk_below B2.out hbk); have n_B3 := Aside0.mk (blk_below B3.out hbk); clear HB HB6 HB7 HB9 B1 B2 B3; have HB := n_HB; have HB6 := n_HB6; have HB7 := n_HB7; have HB9 := n_HB9; have B1 := n_B1; have B2 := n_B2; have B3 := n_B3; clear n_HB n_HB6 n_HB7 n_HB9 n_B1 n_B2 n_B3; clear hbk) | (go_at_call 11; (with_reducible refine (li_Same none A6 c c6 l (by have := HL.out; omega) HC.out HL6.out _ (Kd.C_below HR.out HB.out) (Kd.C_below HK6.out HB6.out)).mono ?_); rintro e u14_ ⟨rfl, hbk⟩; have n_HB := Aside0.mk (below_step HB.out hbk); have n_HB6 := Aside0.mk (below_step HB6.out hbk); have n_HB7 := Aside0.mk (below_step HB7.out hbk); have n_HB9 := Aside0.mk (below_step HB9.out hbk); have n_B1 := Aside0.mk (blk_below B1.out hbk); have n_B2 := Aside0.mk (blk_below B2.out hbk); have n_B3 := Aside0.mk (blk_below B3.out hbk); clear HB HB6 HB7 HB9 B1 B2 B3; have HB := n_HB; have HB6 := n_HB6; have HB7 := n_HB7; have HB9 := n_HB9; have B1 := n_B1; have B2 := n_B2; have B3 := n_B3; clear n_HB n_HB6 n_HB7 n_HB9 n_B1 n_B2 n_B3; clear hbk))
  go_ret
  exact ⟨rfl, HB.out⟩
set_option maxHeartbeats 8000000 in
set_option maxRecDepth 100000 in
theorem li_la_some (A : Option Addr) (c : Nat) (l : List S53) (a0 a1 a2 a3 : Int) (W : World) (hr : Kd.C k53 W A l.length l) (hc : l.length ≤ c) (hl : l.length ≤ 20) (hq : risesB l = true) (ad : Addr) (hA : A = some ad) :
    Calls Try.prog 3 #[.slice A l.length c, .agg #[.int .i64 a0, .int .u64 a1, .int .u64 a2, .int .i64 a3]] W fun e w' => e = .returned (.bool true) ∧ Below W.heap.size W w' := by
  have HR := Aside0.mk hr
  have HC := Aside0.mk hc
  have HB := Aside0.mk (Below.refl W.heap.size W)
  subst hA
  have HRS := Aside0.mk (show Rising l from of_decide_eq_true hq)
  have HLA := Aside0.mk (show (apL l a0 a1 a2).length ≤ 1000000 from by have := apL_len l a0 a1 a2; omega)
  have hra : risesB (apL l a0 a1 a2) = true := decide_eq_true (rising_apL _ _ _ HRS.out)
  have HL := Aside0.mk hl
  have hlb : decide ((l.length : Int) > 20) = false := decide_eq_false (by omega)
  have hlb2 : ¬ ((20 : Int) < (l.length : Int)) := by omega
  clear hl
  clear hr hc
  go_enter Try.func3, Try.ntmps3
  go_wp2_with (first | ((with_reducible refine gate_dst (N := 3) rfl ?_); refine box_event ?hg25 (N := 3) ?hd25 (cs := #[.int .i64 a0, .int .u64 a1, .int .u64 a2, .int .i64 a3]) (t := 25) ?hr25 ?_; (case hd25 => rfl); (case hg25 => rfl); (case hr25 => first | (go_simp; done) | (go_simp; rfl)); intro g1 hg w1_ hbox hbk; have HGB1 := Aside0.mk (show W.heap.size ≤ g1 from by rw [hg]; have := HB.out.size; omega); have n_HB := Aside0.mk (below_step HB.out hbk); clear HB; have HB := n_HB; clear n_HB; have B1 := Aside0.mk hbox; clear hbk hbox hg) | (go_at_call 7; (with_reducible refine (li_awake _).mono ?_); rintro e u2_ ⟨rfl, hbk⟩; have n_HB := Aside0.mk (below_step HB.out hbk); have n_B1 := Aside0.mk (blk_below B1.out hbk); clear HB B1; have HB := n_HB; have B1 := n_B1; clear n_HB n_B1; clear hbk) | (go_at_call 8; (with_reducible refine (li_rises (some ad) c l (by have := HL.out; omega) HC.out _ (Kd.C_below HR.out HB.out)).mono ?_); rintro e u3_ ⟨rfl, hbk⟩; have n_HB := Aside0.mk (below_step HB.out hbk); have n_B1 := Aside0.mk (blk_below B1.out hbk); clear HB B1; have HB := n_HB; have B1 := n_B1; clear n_HB n_B1; clear hbk) | (refine li_ev0 (ad := ad) (m := l.length) (c := c) rfl (.tmp 21) (.tmp 22) rfl rfl (by rfl) rfl (C_cells (Kd.C_below HR.out HB.out)) (by have := HL.out; omega) ?_; intro v6 w4_ ho hb6; have hbk := hb6; have n_HB := Aside0.mk (below_step HB.out hbk); have n_B1 := Aside0.mk (blk_below B1.out hbk); clear HB B1; have HB := n_HB; have B1 := n_B1; clear n_HB n_B1; clear hbk hb6; obtain ⟨A6, c6, rfl, hl6, hk6⟩ := OW.C ho; have hq : ∃ w6 : World, (Kd.C k53 w6 A6 l.length l ∧ l.length ≤ c6) ∧ Below w6.heap.size w6 w4_ := ⟨_, ⟨hk6, hl6⟩, Below.refl _ _⟩; obtain ⟨w6, ⟨q0, q1⟩, hbn⟩ := hq; have HK6 := Aside0.mk q0; have HL6 := Aside0.mk q1; have HB6 := Aside0.mk hbn; clear hbn q0 q1; clear ho hl6 hk6) | ((with_reducible refine gate_dst (N := 26) rfl ?_); refine wq_loadA (ty := 25) (p := .tmp 3) (g := g1) (i := 0) (k := 4) (vs := ?vs28) ?hgd28 ?ho28 ?hp28 Try.underlying25 ?hd28 ?hi28 B1.out ?hv28 ?hk28 ?_; (case hd28 => rfl); (case hi28 => kernel_rfl); (case hgd28 => rfl); (case ho28 => rfl); (case hp28 => rfl); (case hv28 => simp only [List.drop_succ_cons, List.drop_zero, List.take_succ_cons, List.take_zero, List.take_nil, List.drop_nil]; with_reducible rfl); (case hk28 => rfl)) | (go_at_call 9; (with_reducible refine (li_Apply (some ad) c l a0 a1 a2 a3 (by have := HL.out; omega) HRS.out _ (Kd.C_below HR.out HB.out)).mono ?_); rintro e u5_ ⟨v7, rfl, ho, hbk⟩; have n_HB := Aside0.mk (below_step HB.out hbk); have n_HB6 := Aside0.mk (below_step HB6.out hbk); have n_B1 := Aside0.mk (blk_below B1.out hbk); clear HB HB6 B1; have HB := n_HB; have HB6 := n_HB6; have B1 := n_B1; clear n_HB n_HB6 n_B1; clear hbk; obtain ⟨A7, c7, rfl, hl7, hk7⟩ := OW.C ho; have hq : ∃ w7 : World, (Kd.C k53 w7 A7 (apL l a0 a1 a2).length (apL l a0 a1 a2) ∧ (apL l a0 a1 a2).length ≤ c7) ∧ Below w7.heap.size w7 u5_ := ⟨_, ⟨hk7, hl7⟩, Below.refl _ _⟩; obtain ⟨w7, ⟨q0, q1⟩, hbn⟩ := hq; have HK7 := Aside0.mk q0; have HL7 := Aside0.mk q1; have HB7 := Aside0.mk hbn; clear hbn q0 q1; clear ho hl7 hk7) | ((with_reducible refine gate_dst (N := 8) rfl ?_); refine box_event ?hg30 (N := 8) ?hd30 (cs := #[.int .i64 0, .bool false, .int .u64 0, .slice none 0 0]) (t := 30) ?hr30 ?_; (case hd30 => rfl); (case hg30 => rfl); (case hr30 => first | (go_simp; done) | (go_simp; rfl)); intro g2 hg w6_ hbox hbk; have HGB2 := Aside0.mk (show g1 ≠ g2 ∧ W.heap.size ≤ g2 from by rw [hg]; have := blk_lt B1.out; have := HB.out.size; omega); have HFHB6B2 := Aside0.mk (show w6.heap.size ≤ g2 from by rw [hg]; exact HB6.out.size); have HFHB7B2 := Aside0.mk (show w7.heap.size ≤ g2 from by rw [hg]; exact HB7.out.size); have n_HB := Aside0.mk (below_step HB.out hbk); have n_HB6 := Aside0.mk (below_step HB6.out hbk); have n_HB7 := Aside0.mk (below_step HB7.out hbk); have n_B1 := Aside0.mk (blk_below B1.out hbk); clear HB HB6 HB7 B1; have HB := n_HB; have HB6 := n_HB6; have HB7 := n_HB7; have B1 := n_B1; clear n_HB n_HB6 n_HB7 n_B1; have B2 := Aside0.mk hbox; clear hbk hbox hg) | ((with_reducible refine gate_store (p := 8) rfl ?_); refine wq_store (ty := 30) (p := .tmp 8) (x := .tmp 29) (g := g2) (i := 0) (k := 4) (v := ?v31) (vs := ?vs31) (cs' := ?cs31) ?hgd31 ?hdst31 ?ho31 ?hp31 ?hx31 ?hvc31 ?hi31 ?hk31 ?h131 B2.out ?hsz31 ?hcs31 ?_; (case hi31 => kernel_rfl); (case hgd31 => rfl); (case hdst31 => rfl); (case ho31 => rfl); (case hp31 => rfl); (case hx31 => go_simp; with_reducible rfl); (case hvc31 => simp only [Value.cells]; with_reducible rfl); (case hk31 => rfl); (case h131 => rfl); (case hsz31 => exact Nat.le_of_ble_eq_true rfl); (case hcs31 => simp only [wqPut, List.setIfInBounds_toArray, List.set_cons_succ, List.set_cons_zero, Nat.reduceAdd]; with_reducible rfl); intro w7_ hb hgr; have n_HB := Aside0.mk (HB.out.grown hgr HB.out.size (fun k hk => by cases hk; exact HGB2.out.2)); have n_HB6 := Aside0.mk (HB6.out.grown hgr HB6.out.size (fun k hk => by cases hk; exact HFHB6B2.out)); have n_HB7 := Aside0.mk (HB7.out.grown hgr HB7.out.size (fun k hk => by cases hk; exact HFHB7B2.out)); have n_B1 := Aside0.mk (wq_blk B1.out hgr HGB2.out.1); have n_B2 := Aside0.mk hb; clear HB HB6 HB7 B1 B2 hb hgr; have HB := n_HB; have HB6 := n_HB6; have HB7 := n_HB7; have B1 := n_B1; have B2 := n_B2; clear n_HB n_HB6 n_HB7 n_B1 n_B2) | ((with_reducible refine gate_dst (N := 32) rfl ?_); refine wq_loadA (ty := 25) (p := .tmp 3) (g := g1) (i := 0) (k := 4) (vs := ?vs32) ?hgd32 ?ho32 ?hp32 Try.underlying25 ?hd32 ?hi32 B1.out ?hv32 ?hk32 ?_; (case hd32 => rfl); (case hi32 => kernel_rfl); (case hgd32 => rfl); (case ho32 => rfl); (case hp32 => rfl); (case hv32 => simp only [List.drop_succ_cons, List.drop_zero, List.take_succ_cons, List.take_zero, List.take_nil, List.drop_nil]; with_reducible rfl); (case hk32 => rfl)) | (go_at_call 10; (with_reducible refine (li_Told (some ad) c l a0 a1 a2 a3 (by have := HL.out; omega) HRS.out _ (Kd.C_below HR.out HB.out) HC.out).mono ?_); rintro e u8_ ⟨A9, c9, rfl, hl9, hk9, hbk⟩; have n_HB := Aside0.mk (below_step HB.out hbk); have n_HB6 := Aside0.mk (below_step HB6.out hbk); have n_HB7 := Aside0.mk (below_step HB7.out hbk); have n_B1 := Aside0.mk (blk_below B1.out hbk); have n_B2 := Aside0.mk (blk_below B2.out hbk); clear HB HB6 HB7 B1 B2; have HB := n_HB; have HB6 := n_HB6; have HB7 := n_HB7; have B1 := n_B1; have B2 := n_B2; clear n_HB n_HB6 n_HB7 n_B1 n_B2; clear hbk; have hq : ∃ w9 : World, (Kd.C k53 w9 A9 (apL l a0 a1 a2).length (apL l a0 a1 a2) ∧ (apL l a0 a1 a2).length ≤ c9) ∧ Below w9.heap.size w9 u8_ := ⟨_, ⟨hk9, hl9⟩, Below.refl _ _⟩; obtain ⟨w9, ⟨q0, q1⟩, hbn⟩ := hq; have HK9 := Aside0.mk q0; have HL9 := Aside0.mk q1; have HB9 := Aside0.mk hbn; clear hbn q0 q1; clear hl9 hk9) | ((with_reducible refine gate_dst (N := 10) rfl ?_); refine box_event ?hg34 (N := 10) ?hd34 (cs := #[.int .i64 0, .bool false, .int .u64 0, .slice none 0 0]) (t := 30) ?hr34 ?_; (case hd34 => rfl); (case hg34 => rfl); (case hr34 => first | (go_simp; done) | (go_simp; rfl)); intro g3 hg w9_ hbox hbk; have HGB3 := Aside0.mk (show g1 ≠ g3 ∧ g2 ≠ g3 ∧ W.heap.size ≤ g3 from by rw [hg]; have := blk_lt B1.out; have := blk_lt B2.out; have := HB.out.size; omega); have HFHB6B3 := Aside0.mk (show w6.heap.size ≤ g3 from by rw [hg]; exact HB6.out.size); have HFHB7B3 := Aside0.mk (show w7.heap.size ≤ g3 from by rw [hg]; exact HB7.out.size); have HFHB9B3 := Aside0.mk (show w9.heap.size ≤ g3 from by rw [hg]; exact HB9.out.size); have n_HB := Aside0.mk (below_step HB.out hbk); have n_HB6 := Aside0.mk (below_step HB6.out hbk); have n_HB7 := Aside0.mk (below_step HB7.out hbk); have n_HB9 := Aside0.mk (below_step HB9.out hbk); have n_B1 := Aside0.mk (blk_below B1.out hbk); have n_B2 := Aside0.mk (blk_below B2.out hbk); clear HB HB6 HB7 HB9 B1 B2; have HB := n_HB; have HB6 := n_HB6; have HB7 := n_HB7; have HB9 := n_HB9; have B1 := n_B1; have B2 := n_B2; clear n_HB n_HB6 n_HB7 n_HB9 n_B1 n_B2; have B3 := Aside0.mk hbox; clear hbk hbox hg) | ((with_reducible refine gate_store (p := 10) rfl ?_); refine wq_store (ty := 30) (p := .tmp 10) (x := .tmp 35) (g := g3) (i := 0) (k := 4) (v := ?v35) (vs := ?vs35) (cs' := ?cs35) ?hgd35 ?hdst35 ?ho35 ?hp35 ?hx35 ?hvc35 ?hi35 ?hk35 ?h135 B3.out ?hsz35 ?hcs35 ?_; (case hi35 => kernel_rfl); (case hgd35 => rfl); (case hdst35 => rfl); (case ho35 => rfl); (case hp35 => rfl); (case hx35 => go_simp; with_reducible rfl); (case hvc35 => simp only [Value.cells]; with_reducible rfl); (case hk35 => rfl); (case h135 => rfl); (case hsz35 => exact Nat.le_of_ble_eq_true rfl); (case hcs35 => simp only [wqPut, List.setIfInBounds_toArray, List.set_cons_succ, List.set_cons_zero, Nat.reduceAdd]; with_reducible rfl); intro w10_ hb hgr; have n_HB := Aside0.mk (HB.out.grown hgr HB.out.size (fun k hk => by cases hk; exact HGB3.out.2.2)); have n_HB6 := Aside0.mk (HB6.out.grown hgr HB6.out.size (fun k hk => by cases hk; exact HFHB6B3.out)); have n_HB7 := Aside0.mk (HB7.out.grown hgr HB7.out.size (fun k hk => by cases hk; exact HFHB7B3.out)); have n_HB9 := Aside0.mk (HB9.out.grown hgr HB9.out.size (fun k hk => by cases hk; exact HFHB9B3.out)); have n_B1 := Aside0.mk (wq_blk B1.out hgr HGB3.out.1); have n_B2 := Aside0.mk (wq_blk B2.out hgr HGB3.out.2.1); have n_B3 := Aside0.mk hb; clear HB HB6 HB7 HB9 B1 B2 B3 hb hgr; have HB := n_HB; have HB6 := n_HB6; have HB7 := n_HB7; have HB9 := n_HB9; have B1 := n_B1; have B2 := n_B2; have B3 := n_B3; clear n_HB n_HB6 n_HB7 n_HB9 n_B1 n_B2 n_B3) | (go_at_call 11; (with_reducible refine (li_Same A7 A9 c7 c9 (apL l a0 a1 a2) HLA.out HL7.out HL9.out _ (Kd.C_below HK7.out HB7.out) (Kd.C_below HK9.out HB9.out)).mono ?_); rintro e u11_ ⟨rfl, hbk⟩; have n_HB := Aside0.mk (below_step HB.out hbk); have n_HB6 := Aside0.mk (below_step HB6.out hbk); have n_HB7 := Aside0.mk (below_step HB7.out hbk); have n_HB9 := Aside0.mk (below_step HB9.out hbk); have n_B1 := Aside0.mk (blk_below B1.out hbk); have n_B2 := Aside0.mk (blk_below B2.out hbk); have n_B3 := Aside0.mk (blk_below B3.out hbk); clear HB HB6 HB7 HB9 B1 B2 B3; have HB := n_HB; have HB6 := n_HB6; have HB7 := n_HB7; have HB9 := n_HB9; have B1 := n_B1; have B2 := n_B2; have B3 := n_B3; clear n_HB n_HB6 n_HB7 n_HB9 n_B1 n_B2 n_B3; clear hbk) | ((with_reducible refine gate_dst (N := 43) rfl ?_); refine wq_loadAw (ty := 30) (p := .tmp 8) (g := g2) (i := 0) (k := 4) (vs := ?vs37) ?hgd37 ?ho37 ?hp37 Try.underlying30 ?hd37 ?hi37 B2.out ?hv37 ?hk37 ?_; (case hd37 => rfl); (case hi37 => kernel_rfl); (case hgd37 => rfl); (case ho37 => rfl); (case hp37 => rfl); (case hv37 => simp only [List.drop_succ_cons, List.drop_zero, List.take_succ_cons, List.take_zero, List.take_nil, List.drop_nil]; with_reducible rfl); (case hk37 => rfl)) | ((with_reducible refine gate_dst (N := 44) rfl ?_); refine wq_loadAw (ty := 30) (p := .tmp 10) (g := g3) (i := 0) (k := 4) (vs := ?vs38) ?hgd38 ?ho38 ?hp38 Try.underlying30 ?hd38 ?hi38 B3.out ?hv38 ?hk38 ?_; (case hd38 => rfl); (case hi38 => kernel_rfl); (case hgd38 => rfl); (case ho38 => rfl); (case hp38 => rfl); (case hv38 => simp only [List.drop_succ_cons, List.drop_zero, List.take_succ_cons, List.take_zero, List.take_nil, List.drop_nil]; with_reducible rfl); (case hk38 => rfl)) | (go_at_call 12; (with_reducible refine (li_Equal _ _ _).mono ?_); rintro e u12_ ⟨rfl, hbk⟩; have n_HB := Aside0.mk (below_step HB.out hbk); have n_HB6 := Aside0.mk (below_step HB6.out hbk); have n_HB7 := Aside0.mk (below_step HB7.out hbk); have n_HB9 := Aside0.mk (below_step HB9.out hbk); have n_B1 := Aside0.mk (blk_below B1.out hbk); have n_B2 := Aside0.mk (blk_below B2.out hbk); have n_B3 := Aside0.mk (blk_below B3.out hbk); clear HB HB6 HB7 HB9 B1 B2 B3; have HB := n_HB; have HB6 := n_HB6; have HB7 := n_HB7; have HB9 := n_HB9; have B1 := n_B1; have B2 := n_B2; have B3 := n_B3; clear n_HB n_HB6 n_HB7 n_HB9 n_B1 n_B2 n_B3; clear hbk) | ((with_reducible refine gate_dst (N := 49) rfl ?_); refine wq_load1w (ty := 22) (p := .tmp 48) (g := g2) (i := 3) (v := ?v40) ?hgd40 ?ho40 ?hp40 Try.underlying22 ?hd40 B2.out ?hv40 ?_; (case hd40 => rfl); (case hgd40 => rfl); (case ho40 => rfl); (case hp40 => rfl); (case hv40 => rfl)) | (go_at_call 8; (with_reducible refine (li_rises A7 c7 (apL l a0 a1 a2) HLA.out HL7.out _ (Kd.C_below HK7.out HB7.out)).mono ?_); rintro e u13_ ⟨rfl, hbk⟩; have n_HB := Aside0.mk (below_step HB.out hbk); have n_HB6 := Aside0.mk (below_step HB6.out hbk); have n_HB7 := Aside0.mk (below_step HB7.out hbk); have n_HB9 := Aside0.mk (below_step HB9.out hbk); have n_B1 := Aside0.mk (blk_below B1.out hbk); have n_B2 := Aside0.mk (blk_below B2.out hbk); have n_B3 := Aside0.mk (blk_below B3.out hbk); clear HB HB6 HB7 HB9 B1 B2 B3; have HB := n_HB; have HB6 := n_HB6; have HB7 := n_HB7; have HB9 := n_HB9; have B1 := n_B1; have B2 := n_B2; have B3 := n_B3; clear n_HB n_HB6 n_HB7 n_HB9 n_B1 n_B2 n_B3; clear hbk) | (go_at_call 11; (with_reducible refine (li_Same (some ad) A6 c c6 l (by have := HL.out; omega) HC.out HL6.out _ (Kd.C_below HR.out HB.out) (Kd.C_below HK6.out HB6.out)).mono ?_); rintro e u14_ ⟨rfl, hbk⟩; have n_HB := Aside0.mk (below_step HB.out hbk); have n_HB6 := Aside0.mk (below_step HB6.out hbk); have n_HB7 := Aside0.mk (below_step HB7.out hbk); have n_HB9 := Aside0.mk (below_step HB9.out hbk); have n_B1 := Aside0.mk (blk_below B1.out hbk); have n_B2 := Aside0.mk (blk_below B2.out hbk); have n_B3 := Aside0.mk (blk_below B3.out hbk); clear HB HB6 HB7 HB9 B1 B2 B3; have HB := n_HB; have HB6 := n_HB6; have HB7 := n_HB7; have HB9 := n_HB9; have B1 := n_B1; have B2 := n_B2; have B3 := n_B3; clear n_HB n_HB6 n_HB7 n_HB9 n_B1 n_B2 n_B3; clear hbk))
  go_ret
  exact ⟨rfl, HB.out⟩
theorem li_LinApply (A : Option Addr) (c : Nat) (l : List S53) (a0 a1 a2 a3 : Int) (W : World) (hr : Kd.C k53 W A l.length l) (hc : l.length ≤ c) :
    Calls Try.prog 3 #[.slice A l.length c, .agg #[.int .i64 a0, .int .u64 a1, .int .u64 a2, .int .i64 a3]] W fun e w' => e = .returned (.bool true) ∧ Below W.heap.size W w' := by
  by_cases hl : l.length > 20
  · exact li_la_long A c l a0 a1 a2 a3 W hr hc hl
  · cases hq : risesB l with
    | false => exact li_la_no A c l a0 a1 a2 a3 W hr hc (by omega) hq
    | true =>
      cases A with
      | none => exact li_la_nil none c l a0 a1 a2 a3 W hr hc (by omega) hq rfl (C_none_nil hr)
      | some ad => exact li_la_some (some ad) c l a0 a1 a2 a3 W hr hc (by omega) hq ad rfl

def corrielaw21_LinApply.f (l0 : List S53) (a1_0 a1_1 a1_2 a1_3 : Int) : Option Bool := some true
theorem corrielaw21_LinApply.calls (A0 : Option Addr) (c0 : Nat) (l0 : List S53) (a1_0 a1_1 a1_2 a1_3 : Int) (r : Bool) (w : World) (hr0 : Kd.C k53 w A0 l0.length l0) (hc0 : l0.length ≤ c0) (h : corrielaw21_LinApply.f l0 a1_0 a1_1 a1_2 a1_3 = some r) :
    Calls Try.prog 3 #[.slice A0 l0.length c0, .agg #[.int .i64 a1_0, .int .u64 a1_1, .int .u64 a1_2, .int .i64 a1_3]] w fun e w' => e = .returned (.bool r) ∧ Below w.heap.size w w' := by
  cases h
  exact li_LinApply A0 c0 l0 a1_0 a1_1 a1_2 a1_3 w hr0 hc0


end Go.Proofs.Ytcleoahoppggmaa.PLinApply
