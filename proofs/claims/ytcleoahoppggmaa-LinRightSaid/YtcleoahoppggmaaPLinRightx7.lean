-- Written by a program of this session: a variant of the print that takes proofs by hand (wip/tools/mkprint.py)
import Derived.Test.YtcleoahoppggmaaPLinRightx0
import Derived.Test.YtcleoahoppggmaaPLinRightx3
namespace Go.Proofs.Ytcleoahoppggmaa.PLinRight
open Go.RowKit Go.Proofs.YtcleoahoppggmaaW.PrintWords Go.Proofs.YtcleoahoppggmaaW.PrintLast Go.Proofs.YtcleoahoppggmaaW.PrintMore
attribute [local go_sem] max2_int min2_int max_two min_two max_three min_three max_four min_four   -- for this text's walks alone
set_option linter.unusedVariables false
set_option linter.unusedSimpArgs false

/-! ### corrieref19_Few: function 13 -/
mutual
def corrieref19_Few.l0 : Nat → List (S44) → Int → Int → Option (Bool)
  | 0, _, _, _ => none
  | k + 1, x0, x1, x5 => if x5 < (x0.length : Int) then (corrieref19_Few.j1 k x0 x1 x5 (decide (x5 ≤ x1))) else (corrieref19_Few.j1 k x0 x1 x5 false)
def corrieref19_Few.j1 : Nat → List (S44) → Int → Int → Bool → Option (Bool)
  | 0, _, _, _, _ => none
  | k + 1, x0, x1, x5, x14 => if x14 = true then (if 0 ≤ x5 then (if x5 < (x0.length : Int) then (if (((rd_T44 x0 x5).f6.f3).length : Int) > 20 then (some false) else (corrieref19_Few.l0 k x0 x1 (wrap64 (x5 + 1)))) else (none)) else (none)) else (some (decide ((x0.length : Int) ≤ x1)))
end
def corrieref19_Few.f (k : Nat) (l0 : List (S44)) (a1 : Int) : Option (Bool) := corrieref19_Few.l0 k l0 a1 0
theorem corrieref19_Few.mono_l : ∀ k, (∀ y0 y1 y2, LeO (corrieref19_Few.l0 k y0 y1 y2) (corrieref19_Few.l0 (k + 1) y0 y1 y2)) ∧ (∀ y0 y1 y2 y3, LeO (corrieref19_Few.j1 k y0 y1 y2 y3) (corrieref19_Few.j1 (k + 1) y0 y1 y2 y3))
  | 0 => ⟨fun _ _ _ r h => by simp [corrieref19_Few.l0] at h, fun _ _ _ _ r h => by simp [corrieref19_Few.j1] at h⟩
  | k + 1 => by
    obtain ⟨ih0, ih1⟩ := corrieref19_Few.mono_l k
    refine ⟨?_, ?_⟩
    · intro y0 y1 y2
      unfold corrieref19_Few.l0
      repeat' first
      | (with_reducible exact ih0 _ _ _)
      | (with_reducible exact ih1 _ _ _ _)
      | (with_reducible exact LeO.refl _)
      | (with_reducible exact LeO.none _)
      | (with_reducible refine LeO.ite ?_ ?_)
      | (with_reducible refine LeO.bind ?_ (fun _ => ?_))
      | exact ih0 _ _ _
      | exact ih1 _ _ _ _
      | exact LeO.none _
      | refine LeO.ite ?_ ?_
      | refine LeO.bind ?_ (fun _ => ?_)
    · intro y0 y1 y2 y3
      unfold corrieref19_Few.j1
      repeat' first
      | (with_reducible exact ih0 _ _ _)
      | (with_reducible exact ih1 _ _ _ _)
      | (with_reducible exact LeO.refl _)
      | (with_reducible exact LeO.none _)
      | (with_reducible refine LeO.ite ?_ ?_)
      | (with_reducible refine LeO.bind ?_ (fun _ => ?_))
      | exact ih0 _ _ _
      | exact ih1 _ _ _ _
      | exact LeO.none _
      | refine LeO.ite ?_ ?_
      | refine LeO.bind ?_ (fun _ => ?_)
theorem corrieref19_Few.mono : ∀ a0 a1 k, LeO (corrieref19_Few.f k a0 a1) (corrieref19_Few.f (k + 1) a0 a1) := by
  intro a0 a1 k
  obtain ⟨ih0, ih1⟩ := corrieref19_Few.mono_l k
  unfold corrieref19_Few.f
  repeat' first
      | (with_reducible exact ih0 _ _ _)
      | (with_reducible exact ih1 _ _ _ _)
      | (with_reducible exact LeO.refl _)
      | (with_reducible exact LeO.none _)
      | (with_reducible refine LeO.ite ?_ ?_)
      | (with_reducible refine LeO.bind ?_ (fun _ => ?_))
      | exact ih0 _ _ _
      | exact ih1 _ _ _ _
      | exact LeO.none _
      | refine LeO.ite ?_ ?_
      | refine LeO.bind ?_ (fun _ => ?_)
set_option maxHeartbeats 8000000 in
set_option maxRecDepth 100000 in
theorem corrieref19_Few.calls (k : Nat) (A0 : Option Addr) (c0 : Nat) (l0 : List (S44)) (a1 : Int) (r : Bool) (w : World) (hr0 : Kd.C k44 w A0 l0.length l0) (hc0 : l0.length ≤ c0) (h : corrieref19_Few.f k l0 a1 = some r) :
    Calls Try.prog 13 #[.slice A0 l0.length c0, .int .i64 a1] w fun e w' => e = .returned (.bool r) ∧ Drawn0 w w' := by
  have HR0 := Aside0.mk hr0
  have HC0 := Aside0.mk hc0
  clear hr0 hc0
  have H : (corrieref19_Few.l0 k l0 a1 0) = some r := h
  clear h
  have H' := Aside0.mk H
  clear H
  go_enter Try.func13, Try.ntmps13
  go_wp2
  go_loopg [5] k (fun kq v5 w' => ∃ (x5_1 : Int), v5 = .int .i64 x5_1 ∧ Aside0 (corrieref19_Few.l0 kq l0 a1 x5_1 = some r) ∧ Aside0 (kq ≤ k) ∧ Drawn0 w w')
  case atStart => exact ⟨(0), (by first | rfl | (simp; done) | (simp [*]; done)), H', ⟨Nat.le_refl _⟩, by repeat (first | exact Drawn0.refl _ | apply Drawn0.step)⟩
  case round =>
    clear H'
    try clear c1
    try clear p2
    obtain ⟨x5_1, rfl, HA, HK1, ⟨m1, rfl⟩⟩ := hrel
    cases gk with
    | zero => exact absurd HA.out (by simp [corrieref19_Few.l0])
    | succ k1 =>
      have H := HA.out
      clear HA
      simp only [corrieref19_Few.l0] at H
      have HC3 := Aside0.mk H
      clear H
      go_upto_region 2 with (fail)
      go_cut [14] (fun v14 wc => ∃ (kq : Nat) (x14_2 : Bool), v14 = .bool x14_2 ∧ Aside0 (corrieref19_Few.j1 kq l0 a1 x5_1 x14_2 = some r) ∧ Aside0 (kq ≤ k1) ∧ Drawn0 w wc)
      case first =>
        have H := HC3.out
        clear HC3
        by_cases c4 : x5_1 < (l0.length : Int)
        · rw [if_pos c4] at H
          have c4b0 : decide (x5_1 < (l0.length : Int)) = true := decide_eq_true c4
          clear c4
          (first | rw [c4b0] | (simp only [i64_w, i32_w]; rw [c4b0]) | skip)
          have H' := Aside0.mk H
          clear H
          go_wp2
          go_meet
          case rel => exact ⟨_, (decide (x5_1 ≤ a1)), (by first | rfl | (simp; done) | (simp [*]; done)), H', ⟨by have := HK1.out; first | omega | exact Nat.le_refl _⟩, by repeat (first | exact Drawn0.refl _ | apply Drawn0.step)⟩
        · rw [if_neg c4] at H
          have c4b0 : decide (x5_1 < (l0.length : Int)) = false := decide_eq_false c4
          clear c4
          (first | rw [c4b0] | (simp only [i64_w, i32_w]; rw [c4b0]) | skip)
          have H' := Aside0.mk H
          clear H
          go_wp2
          go_meet
          case rel => exact ⟨_, (false), (by first | rfl | (simp; done) | (simp [*]; done)), H', ⟨by have := HK1.out; first | omega | exact Nat.le_refl _⟩, by repeat (first | exact Drawn0.refl _ | apply Drawn0.step)⟩
      case rest =>
        clear HC3
        try clear c1
        try clear p2
        try clear c4
        try clear c4b0
        try clear p2
        obtain ⟨kq, x14_2, rfl, HA, HJ2, ⟨mc2, rfl⟩⟩ := hcut
        cases kq with
        | zero => exact absurd HA.out (by simp [corrieref19_Few.j1])
        | succ kj2 =>
          have H := HA.out
          clear HA
          simp only [corrieref19_Few.j1] at H
          by_cases c5 : x14_2 = true
          · subst c5
            have H1 : (if 0 ≤ x5_1 then (if x5_1 < (l0.length : Int) then (if (((rd_T44 l0 x5_1).f6.f3).length : Int) > 20 then (some false) else (corrieref19_Few.l0 kj2 l0 a1 (wrap64 (x5_1 + 1)))) else (none)) else (none)) = some r := by rw [if_pos rfl] at H; exact H
            clear H
            have H := H1
            clear H1
            by_cases c6 : 0 ≤ x5_1
            · rw [if_pos c6] at H
              have c6b0 : decide (0 ≤ x5_1) = true := decide_eq_true c6
              clear c6
              by_cases c7 : x5_1 < (l0.length : Int)
              · rw [if_pos c7] at H
                have c7b0 : decide (x5_1 < (l0.length : Int)) = true := decide_eq_true c7
                clear c7
                by_cases c8 : (((rd_T44 l0 x5_1).f6.f3).length : Int) > 20
                · rw [if_pos c8] at H
                  have c8b0 : decide (20 < (((rd_T44 l0 x5_1).f6.f3).length : Int)) = true := decide_eq_true c8
                  have c8b1 : decide (20 < ((rd_T44 l0 x5_1).f6.f3).length) = true := decide_eq_true (by omega)
                  clear c8
                  obtain rfl := Option.some.inj H
                  have p116 : 0 ≤ (x5_1 : Int) := of_decide_eq_true (by first | (with_reducible assumption) | assumption)
                  have q116 : x5_1 < (l0.length : Int) := of_decide_eq_true (by first | (with_reducible assumption) | assumption)
                  obtain ⟨ad116, A116_12, c116_12, e116, hx116_0, hx116_1, hx116_2, hx116_3, hx116_4, hx116_5, hx116_6, hx116_7, hx116_8, hx116_9, hx116_10, hx116_11, hx116_12, hl116_12, hi116_12⟩ := at_T44 HR0.out x5_1 p116 q116
                  cases e116
                  have HR116_12 := Aside0.mk hi116_12
                  have HC116_12 := Aside0.mk hl116_12
                  clear hi116_12 hl116_12
                  replace p116 := eq_true p116
                  replace q116 := eq_true q116
                  go_wp2
                  go_ret
                  exact ⟨by first | rfl | (simp; done) | (simp [*]; done), by repeat (first | exact Drawn0.refl _ | apply Drawn0.step)⟩
                · rw [if_neg c8] at H
                  have c8b0 : decide (20 < (((rd_T44 l0 x5_1).f6.f3).length : Int)) = false := decide_eq_false c8
                  have c8b1 : decide (20 < ((rd_T44 l0 x5_1).f6.f3).length) = false := decide_eq_false (by omega)
                  clear c8
                  have H' := Aside0.mk H
                  clear H
                  have p116 : 0 ≤ (x5_1 : Int) := of_decide_eq_true (by first | (with_reducible assumption) | assumption)
                  have q116 : x5_1 < (l0.length : Int) := of_decide_eq_true (by first | (with_reducible assumption) | assumption)
                  obtain ⟨ad116, A116_12, c116_12, e116, hx116_0, hx116_1, hx116_2, hx116_3, hx116_4, hx116_5, hx116_6, hx116_7, hx116_8, hx116_9, hx116_10, hx116_11, hx116_12, hl116_12, hi116_12⟩ := at_T44 HR0.out x5_1 p116 q116
                  cases e116
                  have HR116_12 := Aside0.mk hi116_12
                  have HC116_12 := Aside0.mk hl116_12
                  clear hi116_12 hl116_12
                  replace p116 := eq_true p116
                  replace q116 := eq_true q116
                  go_wp2
                  go_roundg kj2
                  case measure => have := HK1.out; have := HJ2.out; omega
                  case rel => exact ⟨(wrap64 (x5_1 + 1)), (by first | rfl | (simp; done) | (simp [*]; done)), H', ⟨by have := HK1.out; have := HJ2.out; omega⟩, by repeat (first | exact Drawn0.refl _ | apply Drawn0.step)⟩
              · rw [if_neg c7] at H
                exact absurd H (by simp)
            · rw [if_neg c6] at H
              exact absurd H (by simp)
          · replace c5 := Bool.eq_false_iff.mpr c5
            subst c5
            have H1 : (some (decide ((l0.length : Int) ≤ a1))) = some r := by rw [if_neg (show ¬ (false = true) by decide)] at H; exact H
            clear H
            have H := H1
            clear H1
            obtain rfl := Option.some.inj H
            go_wp2
            go_ret
            exact ⟨by first | rfl | (simp; done) | (simp [*]; done), by repeat (first | exact Drawn0.refl _ | apply Drawn0.step)⟩

/-! ### corrieref19_Before: function 15 -/
def corrieref19_Before.f (a0_0 : Int) (a0_1 : Int) (a0_2 : Int) (a0_3 : Int) (a0_4 : Int) (a0_5 : Int) (a0_6 : Int) (a0_7 : Int) (a0_8 : Int) (a0_9 : Int) (a0_10 : Bool) (a0_11 : Int) (l0_12 : List (S53)) (a1_0 : Int) (a1_1 : Int) (a1_2 : Int) (a1_3 : Int) (a1_4 : Int) (a1_5 : Int) (a1_6 : Int) (a1_7 : Int) (a1_8 : Int) (a1_9 : Int) (a1_10 : Bool) (a1_11 : Int) (l1_12 : List (S53)) : Option (Bool) := if a0_3 ≥ 0 then (some (decide (a0_3 < a1_2))) else (some false)
set_option maxHeartbeats 8000000 in
set_option maxRecDepth 100000 in
theorem corrieref19_Before.calls (a0_0 : Int) (a0_1 : Int) (a0_2 : Int) (a0_3 : Int) (a0_4 : Int) (a0_5 : Int) (a0_6 : Int) (a0_7 : Int) (a0_8 : Int) (a0_9 : Int) (a0_10 : Bool) (a0_11 : Int) (A0_12 : Option Addr) (c0_12 : Nat) (l0_12 : List (S53)) (a1_0 : Int) (a1_1 : Int) (a1_2 : Int) (a1_3 : Int) (a1_4 : Int) (a1_5 : Int) (a1_6 : Int) (a1_7 : Int) (a1_8 : Int) (a1_9 : Int) (a1_10 : Bool) (a1_11 : Int) (A1_12 : Option Addr) (c1_12 : Nat) (l1_12 : List (S53)) (r : Bool) (w : World) (hr0_12 : Kd.C k53 w A0_12 l0_12.length l0_12) (hc0_12 : l0_12.length ≤ c0_12) (hr1_12 : Kd.C k53 w A1_12 l1_12.length l1_12) (hc1_12 : l1_12.length ≤ c1_12) (h : corrieref19_Before.f a0_0 a0_1 a0_2 a0_3 a0_4 a0_5 a0_6 a0_7 a0_8 a0_9 a0_10 a0_11 l0_12 a1_0 a1_1 a1_2 a1_3 a1_4 a1_5 a1_6 a1_7 a1_8 a1_9 a1_10 a1_11 l1_12 = some r) :
    Calls Try.prog 15 #[.agg #[.int .i64 a0_0, .int .i64 a0_1, .int .i64 a0_2, .int .i64 a0_3, .int .i64 a0_4, .int .i64 a0_5, .int .u64 a0_6, .int .u64 a0_7, .int .i64 a0_8, .int .i64 a0_9, .bool a0_10, .int .u64 a0_11, .slice A0_12 l0_12.length c0_12], .agg #[.int .i64 a1_0, .int .i64 a1_1, .int .i64 a1_2, .int .i64 a1_3, .int .i64 a1_4, .int .i64 a1_5, .int .u64 a1_6, .int .u64 a1_7, .int .i64 a1_8, .int .i64 a1_9, .bool a1_10, .int .u64 a1_11, .slice A1_12 l1_12.length c1_12]] w fun e w' => e = .returned (.bool r) ∧ Below w.heap.size w w' := by
  have hu44 := Try.underlying44
  have HR0_12 := Aside0.mk hr0_12
  have HC0_12 := Aside0.mk hc0_12
  clear hr0_12 hc0_12
  have HR1_12 := Aside0.mk hr1_12
  have HC1_12 := Aside0.mk hc1_12
  clear hr1_12 hc1_12
  have HB := Aside0.mk (Below.refl w.heap.size w)
  have H : (if a0_3 ≥ 0 then (some (decide (a0_3 < a1_2))) else (some false)) = some r := h
  clear h
  by_cases c3 : a0_3 ≥ 0
  · rw [if_pos c3] at H
    have c3b0 : decide (0 ≤ a0_3) = true := decide_eq_true c3
    clear c3
    obtain rfl := Option.some.inj H
    go_enter Try.func15, Try.ntmps15
    go_wp2_with (first | ((with_reducible refine gate_dst (N := 2) rfl ?_); refine box_event ?hg (N := 2) ?hd (cs := #[.int .i64 a0_0, .int .i64 a0_1, .int .i64 a0_2, .int .i64 a0_3, .int .i64 a0_4, .int .i64 a0_5, .int .u64 a0_6, .int .u64 a0_7, .int .i64 a0_8, .int .i64 a0_9, .bool a0_10, .int .u64 a0_11, .slice A0_12 l0_12.length c0_12]) (t := 44) ?hr ?_; (case hd => rfl); (case hg => rfl); (case hr => first | (go_simp; done) | (go_simp; rfl)); intro gb117 hg w4 hbox hb; have n0_ := Aside0.mk (below_step (by repeat (first | (with_reducible first | exact HB.out | apply below_alloc | apply pw_below_drewN | apply below_drew1) | exact HB.out)) hb); have n1_ := Aside0.mk (hbox); have n2_ := Aside0.mk ((by rw [hg]; exact (below_size (by repeat (first | (with_reducible first | exact HB.out | apply below_alloc | apply pw_below_drewN | apply below_drew1) | exact HB.out))) : w.heap.size ≤ gb117)); have n3_ := Aside0.mk ((by rw [hg]; exact (below_size (by repeat (first | (with_reducible first | exact HB.out | apply below_alloc | apply pw_below_drewN | apply below_drew1) | exact HB.out))) : w.heap.size ≤ gb117)); clear HB; have HB := n0_; have BK117 := n1_; have GW117 := n2_; have GE117 := n3_; clear n0_ n1_ n2_ n3_; clear hb hbox hg) | ((with_reducible refine gate_dst (N := 3) rfl ?_); refine box_event ?hg (N := 3) ?hd (cs := #[.int .i64 a1_0, .int .i64 a1_1, .int .i64 a1_2, .int .i64 a1_3, .int .i64 a1_4, .int .i64 a1_5, .int .u64 a1_6, .int .u64 a1_7, .int .i64 a1_8, .int .i64 a1_9, .bool a1_10, .int .u64 a1_11, .slice A1_12 l1_12.length c1_12]) (t := 44) ?hr ?_; (case hd => rfl); (case hg => rfl); (case hr => first | (go_simp; done) | (go_simp; rfl)); intro gb118 hg w5 hbox hb; have n0_ := Aside0.mk (blk_below (g := gb117) (o := .cells #[.int .i64 a0_0, .int .i64 a0_1, .int .i64 a0_2, .int .i64 a0_3, .int .i64 a0_4, .int .i64 a0_5, .int .u64 a0_6, .int .u64 a0_7, .int .i64 a0_8, .int .i64 a0_9, .bool a0_10, .int .u64 a0_11, .slice A0_12 l0_12.length c0_12] 44 (0, 0)) (by (with_reducible repeat (first | refine blk_drewN ?_ _ | refine blk_drew ?_ | refine blk_alloc ?_ _)); exact BK117.out) hb); have n1_ := Aside0.mk (below_step (by repeat (first | (with_reducible first | exact HB.out | apply below_alloc | apply pw_below_drewN | apply below_drew1 | refine below_set ?_ GE117.out) | exact HB.out)) hb); have n2_ := Aside0.mk (hbox); have n3_ := Aside0.mk ((by rw [hg]; exact (below_size (by repeat (first | (with_reducible first | exact HB.out | apply below_alloc | apply pw_below_drewN | apply below_drew1 | refine below_set ?_ GE117.out) | exact HB.out))) : w.heap.size ≤ gb118)); have n4_ := Aside0.mk ((by rw [hg]; exact (below_size (by repeat (first | (with_reducible first | exact HB.out | apply below_alloc | apply pw_below_drewN | apply below_drew1 | refine below_set ?_ GE117.out) | exact HB.out))) : w.heap.size ≤ gb118)); have n5_ := Aside0.mk ((by rw [hg]; exact Nat.ne_of_lt (blk_lt (g := gb117) (o := .cells #[.int .i64 a0_0, .int .i64 a0_1, .int .i64 a0_2, .int .i64 a0_3, .int .i64 a0_4, .int .i64 a0_5, .int .u64 a0_6, .int .u64 a0_7, .int .i64 a0_8, .int .i64 a0_9, .bool a0_10, .int .u64 a0_11, .slice A0_12 l0_12.length c0_12] 44 (0, 0)) (by (with_reducible repeat (first | refine blk_drewN ?_ _ | refine blk_drew ?_ | refine blk_alloc ?_ _)); exact BK117.out)) : gb117 ≠ gb118)); have n6_ := Aside0.mk ((by rw [hg]; exact Nat.ne_of_gt (blk_lt (g := gb117) (o := .cells #[.int .i64 a0_0, .int .i64 a0_1, .int .i64 a0_2, .int .i64 a0_3, .int .i64 a0_4, .int .i64 a0_5, .int .u64 a0_6, .int .u64 a0_7, .int .i64 a0_8, .int .i64 a0_9, .bool a0_10, .int .u64 a0_11, .slice A0_12 l0_12.length c0_12] 44 (0, 0)) (by (with_reducible repeat (first | refine blk_drewN ?_ _ | refine blk_drew ?_ | refine blk_alloc ?_ _)); exact BK117.out)) : gb118 ≠ gb117)); clear BK117; clear HB; have BK117 := n0_; have HB := n1_; have BK118 := n2_; have GW118 := n3_; have GE118 := n4_; have NB117_118 := n5_; have NB118_117 := n6_; clear n0_ n1_ n2_ n3_ n4_ n5_ n6_; clear hb hbox hg; have hnb6 := NB117_118.out; have hnc6 := NB118_117.out; have hcz7_0 : w5.cell? ⟨gb117, 0, none⟩ = some (.int .i64 a0_0) := (blk_cell BK117.out 0).trans rfl; have hcz7_1 : w5.cell? ⟨gb117, 1, none⟩ = some (.int .i64 a0_1) := (blk_cell BK117.out 1).trans rfl; have hcz7_2 : w5.cell? ⟨gb117, 2, none⟩ = some (.int .i64 a0_2) := (blk_cell BK117.out 2).trans rfl; have hcz7_3 : w5.cell? ⟨gb117, 3, none⟩ = some (.int .i64 a0_3) := (blk_cell BK117.out 3).trans rfl; have hcz7_4 : w5.cell? ⟨gb117, 4, none⟩ = some (.int .i64 a0_4) := (blk_cell BK117.out 4).trans rfl; have hcz7_5 : w5.cell? ⟨gb117, 5, none⟩ = some (.int .i64 a0_5) := (blk_cell BK117.out 5).trans rfl; have hcz7_6 : w5.cell? ⟨gb117, 6, none⟩ = some (.int .u64 a0_6) := (blk_cell BK117.out 6).trans rfl; have hcz7_7 : w5.cell? ⟨gb117, 7, none⟩ = some (.int .u64 a0_7) := (blk_cell BK117.out 7).trans rfl; have hcz7_8 : w5.cell? ⟨gb117, 8, none⟩ = some (.int .i64 a0_8) := (blk_cell BK117.out 8).trans rfl; have hcz7_9 : w5.cell? ⟨gb117, 9, none⟩ = some (.int .i64 a0_9) := (blk_cell BK117.out 9).trans rfl; have hcz7_10 : w5.cell? ⟨gb117, 10, none⟩ = some (.bool a0_10) := (blk_cell BK117.out 10).trans rfl; have hcz7_11 : w5.cell? ⟨gb117, 11, none⟩ = some (.int .u64 a0_11) := (blk_cell BK117.out 11).trans rfl; have hcz7_12 : w5.cell? ⟨gb117, 12, none⟩ = some (.slice A0_12 l0_12.length c0_12) := (blk_cell BK117.out 12).trans rfl; have hfz7_0 := blk_frozen BK117.out 0; have hfz7_1 := blk_frozen BK117.out 1; have hfz7_2 := blk_frozen BK117.out 2; have hfz7_3 := blk_frozen BK117.out 3; have hfz7_4 := blk_frozen BK117.out 4; have hfz7_5 := blk_frozen BK117.out 5; have hfz7_6 := blk_frozen BK117.out 6; have hfz7_7 := blk_frozen BK117.out 7; have hfz7_8 := blk_frozen BK117.out 8; have hfz7_9 := blk_frozen BK117.out 9; have hfz7_10 := blk_frozen BK117.out 10; have hfz7_11 := blk_frozen BK117.out 11; have hfz7_12 := blk_frozen BK117.out 12; have hcz8_0 : w5.cell? ⟨gb118, 0, none⟩ = some (.int .i64 a1_0) := (blk_cell BK118.out 0).trans rfl; have hcz8_1 : w5.cell? ⟨gb118, 1, none⟩ = some (.int .i64 a1_1) := (blk_cell BK118.out 1).trans rfl; have hcz8_2 : w5.cell? ⟨gb118, 2, none⟩ = some (.int .i64 a1_2) := (blk_cell BK118.out 2).trans rfl; have hcz8_3 : w5.cell? ⟨gb118, 3, none⟩ = some (.int .i64 a1_3) := (blk_cell BK118.out 3).trans rfl; have hcz8_4 : w5.cell? ⟨gb118, 4, none⟩ = some (.int .i64 a1_4) := (blk_cell BK118.out 4).trans rfl; have hcz8_5 : w5.cell? ⟨gb118, 5, none⟩ = some (.int .i64 a1_5) := (blk_cell BK118.out 5).trans rfl; have hcz8_6 : w5.cell? ⟨gb118, 6, none⟩ = some (.int .u64 a1_6) := (blk_cell BK118.out 6).trans rfl; have hcz8_7 : w5.cell? ⟨gb118, 7, none⟩ = some (.int .u64 a1_7) := (blk_cell BK118.out 7).trans rfl; have hcz8_8 : w5.cell? ⟨gb118, 8, none⟩ = some (.int .i64 a1_8) := (blk_cell BK118.out 8).trans rfl; have hcz8_9 : w5.cell? ⟨gb118, 9, none⟩ = some (.int .i64 a1_9) := (blk_cell BK118.out 9).trans rfl; have hcz8_10 : w5.cell? ⟨gb118, 10, none⟩ = some (.bool a1_10) := (blk_cell BK118.out 10).trans rfl; have hcz8_11 : w5.cell? ⟨gb118, 11, none⟩ = some (.int .u64 a1_11) := (blk_cell BK118.out 11).trans rfl; have hcz8_12 : w5.cell? ⟨gb118, 12, none⟩ = some (.slice A1_12 l1_12.length c1_12) := (blk_cell BK118.out 12).trans rfl; have hfz8_0 := blk_frozen BK118.out 0; have hfz8_1 := blk_frozen BK118.out 1; have hfz8_2 := blk_frozen BK118.out 2; have hfz8_3 := blk_frozen BK118.out 3; have hfz8_4 := blk_frozen BK118.out 4; have hfz8_5 := blk_frozen BK118.out 5; have hfz8_6 := blk_frozen BK118.out 6; have hfz8_7 := blk_frozen BK118.out 7; have hfz8_8 := blk_frozen BK118.out 8; have hfz8_9 := blk_frozen BK118.out 9; have hfz8_10 := blk_frozen BK118.out 10; have hfz8_11 := blk_frozen BK118.out 11; have hfz8_12 := blk_frozen BK118.out 12))
    go_ret
    exact ⟨by first | rfl | (simp [errW_none, errW_some] <;> rfl) | (simp [*, errW_none, errW_some] <;> rfl), by repeat (first | (with_reducible first | exact HB.out | apply below_alloc | apply pw_below_drewN | apply below_drew1 | refine below_set ?_ GE117.out | refine below_set ?_ GE118.out) | exact HB.out)⟩
  · rw [if_neg c3] at H
    have c3b0 : decide (0 ≤ a0_3) = false := decide_eq_false c3
    clear c3
    obtain rfl := Option.some.inj H
    go_enter Try.func15, Try.ntmps15
    go_wp2_with (first | ((with_reducible refine gate_dst (N := 2) rfl ?_); refine box_event ?hg (N := 2) ?hd (cs := #[.int .i64 a0_0, .int .i64 a0_1, .int .i64 a0_2, .int .i64 a0_3, .int .i64 a0_4, .int .i64 a0_5, .int .u64 a0_6, .int .u64 a0_7, .int .i64 a0_8, .int .i64 a0_9, .bool a0_10, .int .u64 a0_11, .slice A0_12 l0_12.length c0_12]) (t := 44) ?hr ?_; (case hd => rfl); (case hg => rfl); (case hr => first | (go_simp; done) | (go_simp; rfl)); intro gb117 hg w9 hbox hb; have n0_ := Aside0.mk (below_step (by repeat (first | (with_reducible first | exact HB.out | apply below_alloc | apply pw_below_drewN | apply below_drew1) | exact HB.out)) hb); have n1_ := Aside0.mk (hbox); have n2_ := Aside0.mk ((by rw [hg]; exact (below_size (by repeat (first | (with_reducible first | exact HB.out | apply below_alloc | apply pw_below_drewN | apply below_drew1) | exact HB.out))) : w.heap.size ≤ gb117)); have n3_ := Aside0.mk ((by rw [hg]; exact (below_size (by repeat (first | (with_reducible first | exact HB.out | apply below_alloc | apply pw_below_drewN | apply below_drew1) | exact HB.out))) : w.heap.size ≤ gb117)); clear HB; have HB := n0_; have BK117 := n1_; have GW117 := n2_; have GE117 := n3_; clear n0_ n1_ n2_ n3_; clear hb hbox hg) | ((with_reducible refine gate_dst (N := 3) rfl ?_); refine box_event ?hg (N := 3) ?hd (cs := #[.int .i64 a1_0, .int .i64 a1_1, .int .i64 a1_2, .int .i64 a1_3, .int .i64 a1_4, .int .i64 a1_5, .int .u64 a1_6, .int .u64 a1_7, .int .i64 a1_8, .int .i64 a1_9, .bool a1_10, .int .u64 a1_11, .slice A1_12 l1_12.length c1_12]) (t := 44) ?hr ?_; (case hd => rfl); (case hg => rfl); (case hr => first | (go_simp; done) | (go_simp; rfl)); intro gb118 hg w10 hbox hb; have n0_ := Aside0.mk (blk_below (g := gb117) (o := .cells #[.int .i64 a0_0, .int .i64 a0_1, .int .i64 a0_2, .int .i64 a0_3, .int .i64 a0_4, .int .i64 a0_5, .int .u64 a0_6, .int .u64 a0_7, .int .i64 a0_8, .int .i64 a0_9, .bool a0_10, .int .u64 a0_11, .slice A0_12 l0_12.length c0_12] 44 (0, 0)) (by (with_reducible repeat (first | refine blk_drewN ?_ _ | refine blk_drew ?_ | refine blk_alloc ?_ _)); exact BK117.out) hb); have n1_ := Aside0.mk (below_step (by repeat (first | (with_reducible first | exact HB.out | apply below_alloc | apply pw_below_drewN | apply below_drew1 | refine below_set ?_ GE117.out) | exact HB.out)) hb); have n2_ := Aside0.mk (hbox); have n3_ := Aside0.mk ((by rw [hg]; exact (below_size (by repeat (first | (with_reducible first | exact HB.out | apply below_alloc | apply pw_below_drewN | apply below_drew1 | refine below_set ?_ GE117.out) | exact HB.out))) : w.heap.size ≤ gb118)); have n4_ := Aside0.mk ((by rw [hg]; exact (below_size (by repeat (first | (with_reducible first | exact HB.out | apply below_alloc | apply pw_below_drewN | apply below_drew1 | refine below_set ?_ GE117.out) | exact HB.out))) : w.heap.size ≤ gb118)); have n5_ := Aside0.mk ((by rw [hg]; exact Nat.ne_of_lt (blk_lt (g := gb117) (o := .cells #[.int .i64 a0_0, .int .i64 a0_1, .int .i64 a0_2, .int .i64 a0_3, .int .i64 a0_4, .int .i64 a0_5, .int .u64 a0_6, .int .u64 a0_7, .int .i64 a0_8, .int .i64 a0_9, .bool a0_10, .int .u64 a0_11, .slice A0_12 l0_12.length c0_12] 44 (0, 0)) (by (with_reducible repeat (first | refine blk_drewN ?_ _ | refine blk_drew ?_ | refine blk_alloc ?_ _)); exact BK117.out)) : gb117 ≠ gb118)); have n6_ := Aside0.mk ((by rw [hg]; exact Nat.ne_of_gt (blk_lt (g := gb117) (o := .cells #[.int .i64 a0_0, .int .i64 a0_1, .int .i64 a0_2, .int .i64 a0_3, .int .i64 a0_4, .int .i64 a0_5, .int .u64 a0_6, .int .u64 a0_7, .int .i64 a0_8, .int .i64 a0_9, .bool a0_10, .int .u64 a0_11, .slice A0_12 l0_12.length c0_12] 44 (0, 0)) (by (with_reducible repeat (first | refine blk_drewN ?_ _ | refine blk_drew ?_ | refine blk_alloc ?_ _)); exact BK117.out)) : gb118 ≠ gb117)); clear BK117; clear HB; have BK117 := n0_; have HB := n1_; have BK118 := n2_; have GW118 := n3_; have GE118 := n4_; have NB117_118 := n5_; have NB118_117 := n6_; clear n0_ n1_ n2_ n3_ n4_ n5_ n6_; clear hb hbox hg; have hnb11 := NB117_118.out; have hnc11 := NB118_117.out; have hcz12_0 : w10.cell? ⟨gb117, 0, none⟩ = some (.int .i64 a0_0) := (blk_cell BK117.out 0).trans rfl; have hcz12_1 : w10.cell? ⟨gb117, 1, none⟩ = some (.int .i64 a0_1) := (blk_cell BK117.out 1).trans rfl; have hcz12_2 : w10.cell? ⟨gb117, 2, none⟩ = some (.int .i64 a0_2) := (blk_cell BK117.out 2).trans rfl; have hcz12_3 : w10.cell? ⟨gb117, 3, none⟩ = some (.int .i64 a0_3) := (blk_cell BK117.out 3).trans rfl; have hcz12_4 : w10.cell? ⟨gb117, 4, none⟩ = some (.int .i64 a0_4) := (blk_cell BK117.out 4).trans rfl; have hcz12_5 : w10.cell? ⟨gb117, 5, none⟩ = some (.int .i64 a0_5) := (blk_cell BK117.out 5).trans rfl; have hcz12_6 : w10.cell? ⟨gb117, 6, none⟩ = some (.int .u64 a0_6) := (blk_cell BK117.out 6).trans rfl; have hcz12_7 : w10.cell? ⟨gb117, 7, none⟩ = some (.int .u64 a0_7) := (blk_cell BK117.out 7).trans rfl; have hcz12_8 : w10.cell? ⟨gb117, 8, none⟩ = some (.int .i64 a0_8) := (blk_cell BK117.out 8).trans rfl; have hcz12_9 : w10.cell? ⟨gb117, 9, none⟩ = some (.int .i64 a0_9) := (blk_cell BK117.out 9).trans rfl; have hcz12_10 : w10.cell? ⟨gb117, 10, none⟩ = some (.bool a0_10) := (blk_cell BK117.out 10).trans rfl; have hcz12_11 : w10.cell? ⟨gb117, 11, none⟩ = some (.int .u64 a0_11) := (blk_cell BK117.out 11).trans rfl; have hcz12_12 : w10.cell? ⟨gb117, 12, none⟩ = some (.slice A0_12 l0_12.length c0_12) := (blk_cell BK117.out 12).trans rfl; have hfz12_0 := blk_frozen BK117.out 0; have hfz12_1 := blk_frozen BK117.out 1; have hfz12_2 := blk_frozen BK117.out 2; have hfz12_3 := blk_frozen BK117.out 3; have hfz12_4 := blk_frozen BK117.out 4; have hfz12_5 := blk_frozen BK117.out 5; have hfz12_6 := blk_frozen BK117.out 6; have hfz12_7 := blk_frozen BK117.out 7; have hfz12_8 := blk_frozen BK117.out 8; have hfz12_9 := blk_frozen BK117.out 9; have hfz12_10 := blk_frozen BK117.out 10; have hfz12_11 := blk_frozen BK117.out 11; have hfz12_12 := blk_frozen BK117.out 12))
    go_ret
    exact ⟨by first | rfl | (simp [errW_none, errW_some] <;> rfl) | (simp [*, errW_none, errW_some] <;> rfl), by repeat (first | (with_reducible first | exact HB.out | apply below_alloc | apply pw_below_drewN | apply below_drew1 | refine below_set ?_ GE117.out | refine below_set ?_ GE118.out) | exact HB.out)⟩

/-! ### corrieref19_Points: function 16 (by hand) -/
theorem rpt_keep (x : S44) : (!history_Points1.f x) = (decide (x.f5.f0 ≥ 1) && decide (x.f5.f0 ≤ 3) && (x.f6.f0 == 0)) := by
  unfold history_Points1.f
  by_cases h : x.f6.f0 = 0
  · rw [if_pos h]
    by_cases h1 : x.f5.f0 < 1
    · rw [if_pos h1, decide_eq_false (show ¬ x.f5.f0 ≥ 1 by omega)]
      rfl
    · rw [if_neg h1, decide_eq_true (show x.f5.f0 ≥ 1 by omega)]
      by_cases h2 : x.f5.f0 ≤ 3
      · rw [decide_eq_true h2, decide_eq_false (show ¬ 3 < x.f5.f0 by omega)]
        simp [h]
      · rw [decide_eq_false h2, decide_eq_true (show 3 < x.f5.f0 by omega)]
        rfl
  · rw [if_neg h]
    simp [h]
set_option maxHeartbeats 8000000 in
set_option maxRecDepth 100000 in
theorem corrieref19_Points.law (A0 : Option Addr) (c0 : Nat) (l0 : List S44) (w : World) (hr0 : Kd.C k44 w A0 l0.length l0) (hlen : l0.length ≤ 1000000) :
    Calls Try.prog 16 #[.slice A0 l0.length c0] w fun e w' => ∃ A c, e = .returned (.slice A (l0.filter fun x => !history_Points1.f x).length c) ∧ Kd.C k44 w' A (l0.filter fun x => !history_Points1.f x).length (l0.filter fun x => !history_Points1.f x) ∧ (l0.filter fun x => !history_Points1.f x).length ≤ c ∧ Below w.heap.size w w' := by
  have HR0 := Aside0.mk hr0
  have HL := Aside0.mk hlen
  have HB := Aside0.mk (Below.refl w.heap.size w)
  clear hr0 hlen
  have HK0 := Aside0.mk (show ∀ (i : Nat) (hi : i < l0.length), ∃ (ad : Addr) (A : Option Addr) (c : Nat) (x : S44), A0 = some ad ∧ l0[i]? = some x ∧ k44.K w x [.int .i64 x.f0, .int .i64 x.f1, .int .i64 x.f2, .int .i64 x.f3, .int .i64 x.f4, .int .i64 x.f5.f0, .int .u64 x.f5.f1, .int .u64 x.f5.f2, .int .i64 x.f5.f3, .int .i64 x.f6.f0, .bool x.f6.f1, .int .u64 x.f6.f2, .slice A x.f6.f3.length c] ∧ w.cell? (ad.add (i * 13)) = some (.int .i64 x.f0) ∧ w.cell? ⟨(ad.add (i * 13)).block, (ad.add (i * 13)).off + 1, none⟩ = some (.int .i64 x.f1) ∧ w.cell? ⟨(ad.add (i * 13)).block, (ad.add (i * 13)).off + 2, none⟩ = some (.int .i64 x.f2) ∧ w.cell? ⟨(ad.add (i * 13)).block, (ad.add (i * 13)).off + 3, none⟩ = some (.int .i64 x.f3) ∧ w.cell? ⟨(ad.add (i * 13)).block, (ad.add (i * 13)).off + 4, none⟩ = some (.int .i64 x.f4) ∧ w.cell? ⟨(ad.add (i * 13)).block, (ad.add (i * 13)).off + 5, none⟩ = some (.int .i64 x.f5.f0) ∧ w.cell? ⟨(ad.add (i * 13)).block, (ad.add (i * 13)).off + 6, none⟩ = some (.int .u64 x.f5.f1) ∧ w.cell? ⟨(ad.add (i * 13)).block, (ad.add (i * 13)).off + 7, none⟩ = some (.int .u64 x.f5.f2) ∧ w.cell? ⟨(ad.add (i * 13)).block, (ad.add (i * 13)).off + 8, none⟩ = some (.int .i64 x.f5.f3) ∧ w.cell? ⟨(ad.add (i * 13)).block, (ad.add (i * 13)).off + 9, none⟩ = some (.int .i64 x.f6.f0) ∧ w.cell? ⟨(ad.add (i * 13)).block, (ad.add (i * 13)).off + 10, none⟩ = some (.bool x.f6.f1) ∧ w.cell? ⟨(ad.add (i * 13)).block, (ad.add (i * 13)).off + 11, none⟩ = some (.int .u64 x.f6.f2) ∧ w.cell? ⟨(ad.add (i * 13)).block, (ad.add (i * 13)).off + 12, none⟩ = some (.slice A x.f6.f3.length c) from fun i hi => by
    obtain ⟨ad, A, c, e, h0, h1, h2, h3, h4, h5, h6, h7, h8, h9, h10, h11, h12, hl, hi2⟩ := at_T44 HR0.out (i : Int) (by omega) (by omega)
    rw [hpt_rd l0 i hi] at h0 h1 h2 h3 h4 h5 h6 h7 h8 h9 h10 h11 h12 hl hi2
    exact ⟨ad, A, c, _, e, List.getElem?_eq_getElem hi, k44_mk w _ hl hi2, h0, h1, h2, h3, h4, h5, h6, h7, h8, h9, h10, h11, h12⟩)
  go_enter Try.func16, Try.ntmps16
  go_wp2
  go_loopg [3, 4] l0.length (fun kq v3 v4 wr => ∃ (i : Nat) (inn : List Value), v4 = .int .i64 i ∧ Aside0 (i ≤ l0.length) ∧ Aside0 (l0.length - i ≤ kq) ∧ Aside0 (wr.ownsRow w.heap.size 44 13 v3 ((l0.take i).filter fun x => !history_Points1.f x).length inn) ∧ Aside0 (Reps (k44.K w) 13 ((l0.take i).filter fun x => !history_Points1.f x) inn) ∧ Aside0 (Below w.heap.size w wr))
  case atStart => exact ⟨0, [], rfl, ⟨Nat.zero_le _⟩, ⟨by omega⟩, ⟨by rw [List.take_zero]; exact World.ownsRow_nil _ _ _ _⟩, ⟨by rw [List.take_zero]; exact Reps.none _ _⟩, ⟨by repeat (first | (with_reducible first | exact HB.out | apply below_alloc | apply pw_below_drewN | apply below_drew1) | exact HB.out)⟩⟩
  case round =>
    clear HB
    obtain ⟨i, inn, rfl, HJ, HKq, HO, HR, HB⟩ := hrel
    by_cases hlt : i < l0.length
    · have hltb : (i : Int) < (l0.length : Int) := by omega
      have HLT := Aside0.mk hlt
      obtain ⟨ad, A12, c12, x, e12, hx_, hK, hx0, hx1, hx2, hx3, hx4, hx5, hx6, hx7, hx8, hx9, hx10, hx11, hx12⟩ := HK0.out i hlt
      subst e12
      have HX := Aside0.mk hx_
      have HKx := Aside0.mk hK
      have HKP := Aside0.mk (rpt_keep x)
      clear hlt hx_ hK
      replace hx0 := pw_cell_below HB.out hx0
      replace hx1 := pw_cell_below HB.out hx1
      replace hx2 := pw_cell_below HB.out hx2
      replace hx3 := pw_cell_below HB.out hx3
      replace hx4 := pw_cell_below HB.out hx4
      replace hx5 := pw_cell_below HB.out hx5
      replace hx6 := pw_cell_below HB.out hx6
      replace hx7 := pw_cell_below HB.out hx7
      replace hx8 := pw_cell_below HB.out hx8
      replace hx9 := pw_cell_below HB.out hx9
      replace hx10 := pw_cell_below HB.out hx10
      replace hx11 := pw_cell_below HB.out hx11
      replace hx12 := pw_cell_below HB.out hx12
      cases q1 : decide (x.f5.f0 ≥ 1) with
      | false =>
        go_wp2
        go_roundg (l0.length - (i + 1))
        case measure => have := HLT.out; have := HKq.out; omega
        case rel =>
          have hlt := HLT.out
          have hle := HL.out
          have ht : l0.take (i + 1) = l0.take i ++ [x] := by rw [List.take_add_one, HX.out]; rfl
          have hf : ((l0.take (i + 1)).filter fun x => !history_Points1.f x) = ((l0.take i).filter fun x => !history_Points1.f x) := by rw [ht, List.filter_append]; simp only [List.filter_cons, List.filter_nil, HKP.out]; simp [*]
          exact ⟨i + 1, inn, by rw [show wrap64 ((i : Int) + 1) = ((i + 1 : Nat) : Int) from by unfold wrap64; omega], ⟨by omega⟩, ⟨by omega⟩, ⟨by rw [hf]; exact HO.out⟩, ⟨by rw [hf]; exact HR.out⟩, HB⟩
      | true =>
        cases q2 : decide (x.f5.f0 ≤ 3) with
        | false =>
          go_wp2
          go_roundg (l0.length - (i + 1))
          case measure => have := HLT.out; have := HKq.out; omega
          case rel =>
            have hlt := HLT.out
            have hle := HL.out
            have ht : l0.take (i + 1) = l0.take i ++ [x] := by rw [List.take_add_one, HX.out]; rfl
            have hf : ((l0.take (i + 1)).filter fun x => !history_Points1.f x) = ((l0.take i).filter fun x => !history_Points1.f x) := by rw [ht, List.filter_append]; simp only [List.filter_cons, List.filter_nil, HKP.out]; simp [*]
            exact ⟨i + 1, inn, by rw [show wrap64 ((i : Int) + 1) = ((i + 1 : Nat) : Int) from by unfold wrap64; omega], ⟨by omega⟩, ⟨by omega⟩, ⟨by rw [hf]; exact HO.out⟩, ⟨by rw [hf]; exact HR.out⟩, HB⟩
        | true =>
          cases q3 : (x.f6.f0 == 0) with
          | false =>
            go_wp2
            go_roundg (l0.length - (i + 1))
            case measure => have := HLT.out; have := HKq.out; omega
            case rel =>
              have hlt := HLT.out
              have hle := HL.out
              have ht : l0.take (i + 1) = l0.take i ++ [x] := by rw [List.take_add_one, HX.out]; rfl
              have hf : ((l0.take (i + 1)).filter fun x => !history_Points1.f x) = ((l0.take i).filter fun x => !history_Points1.f x) := by rw [ht, List.filter_append]; simp only [List.filter_cons, List.filter_nil, HKP.out]; simp [*]
              exact ⟨i + 1, inn, by rw [show wrap64 ((i : Int) + 1) = ((i + 1 : Nat) : Int) from by unfold wrap64; omega], ⟨by omega⟩, ⟨by omega⟩, ⟨by rw [hf]; exact HO.out⟩, ⟨by rw [hf]; exact HR.out⟩, HB⟩
          | true =>
            go_wp2_with (first | (at_builtin; refine print_append_cells (w0 := w) w.heap.size rfl _ _ 36 44 _ 13 120 rfl Try.underlying36 hpt_info rfl (by decide) (by decide) _ _ inn [.int .i64 x.f0, .int .i64 x.f1, .int .i64 x.f2, .int .i64 x.f3, .int .i64 x.f4, .int .i64 x.f5.f0, .int .u64 x.f5.f1, .int .u64 x.f5.f2, .int .i64 x.f5.f3, .int .i64 x.f6.f0, .bool x.f6.f1, .int .u64 x.f6.f2, .slice A12 x.f6.f3.length c12] (by rfl) (by rfl) rfl ?ap1 HO.out HB.out HB.out.size ?ap2 ?_; rotate_right; intro v1 w4 hown hbw hg hat; have HO1 := Aside0.mk hown; have HB1 := Aside0.mk hbw; clear hown hbw hg hat))
            case ap1 => simp [Value.oneCell']
            case ap2 =>
              have h1 : ((l0.take i).filter fun x => !history_Points1.f x).length ≤ 1000000 := by
                have h2 := List.length_filter_le (fun x : S44 => !history_Points1.f x) (l0.take i)
                rw [List.length_take] at h2
                have := HL.out
                omega
              omega
            go_roundg (l0.length - (i + 1))
            case measure => have := HLT.out; have := HKq.out; omega
            case rel =>
              have hlt := HLT.out
              have hle := HL.out
              have ht : l0.take (i + 1) = l0.take i ++ [x] := by rw [List.take_add_one, HX.out]; rfl
              have hf : ((l0.take (i + 1)).filter fun x => !history_Points1.f x) = ((l0.take i).filter fun x => !history_Points1.f x) ++ [x] := by rw [ht, List.filter_append]; congr 1; simp only [List.filter_cons, List.filter_nil, HKP.out]; simp [*]
              exact ⟨i + 1, _, by rw [show wrap64 ((i : Int) + 1) = ((i + 1 : Nat) : Int) from by unfold wrap64; omega], ⟨by omega⟩, ⟨by omega⟩, ⟨by rw [hf, List.length_append, List.length_singleton]; exact HO1.out⟩, ⟨by rw [hf]; exact HR.out.snoc HKx.out rfl⟩, HB1⟩
    · have hj : i = l0.length := by have := HJ.out; omega
      subst hj
      have hnlt : ¬ ((l0.length : Int) < (l0.length : Int)) := by omega
      rw [List.take_length] at HO HR
      obtain ⟨Ao, co, ho, hC⟩ := own_reads_row HO.out (HR.out.imp_ (R' := k44.K wr) (fun _ _ hp => k44.K_below HB.out hp)) rfl
      subst ho
      have hco : (l0.filter fun x => !history_Points1.f x).length ≤ co := by rcases HO.out.2 with ⟨he, h0⟩ | ⟨g, cap, cur, he, _, _, h3, _⟩ <;> injection he <;> omega
      have HCO := Aside0.mk (show Kd.C k44 wr Ao (l0.filter fun x => !history_Points1.f x).length (l0.filter fun x => !history_Points1.f x) from hC)
      have HCC := Aside0.mk hco
      clear HO HR hC hco
      go_wp2
      go_ret
      exact ⟨_, _, rfl, HCO.out, HCC.out, HB.out⟩


end Go.Proofs.Ytcleoahoppggmaa.PLinRight
