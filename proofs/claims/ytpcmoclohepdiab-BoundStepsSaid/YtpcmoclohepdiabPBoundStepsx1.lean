-- Written by a program of this session: a variant of the print that takes proofs by hand (wip/tools/mkprint.py)
import Derived.Test.YtpcmoclohepdiabPBoundStepsx0
namespace Go.Proofs.Ytpcmoclohepdiab.PBoundSteps
open Go.RowKit Go.Proofs.YtpcmoclohepdiabW.PrintWords Go.Proofs.YtpcmoclohepdiabW.PrintLast Go.Proofs.YtpcmoclohepdiabW.PrintMore
attribute [local go_sem] max2_int min2_int max_two min_two max_three min_three max_four min_four   -- for this text's walks alone
set_option linter.unusedVariables false
set_option linter.unusedSimpArgs false

/-! ### bound_sum: function 23 -/
def bound_sum.l0 : Nat → Int → List Int → Int → Int → Option (Int)
  | 0, _, _, _, _ => none
  | k + 1, x3, x6, x7, x8 => if x8 < x7 then (if 0 ≤ x8 then (if x8 < (x6.length : Int) then (bound_sum.l0 k (wrap64 (x3 + (rd x6 x8))) x6 x7 (wrap64 (x8 + 1))) else (none)) else (none)) else (some x3)
def bound_sum.f (k : Nat) (l0 : List Int) : Option (Int) := bound_sum.l0 k 0 l0 (l0.length : Int) 0
theorem bound_sum.mono_l : ∀ k, (∀ y0 y1 y2 y3, LeO (bound_sum.l0 k y0 y1 y2 y3) (bound_sum.l0 (k + 1) y0 y1 y2 y3))
  | 0 => fun _ _ _ _ r h => by simp [bound_sum.l0] at h
  | k + 1 => by
    have ih0 := bound_sum.mono_l k
    · intro y0 y1 y2 y3
      unfold bound_sum.l0
      repeat' first
      | (with_reducible exact ih0 _ _ _ _)
      | (with_reducible exact LeO.refl _)
      | (with_reducible exact LeO.none _)
      | (with_reducible refine LeO.ite ?_ ?_)
      | (with_reducible refine LeO.bind ?_ (fun _ => ?_))
      | exact ih0 _ _ _ _
      | exact LeO.none _
      | refine LeO.ite ?_ ?_
      | refine LeO.bind ?_ (fun _ => ?_)
theorem bound_sum.mono : ∀ a0 k, LeO (bound_sum.f k a0) (bound_sum.f (k + 1) a0) := by
  intro a0 k
  have ih0 := bound_sum.mono_l k
  unfold bound_sum.f
  repeat' first
      | (with_reducible exact ih0 _ _ _ _)
      | (with_reducible exact LeO.refl _)
      | (with_reducible exact LeO.none _)
      | (with_reducible refine LeO.ite ?_ ?_)
      | (with_reducible refine LeO.bind ?_ (fun _ => ?_))
      | exact ih0 _ _ _ _
      | exact LeO.none _
      | refine LeO.ite ?_ ?_
      | refine LeO.bind ?_ (fun _ => ?_)
set_option maxHeartbeats 8000000 in
set_option maxRecDepth 100000 in
theorem bound_sum.calls (k : Nat) (A0 : Option Addr) (c0 : Nat) (l0 : List Int) (r : Int) (w : World) (hr0 : Kd.C (Kd.int .i64) w A0 l0.length l0) (hc0 : l0.length ≤ c0) (h : bound_sum.f k l0 = some r) :
    Calls Try.prog 23 #[.slice A0 l0.length c0] w fun e w' => e = .returned (.int .i64 r) ∧ Drawn0 w w' := by
  have HR0 := Aside0.mk hr0
  have HC0 := Aside0.mk hc0
  clear hr0 hc0
  have H : (bound_sum.l0 k 0 l0 (l0.length : Int) 0) = some r := h
  clear h
  have H' := Aside0.mk H
  clear H
  go_enter Try.func23, Try.ntmps23
  go_wp2
  go_loopg [3, 8] k (fun kq v3 v8 w' => ∃ (x3_1 : Int) (x8_1 : Int), v3 = .int .i64 x3_1 ∧ v8 = .int .i64 x8_1 ∧ Aside0 (bound_sum.l0 kq x3_1 l0 (l0.length : Int) x8_1 = some r) ∧ Aside0 (kq ≤ k) ∧ Drawn0 w w')
  case atStart => exact ⟨(0), (0), (by first | rfl | (simp; done) | (simp [*]; done)), (by first | rfl | (simp; done) | (simp [*]; done)), H', ⟨Nat.le_refl _⟩, by repeat (first | exact Drawn0.refl _ | apply Drawn0.step)⟩
  case round =>
    clear H'
    obtain ⟨x3_1, x8_1, rfl, rfl, HA, HK1, ⟨m1, rfl⟩⟩ := hrel
    cases gk with
    | zero => exact absurd HA.out (by simp [bound_sum.l0])
    | succ k1 =>
      have H := HA.out
      clear HA
      simp only [bound_sum.l0] at H
      by_cases c2 : x8_1 < (l0.length : Int)
      · rw [if_pos c2] at H
        have c2b0 : decide (x8_1 < (l0.length : Int)) = true := decide_eq_true c2
        clear c2
        by_cases c3 : 0 ≤ x8_1
        · rw [if_pos c3] at H
          have c3b0 : decide (0 ≤ x8_1) = true := decide_eq_true c3
          clear c3
          by_cases c4 : x8_1 < (l0.length : Int)
          · rw [if_pos c4] at H
            have c4b0 : decide (x8_1 < (l0.length : Int)) = true := decide_eq_true c4
            clear c4
            have H' := Aside0.mk H
            clear H
            have p101 : 0 ≤ (x8_1 : Int) := of_decide_eq_true (by first | (with_reducible assumption) | assumption)
            have q101 : x8_1 < (l0.length : Int) := of_decide_eq_true (by first | (with_reducible assumption) | assumption)
            obtain ⟨ad101, e101, hx101_0⟩ := Kd.at_int HR0.out x8_1 p101 q101
            cases e101
            replace p101 := eq_true p101
            replace q101 := eq_true q101
            go_wp2
            go_roundg k1
            case measure => have := HK1.out; omega
            case rel => exact ⟨(wrap64 (x3_1 + (rd l0 x8_1))), (wrap64 (x8_1 + 1)), (by first | rfl | (simp; done) | (simp [*]; done)), (by first | rfl | (simp; done) | (simp [*]; done)), H', ⟨by have := HK1.out; omega⟩, by repeat (first | exact Drawn0.refl _ | apply Drawn0.step)⟩
          · rw [if_neg c4] at H
            exact absurd H (by simp)
        · rw [if_neg c3] at H
          exact absurd H (by simp)
      · rw [if_neg c2] at H
        have c2b0 : decide (x8_1 < (l0.length : Int)) = false := decide_eq_false c2
        clear c2
        obtain rfl := Option.some.inj H
        go_wp2
        go_ret
        exact ⟨by first | rfl | (simp; done) | (simp [*]; done), by repeat (first | exact Drawn0.refl _ | apply Drawn0.step)⟩

/-! ### bound_Point: function 10 -/
def bound_Point.l0 : Nat → Int → Int → Int → Int → Int → Int → Int → Int → Int → Int → Option (Int)
  | 0, _, _, _, _, _, _, _, _, _, _ => none
  | k + 1, x1, x2, x7, x8, x12, x103000, x103001, x103002, x103003, x103004 => if x12 < 4 then (bound_Point.l0 k x1 x2 x7 (wrap64 (x8 * x7)) (wrap64 (x12 + 1)) x103000 x103001 x103002 x103003 x103004) else ((bound_sum.f k (([x1, x2, wrap64 (x7 * x7)] : List Int))).bind fun t106 => ((bound_sum.f k (([x103003, wrap64 (x8 * t106)] : List Int))).bind fun t110 => (some t110)))
def bound_Point.f (k : Nat) (a0_0 : Int) (a0_1 : Int) (a0_2 : Int) (a0_3 : Int) (a0_4 : Int) (a1 : Int) (a2 : Int) : Option (Int) := bound_Point.l0 k a1 a2 (wrap64 (a0_0 + 1)) 1024 0 a0_0 a0_1 a0_2 a0_3 a0_4
theorem bound_Point.mono_l : ∀ k, (∀ y0 y1 y2 y3 y4 y5 y6 y7 y8 y9, LeO (bound_Point.l0 k y0 y1 y2 y3 y4 y5 y6 y7 y8 y9) (bound_Point.l0 (k + 1) y0 y1 y2 y3 y4 y5 y6 y7 y8 y9))
  | 0 => fun _ _ _ _ _ _ _ _ _ _ r h => by simp [bound_Point.l0] at h
  | k + 1 => by
    have ih0 := bound_Point.mono_l k
    · intro y0 y1 y2 y3 y4 y5 y6 y7 y8 y9
      unfold bound_Point.l0
      repeat' first
      | (with_reducible exact ih0 _ _ _ _ _ _ _ _ _ _)
      | (with_reducible exact bound_sum.mono _ _)
      | (with_reducible exact LeO.refl _)
      | (with_reducible exact LeO.none _)
      | (with_reducible refine LeO.ite ?_ ?_)
      | (with_reducible refine LeO.bind ?_ (fun _ => ?_))
      | exact ih0 _ _ _ _ _ _ _ _ _ _
      | exact bound_sum.mono _ _
      | exact LeO.none _
      | refine LeO.ite ?_ ?_
      | refine LeO.bind ?_ (fun _ => ?_)
theorem bound_Point.mono : ∀ a0 a1 a2 a3 a4 a5 a6 k, LeO (bound_Point.f k a0 a1 a2 a3 a4 a5 a6) (bound_Point.f (k + 1) a0 a1 a2 a3 a4 a5 a6) := by
  intro a0 a1 a2 a3 a4 a5 a6 k
  have ih0 := bound_Point.mono_l k
  unfold bound_Point.f
  repeat' first
      | (with_reducible exact ih0 _ _ _ _ _ _ _ _ _ _)
      | (with_reducible exact bound_sum.mono _ _)
      | (with_reducible exact LeO.refl _)
      | (with_reducible exact LeO.none _)
      | (with_reducible refine LeO.ite ?_ ?_)
      | (with_reducible refine LeO.bind ?_ (fun _ => ?_))
      | exact ih0 _ _ _ _ _ _ _ _ _ _
      | exact bound_sum.mono _ _
      | exact LeO.none _
      | refine LeO.ite ?_ ?_
      | refine LeO.bind ?_ (fun _ => ?_)
def bound_Point.T7 : Bool × List (List Nat × List Nat) := (true, [([], []), ([0], [0]), ([], []), ([], []), ([], []), ([], []), ([], []), ([5, 6], [5, 6]), ([3, 4, 7], [3, 4, 7]), ([8], [8]), ([2, 9], [2, 9]), ([1, 10], [1, 10]), ([11, 9], [11]), ([12, 12, 0, 1, 2, 3, 4, 5, 6, 7, 8, 9, 10, 11, 12], [12])])
def bound_Point.B7 : List Nat := [0, 1, 0, 0, 0, 0, 0, 96, 248, 504, 1020, 2047, 4095, 8191]
theorem bound_Point.tab7 : rtab .any (opsOf Try.f10 7) = bound_Point.T7 := by kernel_rfl
theorem bound_Point.bits7 : waitsOk bound_Point.T7.2 bound_Point.B7 = true := by kernel_rfl
set_option maxHeartbeats 8000000 in
set_option maxRecDepth 100000 in
theorem bound_Point.calls (k : Nat) (a0_0 : Int) (a0_1 : Int) (a0_2 : Int) (a0_3 : Int) (a0_4 : Int) (a1 : Int) (a2 : Int) (r : Int) (w : World) (h : bound_Point.f k a0_0 a0_1 a0_2 a0_3 a0_4 a1 a2 = some r) :
    Calls Try.prog 10 #[.agg #[.int .i64 a0_0, .int .i64 a0_1, .int .i64 a0_2, .int .i64 a0_3, .int .i64 a0_4], .int .i64 a1, .int .i64 a2] w fun e w' => e = .returned (.int .i64 r) ∧ Below w.heap.size w w' := by
  have hu23 := Try.underlying23
  have HB := Aside0.mk (Below.refl w.heap.size w)
  have H : (bound_Point.l0 k a1 a2 (wrap64 (a0_0 + 1)) 1024 0 a0_0 a0_1 a0_2 a0_3 a0_4) = some r := h
  clear h
  have H' := Aside0.mk H
  clear H
  go_enter Try.func10, Try.ntmps10
  go_wp2_with (first | ((with_reducible refine gate_dst (N := 3) rfl ?_); refine box_event ?hg (N := 3) ?hd (cs := #[.int .i64 a0_0, .int .i64 a0_1, .int .i64 a0_2, .int .i64 a0_3, .int .i64 a0_4]) (t := 23) ?hr ?_; (case hd => rfl); (case hg => rfl); (case hr => first | (go_simp; done) | (go_simp; rfl)); intro gb102 hg w4 hbox hb; have n0_ := Aside0.mk (below_step (by repeat (first | (with_reducible first | exact HB.out | apply below_alloc | apply pw_below_drewN | apply below_drew1) | exact HB.out)) hb); have n1_ := Aside0.mk (hbox); have n2_ := Aside0.mk ((by rw [hg]; exact (below_size (by repeat (first | (with_reducible first | exact HB.out | apply below_alloc | apply pw_below_drewN | apply below_drew1) | exact HB.out))) : w.heap.size ≤ gb102)); have n3_ := Aside0.mk ((by rw [hg]; exact (below_size (by repeat (first | (with_reducible first | exact HB.out | apply below_alloc | apply pw_below_drewN | apply below_drew1) | exact HB.out))) : w.heap.size ≤ gb102)); clear HB; have HB := n0_; have BK102 := n1_; have GW102 := n2_; have GE102 := n3_; clear n0_ n1_ n2_ n3_; clear hb hbox hg; have hcz5_0 : w4.cell? ⟨gb102, 0, none⟩ = some (.int .i64 a0_0) := (blk_cell BK102.out 0).trans rfl; have hcz5_1 : w4.cell? ⟨gb102, 1, none⟩ = some (.int .i64 a0_1) := (blk_cell BK102.out 1).trans rfl; have hcz5_2 : w4.cell? ⟨gb102, 2, none⟩ = some (.int .i64 a0_2) := (blk_cell BK102.out 2).trans rfl; have hcz5_3 : w4.cell? ⟨gb102, 3, none⟩ = some (.int .i64 a0_3) := (blk_cell BK102.out 3).trans rfl; have hcz5_4 : w4.cell? ⟨gb102, 4, none⟩ = some (.int .i64 a0_4) := (blk_cell BK102.out 4).trans rfl; have hfz5_0 := blk_frozen BK102.out 0; have hfz5_1 := blk_frozen BK102.out 1; have hfz5_2 := blk_frozen BK102.out 2; have hfz5_3 := blk_frozen BK102.out 3; have hfz5_4 := blk_frozen BK102.out 4))
  go_loopg [8, 12] k (fun kq v8 v12 w' => ∃ (x8_1 : Int) (x12_1 : Int), v8 = .int .i64 x8_1 ∧ v12 = .int .i64 x12_1 ∧ Aside0 (bound_Point.l0 kq a1 a2 (wrap64 (a0_0 + 1)) x8_1 x12_1 a0_0 a0_1 a0_2 a0_3 a0_4 = some r) ∧ Aside0 (kq ≤ k) ∧ Aside0 (w'.heap[gb102]? = some (.cells #[.int .i64 a0_0, .int .i64 a0_1, .int .i64 a0_2, .int .i64 a0_3, .int .i64 a0_4] 23 (0, 0))) ∧ Aside0 (Below w.heap.size w w'))
  case atStart => exact ⟨(1024), (0), (by first | rfl | (simp; done) | (simp [*]; done)), (by first | rfl | (simp; done) | (simp [*]; done)), H', ⟨Nat.le_refl _⟩, ⟨by (with_reducible repeat (first | refine blk_drewN ?_ _ | refine blk_drew ?_ | refine blk_alloc ?_ _)); exact BK102.out⟩, ⟨by repeat (first | (with_reducible first | exact HB.out | apply below_alloc | apply pw_below_drewN | apply below_drew1 | refine below_set ?_ GE102.out) | exact HB.out)⟩⟩
  case round =>
    clear H'
    try clear c1
    try clear p2
    try clear hcz5_0
    try clear hcz5_1
    try clear hcz5_2
    try clear hcz5_3
    try clear hcz5_4
    try clear hfz5_0
    try clear hfz5_1
    try clear hfz5_2
    try clear hfz5_3
    try clear hfz5_4
    obtain ⟨x8_1, x12_1, rfl, rfl, HA, HK1, BK102, HB⟩ := hrel
    cases gk with
    | zero => exact absurd HA.out (by simp [bound_Point.l0])
    | succ k1 =>
      have H := HA.out
      clear HA
      simp only [bound_Point.l0] at H
      by_cases c6 : x12_1 < 4
      · rw [if_pos c6] at H
        have c6b0 : decide (x12_1 < 4) = true := decide_eq_true c6
        clear c6
        have H' := Aside0.mk H
        clear H
        go_wp2
        go_roundg k1
        case measure => have := HK1.out; omega
        case rel => exact ⟨(wrap64 (x8_1 * (wrap64 (a0_0 + 1)))), (wrap64 (x12_1 + 1)), (by first | rfl | (simp; done) | (simp [*]; done)), (by first | rfl | (simp; done) | (simp [*]; done)), H', ⟨by have := HK1.out; omega⟩, ⟨by (with_reducible repeat (first | refine blk_drewN ?_ _ | refine blk_drew ?_ | refine blk_alloc ?_ _)); exact BK102.out⟩, ⟨by repeat (first | (with_reducible first | exact HB.out | apply below_alloc | apply pw_below_drewN | apply below_drew1 | refine below_set ?_ GE102.out) | exact HB.out)⟩⟩
      · rw [if_neg c6] at H
        have c6b0 : decide (x12_1 < 4) = false := decide_eq_false c6
        clear c6
        obtain ⟨y103, hy103⟩ : ∃ y_ : List Int, y_ = (([a1, a2, wrap64 ((wrap64 (a0_0 + 1)) * (wrap64 (a0_0 + 1)))] : List Int)) := ⟨_, rfl⟩
        replace H : ((bound_sum.f k1 y103).bind fun t106 => ((bound_sum.f k1 (([a0_3, wrap64 (x8_1 * t106)] : List Int))).bind fun t110 => (some t110))) = some r := by first | (rw [hy103]; with_reducible exact H) | (have H2_ := (Option.bind_some _ _).symm.trans H; rw [hy103]; with_reducible exact H2_) | (have H2_ := (Option.bind_some _ _).symm.trans H; with_reducible exact H2_) | with_reducible exact H | (rw [hy103]; exact H) | exact H
        have Ny103 := Aside0.mk hy103
        clear hy103
        replace H := Option.bind_eq_some_iff.mp H
        obtain ⟨t106, A70, H⟩ := H
        replace H : ((bound_sum.f k1 (([a0_3, wrap64 (x8_1 * t106)] : List Int))).bind fun t110 => (some t110)) = some r := H
        have A7 := Aside0.mk A70
        clear A70
        obtain ⟨y107, hy107⟩ : ∃ y_ : List Int, y_ = (([a0_3, wrap64 (x8_1 * t106)] : List Int)) := ⟨_, rfl⟩
        replace H : ((bound_sum.f k1 y107).bind fun t110 => (some t110)) = some r := by first | (rw [hy107]; with_reducible exact H) | (have H2_ := (Option.bind_some _ _).symm.trans H; rw [hy107]; with_reducible exact H2_) | (have H2_ := (Option.bind_some _ _).symm.trans H; with_reducible exact H2_) | with_reducible exact H | (rw [hy107]; exact H) | exact H
        have Ny107 := Aside0.mk hy107
        clear hy107
        replace H := Option.bind_eq_some_iff.mp H
        obtain ⟨t110, A80, H⟩ := H
        replace H : (some t110) = some r := H
        have A8 := Aside0.mk A80
        clear A80
        obtain rfl := Option.some.inj H
        try go_wp2
        have n0_ := Aside0.mk (blk_drew BK102.out)
        have n1_ := Aside0.mk (below_drew1 HB.out)
        clear BK102
        clear HB
        have BK102 := n0_
        have HB := n1_
        clear n0_ n1_
        refine start_ (n := 14) (S := fun w' => w'.cell? ⟨gb102, 0, none⟩ = some (.int .i64 a0_0) ∧ w'.cell? ⟨gb102, 1, none⟩ = some (.int .i64 a0_1) ∧ w'.cell? ⟨gb102, 2, none⟩ = some (.int .i64 a0_2) ∧ w'.cell? ⟨gb102, 3, none⟩ = some (.int .i64 a0_3) ∧ w'.cell? ⟨gb102, 4, none⟩ = some (.int .i64 a0_4)) (ds := []) #[false, false, false, false, false, false, false, false, false, false, false, false, false, false] (by kernel_rfl) rfl rfl ⟨(blk_cell BK102.out 0).trans rfl, (blk_cell BK102.out 1).trans rfl, (blk_cell BK102.out 2).trans rfl, (blk_cell BK102.out 3).trans rfl, (blk_cell BK102.out 4).trans rfl⟩ (fun hHeld => ?_); refine with_tabW bound_Point.tab7 bound_Point.bits7 (fun HT_ HW_ => ?_)
        generalize wr.drew = w9 at BK102 HB hHeld ⊢
        refine pure_ (i := 0) (N := some 18) (v := ?_) (a' := ?_) #[true, false, false, false, false, false, false, false, false, false, false, false, false, false] rfl rfl (any_of HT_.out (by kernel_rfl)) (fun _ _ _ h => h) (Or.inl ⟨by rfl, ?_⟩) ?_ ?_
        rotate_left
        · intro w'
          go_simp
          with_reducible rfl
        rotate_left
        · simp only [Act.put, List.setIfInBounds_toArray, List.set_cons_zero, List.set_cons_succ, i64_w, i32_w]
          rfl
        refine pure_ (i := 2) (N := some 20) (v := ?_) (a' := ?_) #[true, false, true, false, false, false, false, false, false, false, false, false, false, false] rfl rfl (any_of HT_.out (by kernel_rfl)) (fun _ _ _ h => h) (Or.inl ⟨by rfl, ?_⟩) ?_ ?_
        rotate_left
        · intro w'
          go_simp
          with_reducible rfl
        rotate_left
        · simp only [Act.put, List.setIfInBounds_toArray, List.set_cons_zero, List.set_cons_succ, i64_w, i32_w]
          rfl
        refine pure_ (i := 3) (N := some 21) (v := ?_) (a' := ?_) #[true, false, true, true, false, false, false, false, false, false, false, false, false, false] rfl rfl (any_of HT_.out (by kernel_rfl)) (fun _ _ _ h => h) (Or.inl ⟨by rfl, ?_⟩) ?_ ?_
        rotate_left
        · intro w'
          go_simp
          with_reducible rfl
        rotate_left
        · simp only [Act.put, List.setIfInBounds_toArray, List.set_cons_zero, List.set_cons_succ, i64_w, i32_w]
          rfl
        refine pure_ (i := 4) (N := some 22) (v := ?_) (a' := ?_) #[true, false, true, true, true, false, false, false, false, false, false, false, false, false] rfl rfl (any_of HT_.out (by kernel_rfl)) (fun _ _ _ h => h) (Or.inl ⟨by rfl, ?_⟩) ?_ ?_
        rotate_left
        · intro w'
          go_simp
          with_reducible rfl
        rotate_left
        · simp only [Act.put, List.setIfInBounds_toArray, List.set_cons_zero, List.set_cons_succ, i64_w, i32_w]
          rfl
        refine pure_ (i := 5) (N := some 23) (v := ?_) (a' := ?_) #[true, false, true, true, true, true, false, false, false, false, false, false, false, false] rfl rfl (any_of HT_.out (by kernel_rfl)) (fun _ _ _ h => h) (Or.inl ⟨by rfl, ?_⟩) ?_ ?_
        rotate_left
        · intro w'
          go_simp
          with_reducible rfl
        rotate_left
        · simp only [Act.put, List.setIfInBounds_toArray, List.set_cons_zero, List.set_cons_succ, i64_w, i32_w]
          rfl
        refine pure_ (i := 6) (N := some 24) (v := ?_) (a' := ?_) #[true, false, true, true, true, true, true, false, false, false, false, false, false, false] rfl rfl (any_of HT_.out (by kernel_rfl)) (fun _ _ _ h => h) (Or.inl ⟨by rfl, ?_⟩) ?_ ?_
        rotate_left
        · intro w'
          go_simp
          with_reducible rfl
        rotate_left
        · simp only [Act.put, List.setIfInBounds_toArray, List.set_cons_zero, List.set_cons_succ, i64_w, i32_w]
          rfl
        refine pure_ (i := 7) (N := some 25) (v := ?_) (a' := ?_) #[true, false, true, true, true, true, true, true, false, false, false, false, false, false] rfl rfl (any_of HT_.out (by kernel_rfl)) (fun _ _ _ h => h) (Or.inl ⟨by rfl, ?_⟩) ?_ ?_
        rotate_left
        · intro w'
          go_simp
          with_reducible rfl
        rotate_left
        · simp only [Act.put, List.setIfInBounds_toArray, List.set_cons_zero, List.set_cons_succ, i64_w, i32_w]
          rfl
        refine take_ (i := 1) (N := some 19) (v := ?_) (a' := ?_) #[true, true, true, true, true, true, true, true, false, false, false, false, false, false] rfl rfl (take_ofW HT_.out HW_.out (by kernel_rfl)) (fun _ _ _ h => h) (Or.inl ⟨by rfl, ?_⟩) hHeld ?_ ?_
        rotate_left
        · rintro w' ⟨s0, s1, s2, s3, s4⟩
          go_simp
          with_reducible rfl
        rotate_left
        · simp only [Act.put, List.setIfInBounds_toArray, List.set_cons_zero, List.set_cons_succ, i64_w, i32_w]
          rfl
        refine one_ (i := 8) (N := some 26) #[true, true, true, true, true, true, true, true, true, false, false, false, false, false] rfl rfl (one_of HT_.out (by kernel_rfl)) (by decide) (fun K hK => ?_)
        refine Kd.R_lit_step (Kd.int .i64) _ 3 ?hg (N := 26) ?hd (xs := ([a1, a2, wrap64 ((wrap64 (a0_0 + 1)) * (wrap64 (a0_0 + 1)))] : List Int)) (inner := [.int .i64 a1, .int .i64 a2, .int .i64 (wrap64 ((wrap64 (a0_0 + 1)) * (wrap64 (a0_0 + 1))))]) (ok := fun _ => True) (okp := fun _ => True) ?hr ?hp (fun _ hk => hk) trivial (Below.refl _ _) (Nat.le_refl _) (by simp) ?_; (case hd => rfl); (case hg => rfl); (case hr => first | (go_simp; done) | (go_simp; rfl)); (case hp => exact (Reps.one (show Kd.M (Kd.int .i64) _ _ _ a1 [.int .i64 a1] from rfl) (Reps.one (show Kd.M (Kd.int .i64) _ _ _ a2 [.int .i64 a2] from rfl) (Reps.one (show Kd.M (Kd.int .i64) _ _ _ (wrap64 ((wrap64 (a0_0 + 1)) * (wrap64 (a0_0 + 1)))) [.int .i64 (wrap64 ((wrap64 (a0_0 + 1)) * (wrap64 (a0_0 + 1))))] from rfl) (Reps.none _ _)))))
        intro v104 w10 ho11 hb hg_ hnew_
        clear hg_ hnew_
        (first | rw [← Ny103.out] at ho11 | (simp only [Int.reduceToNat] at ho11; rw [← Ny103.out] at ho11))
        have n0_ := Aside0.mk (Kd.R_lower ho11 (below_size (by repeat (first | (with_reducible first | exact HB.out | apply below_alloc | apply pw_below_drewN | apply below_drew1 | refine below_set ?_ GE102.out) | exact HB.out))))
        have n1_ := Aside0.mk (blk_below (g := gb102) (o := .cells #[.int .i64 a0_0, .int .i64 a0_1, .int .i64 a0_2, .int .i64 a0_3, .int .i64 a0_4] 23 (0, 0)) (by (with_reducible repeat (first | refine blk_drewN ?_ _ | refine blk_drew ?_ | refine blk_alloc ?_ _)); exact BK102.out) hb)
        have n2_ := Aside0.mk (below_step (by repeat (first | (with_reducible first | exact HB.out | apply below_alloc | apply pw_below_drewN | apply below_drew1 | refine below_set ?_ GE102.out) | exact HB.out)) hb)
        clear BK102
        clear HB
        have HO105 := n0_
        have BK102 := n1_
        have HB := n2_
        clear n0_ n1_ n2_
        clear hb ho11
        obtain ⟨Ao12, co12, eo12⟩ := Kd.R_slice HO105.out
        (first | subst eo12 | (injection eo12 with f1_ f2_ f3_; have f4_ := f1_.symm; have f5_ := f3_.symm; clear f1_ f2_ f3_; subst f4_; subst f5_))
        refine hK.out _ _ ⟨(blk_cell BK102.out 0).trans rfl, (blk_cell BK102.out 1).trans rfl, (blk_cell BK102.out 2).trans rfl, (blk_cell BK102.out 3).trans rfl, (blk_cell BK102.out 4).trans rfl⟩ (fun hHeld => ?_)
        clear hK K
        refine norm_ (a' := ?_) ?_ ?_
        rotate_left
        · show Act.put _ (some 26) _ = _
          simp only [Act.put, List.setIfInBounds_toArray, List.set_cons_zero, List.set_cons_succ, i64_w, i32_w]
          rfl
        refine one_ (i := 9) (N := some 27) #[true, true, true, true, true, true, true, true, true, true, false, false, false, false] rfl rfl (one_of HT_.out (by kernel_rfl)) (by decide) (fun K hK => ?_)
        refine goes_ Try.func23 (by kernel_rfl) rfl #[.slice Ao12 y103.length co12] (by rfl) rfl rfl (by (try simp only [List.map_toArray, List.map_cons, List.map_nil]); first | done | rfl | (simp only [List.length_drop, List.length_take]; rfl)) ?_
        with_reducible refine (bound_sum.calls k1 _ _ y103 t106 _ ?side1 ?side2 A7.out).mono ?_
        (case side1 => repeat (first | exact (Kd.R_reads' HO105.out).2.2 | (with_reducible refine Kd.C_alloc ?_ _) | (with_reducible refine Kd.C_drewN ?_ _) | (with_reducible refine Kd.C_drew ?_)))
        (case side2 => exact (Kd.R_reads' HO105.out).2.1)
        rintro e w' ⟨rfl, ⟨nd, rfl⟩⟩
        refine ⟨_, rfl, ?_⟩
        refine hK.out _ _ ⟨(blk_cell BK102.out 0).trans rfl, (blk_cell BK102.out 1).trans rfl, (blk_cell BK102.out 2).trans rfl, (blk_cell BK102.out 3).trans rfl, (blk_cell BK102.out 4).trans rfl⟩ (fun hHeld => ?_)
        clear hK K
        refine norm_ (a' := ?_) ?_ ?_
        rotate_left
        · show Act.put _ (some 27) _ = _
          simp only [Act.put, List.setIfInBounds_toArray, List.set_cons_zero, List.set_cons_succ, i64_w, i32_w]
          rfl
        refine pure_ (i := 10) (N := some 28) (v := ?_) (a' := ?_) #[true, true, true, true, true, true, true, true, true, true, true, false, false, false] rfl rfl (any_of HT_.out (by kernel_rfl)) (fun _ _ _ h => h) (Or.inl ⟨by rfl, ?_⟩) ?_ ?_
        rotate_left
        · intro w'
          go_simp
          with_reducible rfl
        rotate_left
        · simp only [Act.put, List.setIfInBounds_toArray, List.set_cons_zero, List.set_cons_succ, i64_w, i32_w]
          rfl
        refine one_ (i := 11) (N := some 29) #[true, true, true, true, true, true, true, true, true, true, true, true, false, false] rfl rfl (one_of HT_.out (by kernel_rfl)) (by decide) (fun K hK => ?_)
        refine Kd.R_lit_step (Kd.int .i64) _ 3 ?hg (N := 29) ?hd (xs := ([a0_3, wrap64 (x8_1 * t106)] : List Int)) (inner := [.int .i64 a0_3, .int .i64 (wrap64 (x8_1 * t106))]) (ok := fun _ => True) (okp := fun _ => True) ?hr ?hp (fun _ hk => hk) trivial (Below.refl _ _) (Nat.le_refl _) (by simp) ?_; (case hd => rfl); (case hg => rfl); (case hr => first | (go_simp; done) | (go_simp; rfl)); (case hp => exact (Reps.one (show Kd.M (Kd.int .i64) _ _ _ a0_3 [.int .i64 a0_3] from rfl) (Reps.one (show Kd.M (Kd.int .i64) _ _ _ (wrap64 (x8_1 * t106)) [.int .i64 (wrap64 (x8_1 * t106))] from rfl) (Reps.none _ _))))
        intro v108 w13 ho14 hb hg_ hnew_
        clear hg_ hnew_
        (first | rw [← Ny107.out] at ho14 | (simp only [Int.reduceToNat] at ho14; rw [← Ny107.out] at ho14))
        have n0_ := Aside0.mk (Kd.R_elder' (by (with_reducible repeat (first | apply Kd.R_alloc | apply Kd.R_drewN | apply Kd.R_drew)); exact HO105.out) (Kd.R_base ho14) hb)
        have n1_ := Aside0.mk (Kd.R_lower (Kd.R_new' ho14 (Kd.R_lt (by (with_reducible repeat (first | apply Kd.R_alloc | apply Kd.R_drewN | apply Kd.R_drew)); exact HO105.out))) (below_size (by repeat (first | (with_reducible first | exact HB.out | apply below_alloc | apply pw_below_drewN | apply below_drew1 | refine below_set ?_ GE102.out) | exact HB.out))))
        have n2_ := Aside0.mk (blk_below (g := gb102) (o := .cells #[.int .i64 a0_0, .int .i64 a0_1, .int .i64 a0_2, .int .i64 a0_3, .int .i64 a0_4] 23 (0, 0)) (by (with_reducible repeat (first | refine blk_drewN ?_ _ | refine blk_drew ?_ | refine blk_alloc ?_ _)); exact BK102.out) hb)
        have n3_ := Aside0.mk (below_step (by repeat (first | (with_reducible first | exact HB.out | apply below_alloc | apply pw_below_drewN | apply below_drew1 | refine below_set ?_ GE102.out) | exact HB.out)) hb)
        clear HO105
        clear BK102
        clear HB
        have HO105 := n0_
        have HO109 := n1_
        have BK102 := n2_
        have HB := n3_
        clear n0_ n1_ n2_ n3_
        clear hb ho14
        obtain ⟨Ao15, co15, eo15⟩ := Kd.R_slice HO109.out
        (first | subst eo15 | (injection eo15 with f1_ f2_ f3_; have f4_ := f1_.symm; have f5_ := f3_.symm; clear f1_ f2_ f3_; subst f4_; subst f5_))
        refine hK.out _ _ ⟨(blk_cell BK102.out 0).trans rfl, (blk_cell BK102.out 1).trans rfl, (blk_cell BK102.out 2).trans rfl, (blk_cell BK102.out 3).trans rfl, (blk_cell BK102.out 4).trans rfl⟩ (fun hHeld => ?_)
        clear hK K
        refine norm_ (a' := ?_) ?_ ?_
        rotate_left
        · show Act.put _ (some 29) _ = _
          simp only [Act.put, List.setIfInBounds_toArray, List.set_cons_zero, List.set_cons_succ, i64_w, i32_w]
          rfl
        refine one_ (i := 12) (N := some 30) #[true, true, true, true, true, true, true, true, true, true, true, true, true, false] rfl rfl (one_of HT_.out (by kernel_rfl)) (by decide) (fun K hK => ?_)
        refine goes_ Try.func23 (by kernel_rfl) rfl #[.slice Ao15 y107.length co15] (by rfl) rfl rfl (by (try simp only [List.map_toArray, List.map_cons, List.map_nil]); first | done | rfl | (simp only [List.length_drop, List.length_take]; rfl)) ?_
        with_reducible refine (bound_sum.calls k1 _ _ y107 t110 _ ?side1 ?side2 A8.out).mono ?_
        (case side1 => repeat (first | exact (Kd.R_reads' HO109.out).2.2 | (with_reducible refine Kd.C_alloc ?_ _) | (with_reducible refine Kd.C_drewN ?_ _) | (with_reducible refine Kd.C_drew ?_)))
        (case side2 => exact (Kd.R_reads' HO109.out).2.1)
        rintro e w' ⟨rfl, ⟨nd, rfl⟩⟩
        refine ⟨_, rfl, ?_⟩
        refine hK.out _ _ ⟨(blk_cell BK102.out 0).trans rfl, (blk_cell BK102.out 1).trans rfl, (blk_cell BK102.out 2).trans rfl, (blk_cell BK102.out 3).trans rfl, (blk_cell BK102.out 4).trans rfl⟩ (fun hHeld => ?_)
        clear hK K
        refine norm_ (a' := ?_) ?_ ?_
        rotate_left
        · show Act.put _ (some 30) _ = _
          simp only [Act.put, List.setIfInBounds_toArray, List.set_cons_zero, List.set_cons_succ, i64_w, i32_w]
          rfl
        refine pure_ (i := 13) (N := some 6) (v := ?_) (a' := ?_) #[true, true, true, true, true, true, true, true, true, true, true, true, true, true] rfl rfl (any_of HT_.out (by kernel_rfl)) (fun _ _ _ h => h) (Or.inl ⟨by rfl, ?_⟩) ?_ ?_
        rotate_left
        · intro w'
          go_simp
          with_reducible rfl
        rotate_left
        · simp only [Act.put, List.setIfInBounds_toArray, List.set_cons_zero, List.set_cons_succ, i64_w, i32_w]
          rfl
        refine done_ (done_of HT_.out (by kernel_rfl)) ?_
        try go_wp2
        go_ret
        exact ⟨by first | rfl | (simp [errW_none, errW_some] <;> rfl) | (simp [*, errW_none, errW_some] <;> rfl), by repeat (first | (with_reducible first | exact HB.out | apply below_alloc | apply pw_below_drewN | apply below_drew1 | refine below_set ?_ GE102.out) | exact HB.out)⟩

/-! ### bound_Scan: function 12 -/
def bound_Scan.f (k : Nat) (a0_0 : Int) (a0_1 : Int) (a0_2 : Int) (a0_3 : Int) (a0_4 : Int) (a1 : Int) (a2 : Int) : Option (Int) := (bound_sum.f k (([a0_1, a1, a0_0, a2, 1] : List Int))).bind fun t115 => (some (wrap64 (64 * t115)))
theorem bound_Scan.mono : ∀ a0 a1 a2 a3 a4 a5 a6 k, LeO (bound_Scan.f k a0 a1 a2 a3 a4 a5 a6) (bound_Scan.f (k + 1) a0 a1 a2 a3 a4 a5 a6) := by
  intro a0 a1 a2 a3 a4 a5 a6 k
  unfold bound_Scan.f
  repeat' first
      | (with_reducible exact bound_sum.mono _ _)
      | (with_reducible exact LeO.refl _)
      | (with_reducible exact LeO.none _)
      | (with_reducible refine LeO.ite ?_ ?_)
      | (with_reducible refine LeO.bind ?_ (fun _ => ?_))
      | exact bound_sum.mono _ _
      | exact LeO.none _
      | refine LeO.ite ?_ ?_
      | refine LeO.bind ?_ (fun _ => ?_)
set_option maxHeartbeats 8000000 in
set_option maxRecDepth 100000 in
theorem bound_Scan.calls (k : Nat) (a0_0 : Int) (a0_1 : Int) (a0_2 : Int) (a0_3 : Int) (a0_4 : Int) (a1 : Int) (a2 : Int) (r : Int) (w : World) (h : bound_Scan.f k a0_0 a0_1 a0_2 a0_3 a0_4 a1 a2 = some r) :
    Calls Try.prog 12 #[.agg #[.int .i64 a0_0, .int .i64 a0_1, .int .i64 a0_2, .int .i64 a0_3, .int .i64 a0_4], .int .i64 a1, .int .i64 a2] w fun e w' => e = .returned (.int .i64 r) ∧ Below w.heap.size w w' := by
  have hu23 := Try.underlying23
  have HB := Aside0.mk (Below.refl w.heap.size w)
  have H : ((bound_sum.f k (([a0_1, a1, a0_0, a2, 1] : List Int))).bind fun t115 => (some (wrap64 (64 * t115)))) = some r := h
  clear h
  obtain ⟨y112, hy112⟩ : ∃ y_ : List Int, y_ = (([a0_1, a1, a0_0, a2, 1] : List Int)) := ⟨_, rfl⟩
  replace H : ((bound_sum.f k y112).bind fun t115 => (some (wrap64 (64 * t115)))) = some r := by first | (rw [hy112]; with_reducible exact H) | (have H2_ := (Option.bind_some _ _).symm.trans H; rw [hy112]; with_reducible exact H2_) | (have H2_ := (Option.bind_some _ _).symm.trans H; with_reducible exact H2_) | with_reducible exact H | (rw [hy112]; exact H) | exact H
  have Ny112 := Aside0.mk hy112
  clear hy112
  replace H := Option.bind_eq_some_iff.mp H
  obtain ⟨t115, A40, H⟩ := H
  replace H : (some (wrap64 (64 * t115))) = some r := H
  have A4 := Aside0.mk A40
  clear A40
  obtain rfl := Option.some.inj H
  go_enter Try.func12, Try.ntmps12
  go_wp2_with (first | ((with_reducible refine gate_dst (N := 3) rfl ?_); refine box_event ?hg (N := 3) ?hd (cs := #[.int .i64 a0_0, .int .i64 a0_1, .int .i64 a0_2, .int .i64 a0_3, .int .i64 a0_4]) (t := 23) ?hr ?_; (case hd => rfl); (case hg => rfl); (case hr => first | (go_simp; done) | (go_simp; rfl)); intro gb111 hg w5 hbox hb; have n0_ := Aside0.mk (below_step (by repeat (first | (with_reducible first | exact HB.out | apply below_alloc | apply pw_below_drewN | apply below_drew1) | exact HB.out)) hb); have n1_ := Aside0.mk (hbox); have n2_ := Aside0.mk ((by rw [hg]; exact (below_size (by repeat (first | (with_reducible first | exact HB.out | apply below_alloc | apply pw_below_drewN | apply below_drew1) | exact HB.out))) : w.heap.size ≤ gb111)); have n3_ := Aside0.mk ((by rw [hg]; exact (below_size (by repeat (first | (with_reducible first | exact HB.out | apply below_alloc | apply pw_below_drewN | apply below_drew1) | exact HB.out))) : w.heap.size ≤ gb111)); clear HB; have HB := n0_; have BK111 := n1_; have GW111 := n2_; have GE111 := n3_; clear n0_ n1_ n2_ n3_; clear hb hbox hg; have hcz6_0 : w5.cell? ⟨gb111, 0, none⟩ = some (.int .i64 a0_0) := (blk_cell BK111.out 0).trans rfl; have hcz6_1 : w5.cell? ⟨gb111, 1, none⟩ = some (.int .i64 a0_1) := (blk_cell BK111.out 1).trans rfl; have hcz6_2 : w5.cell? ⟨gb111, 2, none⟩ = some (.int .i64 a0_2) := (blk_cell BK111.out 2).trans rfl; have hcz6_3 : w5.cell? ⟨gb111, 3, none⟩ = some (.int .i64 a0_3) := (blk_cell BK111.out 3).trans rfl; have hcz6_4 : w5.cell? ⟨gb111, 4, none⟩ = some (.int .i64 a0_4) := (blk_cell BK111.out 4).trans rfl; have hfz6_0 := blk_frozen BK111.out 0; have hfz6_1 := blk_frozen BK111.out 1; have hfz6_2 := blk_frozen BK111.out 2; have hfz6_3 := blk_frozen BK111.out 3; have hfz6_4 := blk_frozen BK111.out 4) | ((with_reducible refine gate_dst (N := 13) rfl ?_); refine Kd.R_lit (Kd.int .i64) _ 3 ?hg (N := 13) ?hd (xs := ([a0_1, a1, a0_0, a2, 1] : List Int)) (inner := [.int .i64 a0_1, .int .i64 a1, .int .i64 a0_0, .int .i64 a2, .int .i64 1]) (ok := fun _ => True) (okp := fun _ => True) ?hr ?hp (fun _ hk => hk) trivial (Below.refl _ _) (Nat.le_refl _) (by simp) ?_; (case hd => rfl); (case hg => rfl); (case hr => first | (go_simp; done) | (go_simp; rfl)); (case hp => exact (Reps.one (show Kd.M (Kd.int .i64) _ _ _ a0_1 [.int .i64 a0_1] from rfl) (Reps.one (show Kd.M (Kd.int .i64) _ _ _ a1 [.int .i64 a1] from rfl) (Reps.one (show Kd.M (Kd.int .i64) _ _ _ a0_0 [.int .i64 a0_0] from rfl) (Reps.one (show Kd.M (Kd.int .i64) _ _ _ a2 [.int .i64 a2] from rfl) (Reps.one (show Kd.M (Kd.int .i64) _ _ _ 1 [.int .i64 1] from rfl) (Reps.none _ _))))))); intro v113 w7 ho8 hb hg_ hnew_; clear hg_ hnew_; (first | rw [← Ny112.out] at ho8 | (simp only [Int.reduceToNat] at ho8; rw [← Ny112.out] at ho8)); have n0_ := Aside0.mk (Kd.R_lower ho8 (below_size (by repeat (first | (with_reducible first | exact HB.out | apply below_alloc | apply pw_below_drewN | apply below_drew1 | refine below_set ?_ GE111.out) | exact HB.out)))); have n1_ := Aside0.mk (blk_below (g := gb111) (o := .cells #[.int .i64 a0_0, .int .i64 a0_1, .int .i64 a0_2, .int .i64 a0_3, .int .i64 a0_4] 23 (0, 0)) (by (with_reducible repeat (first | refine blk_drewN ?_ _ | refine blk_drew ?_ | refine blk_alloc ?_ _)); exact BK111.out) hb); have n2_ := Aside0.mk (below_step (by repeat (first | (with_reducible first | exact HB.out | apply below_alloc | apply pw_below_drewN | apply below_drew1 | refine below_set ?_ GE111.out) | exact HB.out)) hb); clear BK111; clear HB; have HO114 := n0_; have BK111 := n1_; have HB := n2_; clear n0_ n1_ n2_; clear hb ho8; obtain ⟨Ao9, co9, eo9⟩ := Kd.R_slice HO114.out; subst eo9) | ((with_reducible refine gate_callee (f := 23) rfl ?_); refine goesL_ (some 14) rfl rfl Try.func23 (by kernel_rfl) rfl #[.slice Ao9 y112.length co9] rfl (by (try simp only [List.map_toArray, List.map_cons, List.map_nil]); first | done | rfl | (simp only [List.length_drop, List.length_take]; rfl)) ?_; (with_reducible refine (bound_sum.calls k _ _ y112 t115 _ ?side1 ?side2 A4.out).mono ?_); (case side1 => repeat (first | exact (Kd.R_reads' HO114.out).2.2 | (with_reducible refine Kd.C_alloc ?_ _) | (with_reducible refine Kd.C_drewN ?_ _) | (with_reducible refine Kd.C_drew ?_))); (case side2 => exact (Kd.R_reads' HO114.out).2.1); rintro e w' ⟨rfl, ⟨nd, rfl⟩⟩; refine ⟨_, rfl, ?_⟩))
  go_ret
  exact ⟨by first | rfl | (simp [errW_none, errW_some] <;> rfl) | (simp [*, errW_none, errW_some] <;> rfl), by repeat (first | (with_reducible first | exact HB.out | apply below_alloc | apply pw_below_drewN | apply below_drew1 | refine below_set ?_ GE111.out) | exact HB.out)⟩

-- NOT PRINTED: function 31 (api_Event)

/-! ### history_Size: function 24 (by hand) -/
theorem hsz_heap : Kd.Heap k38 := by
  unfold k38
  refine Kd.heap_iso _ (Kd.heap_pair (Kd.heap_int _) (Kd.heap_pair (Kd.heap_int _) (Kd.heap_pair (Kd.heap_int _) (Kd.heap_pair (Kd.heap_int _) (Kd.heap_pair (Kd.heap_int _) (Kd.heap_pair ?_ ?_))))))
  · exact Kd.heap_iso _ (Kd.heap_pair (Kd.heap_int _) (Kd.heap_pair (Kd.heap_int _) (Kd.heap_pair (Kd.heap_int _) (Kd.heap_int _))))
  · exact Kd.heap_iso _ (Kd.heap_pair (Kd.heap_int _) (Kd.heap_pair Kd.heap_bool (Kd.heap_pair (Kd.heap_int _) (Kd.heap_slice _ (Kd.heap_iso _ (Kd.heap_pair (Kd.heap_int _) (Kd.heap_int _)))))))
theorem hsz_up {w w1 : World} {A : Option Addr} {n : Nat} {xs : List S38} (h : Kd.C k38 w A n xs) (hb : Below w.heap.size w w1) : Kd.C k38 w1 A n xs := hsz_heap.C (fun k hk => hb.block k hk) h
def history_Size11.f (x : S38) (kd : Int) (at_ : Int) : Bool := if x.f5.f0 = kd then (if x.f6.f1 = true then (if x.f3 ≥ 0 then decide (x.f3 < at_) else false) else false) else false
set_option maxHeartbeats 8000000 in
set_option maxRecDepth 100000 in
theorem history_Size11.calls (x : S38) (A : Option Addr) (c : Nat) (kd : Int) (at_ : Int) (g1 g2 : Nat) (W : World) (hk : W.heap[g1]? = some (.cells #[.int .i64 kd] 3 (0, 0))) (ha : W.heap[g2]? = some (.cells #[.int .i64 at_] 3 (0, 0))) :
    Calls Try.prog 32 #[.agg #[.int .i64 x.f0, .int .i64 x.f1, .int .i64 x.f2, .int .i64 x.f3, .int .i64 x.f4, .int .i64 x.f5.f0, .int .u64 x.f5.f1, .int .u64 x.f5.f2, .int .i64 x.f5.f3, .int .i64 x.f6.f0, .bool x.f6.f1, .int .u64 x.f6.f2, .slice A x.f6.f3.length c], .pointer (some ⟨g1, 0, none⟩), .pointer (some ⟨g2, 0, none⟩)] W fun e w' => e = .returned (.bool (history_Size11.f x kd at_)) ∧ Below W.heap.size W w' := by
  have Bhk := Aside0.mk hk
  have Bha := Aside0.mk ha
  clear hk ha
  have HB := Aside0.mk (Below.refl W.heap.size W)
  unfold history_Size11.f
  by_cases c1 : x.f5.f0 = kd
  · rw [if_pos c1]
    have c1b0 : decide (x.f5.f0 = kd) = true := decide_eq_true c1
    have c1b1 : (x.f5.f0 == kd) = true := beq_iff_eq.mpr c1
    by_cases c2 : x.f6.f1 = true
    · rw [if_pos c2]
      have c2b0 : x.f6.f1 = true := id c2
      by_cases c3 : x.f3 ≥ 0
      · rw [if_pos c3]
        have c3b0 : decide (0 ≤ x.f3) = true := decide_eq_true c3
        go_enter Try.func32, Try.ntmps32
        go_wp2_with (first | ((with_reducible refine gate_dst (N := 3) rfl ?_); refine box_event ?hg (N := 3) ?hd (cs := #[.int .i64 x.f0, .int .i64 x.f1, .int .i64 x.f2, .int .i64 x.f3, .int .i64 x.f4, .int .i64 x.f5.f0, .int .u64 x.f5.f1, .int .u64 x.f5.f2, .int .i64 x.f5.f3, .int .i64 x.f6.f0, .bool x.f6.f1, .int .u64 x.f6.f2, .slice A x.f6.f3.length c]) (t := 38) ?hr ?_; (case hd => rfl); (case hg => rfl); (case hr => first | (go_simp; done) | (go_simp; rfl)); intro gb hg wb hbox hb; have BX := Aside0.mk hbox; have n0_ := Aside0.mk (below_step HB.out hb); clear HB; have HB := n0_; clear n0_; have cx_3 : wb.cell? ⟨gb, 3, none⟩ = some (.int .i64 x.f3) := (blk_cell BX.out 3).trans rfl; have cx_5 : wb.cell? ⟨gb, 5, none⟩ = some (.int .i64 x.f5.f0) := (blk_cell BX.out 5).trans rfl; have cx_10 : wb.cell? ⟨gb, 10, none⟩ = some (.bool x.f6.f1) := (blk_cell BX.out 10).trans rfl; have n_hk := Aside0.mk (blk_below (g := g1) (o := .cells #[.int .i64 kd] 3 (0, 0)) Bhk.out hb); have n_ha := Aside0.mk (blk_below (g := g2) (o := .cells #[.int .i64 at_] 3 (0, 0)) Bha.out hb); have chk_0 : wb.cell? ⟨g1, 0, none⟩ = some (.int .i64 kd) := (blk_cell n_hk.out 0).trans rfl; have cha_0 : wb.cell? ⟨g2, 0, none⟩ = some (.int .i64 at_) := (blk_cell n_ha.out 0).trans rfl; clear hb hbox hg))
        go_ret
        exact ⟨by first | rfl | (simp [*]; done), by repeat (first | (with_reducible first | exact HB.out | apply below_alloc | apply pw_below_drewN | apply below_drew1) | exact HB.out)⟩
      · rw [if_neg c3]
        have c3b0 : decide (0 ≤ x.f3) = false := decide_eq_false c3
        go_enter Try.func32, Try.ntmps32
        go_wp2_with (first | ((with_reducible refine gate_dst (N := 3) rfl ?_); refine box_event ?hg (N := 3) ?hd (cs := #[.int .i64 x.f0, .int .i64 x.f1, .int .i64 x.f2, .int .i64 x.f3, .int .i64 x.f4, .int .i64 x.f5.f0, .int .u64 x.f5.f1, .int .u64 x.f5.f2, .int .i64 x.f5.f3, .int .i64 x.f6.f0, .bool x.f6.f1, .int .u64 x.f6.f2, .slice A x.f6.f3.length c]) (t := 38) ?hr ?_; (case hd => rfl); (case hg => rfl); (case hr => first | (go_simp; done) | (go_simp; rfl)); intro gb hg wb hbox hb; have BX := Aside0.mk hbox; have n0_ := Aside0.mk (below_step HB.out hb); clear HB; have HB := n0_; clear n0_; have cx_3 : wb.cell? ⟨gb, 3, none⟩ = some (.int .i64 x.f3) := (blk_cell BX.out 3).trans rfl; have cx_5 : wb.cell? ⟨gb, 5, none⟩ = some (.int .i64 x.f5.f0) := (blk_cell BX.out 5).trans rfl; have cx_10 : wb.cell? ⟨gb, 10, none⟩ = some (.bool x.f6.f1) := (blk_cell BX.out 10).trans rfl; have n_hk := Aside0.mk (blk_below (g := g1) (o := .cells #[.int .i64 kd] 3 (0, 0)) Bhk.out hb); have n_ha := Aside0.mk (blk_below (g := g2) (o := .cells #[.int .i64 at_] 3 (0, 0)) Bha.out hb); have chk_0 : wb.cell? ⟨g1, 0, none⟩ = some (.int .i64 kd) := (blk_cell n_hk.out 0).trans rfl; have cha_0 : wb.cell? ⟨g2, 0, none⟩ = some (.int .i64 at_) := (blk_cell n_ha.out 0).trans rfl; clear hb hbox hg))
        go_ret
        exact ⟨by first | rfl | (simp [*]; done), by repeat (first | (with_reducible first | exact HB.out | apply below_alloc | apply pw_below_drewN | apply below_drew1) | exact HB.out)⟩
    · rw [if_neg c2]
      have c2b0 : x.f6.f1 = false := Bool.eq_false_iff.mpr c2
      go_enter Try.func32, Try.ntmps32
      go_wp2_with (first | ((with_reducible refine gate_dst (N := 3) rfl ?_); refine box_event ?hg (N := 3) ?hd (cs := #[.int .i64 x.f0, .int .i64 x.f1, .int .i64 x.f2, .int .i64 x.f3, .int .i64 x.f4, .int .i64 x.f5.f0, .int .u64 x.f5.f1, .int .u64 x.f5.f2, .int .i64 x.f5.f3, .int .i64 x.f6.f0, .bool x.f6.f1, .int .u64 x.f6.f2, .slice A x.f6.f3.length c]) (t := 38) ?hr ?_; (case hd => rfl); (case hg => rfl); (case hr => first | (go_simp; done) | (go_simp; rfl)); intro gb hg wb hbox hb; have BX := Aside0.mk hbox; have n0_ := Aside0.mk (below_step HB.out hb); clear HB; have HB := n0_; clear n0_; have cx_3 : wb.cell? ⟨gb, 3, none⟩ = some (.int .i64 x.f3) := (blk_cell BX.out 3).trans rfl; have cx_5 : wb.cell? ⟨gb, 5, none⟩ = some (.int .i64 x.f5.f0) := (blk_cell BX.out 5).trans rfl; have cx_10 : wb.cell? ⟨gb, 10, none⟩ = some (.bool x.f6.f1) := (blk_cell BX.out 10).trans rfl; have n_hk := Aside0.mk (blk_below (g := g1) (o := .cells #[.int .i64 kd] 3 (0, 0)) Bhk.out hb); have n_ha := Aside0.mk (blk_below (g := g2) (o := .cells #[.int .i64 at_] 3 (0, 0)) Bha.out hb); have chk_0 : wb.cell? ⟨g1, 0, none⟩ = some (.int .i64 kd) := (blk_cell n_hk.out 0).trans rfl; have cha_0 : wb.cell? ⟨g2, 0, none⟩ = some (.int .i64 at_) := (blk_cell n_ha.out 0).trans rfl; clear hb hbox hg))
      go_ret
      exact ⟨by first | rfl | (simp [*]; done), by repeat (first | (with_reducible first | exact HB.out | apply below_alloc | apply pw_below_drewN | apply below_drew1) | exact HB.out)⟩
  · rw [if_neg c1]
    have c1b0 : decide (x.f5.f0 = kd) = false := decide_eq_false c1
    have c1b1 : (x.f5.f0 == kd) = false := beq_eq_false_iff_ne.mpr c1
    go_enter Try.func32, Try.ntmps32
    go_wp2_with (first | ((with_reducible refine gate_dst (N := 3) rfl ?_); refine box_event ?hg (N := 3) ?hd (cs := #[.int .i64 x.f0, .int .i64 x.f1, .int .i64 x.f2, .int .i64 x.f3, .int .i64 x.f4, .int .i64 x.f5.f0, .int .u64 x.f5.f1, .int .u64 x.f5.f2, .int .i64 x.f5.f3, .int .i64 x.f6.f0, .bool x.f6.f1, .int .u64 x.f6.f2, .slice A x.f6.f3.length c]) (t := 38) ?hr ?_; (case hd => rfl); (case hg => rfl); (case hr => first | (go_simp; done) | (go_simp; rfl)); intro gb hg wb hbox hb; have BX := Aside0.mk hbox; have n0_ := Aside0.mk (below_step HB.out hb); clear HB; have HB := n0_; clear n0_; have cx_3 : wb.cell? ⟨gb, 3, none⟩ = some (.int .i64 x.f3) := (blk_cell BX.out 3).trans rfl; have cx_5 : wb.cell? ⟨gb, 5, none⟩ = some (.int .i64 x.f5.f0) := (blk_cell BX.out 5).trans rfl; have cx_10 : wb.cell? ⟨gb, 10, none⟩ = some (.bool x.f6.f1) := (blk_cell BX.out 10).trans rfl; have n_hk := Aside0.mk (blk_below (g := g1) (o := .cells #[.int .i64 kd] 3 (0, 0)) Bhk.out hb); have n_ha := Aside0.mk (blk_below (g := g2) (o := .cells #[.int .i64 at_] 3 (0, 0)) Bha.out hb); have chk_0 : wb.cell? ⟨g1, 0, none⟩ = some (.int .i64 kd) := (blk_cell n_hk.out 0).trans rfl; have cha_0 : wb.cell? ⟨g2, 0, none⟩ = some (.int .i64 at_) := (blk_cell n_ha.out 0).trans rfl; clear hb hbox hg))
    go_ret
    exact ⟨by first | rfl | (simp [*]; done), by repeat (first | (with_reducible first | exact HB.out | apply below_alloc | apply pw_below_drewN | apply below_drew1) | exact HB.out)⟩
def history_Size2.f (x : S38) (at_ : Int) : Bool := if x.f2 ≤ at_ then (if x.f3 < 0 then true else decide (x.f3 ≥ at_)) else false
set_option maxHeartbeats 8000000 in
set_option maxRecDepth 100000 in
theorem history_Size2.calls (x : S38) (A : Option Addr) (c : Nat) (at_ : Int) (g2 : Nat) (W : World) (ha : W.heap[g2]? = some (.cells #[.int .i64 at_] 3 (0, 0))) :
    Calls Try.prog 33 #[.agg #[.int .i64 x.f0, .int .i64 x.f1, .int .i64 x.f2, .int .i64 x.f3, .int .i64 x.f4, .int .i64 x.f5.f0, .int .u64 x.f5.f1, .int .u64 x.f5.f2, .int .i64 x.f5.f3, .int .i64 x.f6.f0, .bool x.f6.f1, .int .u64 x.f6.f2, .slice A x.f6.f3.length c], .pointer (some ⟨g2, 0, none⟩)] W fun e w' => e = .returned (.bool (history_Size2.f x at_)) ∧ Below W.heap.size W w' := by
  have Bha := Aside0.mk ha
  clear ha
  have HB := Aside0.mk (Below.refl W.heap.size W)
  unfold history_Size2.f
  by_cases c1 : x.f2 ≤ at_
  · rw [if_pos c1]
    have c1b0 : decide (x.f2 ≤ at_) = true := decide_eq_true c1
    by_cases c2 : x.f3 < 0
    · rw [if_pos c2]
      have c2b0 : decide (x.f3 < 0) = true := decide_eq_true c2
      go_enter Try.func33, Try.ntmps33
      go_wp2_with (first | ((with_reducible refine gate_dst (N := 2) rfl ?_); refine box_event ?hg (N := 2) ?hd (cs := #[.int .i64 x.f0, .int .i64 x.f1, .int .i64 x.f2, .int .i64 x.f3, .int .i64 x.f4, .int .i64 x.f5.f0, .int .u64 x.f5.f1, .int .u64 x.f5.f2, .int .i64 x.f5.f3, .int .i64 x.f6.f0, .bool x.f6.f1, .int .u64 x.f6.f2, .slice A x.f6.f3.length c]) (t := 38) ?hr ?_; (case hd => rfl); (case hg => rfl); (case hr => first | (go_simp; done) | (go_simp; rfl)); intro gb hg wb hbox hb; have BX := Aside0.mk hbox; have n0_ := Aside0.mk (below_step HB.out hb); clear HB; have HB := n0_; clear n0_; have cx_2 : wb.cell? ⟨gb, 2, none⟩ = some (.int .i64 x.f2) := (blk_cell BX.out 2).trans rfl; have cx_3 : wb.cell? ⟨gb, 3, none⟩ = some (.int .i64 x.f3) := (blk_cell BX.out 3).trans rfl; have n_ha := Aside0.mk (blk_below (g := g2) (o := .cells #[.int .i64 at_] 3 (0, 0)) Bha.out hb); have cha_0 : wb.cell? ⟨g2, 0, none⟩ = some (.int .i64 at_) := (blk_cell n_ha.out 0).trans rfl; clear hb hbox hg))
      go_ret
      exact ⟨by first | rfl | (simp [*]; done), by repeat (first | (with_reducible first | exact HB.out | apply below_alloc | apply pw_below_drewN | apply below_drew1) | exact HB.out)⟩
    · rw [if_neg c2]
      have c2b0 : decide (x.f3 < 0) = false := decide_eq_false c2
      go_enter Try.func33, Try.ntmps33
      go_wp2_with (first | ((with_reducible refine gate_dst (N := 2) rfl ?_); refine box_event ?hg (N := 2) ?hd (cs := #[.int .i64 x.f0, .int .i64 x.f1, .int .i64 x.f2, .int .i64 x.f3, .int .i64 x.f4, .int .i64 x.f5.f0, .int .u64 x.f5.f1, .int .u64 x.f5.f2, .int .i64 x.f5.f3, .int .i64 x.f6.f0, .bool x.f6.f1, .int .u64 x.f6.f2, .slice A x.f6.f3.length c]) (t := 38) ?hr ?_; (case hd => rfl); (case hg => rfl); (case hr => first | (go_simp; done) | (go_simp; rfl)); intro gb hg wb hbox hb; have BX := Aside0.mk hbox; have n0_ := Aside0.mk (below_step HB.out hb); clear HB; have HB := n0_; clear n0_; have cx_2 : wb.cell? ⟨gb, 2, none⟩ = some (.int .i64 x.f2) := (blk_cell BX.out 2).trans rfl; have cx_3 : wb.cell? ⟨gb, 3, none⟩ = some (.int .i64 x.f3) := (blk_cell BX.out 3).trans rfl; have n_ha := Aside0.mk (blk_below (g := g2) (o := .cells #[.int .i64 at_] 3 (0, 0)) Bha.out hb); have cha_0 : wb.cell? ⟨g2, 0, none⟩ = some (.int .i64 at_) := (blk_cell n_ha.out 0).trans rfl; clear hb hbox hg))
      go_ret
      exact ⟨by first | rfl | (simp [*]; done), by repeat (first | (with_reducible first | exact HB.out | apply below_alloc | apply pw_below_drewN | apply below_drew1) | exact HB.out)⟩
  · rw [if_neg c1]
    have c1b0 : decide (x.f2 ≤ at_) = false := decide_eq_false c1
    go_enter Try.func33, Try.ntmps33
    go_wp2_with (first | ((with_reducible refine gate_dst (N := 2) rfl ?_); refine box_event ?hg (N := 2) ?hd (cs := #[.int .i64 x.f0, .int .i64 x.f1, .int .i64 x.f2, .int .i64 x.f3, .int .i64 x.f4, .int .i64 x.f5.f0, .int .u64 x.f5.f1, .int .u64 x.f5.f2, .int .i64 x.f5.f3, .int .i64 x.f6.f0, .bool x.f6.f1, .int .u64 x.f6.f2, .slice A x.f6.f3.length c]) (t := 38) ?hr ?_; (case hd => rfl); (case hg => rfl); (case hr => first | (go_simp; done) | (go_simp; rfl)); intro gb hg wb hbox hb; have BX := Aside0.mk hbox; have n0_ := Aside0.mk (below_step HB.out hb); clear HB; have HB := n0_; clear n0_; have cx_2 : wb.cell? ⟨gb, 2, none⟩ = some (.int .i64 x.f2) := (blk_cell BX.out 2).trans rfl; have cx_3 : wb.cell? ⟨gb, 3, none⟩ = some (.int .i64 x.f3) := (blk_cell BX.out 3).trans rfl; have n_ha := Aside0.mk (blk_below (g := g2) (o := .cells #[.int .i64 at_] 3 (0, 0)) Bha.out hb); have cha_0 : wb.cell? ⟨g2, 0, none⟩ = some (.int .i64 at_) := (blk_cell n_ha.out 0).trans rfl; clear hb hbox hg))
    go_ret
    exact ⟨by first | rfl | (simp [*]; done), by repeat (first | (with_reducible first | exact HB.out | apply below_alloc | apply pw_below_drewN | apply below_drew1) | exact HB.out)⟩
def history_Size_c1.l0 (kd at_ : Int) : Nat → List S38 → Int → Int → Option Int
  | 0, _, _, _ => none
  | k + 1, l, i, n => if i < (l.length : Int) then (if 0 ≤ i then (if history_Size11.f (rd_T38 l i) kd at_ = true then history_Size_c1.l0 kd at_ k l (wrap64 (i + 1)) (wrap64 (n + 1)) else history_Size_c1.l0 kd at_ k l (wrap64 (i + 1)) n) else none) else some n
theorem history_Size_c1.mono_l (kd at_ : Int) : ∀ k l i n, LeO (history_Size_c1.l0 kd at_ k l i n) (history_Size_c1.l0 kd at_ (k + 1) l i n)
  | 0, _, _, _ => fun r h => by simp [history_Size_c1.l0] at h
  | k + 1, l, i, n => by
    unfold history_Size_c1.l0
    exact LeO.ite (LeO.ite (LeO.ite (history_Size_c1.mono_l kd at_ k _ _ _) (history_Size_c1.mono_l kd at_ k _ _ _)) (LeO.refl _)) (LeO.refl _)
set_option maxHeartbeats 8000000 in
set_option maxRecDepth 100000 in
theorem history_Size_c1.calls (k : Nat) (kd at_ : Int)  (A0 : Option Addr) (c0 : Nat) (l0 : List S38) (r : Int) (g1 g2 : Nat) (W : World) (hr0 : Kd.C k38 W A0 l0.length l0) (hk : W.heap[g1]? = some (.cells #[.int .i64 kd] 3 (0, 0))) (ha : W.heap[g2]? = some (.cells #[.int .i64 at_] 3 (0, 0))) (h : history_Size_c1.l0 kd at_ k l0 0 0 = some r) :
    Calls Try.prog 31 #[.slice A0 l0.length c0, .func (.func 32) #[] #[.pointer (some ⟨g1, 0, none⟩), .pointer (some ⟨g2, 0, none⟩)]] W fun e w' => e = .returned (.int .i64 r) ∧ Below W.heap.size W w' := by
  have HR0 := Aside0.mk hr0
  have Bhk := Aside0.mk hk
  have Bha := Aside0.mk ha
  have H' := Aside0.mk h
  have HB := Aside0.mk (Below.refl W.heap.size W)
  clear hr0 h hk ha
  go_enter Try.func31, Try.ntmps31
  go_wp2
  go_loopg [5, 10] k (fun kq v5 v10 w' => ∃ (n i : Int), v5 = .int .i64 n ∧ v10 = .int .i64 i ∧ Aside0 (history_Size_c1.l0 kd at_ kq l0 i n = some r) ∧ Aside0 (kq ≤ k) ∧ Aside0 (Below W.heap.size W w'))
  case atStart => exact ⟨0, 0, by rfl, by rfl, H', ⟨Nat.le_refl _⟩, ⟨by repeat (first | (with_reducible first | exact HB.out | apply below_alloc | apply pw_below_drewN | apply below_drew1) | exact HB.out)⟩⟩
  case round =>
    clear H'
    clear HB
    try clear p2
    obtain ⟨n, i, rfl, rfl, HA, HK1, HB⟩ := hrel
    cases gk with
    | zero => exact absurd HA.out (by simp [history_Size_c1.l0])
    | succ k1 =>
      have H := HA.out
      clear HA
      simp only [history_Size_c1.l0] at H
      by_cases c4 : i < (l0.length : Int)
      · rw [if_pos c4] at H
        have c4b0 : decide (i < (l0.length : Int)) = true := decide_eq_true c4
        by_cases c5 : 0 ≤ i
        · rw [if_pos c5] at H
          have c5b0 : decide (0 ≤ i) = true := decide_eq_true c5
          obtain ⟨ad, A12, c12, e12, hx0, hx1, hx2, hx3, hx4, hx5, hx6, hx7, hx8, hx9, hx10, hx11, hx12, hl12, hi12⟩ := at_T38 (hsz_up HR0.out HB.out) i c5 c4
          cases e12
          have HI := Aside0.mk hi12
          have HL := Aside0.mk hl12
          clear hi12 hl12
          by_cases c6 : history_Size11.f (rd_T38 l0 i) kd at_ = true
          · rw [if_pos c6] at H
            have c6b0 : history_Size11.f (rd_T38 l0 i) kd at_ = true := c6
            have H' := Aside0.mk H
            clear H
            go_wp2_with (first | (go_at_call 32; (with_reducible refine (history_Size11.calls (rd_T38 l0 i) A12 c12 kd at_ g1 g2 _ (blk_alloc (blk_below Bhk.out HB.out) _) (blk_alloc (blk_below Bha.out HB.out) _)).mono ?_); rintro e w1 ⟨rfl, hb⟩; have n0_ := Aside0.mk (below_step (below_alloc HB.out _) hb); clear HB hb; have HB := n0_; clear n0_))
            go_roundg k1
            case measure => have := HK1.out; omega
            case rel => exact ⟨wrap64 (n + 1), wrap64 (i + 1), (by first | rfl | (simp; done) | (simp [*]; done)), (by first | rfl | (simp; done) | (simp [*]; done)), H', ⟨by have := HK1.out; omega⟩, ⟨by repeat (first | (with_reducible first | exact HB.out | apply below_alloc | apply pw_below_drewN | apply below_drew1) | exact HB.out)⟩⟩
          · rw [if_neg c6] at H
            have c6b0 : history_Size11.f (rd_T38 l0 i) kd at_ = false := Bool.eq_false_iff.mpr c6
            have H' := Aside0.mk H
            clear H
            go_wp2_with (first | (go_at_call 32; (with_reducible refine (history_Size11.calls (rd_T38 l0 i) A12 c12 kd at_ g1 g2 _ (blk_alloc (blk_below Bhk.out HB.out) _) (blk_alloc (blk_below Bha.out HB.out) _)).mono ?_); rintro e w1 ⟨rfl, hb⟩; have n0_ := Aside0.mk (below_step (below_alloc HB.out _) hb); clear HB hb; have HB := n0_; clear n0_))
            go_roundg k1
            case measure => have := HK1.out; omega
            case rel => exact ⟨n, wrap64 (i + 1), (by first | rfl | (simp; done) | (simp [*]; done)), (by first | rfl | (simp; done) | (simp [*]; done)), H', ⟨by have := HK1.out; omega⟩, ⟨by repeat (first | (with_reducible first | exact HB.out | apply below_alloc | apply pw_below_drewN | apply below_drew1) | exact HB.out)⟩⟩
        · rw [if_neg c5] at H
          exact absurd H (by simp)
      · rw [if_neg c4] at H
        have c4b0 : decide (i < (l0.length : Int)) = false := decide_eq_false c4
        clear c4
        obtain rfl := Option.some.inj H
        clear H
        go_wp2
        go_ret
        exact ⟨by first | rfl | (simp [*]; done), by repeat (first | (with_reducible first | exact HB.out | apply below_alloc | apply pw_below_drewN | apply below_drew1) | exact HB.out)⟩
def history_Size_c2.l0 (at_ : Int) : Nat → List S38 → Int → Int → Option Int
  | 0, _, _, _ => none
  | k + 1, l, i, n => if i < (l.length : Int) then (if 0 ≤ i then (if history_Size2.f (rd_T38 l i) at_ = true then history_Size_c2.l0 at_ k l (wrap64 (i + 1)) (wrap64 (n + 1)) else history_Size_c2.l0 at_ k l (wrap64 (i + 1)) n) else none) else some n
theorem history_Size_c2.mono_l (at_ : Int) : ∀ k l i n, LeO (history_Size_c2.l0 at_ k l i n) (history_Size_c2.l0 at_ (k + 1) l i n)
  | 0, _, _, _ => fun r h => by simp [history_Size_c2.l0] at h
  | k + 1, l, i, n => by
    unfold history_Size_c2.l0
    exact LeO.ite (LeO.ite (LeO.ite (history_Size_c2.mono_l at_ k _ _ _) (history_Size_c2.mono_l at_ k _ _ _)) (LeO.refl _)) (LeO.refl _)
set_option maxHeartbeats 8000000 in
set_option maxRecDepth 100000 in
theorem history_Size_c2.calls (k : Nat) (at_ : Int)  (A0 : Option Addr) (c0 : Nat) (l0 : List S38) (r : Int) (g2 : Nat) (W : World) (hr0 : Kd.C k38 W A0 l0.length l0) (ha : W.heap[g2]? = some (.cells #[.int .i64 at_] 3 (0, 0))) (h : history_Size_c2.l0 at_ k l0 0 0 = some r) :
    Calls Try.prog 31 #[.slice A0 l0.length c0, .func (.func 33) #[] #[.pointer (some ⟨g2, 0, none⟩)]] W fun e w' => e = .returned (.int .i64 r) ∧ Below W.heap.size W w' := by
  have HR0 := Aside0.mk hr0
  have Bha := Aside0.mk ha
  have H' := Aside0.mk h
  have HB := Aside0.mk (Below.refl W.heap.size W)
  clear hr0 h ha
  go_enter Try.func31, Try.ntmps31
  go_wp2
  go_loopg [5, 10] k (fun kq v5 v10 w' => ∃ (n i : Int), v5 = .int .i64 n ∧ v10 = .int .i64 i ∧ Aside0 (history_Size_c2.l0 at_ kq l0 i n = some r) ∧ Aside0 (kq ≤ k) ∧ Aside0 (Below W.heap.size W w'))
  case atStart => exact ⟨0, 0, by rfl, by rfl, H', ⟨Nat.le_refl _⟩, ⟨by repeat (first | (with_reducible first | exact HB.out | apply below_alloc | apply pw_below_drewN | apply below_drew1) | exact HB.out)⟩⟩
  case round =>
    clear H'
    clear HB
    try clear p2
    obtain ⟨n, i, rfl, rfl, HA, HK1, HB⟩ := hrel
    cases gk with
    | zero => exact absurd HA.out (by simp [history_Size_c2.l0])
    | succ k1 =>
      have H := HA.out
      clear HA
      simp only [history_Size_c2.l0] at H
      by_cases c4 : i < (l0.length : Int)
      · rw [if_pos c4] at H
        have c4b0 : decide (i < (l0.length : Int)) = true := decide_eq_true c4
        by_cases c5 : 0 ≤ i
        · rw [if_pos c5] at H
          have c5b0 : decide (0 ≤ i) = true := decide_eq_true c5
          obtain ⟨ad, A12, c12, e12, hx0, hx1, hx2, hx3, hx4, hx5, hx6, hx7, hx8, hx9, hx10, hx11, hx12, hl12, hi12⟩ := at_T38 (hsz_up HR0.out HB.out) i c5 c4
          cases e12
          have HI := Aside0.mk hi12
          have HL := Aside0.mk hl12
          clear hi12 hl12
          by_cases c6 : history_Size2.f (rd_T38 l0 i) at_ = true
          · rw [if_pos c6] at H
            have c6b0 : history_Size2.f (rd_T38 l0 i) at_ = true := c6
            have H' := Aside0.mk H
            clear H
            go_wp2_with (first | (go_at_call 33; (with_reducible refine (history_Size2.calls (rd_T38 l0 i) A12 c12 at_ g2 _ (blk_alloc (blk_below Bha.out HB.out) _)).mono ?_); rintro e w1 ⟨rfl, hb⟩; have n0_ := Aside0.mk (below_step (below_alloc HB.out _) hb); clear HB hb; have HB := n0_; clear n0_))
            go_roundg k1
            case measure => have := HK1.out; omega
            case rel => exact ⟨wrap64 (n + 1), wrap64 (i + 1), (by first | rfl | (simp; done) | (simp [*]; done)), (by first | rfl | (simp; done) | (simp [*]; done)), H', ⟨by have := HK1.out; omega⟩, ⟨by repeat (first | (with_reducible first | exact HB.out | apply below_alloc | apply pw_below_drewN | apply below_drew1) | exact HB.out)⟩⟩
          · rw [if_neg c6] at H
            have c6b0 : history_Size2.f (rd_T38 l0 i) at_ = false := Bool.eq_false_iff.mpr c6
            have H' := Aside0.mk H
            clear H
            go_wp2_with (first | (go_at_call 33; (with_reducible refine (history_Size2.calls (rd_T38 l0 i) A12 c12 at_ g2 _ (blk_alloc (blk_below Bha.out HB.out) _)).mono ?_); rintro e w1 ⟨rfl, hb⟩; have n0_ := Aside0.mk (below_step (below_alloc HB.out _) hb); clear HB hb; have HB := n0_; clear n0_))
            go_roundg k1
            case measure => have := HK1.out; omega
            case rel => exact ⟨n, wrap64 (i + 1), (by first | rfl | (simp; done) | (simp [*]; done)), (by first | rfl | (simp; done) | (simp [*]; done)), H', ⟨by have := HK1.out; omega⟩, ⟨by repeat (first | (with_reducible first | exact HB.out | apply below_alloc | apply pw_below_drewN | apply below_drew1) | exact HB.out)⟩⟩
        · rw [if_neg c5] at H
          exact absurd H (by simp)
      · rw [if_neg c4] at H
        have c4b0 : decide (i < (l0.length : Int)) = false := decide_eq_false c4
        clear c4
        obtain rfl := Option.some.inj H
        clear H
        go_wp2
        go_ret
        exact ⟨by first | rfl | (simp [*]; done), by repeat (first | (with_reducible first | exact HB.out | apply below_alloc | apply pw_below_drewN | apply below_drew1) | exact HB.out)⟩
set_option maxHeartbeats 8000000 in
set_option maxRecDepth 100000 in
theorem history_Size1.calls (k : Nat) (kd at_ : Int) (A0 : Option Addr) (c0 : Nat) (l0 : List S38) (r : Int) (gh ga : Nat) (W : World) (hr0 : Kd.C k38 W A0 l0.length l0) (hh : W.heap[gh]? = some (.cells #[.slice A0 l0.length c0] 29 (0, 0))) (ha : W.heap[ga]? = some (.cells #[.int .i64 at_] 3 (0, 0))) (h : history_Size_c1.l0 kd at_ k l0 0 0 = some r) :
    Calls Try.prog 30 #[.int .i64 kd, .pointer (some ⟨gh, 0, none⟩), .pointer (some ⟨ga, 0, none⟩)] W fun e w' => e = .returned (.int .i64 r) ∧ Below W.heap.size W w' := by
  have hmf : ∀ (fn : Fn) (first cap : Array Value) (w : World), (Instr.makeFunc fn first cap).run Try.prog w = .ok (.func fn first cap) w := fun _ _ _ _ => rfl
  have HR0 := Aside0.mk hr0
  have BKh := Aside0.mk hh
  have BKa := Aside0.mk ha
  have H' := Aside0.mk h
  have HB := Aside0.mk (Below.refl W.heap.size W)
  clear hr0 hh ha h
  go_enter Try.func30, Try.ntmps30
  go_wp2_with (first | ((with_reducible refine gate_dst (N := 3) rfl ?_); refine box_event ?hg (N := 3) ?hd (cs := #[.int .i64 kd]) (t := 3) ?hr ?_; (case hd => rfl); (case hg => rfl); (case hr => first | (go_simp; done) | (go_simp; rfl)); intro gk hg wb_gk hbox hb; have BKgk := Aside0.mk hbox; have n_BKh := Aside0.mk (blk_below (g := gh) (o := .cells #[.slice A0 l0.length c0] 29 (0, 0)) BKh.out hb); clear BKh; have BKh := n_BKh; clear n_BKh; have n_BKa := Aside0.mk (blk_below (g := ga) (o := .cells #[.int .i64 at_] 3 (0, 0)) BKa.out hb); clear BKa; have BKa := n_BKa; clear n_BKa; have n0_ := Aside0.mk (below_step HB.out hb); clear HB; have HB := n0_; clear n0_; have cgk_0 : wb_gk.cell? ⟨gk, 0, none⟩ = some (.int .i64 kd) := (blk_cell BKgk.out 0).trans rfl; have cgh_0 : wb_gk.cell? ⟨gh, 0, none⟩ = some (.slice A0 l0.length c0) := (blk_cell BKh.out 0).trans rfl; clear hb hbox hg) | (go_at_call 31; (with_reducible refine (history_Size_c1.calls k kd at_ A0 c0 l0 r gk ga _ (hsz_up HR0.out HB.out) BKgk.out BKa.out H'.out).mono ?_); rintro e w1 ⟨rfl, hb⟩; have n0_ := Aside0.mk (below_step HB.out hb); clear HB hb; have HB := n0_; clear n0_))
  go_ret
  exact ⟨rfl, by repeat (first | (with_reducible first | exact HB.out | apply below_alloc | apply pw_below_drewN | apply below_drew1) | exact HB.out)⟩
def history_Size.f (k : Nat) (l0 : List S38) (a1 : Int) : Option Int := (history_Size_c2.l0 a1 k l0 0 0).bind fun p => (history_Size_c1.l0 1 a1 k l0 0 0).bind fun a => (history_Size_c1.l0 2 a1 k l0 0 0).bind fun b => some (wrap64 (wrap64 (a - b) + p))
theorem history_Size.mono : ∀ l0 a1 k, LeO (history_Size.f k l0 a1) (history_Size.f (k + 1) l0 a1) := by
  intro l0 a1 k
  exact LeO.bind (history_Size_c2.mono_l _ _ _ _ _) (fun _ => LeO.bind (history_Size_c1.mono_l _ _ _ _ _ _) (fun _ => LeO.bind (history_Size_c1.mono_l _ _ _ _ _ _) (fun _ => LeO.refl _)))
set_option maxHeartbeats 8000000 in
set_option maxRecDepth 100000 in
theorem history_Size.calls (k : Nat) (A0 : Option Addr) (c0 : Nat) (l0 : List S38) (a1 : Int) (r : Int) (w : World) (hr0 : Kd.C k38 w A0 l0.length l0) (hc0 : l0.length ≤ c0) (h : history_Size.f k l0 a1 = some r) :
    Calls Try.prog 24 #[.slice A0 l0.length c0, .int .i64 a1] w fun e w' => e = .returned (.int .i64 r) ∧ Below w.heap.size w w' := by
  have hmf : ∀ (fn : Fn) (first cap : Array Value) (w : World), (Instr.makeFunc fn first cap).run Try.prog w = .ok (.func fn first cap) w := fun _ _ _ _ => rfl
  have HR0 := Aside0.mk hr0
  obtain ⟨p, hp, h⟩ := Option.bind_eq_some_iff.mp h
  obtain ⟨a, ha, h⟩ := Option.bind_eq_some_iff.mp h
  obtain ⟨b, hb, h⟩ := Option.bind_eq_some_iff.mp h
  have Hp := Aside0.mk hp
  have Ha := Aside0.mk ha
  have Hb := Aside0.mk hb
  obtain rfl := Option.some.inj h
  have HB := Aside0.mk (Below.refl w.heap.size w)
  clear hr0 hp ha hb h
  go_enter Try.func24, Try.ntmps24
  go_wp2_with (first | ((with_reducible refine gate_dst (N := 2) rfl ?_); refine box_event ?hg (N := 2) ?hd (cs := #[.slice A0 l0.length c0]) (t := 29) ?hr ?_; (case hd => rfl); (case hg => rfl); (case hr => first | (go_simp; done) | (go_simp; rfl)); intro gh hg wb_gh hbox hb; have BKgh := Aside0.mk hbox; have n0_ := Aside0.mk (below_step HB.out hb); clear HB; have HB := n0_; clear n0_; have cgh_0 : wb_gh.cell? ⟨gh, 0, none⟩ = some (.slice A0 l0.length c0) := (blk_cell BKgh.out 0).trans rfl; clear hb hbox hg) | ((with_reducible refine gate_dst (N := 3) rfl ?_); refine box_event ?hg (N := 3) ?hd (cs := #[.int .i64 a1]) (t := 3) ?hr ?_; (case hd => rfl); (case hg => rfl); (case hr => first | (go_simp; done) | (go_simp; rfl)); intro ga hg wb_ga hbox hb; have BKga := Aside0.mk hbox; have n_BKgh := Aside0.mk (blk_below (g := gh) (o := .cells #[.slice A0 l0.length c0] 29 (0, 0)) BKgh.out hb); clear BKgh; have BKgh := n_BKgh; clear n_BKgh; have n0_ := Aside0.mk (below_step HB.out hb); clear HB; have HB := n0_; clear n0_; have cgh_1 : wb_ga.cell? ⟨gh, 0, none⟩ = some (.slice A0 l0.length c0) := (blk_cell BKgh.out 0).trans rfl; clear hb hbox hg) | (go_at_call 31; (with_reducible refine (history_Size_c2.calls k a1 A0 c0 l0 p ga _ (hsz_up HR0.out HB.out) BKga.out Hp.out).mono ?_); rintro e w1 ⟨rfl, hb⟩; have n_BKgh := Aside0.mk (blk_below (g := gh) (o := .cells #[.slice A0 l0.length c0] 29 (0, 0)) BKgh.out hb); clear BKgh; have BKgh := n_BKgh; clear n_BKgh; have n_BKga := Aside0.mk (blk_below (g := ga) (o := .cells #[.int .i64 a1] 3 (0, 0)) BKga.out hb); clear BKga; have BKga := n_BKga; clear n_BKga; have n0_ := Aside0.mk (below_step HB.out hb); clear HB hb; have HB := n0_; clear n0_; have c1gh : w1.cell? ⟨gh, 0, none⟩ = some (.slice A0 l0.length c0) := (blk_cell BKgh.out 0).trans rfl; have c1ga : w1.cell? ⟨ga, 0, none⟩ = some (.int .i64 a1) := (blk_cell BKga.out 0).trans rfl) | (go_at_call 30; (with_reducible refine (history_Size1.calls k 1 a1 A0 c0 l0 a gh ga _ (hsz_up HR0.out HB.out) BKgh.out BKga.out Ha.out).mono ?_); rintro e w2 ⟨rfl, hb⟩; have n_BKgh := Aside0.mk (blk_below (g := gh) (o := .cells #[.slice A0 l0.length c0] 29 (0, 0)) BKgh.out hb); clear BKgh; have BKgh := n_BKgh; clear n_BKgh; have n_BKga := Aside0.mk (blk_below (g := ga) (o := .cells #[.int .i64 a1] 3 (0, 0)) BKga.out hb); clear BKga; have BKga := n_BKga; clear n_BKga; have n0_ := Aside0.mk (below_step HB.out hb); clear HB hb; have HB := n0_; clear n0_; have c2gh : w2.cell? ⟨gh, 0, none⟩ = some (.slice A0 l0.length c0) := (blk_cell BKgh.out 0).trans rfl; have c2ga : w2.cell? ⟨ga, 0, none⟩ = some (.int .i64 a1) := (blk_cell BKga.out 0).trans rfl) | (go_at_call 30; (with_reducible refine (history_Size1.calls k 2 a1 A0 c0 l0 b gh ga _ (hsz_up HR0.out HB.out) BKgh.out BKga.out Hb.out).mono ?_); rintro e w3 ⟨rfl, hb⟩; have n_BKgh := Aside0.mk (blk_below (g := gh) (o := .cells #[.slice A0 l0.length c0] 29 (0, 0)) BKgh.out hb); clear BKgh; have BKgh := n_BKgh; clear n_BKgh; have n_BKga := Aside0.mk (blk_below (g := ga) (o := .cells #[.int .i64 a1] 3 (0, 0)) BKga.out hb); clear BKga; have BKga := n_BKga; clear n_BKga; have n0_ := Aside0.mk (below_step HB.out hb); clear HB hb; have HB := n0_; clear n0_; have c3gh : w3.cell? ⟨gh, 0, none⟩ = some (.slice A0 l0.length c0) := (blk_cell BKgh.out 0).trans rfl; have c3ga : w3.cell? ⟨ga, 0, none⟩ = some (.int .i64 a1) := (blk_cell BKga.out 0).trans rfl))
  go_ret
  exact ⟨by first | rfl | (simp; done), by repeat (first | (with_reducible first | exact HB.out | apply below_alloc | apply pw_below_drewN | apply below_drew1) | exact HB.out)⟩


/-! ### history_Inserts: function 25 (by hand) -/
theorem hin_heap : Kd.Heap k38 := by
  unfold k38
  refine Kd.heap_iso _ (Kd.heap_pair (Kd.heap_int _) (Kd.heap_pair (Kd.heap_int _) (Kd.heap_pair (Kd.heap_int _) (Kd.heap_pair (Kd.heap_int _) (Kd.heap_pair (Kd.heap_int _) (Kd.heap_pair ?_ ?_))))))
  · exact Kd.heap_iso _ (Kd.heap_pair (Kd.heap_int _) (Kd.heap_pair (Kd.heap_int _) (Kd.heap_pair (Kd.heap_int _) (Kd.heap_int _))))
  · exact Kd.heap_iso _ (Kd.heap_pair (Kd.heap_int _) (Kd.heap_pair Kd.heap_bool (Kd.heap_pair (Kd.heap_int _) (Kd.heap_slice _ (Kd.heap_iso _ (Kd.heap_pair (Kd.heap_int _) (Kd.heap_int _)))))))
theorem hin_up {w w1 : World} {A : Option Addr} {n : Nat} {xs : List S38} (h : Kd.C k38 w A n xs) (hb : Below w.heap.size w w1) : Kd.C k38 w1 A n xs := hin_heap.C (fun k hk => hb.block k hk) h
def hin_Bf.f (a b : S38) : Bool := if a.f3 ≥ 0 then decide (a.f3 < b.f2) else false
set_option maxHeartbeats 8000000 in
set_option maxRecDepth 100000 in
theorem hin_Bf.calls (a b : S38) (A B : Option Addr) (c d : Nat) (W : World) : Calls Try.prog 35 #[.agg #[.int .i64 a.f0, .int .i64 a.f1, .int .i64 a.f2, .int .i64 a.f3, .int .i64 a.f4, .int .i64 a.f5.f0, .int .u64 a.f5.f1, .int .u64 a.f5.f2, .int .i64 a.f5.f3, .int .i64 a.f6.f0, .bool a.f6.f1, .int .u64 a.f6.f2, .slice A a.f6.f3.length c], .agg #[.int .i64 b.f0, .int .i64 b.f1, .int .i64 b.f2, .int .i64 b.f3, .int .i64 b.f4, .int .i64 b.f5.f0, .int .u64 b.f5.f1, .int .u64 b.f5.f2, .int .i64 b.f5.f3, .int .i64 b.f6.f0, .bool b.f6.f1, .int .u64 b.f6.f2, .slice B b.f6.f3.length d]] W fun e w' => e = .returned (.bool (hin_Bf.f a b)) ∧ Below W.heap.size W w' := by
  have HB := Aside0.mk (Below.refl W.heap.size W)
  unfold hin_Bf.f
  by_cases c1 : a.f3 ≥ 0
  · rw [if_pos c1]
    have c1b : decide (0 ≤ a.f3) = true := decide_eq_true c1
    go_enter Try.func35, Try.ntmps35
    go_wp2_with (first | ((with_reducible refine gate_dst (N := 2) rfl ?_); refine box_event ?hg (N := 2) ?hd (cs := #[.int .i64 a.f0, .int .i64 a.f1, .int .i64 a.f2, .int .i64 a.f3, .int .i64 a.f4, .int .i64 a.f5.f0, .int .u64 a.f5.f1, .int .u64 a.f5.f2, .int .i64 a.f5.f3, .int .i64 a.f6.f0, .bool a.f6.f1, .int .u64 a.f6.f2, .slice A a.f6.f3.length c]) (t := 38) ?hr ?_; (case hd => rfl); (case hg => rfl); (case hr => first | (go_simp; done) | (go_simp; rfl)); intro ga hg wb_ga hbox hb; have BKga := Aside0.mk hbox; have n0_ := Aside0.mk (below_step HB.out hb); clear HB; have HB := n0_; clear n0_; clear hb hbox hg) | ((with_reducible refine gate_dst (N := 3) rfl ?_); refine box_event ?hg (N := 3) ?hd (cs := #[.int .i64 b.f0, .int .i64 b.f1, .int .i64 b.f2, .int .i64 b.f3, .int .i64 b.f4, .int .i64 b.f5.f0, .int .u64 b.f5.f1, .int .u64 b.f5.f2, .int .i64 b.f5.f3, .int .i64 b.f6.f0, .bool b.f6.f1, .int .u64 b.f6.f2, .slice B b.f6.f3.length d]) (t := 38) ?hr ?_; (case hd => rfl); (case hg => rfl); (case hr => first | (go_simp; done) | (go_simp; rfl)); intro gb hg wb_gb hbox hb; have BKgb := Aside0.mk hbox; have n_BKga := Aside0.mk (blk_below (g := ga) (o := .cells #[.int .i64 a.f0, .int .i64 a.f1, .int .i64 a.f2, .int .i64 a.f3, .int .i64 a.f4, .int .i64 a.f5.f0, .int .u64 a.f5.f1, .int .u64 a.f5.f2, .int .i64 a.f5.f3, .int .i64 a.f6.f0, .bool a.f6.f1, .int .u64 a.f6.f2, .slice A a.f6.f3.length c] 38 (0, 0)) BKga.out hb); clear BKga; have BKga := n_BKga; clear n_BKga; have n0_ := Aside0.mk (below_step HB.out hb); clear HB; have HB := n0_; clear n0_; have cgb_2 : wb_gb.cell? ⟨gb, 2, none⟩ = some (.int .i64 b.f2) := (blk_cell BKgb.out 2).trans rfl; have cga_3 : wb_gb.cell? ⟨ga, 3, none⟩ = some (.int .i64 a.f3) := (blk_cell BKga.out 3).trans rfl; clear hb hbox hg))
    go_ret
    exact ⟨by first | rfl | (simp [*]; done), by repeat (first | (with_reducible first | exact HB.out | apply below_alloc | apply pw_below_drewN | apply below_drew1) | exact HB.out)⟩
  · rw [if_neg c1]
    have c1b : decide (0 ≤ a.f3) = false := decide_eq_false c1
    go_enter Try.func35, Try.ntmps35
    go_wp2_with (first | ((with_reducible refine gate_dst (N := 2) rfl ?_); refine box_event ?hg (N := 2) ?hd (cs := #[.int .i64 a.f0, .int .i64 a.f1, .int .i64 a.f2, .int .i64 a.f3, .int .i64 a.f4, .int .i64 a.f5.f0, .int .u64 a.f5.f1, .int .u64 a.f5.f2, .int .i64 a.f5.f3, .int .i64 a.f6.f0, .bool a.f6.f1, .int .u64 a.f6.f2, .slice A a.f6.f3.length c]) (t := 38) ?hr ?_; (case hd => rfl); (case hg => rfl); (case hr => first | (go_simp; done) | (go_simp; rfl)); intro ga hg wb_ga hbox hb; have BKga := Aside0.mk hbox; have n0_ := Aside0.mk (below_step HB.out hb); clear HB; have HB := n0_; clear n0_; clear hb hbox hg) | ((with_reducible refine gate_dst (N := 3) rfl ?_); refine box_event ?hg (N := 3) ?hd (cs := #[.int .i64 b.f0, .int .i64 b.f1, .int .i64 b.f2, .int .i64 b.f3, .int .i64 b.f4, .int .i64 b.f5.f0, .int .u64 b.f5.f1, .int .u64 b.f5.f2, .int .i64 b.f5.f3, .int .i64 b.f6.f0, .bool b.f6.f1, .int .u64 b.f6.f2, .slice B b.f6.f3.length d]) (t := 38) ?hr ?_; (case hd => rfl); (case hg => rfl); (case hr => first | (go_simp; done) | (go_simp; rfl)); intro gb hg wb_gb hbox hb; have BKgb := Aside0.mk hbox; have n_BKga := Aside0.mk (blk_below (g := ga) (o := .cells #[.int .i64 a.f0, .int .i64 a.f1, .int .i64 a.f2, .int .i64 a.f3, .int .i64 a.f4, .int .i64 a.f5.f0, .int .u64 a.f5.f1, .int .u64 a.f5.f2, .int .i64 a.f5.f3, .int .i64 a.f6.f0, .bool a.f6.f1, .int .u64 a.f6.f2, .slice A a.f6.f3.length c] 38 (0, 0)) BKga.out hb); clear BKga; have BKga := n_BKga; clear n_BKga; have n0_ := Aside0.mk (below_step HB.out hb); clear HB; have HB := n0_; clear n0_; have cgb_2 : wb_gb.cell? ⟨gb, 2, none⟩ = some (.int .i64 b.f2) := (blk_cell BKgb.out 2).trans rfl; have cga_3 : wb_gb.cell? ⟨ga, 3, none⟩ = some (.int .i64 a.f3) := (blk_cell BKga.out 3).trans rfl; clear hb hbox hg))
    go_ret
    exact ⟨by first | rfl | (simp [*]; done), by repeat (first | (with_reducible first | exact HB.out | apply below_alloc | apply pw_below_drewN | apply below_drew1) | exact HB.out)⟩
def history_Inserts1.f (x e : S38) : Bool := if x.f5.f0 = 1 then (if hin_Bf.f e x = true then false else !(hin_Bf.f x e)) else false
set_option maxHeartbeats 8000000 in
set_option maxRecDepth 100000 in
theorem history_Inserts1.calls (x e : S38) (A Ae : Option Addr) (c ce : Nat) (ge : Nat) (W : World) (hg : W.heap[ge]? = some (.cells #[.int .i64 e.f0, .int .i64 e.f1, .int .i64 e.f2, .int .i64 e.f3, .int .i64 e.f4, .int .i64 e.f5.f0, .int .u64 e.f5.f1, .int .u64 e.f5.f2, .int .i64 e.f5.f3, .int .i64 e.f6.f0, .bool e.f6.f1, .int .u64 e.f6.f2, .slice Ae e.f6.f3.length ce] 38 (0, 0))) :
    Calls Try.prog 34 #[.agg #[.int .i64 x.f0, .int .i64 x.f1, .int .i64 x.f2, .int .i64 x.f3, .int .i64 x.f4, .int .i64 x.f5.f0, .int .u64 x.f5.f1, .int .u64 x.f5.f2, .int .i64 x.f5.f3, .int .i64 x.f6.f0, .bool x.f6.f1, .int .u64 x.f6.f2, .slice A x.f6.f3.length c], .pointer (some ⟨ge, 0, none⟩)] W fun e_ w' => e_ = .returned (.bool (history_Inserts1.f x e)) ∧ Below W.heap.size W w' := by
  have BKge := Aside0.mk hg
  have HB := Aside0.mk (Below.refl W.heap.size W)
  clear hg
  unfold history_Inserts1.f
  by_cases c1 : x.f5.f0 = 1
  · rw [if_pos c1]
    have c1b : (x.f5.f0 == 1) = true := beq_iff_eq.mpr c1
    clear c1
    by_cases c2 : hin_Bf.f e x = true
    · rw [if_pos c2]
      go_enter Try.func34, Try.ntmps34
      go_wp2_with (first | ((with_reducible refine gate_dst (N := 2) rfl ?_); refine box_event ?hg (N := 2) ?hd (cs := #[.int .i64 x.f0, .int .i64 x.f1, .int .i64 x.f2, .int .i64 x.f3, .int .i64 x.f4, .int .i64 x.f5.f0, .int .u64 x.f5.f1, .int .u64 x.f5.f2, .int .i64 x.f5.f3, .int .i64 x.f6.f0, .bool x.f6.f1, .int .u64 x.f6.f2, .slice A x.f6.f3.length c]) (t := 38) ?hr ?_; (case hd => rfl); (case hg => rfl); (case hr => first | (go_simp; done) | (go_simp; rfl)); intro gx hg wb_gx hbox hb; have BKgx := Aside0.mk hbox; have n_BKge := Aside0.mk (blk_below (g := ge) (o := .cells #[.int .i64 e.f0, .int .i64 e.f1, .int .i64 e.f2, .int .i64 e.f3, .int .i64 e.f4, .int .i64 e.f5.f0, .int .u64 e.f5.f1, .int .u64 e.f5.f2, .int .i64 e.f5.f3, .int .i64 e.f6.f0, .bool e.f6.f1, .int .u64 e.f6.f2, .slice Ae e.f6.f3.length ce] 38 (0, 0)) BKge.out hb); clear BKge; have BKge := n_BKge; clear n_BKge; have n0_ := Aside0.mk (below_step HB.out hb); clear HB; have HB := n0_; clear n0_; have c0gx_0 : wb_gx.cell? ⟨gx, 0, none⟩ = some (.int .i64 x.f0) := (blk_cell BKgx.out 0).trans rfl; have c0gx_1 : wb_gx.cell? ⟨gx, 1, none⟩ = some (.int .i64 x.f1) := (blk_cell BKgx.out 1).trans rfl; have c0gx_2 : wb_gx.cell? ⟨gx, 2, none⟩ = some (.int .i64 x.f2) := (blk_cell BKgx.out 2).trans rfl; have c0gx_3 : wb_gx.cell? ⟨gx, 3, none⟩ = some (.int .i64 x.f3) := (blk_cell BKgx.out 3).trans rfl; have c0gx_4 : wb_gx.cell? ⟨gx, 4, none⟩ = some (.int .i64 x.f4) := (blk_cell BKgx.out 4).trans rfl; have c0gx_5 : wb_gx.cell? ⟨gx, 5, none⟩ = some (.int .i64 x.f5.f0) := (blk_cell BKgx.out 5).trans rfl; have c0gx_6 : wb_gx.cell? ⟨gx, 6, none⟩ = some (.int .u64 x.f5.f1) := (blk_cell BKgx.out 6).trans rfl; have c0gx_7 : wb_gx.cell? ⟨gx, 7, none⟩ = some (.int .u64 x.f5.f2) := (blk_cell BKgx.out 7).trans rfl; have c0gx_8 : wb_gx.cell? ⟨gx, 8, none⟩ = some (.int .i64 x.f5.f3) := (blk_cell BKgx.out 8).trans rfl; have c0gx_9 : wb_gx.cell? ⟨gx, 9, none⟩ = some (.int .i64 x.f6.f0) := (blk_cell BKgx.out 9).trans rfl; have c0gx_10 : wb_gx.cell? ⟨gx, 10, none⟩ = some (.bool x.f6.f1) := (blk_cell BKgx.out 10).trans rfl; have c0gx_11 : wb_gx.cell? ⟨gx, 11, none⟩ = some (.int .u64 x.f6.f2) := (blk_cell BKgx.out 11).trans rfl; have c0gx_12 : wb_gx.cell? ⟨gx, 12, none⟩ = some (.slice A x.f6.f3.length c) := (blk_cell BKgx.out 12).trans rfl; have c0ge_0 : wb_gx.cell? ⟨ge, 0, none⟩ = some (.int .i64 e.f0) := (blk_cell BKge.out 0).trans rfl; have c0ge_1 : wb_gx.cell? ⟨ge, 1, none⟩ = some (.int .i64 e.f1) := (blk_cell BKge.out 1).trans rfl; have c0ge_2 : wb_gx.cell? ⟨ge, 2, none⟩ = some (.int .i64 e.f2) := (blk_cell BKge.out 2).trans rfl; have c0ge_3 : wb_gx.cell? ⟨ge, 3, none⟩ = some (.int .i64 e.f3) := (blk_cell BKge.out 3).trans rfl; have c0ge_4 : wb_gx.cell? ⟨ge, 4, none⟩ = some (.int .i64 e.f4) := (blk_cell BKge.out 4).trans rfl; have c0ge_5 : wb_gx.cell? ⟨ge, 5, none⟩ = some (.int .i64 e.f5.f0) := (blk_cell BKge.out 5).trans rfl; have c0ge_6 : wb_gx.cell? ⟨ge, 6, none⟩ = some (.int .u64 e.f5.f1) := (blk_cell BKge.out 6).trans rfl; have c0ge_7 : wb_gx.cell? ⟨ge, 7, none⟩ = some (.int .u64 e.f5.f2) := (blk_cell BKge.out 7).trans rfl; have c0ge_8 : wb_gx.cell? ⟨ge, 8, none⟩ = some (.int .i64 e.f5.f3) := (blk_cell BKge.out 8).trans rfl; have c0ge_9 : wb_gx.cell? ⟨ge, 9, none⟩ = some (.int .i64 e.f6.f0) := (blk_cell BKge.out 9).trans rfl; have c0ge_10 : wb_gx.cell? ⟨ge, 10, none⟩ = some (.bool e.f6.f1) := (blk_cell BKge.out 10).trans rfl; have c0ge_11 : wb_gx.cell? ⟨ge, 11, none⟩ = some (.int .u64 e.f6.f2) := (blk_cell BKge.out 11).trans rfl; have c0ge_12 : wb_gx.cell? ⟨ge, 12, none⟩ = some (.slice Ae e.f6.f3.length ce) := (blk_cell BKge.out 12).trans rfl; clear hb hbox hg) | (go_at_call 35; (with_reducible refine (hin_Bf.calls e x Ae A ce c _).mono ?_); rintro e w2 ⟨rfl, hb⟩; have n_BKgx := Aside0.mk (blk_below (g := gx) (o := .cells #[.int .i64 x.f0, .int .i64 x.f1, .int .i64 x.f2, .int .i64 x.f3, .int .i64 x.f4, .int .i64 x.f5.f0, .int .u64 x.f5.f1, .int .u64 x.f5.f2, .int .i64 x.f5.f3, .int .i64 x.f6.f0, .bool x.f6.f1, .int .u64 x.f6.f2, .slice A x.f6.f3.length c] 38 (0, 0)) BKgx.out hb); clear BKgx; have BKgx := n_BKgx; clear n_BKgx; have n_BKge := Aside0.mk (blk_below (g := ge) (o := .cells #[.int .i64 e.f0, .int .i64 e.f1, .int .i64 e.f2, .int .i64 e.f3, .int .i64 e.f4, .int .i64 e.f5.f0, .int .u64 e.f5.f1, .int .u64 e.f5.f2, .int .i64 e.f5.f3, .int .i64 e.f6.f0, .bool e.f6.f1, .int .u64 e.f6.f2, .slice Ae e.f6.f3.length ce] 38 (0, 0)) BKge.out hb); clear BKge; have BKge := n_BKge; clear n_BKge; have n0_ := Aside0.mk (below_step HB.out hb); clear HB hb; have HB := n0_; clear n0_; have cw2gx_0 : w2.cell? ⟨gx, 0, none⟩ = some (.int .i64 x.f0) := (blk_cell BKgx.out 0).trans rfl; have cw2gx_1 : w2.cell? ⟨gx, 1, none⟩ = some (.int .i64 x.f1) := (blk_cell BKgx.out 1).trans rfl; have cw2gx_2 : w2.cell? ⟨gx, 2, none⟩ = some (.int .i64 x.f2) := (blk_cell BKgx.out 2).trans rfl; have cw2gx_3 : w2.cell? ⟨gx, 3, none⟩ = some (.int .i64 x.f3) := (blk_cell BKgx.out 3).trans rfl; have cw2gx_4 : w2.cell? ⟨gx, 4, none⟩ = some (.int .i64 x.f4) := (blk_cell BKgx.out 4).trans rfl; have cw2gx_5 : w2.cell? ⟨gx, 5, none⟩ = some (.int .i64 x.f5.f0) := (blk_cell BKgx.out 5).trans rfl; have cw2gx_6 : w2.cell? ⟨gx, 6, none⟩ = some (.int .u64 x.f5.f1) := (blk_cell BKgx.out 6).trans rfl; have cw2gx_7 : w2.cell? ⟨gx, 7, none⟩ = some (.int .u64 x.f5.f2) := (blk_cell BKgx.out 7).trans rfl; have cw2gx_8 : w2.cell? ⟨gx, 8, none⟩ = some (.int .i64 x.f5.f3) := (blk_cell BKgx.out 8).trans rfl; have cw2gx_9 : w2.cell? ⟨gx, 9, none⟩ = some (.int .i64 x.f6.f0) := (blk_cell BKgx.out 9).trans rfl; have cw2gx_10 : w2.cell? ⟨gx, 10, none⟩ = some (.bool x.f6.f1) := (blk_cell BKgx.out 10).trans rfl; have cw2gx_11 : w2.cell? ⟨gx, 11, none⟩ = some (.int .u64 x.f6.f2) := (blk_cell BKgx.out 11).trans rfl; have cw2gx_12 : w2.cell? ⟨gx, 12, none⟩ = some (.slice A x.f6.f3.length c) := (blk_cell BKgx.out 12).trans rfl; have cw2ge_0 : w2.cell? ⟨ge, 0, none⟩ = some (.int .i64 e.f0) := (blk_cell BKge.out 0).trans rfl; have cw2ge_1 : w2.cell? ⟨ge, 1, none⟩ = some (.int .i64 e.f1) := (blk_cell BKge.out 1).trans rfl; have cw2ge_2 : w2.cell? ⟨ge, 2, none⟩ = some (.int .i64 e.f2) := (blk_cell BKge.out 2).trans rfl; have cw2ge_3 : w2.cell? ⟨ge, 3, none⟩ = some (.int .i64 e.f3) := (blk_cell BKge.out 3).trans rfl; have cw2ge_4 : w2.cell? ⟨ge, 4, none⟩ = some (.int .i64 e.f4) := (blk_cell BKge.out 4).trans rfl; have cw2ge_5 : w2.cell? ⟨ge, 5, none⟩ = some (.int .i64 e.f5.f0) := (blk_cell BKge.out 5).trans rfl; have cw2ge_6 : w2.cell? ⟨ge, 6, none⟩ = some (.int .u64 e.f5.f1) := (blk_cell BKge.out 6).trans rfl; have cw2ge_7 : w2.cell? ⟨ge, 7, none⟩ = some (.int .u64 e.f5.f2) := (blk_cell BKge.out 7).trans rfl; have cw2ge_8 : w2.cell? ⟨ge, 8, none⟩ = some (.int .i64 e.f5.f3) := (blk_cell BKge.out 8).trans rfl; have cw2ge_9 : w2.cell? ⟨ge, 9, none⟩ = some (.int .i64 e.f6.f0) := (blk_cell BKge.out 9).trans rfl; have cw2ge_10 : w2.cell? ⟨ge, 10, none⟩ = some (.bool e.f6.f1) := (blk_cell BKge.out 10).trans rfl; have cw2ge_11 : w2.cell? ⟨ge, 11, none⟩ = some (.int .u64 e.f6.f2) := (blk_cell BKge.out 11).trans rfl; have cw2ge_12 : w2.cell? ⟨ge, 12, none⟩ = some (.slice Ae e.f6.f3.length ce) := (blk_cell BKge.out 12).trans rfl))
      go_ret
      exact ⟨by first | rfl | (simp [*]; done), by repeat (first | (with_reducible first | exact HB.out | apply below_alloc | apply pw_below_drewN | apply below_drew1) | exact HB.out)⟩
    · rw [if_neg c2]
      replace c2 := Bool.eq_false_iff.mpr c2
      go_enter Try.func34, Try.ntmps34
      go_wp2_with (first | ((with_reducible refine gate_dst (N := 2) rfl ?_); refine box_event ?hg (N := 2) ?hd (cs := #[.int .i64 x.f0, .int .i64 x.f1, .int .i64 x.f2, .int .i64 x.f3, .int .i64 x.f4, .int .i64 x.f5.f0, .int .u64 x.f5.f1, .int .u64 x.f5.f2, .int .i64 x.f5.f3, .int .i64 x.f6.f0, .bool x.f6.f1, .int .u64 x.f6.f2, .slice A x.f6.f3.length c]) (t := 38) ?hr ?_; (case hd => rfl); (case hg => rfl); (case hr => first | (go_simp; done) | (go_simp; rfl)); intro gx hg wb_gx hbox hb; have BKgx := Aside0.mk hbox; have n_BKge := Aside0.mk (blk_below (g := ge) (o := .cells #[.int .i64 e.f0, .int .i64 e.f1, .int .i64 e.f2, .int .i64 e.f3, .int .i64 e.f4, .int .i64 e.f5.f0, .int .u64 e.f5.f1, .int .u64 e.f5.f2, .int .i64 e.f5.f3, .int .i64 e.f6.f0, .bool e.f6.f1, .int .u64 e.f6.f2, .slice Ae e.f6.f3.length ce] 38 (0, 0)) BKge.out hb); clear BKge; have BKge := n_BKge; clear n_BKge; have n0_ := Aside0.mk (below_step HB.out hb); clear HB; have HB := n0_; clear n0_; have c0gx_0 : wb_gx.cell? ⟨gx, 0, none⟩ = some (.int .i64 x.f0) := (blk_cell BKgx.out 0).trans rfl; have c0gx_1 : wb_gx.cell? ⟨gx, 1, none⟩ = some (.int .i64 x.f1) := (blk_cell BKgx.out 1).trans rfl; have c0gx_2 : wb_gx.cell? ⟨gx, 2, none⟩ = some (.int .i64 x.f2) := (blk_cell BKgx.out 2).trans rfl; have c0gx_3 : wb_gx.cell? ⟨gx, 3, none⟩ = some (.int .i64 x.f3) := (blk_cell BKgx.out 3).trans rfl; have c0gx_4 : wb_gx.cell? ⟨gx, 4, none⟩ = some (.int .i64 x.f4) := (blk_cell BKgx.out 4).trans rfl; have c0gx_5 : wb_gx.cell? ⟨gx, 5, none⟩ = some (.int .i64 x.f5.f0) := (blk_cell BKgx.out 5).trans rfl; have c0gx_6 : wb_gx.cell? ⟨gx, 6, none⟩ = some (.int .u64 x.f5.f1) := (blk_cell BKgx.out 6).trans rfl; have c0gx_7 : wb_gx.cell? ⟨gx, 7, none⟩ = some (.int .u64 x.f5.f2) := (blk_cell BKgx.out 7).trans rfl; have c0gx_8 : wb_gx.cell? ⟨gx, 8, none⟩ = some (.int .i64 x.f5.f3) := (blk_cell BKgx.out 8).trans rfl; have c0gx_9 : wb_gx.cell? ⟨gx, 9, none⟩ = some (.int .i64 x.f6.f0) := (blk_cell BKgx.out 9).trans rfl; have c0gx_10 : wb_gx.cell? ⟨gx, 10, none⟩ = some (.bool x.f6.f1) := (blk_cell BKgx.out 10).trans rfl; have c0gx_11 : wb_gx.cell? ⟨gx, 11, none⟩ = some (.int .u64 x.f6.f2) := (blk_cell BKgx.out 11).trans rfl; have c0gx_12 : wb_gx.cell? ⟨gx, 12, none⟩ = some (.slice A x.f6.f3.length c) := (blk_cell BKgx.out 12).trans rfl; have c0ge_0 : wb_gx.cell? ⟨ge, 0, none⟩ = some (.int .i64 e.f0) := (blk_cell BKge.out 0).trans rfl; have c0ge_1 : wb_gx.cell? ⟨ge, 1, none⟩ = some (.int .i64 e.f1) := (blk_cell BKge.out 1).trans rfl; have c0ge_2 : wb_gx.cell? ⟨ge, 2, none⟩ = some (.int .i64 e.f2) := (blk_cell BKge.out 2).trans rfl; have c0ge_3 : wb_gx.cell? ⟨ge, 3, none⟩ = some (.int .i64 e.f3) := (blk_cell BKge.out 3).trans rfl; have c0ge_4 : wb_gx.cell? ⟨ge, 4, none⟩ = some (.int .i64 e.f4) := (blk_cell BKge.out 4).trans rfl; have c0ge_5 : wb_gx.cell? ⟨ge, 5, none⟩ = some (.int .i64 e.f5.f0) := (blk_cell BKge.out 5).trans rfl; have c0ge_6 : wb_gx.cell? ⟨ge, 6, none⟩ = some (.int .u64 e.f5.f1) := (blk_cell BKge.out 6).trans rfl; have c0ge_7 : wb_gx.cell? ⟨ge, 7, none⟩ = some (.int .u64 e.f5.f2) := (blk_cell BKge.out 7).trans rfl; have c0ge_8 : wb_gx.cell? ⟨ge, 8, none⟩ = some (.int .i64 e.f5.f3) := (blk_cell BKge.out 8).trans rfl; have c0ge_9 : wb_gx.cell? ⟨ge, 9, none⟩ = some (.int .i64 e.f6.f0) := (blk_cell BKge.out 9).trans rfl; have c0ge_10 : wb_gx.cell? ⟨ge, 10, none⟩ = some (.bool e.f6.f1) := (blk_cell BKge.out 10).trans rfl; have c0ge_11 : wb_gx.cell? ⟨ge, 11, none⟩ = some (.int .u64 e.f6.f2) := (blk_cell BKge.out 11).trans rfl; have c0ge_12 : wb_gx.cell? ⟨ge, 12, none⟩ = some (.slice Ae e.f6.f3.length ce) := (blk_cell BKge.out 12).trans rfl; clear hb hbox hg) | (go_at_call 35; (with_reducible refine (hin_Bf.calls e x Ae A ce c _).mono ?_); rintro e w2 ⟨rfl, hb⟩; have n_BKgx := Aside0.mk (blk_below (g := gx) (o := .cells #[.int .i64 x.f0, .int .i64 x.f1, .int .i64 x.f2, .int .i64 x.f3, .int .i64 x.f4, .int .i64 x.f5.f0, .int .u64 x.f5.f1, .int .u64 x.f5.f2, .int .i64 x.f5.f3, .int .i64 x.f6.f0, .bool x.f6.f1, .int .u64 x.f6.f2, .slice A x.f6.f3.length c] 38 (0, 0)) BKgx.out hb); clear BKgx; have BKgx := n_BKgx; clear n_BKgx; have n_BKge := Aside0.mk (blk_below (g := ge) (o := .cells #[.int .i64 e.f0, .int .i64 e.f1, .int .i64 e.f2, .int .i64 e.f3, .int .i64 e.f4, .int .i64 e.f5.f0, .int .u64 e.f5.f1, .int .u64 e.f5.f2, .int .i64 e.f5.f3, .int .i64 e.f6.f0, .bool e.f6.f1, .int .u64 e.f6.f2, .slice Ae e.f6.f3.length ce] 38 (0, 0)) BKge.out hb); clear BKge; have BKge := n_BKge; clear n_BKge; have n0_ := Aside0.mk (below_step HB.out hb); clear HB hb; have HB := n0_; clear n0_; have cw2gx_0 : w2.cell? ⟨gx, 0, none⟩ = some (.int .i64 x.f0) := (blk_cell BKgx.out 0).trans rfl; have cw2gx_1 : w2.cell? ⟨gx, 1, none⟩ = some (.int .i64 x.f1) := (blk_cell BKgx.out 1).trans rfl; have cw2gx_2 : w2.cell? ⟨gx, 2, none⟩ = some (.int .i64 x.f2) := (blk_cell BKgx.out 2).trans rfl; have cw2gx_3 : w2.cell? ⟨gx, 3, none⟩ = some (.int .i64 x.f3) := (blk_cell BKgx.out 3).trans rfl; have cw2gx_4 : w2.cell? ⟨gx, 4, none⟩ = some (.int .i64 x.f4) := (blk_cell BKgx.out 4).trans rfl; have cw2gx_5 : w2.cell? ⟨gx, 5, none⟩ = some (.int .i64 x.f5.f0) := (blk_cell BKgx.out 5).trans rfl; have cw2gx_6 : w2.cell? ⟨gx, 6, none⟩ = some (.int .u64 x.f5.f1) := (blk_cell BKgx.out 6).trans rfl; have cw2gx_7 : w2.cell? ⟨gx, 7, none⟩ = some (.int .u64 x.f5.f2) := (blk_cell BKgx.out 7).trans rfl; have cw2gx_8 : w2.cell? ⟨gx, 8, none⟩ = some (.int .i64 x.f5.f3) := (blk_cell BKgx.out 8).trans rfl; have cw2gx_9 : w2.cell? ⟨gx, 9, none⟩ = some (.int .i64 x.f6.f0) := (blk_cell BKgx.out 9).trans rfl; have cw2gx_10 : w2.cell? ⟨gx, 10, none⟩ = some (.bool x.f6.f1) := (blk_cell BKgx.out 10).trans rfl; have cw2gx_11 : w2.cell? ⟨gx, 11, none⟩ = some (.int .u64 x.f6.f2) := (blk_cell BKgx.out 11).trans rfl; have cw2gx_12 : w2.cell? ⟨gx, 12, none⟩ = some (.slice A x.f6.f3.length c) := (blk_cell BKgx.out 12).trans rfl; have cw2ge_0 : w2.cell? ⟨ge, 0, none⟩ = some (.int .i64 e.f0) := (blk_cell BKge.out 0).trans rfl; have cw2ge_1 : w2.cell? ⟨ge, 1, none⟩ = some (.int .i64 e.f1) := (blk_cell BKge.out 1).trans rfl; have cw2ge_2 : w2.cell? ⟨ge, 2, none⟩ = some (.int .i64 e.f2) := (blk_cell BKge.out 2).trans rfl; have cw2ge_3 : w2.cell? ⟨ge, 3, none⟩ = some (.int .i64 e.f3) := (blk_cell BKge.out 3).trans rfl; have cw2ge_4 : w2.cell? ⟨ge, 4, none⟩ = some (.int .i64 e.f4) := (blk_cell BKge.out 4).trans rfl; have cw2ge_5 : w2.cell? ⟨ge, 5, none⟩ = some (.int .i64 e.f5.f0) := (blk_cell BKge.out 5).trans rfl; have cw2ge_6 : w2.cell? ⟨ge, 6, none⟩ = some (.int .u64 e.f5.f1) := (blk_cell BKge.out 6).trans rfl; have cw2ge_7 : w2.cell? ⟨ge, 7, none⟩ = some (.int .u64 e.f5.f2) := (blk_cell BKge.out 7).trans rfl; have cw2ge_8 : w2.cell? ⟨ge, 8, none⟩ = some (.int .i64 e.f5.f3) := (blk_cell BKge.out 8).trans rfl; have cw2ge_9 : w2.cell? ⟨ge, 9, none⟩ = some (.int .i64 e.f6.f0) := (blk_cell BKge.out 9).trans rfl; have cw2ge_10 : w2.cell? ⟨ge, 10, none⟩ = some (.bool e.f6.f1) := (blk_cell BKge.out 10).trans rfl; have cw2ge_11 : w2.cell? ⟨ge, 11, none⟩ = some (.int .u64 e.f6.f2) := (blk_cell BKge.out 11).trans rfl; have cw2ge_12 : w2.cell? ⟨ge, 12, none⟩ = some (.slice Ae e.f6.f3.length ce) := (blk_cell BKge.out 12).trans rfl) | (go_at_call 35; (with_reducible refine (hin_Bf.calls x e A Ae c ce _).mono ?_); rintro e w3 ⟨rfl, hb⟩; have n_BKgx := Aside0.mk (blk_below (g := gx) (o := .cells #[.int .i64 x.f0, .int .i64 x.f1, .int .i64 x.f2, .int .i64 x.f3, .int .i64 x.f4, .int .i64 x.f5.f0, .int .u64 x.f5.f1, .int .u64 x.f5.f2, .int .i64 x.f5.f3, .int .i64 x.f6.f0, .bool x.f6.f1, .int .u64 x.f6.f2, .slice A x.f6.f3.length c] 38 (0, 0)) BKgx.out hb); clear BKgx; have BKgx := n_BKgx; clear n_BKgx; have n_BKge := Aside0.mk (blk_below (g := ge) (o := .cells #[.int .i64 e.f0, .int .i64 e.f1, .int .i64 e.f2, .int .i64 e.f3, .int .i64 e.f4, .int .i64 e.f5.f0, .int .u64 e.f5.f1, .int .u64 e.f5.f2, .int .i64 e.f5.f3, .int .i64 e.f6.f0, .bool e.f6.f1, .int .u64 e.f6.f2, .slice Ae e.f6.f3.length ce] 38 (0, 0)) BKge.out hb); clear BKge; have BKge := n_BKge; clear n_BKge; have n0_ := Aside0.mk (below_step HB.out hb); clear HB hb; have HB := n0_; clear n0_; have cw3gx_0 : w3.cell? ⟨gx, 0, none⟩ = some (.int .i64 x.f0) := (blk_cell BKgx.out 0).trans rfl; have cw3gx_1 : w3.cell? ⟨gx, 1, none⟩ = some (.int .i64 x.f1) := (blk_cell BKgx.out 1).trans rfl; have cw3gx_2 : w3.cell? ⟨gx, 2, none⟩ = some (.int .i64 x.f2) := (blk_cell BKgx.out 2).trans rfl; have cw3gx_3 : w3.cell? ⟨gx, 3, none⟩ = some (.int .i64 x.f3) := (blk_cell BKgx.out 3).trans rfl; have cw3gx_4 : w3.cell? ⟨gx, 4, none⟩ = some (.int .i64 x.f4) := (blk_cell BKgx.out 4).trans rfl; have cw3gx_5 : w3.cell? ⟨gx, 5, none⟩ = some (.int .i64 x.f5.f0) := (blk_cell BKgx.out 5).trans rfl; have cw3gx_6 : w3.cell? ⟨gx, 6, none⟩ = some (.int .u64 x.f5.f1) := (blk_cell BKgx.out 6).trans rfl; have cw3gx_7 : w3.cell? ⟨gx, 7, none⟩ = some (.int .u64 x.f5.f2) := (blk_cell BKgx.out 7).trans rfl; have cw3gx_8 : w3.cell? ⟨gx, 8, none⟩ = some (.int .i64 x.f5.f3) := (blk_cell BKgx.out 8).trans rfl; have cw3gx_9 : w3.cell? ⟨gx, 9, none⟩ = some (.int .i64 x.f6.f0) := (blk_cell BKgx.out 9).trans rfl; have cw3gx_10 : w3.cell? ⟨gx, 10, none⟩ = some (.bool x.f6.f1) := (blk_cell BKgx.out 10).trans rfl; have cw3gx_11 : w3.cell? ⟨gx, 11, none⟩ = some (.int .u64 x.f6.f2) := (blk_cell BKgx.out 11).trans rfl; have cw3gx_12 : w3.cell? ⟨gx, 12, none⟩ = some (.slice A x.f6.f3.length c) := (blk_cell BKgx.out 12).trans rfl; have cw3ge_0 : w3.cell? ⟨ge, 0, none⟩ = some (.int .i64 e.f0) := (blk_cell BKge.out 0).trans rfl; have cw3ge_1 : w3.cell? ⟨ge, 1, none⟩ = some (.int .i64 e.f1) := (blk_cell BKge.out 1).trans rfl; have cw3ge_2 : w3.cell? ⟨ge, 2, none⟩ = some (.int .i64 e.f2) := (blk_cell BKge.out 2).trans rfl; have cw3ge_3 : w3.cell? ⟨ge, 3, none⟩ = some (.int .i64 e.f3) := (blk_cell BKge.out 3).trans rfl; have cw3ge_4 : w3.cell? ⟨ge, 4, none⟩ = some (.int .i64 e.f4) := (blk_cell BKge.out 4).trans rfl; have cw3ge_5 : w3.cell? ⟨ge, 5, none⟩ = some (.int .i64 e.f5.f0) := (blk_cell BKge.out 5).trans rfl; have cw3ge_6 : w3.cell? ⟨ge, 6, none⟩ = some (.int .u64 e.f5.f1) := (blk_cell BKge.out 6).trans rfl; have cw3ge_7 : w3.cell? ⟨ge, 7, none⟩ = some (.int .u64 e.f5.f2) := (blk_cell BKge.out 7).trans rfl; have cw3ge_8 : w3.cell? ⟨ge, 8, none⟩ = some (.int .i64 e.f5.f3) := (blk_cell BKge.out 8).trans rfl; have cw3ge_9 : w3.cell? ⟨ge, 9, none⟩ = some (.int .i64 e.f6.f0) := (blk_cell BKge.out 9).trans rfl; have cw3ge_10 : w3.cell? ⟨ge, 10, none⟩ = some (.bool e.f6.f1) := (blk_cell BKge.out 10).trans rfl; have cw3ge_11 : w3.cell? ⟨ge, 11, none⟩ = some (.int .u64 e.f6.f2) := (blk_cell BKge.out 11).trans rfl; have cw3ge_12 : w3.cell? ⟨ge, 12, none⟩ = some (.slice Ae e.f6.f3.length ce) := (blk_cell BKge.out 12).trans rfl))
      go_ret
      exact ⟨by first | rfl | (simp [*]; done), by repeat (first | (with_reducible first | exact HB.out | apply below_alloc | apply pw_below_drewN | apply below_drew1) | exact HB.out)⟩
  · rw [if_neg c1]
    have c1b : (x.f5.f0 == 1) = false := beq_eq_false_iff_ne.mpr c1
    clear c1
    go_enter Try.func34, Try.ntmps34
    go_wp2_with (first | ((with_reducible refine gate_dst (N := 2) rfl ?_); refine box_event ?hg (N := 2) ?hd (cs := #[.int .i64 x.f0, .int .i64 x.f1, .int .i64 x.f2, .int .i64 x.f3, .int .i64 x.f4, .int .i64 x.f5.f0, .int .u64 x.f5.f1, .int .u64 x.f5.f2, .int .i64 x.f5.f3, .int .i64 x.f6.f0, .bool x.f6.f1, .int .u64 x.f6.f2, .slice A x.f6.f3.length c]) (t := 38) ?hr ?_; (case hd => rfl); (case hg => rfl); (case hr => first | (go_simp; done) | (go_simp; rfl)); intro gx hg wb_gx hbox hb; have BKgx := Aside0.mk hbox; have n_BKge := Aside0.mk (blk_below (g := ge) (o := .cells #[.int .i64 e.f0, .int .i64 e.f1, .int .i64 e.f2, .int .i64 e.f3, .int .i64 e.f4, .int .i64 e.f5.f0, .int .u64 e.f5.f1, .int .u64 e.f5.f2, .int .i64 e.f5.f3, .int .i64 e.f6.f0, .bool e.f6.f1, .int .u64 e.f6.f2, .slice Ae e.f6.f3.length ce] 38 (0, 0)) BKge.out hb); clear BKge; have BKge := n_BKge; clear n_BKge; have n0_ := Aside0.mk (below_step HB.out hb); clear HB; have HB := n0_; clear n0_; have c0gx_0 : wb_gx.cell? ⟨gx, 0, none⟩ = some (.int .i64 x.f0) := (blk_cell BKgx.out 0).trans rfl; have c0gx_1 : wb_gx.cell? ⟨gx, 1, none⟩ = some (.int .i64 x.f1) := (blk_cell BKgx.out 1).trans rfl; have c0gx_2 : wb_gx.cell? ⟨gx, 2, none⟩ = some (.int .i64 x.f2) := (blk_cell BKgx.out 2).trans rfl; have c0gx_3 : wb_gx.cell? ⟨gx, 3, none⟩ = some (.int .i64 x.f3) := (blk_cell BKgx.out 3).trans rfl; have c0gx_4 : wb_gx.cell? ⟨gx, 4, none⟩ = some (.int .i64 x.f4) := (blk_cell BKgx.out 4).trans rfl; have c0gx_5 : wb_gx.cell? ⟨gx, 5, none⟩ = some (.int .i64 x.f5.f0) := (blk_cell BKgx.out 5).trans rfl; have c0gx_6 : wb_gx.cell? ⟨gx, 6, none⟩ = some (.int .u64 x.f5.f1) := (blk_cell BKgx.out 6).trans rfl; have c0gx_7 : wb_gx.cell? ⟨gx, 7, none⟩ = some (.int .u64 x.f5.f2) := (blk_cell BKgx.out 7).trans rfl; have c0gx_8 : wb_gx.cell? ⟨gx, 8, none⟩ = some (.int .i64 x.f5.f3) := (blk_cell BKgx.out 8).trans rfl; have c0gx_9 : wb_gx.cell? ⟨gx, 9, none⟩ = some (.int .i64 x.f6.f0) := (blk_cell BKgx.out 9).trans rfl; have c0gx_10 : wb_gx.cell? ⟨gx, 10, none⟩ = some (.bool x.f6.f1) := (blk_cell BKgx.out 10).trans rfl; have c0gx_11 : wb_gx.cell? ⟨gx, 11, none⟩ = some (.int .u64 x.f6.f2) := (blk_cell BKgx.out 11).trans rfl; have c0gx_12 : wb_gx.cell? ⟨gx, 12, none⟩ = some (.slice A x.f6.f3.length c) := (blk_cell BKgx.out 12).trans rfl; have c0ge_0 : wb_gx.cell? ⟨ge, 0, none⟩ = some (.int .i64 e.f0) := (blk_cell BKge.out 0).trans rfl; have c0ge_1 : wb_gx.cell? ⟨ge, 1, none⟩ = some (.int .i64 e.f1) := (blk_cell BKge.out 1).trans rfl; have c0ge_2 : wb_gx.cell? ⟨ge, 2, none⟩ = some (.int .i64 e.f2) := (blk_cell BKge.out 2).trans rfl; have c0ge_3 : wb_gx.cell? ⟨ge, 3, none⟩ = some (.int .i64 e.f3) := (blk_cell BKge.out 3).trans rfl; have c0ge_4 : wb_gx.cell? ⟨ge, 4, none⟩ = some (.int .i64 e.f4) := (blk_cell BKge.out 4).trans rfl; have c0ge_5 : wb_gx.cell? ⟨ge, 5, none⟩ = some (.int .i64 e.f5.f0) := (blk_cell BKge.out 5).trans rfl; have c0ge_6 : wb_gx.cell? ⟨ge, 6, none⟩ = some (.int .u64 e.f5.f1) := (blk_cell BKge.out 6).trans rfl; have c0ge_7 : wb_gx.cell? ⟨ge, 7, none⟩ = some (.int .u64 e.f5.f2) := (blk_cell BKge.out 7).trans rfl; have c0ge_8 : wb_gx.cell? ⟨ge, 8, none⟩ = some (.int .i64 e.f5.f3) := (blk_cell BKge.out 8).trans rfl; have c0ge_9 : wb_gx.cell? ⟨ge, 9, none⟩ = some (.int .i64 e.f6.f0) := (blk_cell BKge.out 9).trans rfl; have c0ge_10 : wb_gx.cell? ⟨ge, 10, none⟩ = some (.bool e.f6.f1) := (blk_cell BKge.out 10).trans rfl; have c0ge_11 : wb_gx.cell? ⟨ge, 11, none⟩ = some (.int .u64 e.f6.f2) := (blk_cell BKge.out 11).trans rfl; have c0ge_12 : wb_gx.cell? ⟨ge, 12, none⟩ = some (.slice Ae e.f6.f3.length ce) := (blk_cell BKge.out 12).trans rfl; clear hb hbox hg))
    go_ret
    exact ⟨by first | rfl | (simp [*]; done), by repeat (first | (with_reducible first | exact HB.out | apply below_alloc | apply pw_below_drewN | apply below_drew1) | exact HB.out)⟩
def hin_c.l0 (e : S38) : Nat → List S38 → Int → Int → Option Int
  | 0, _, _, _ => none
  | k + 1, l, i, n => if i < (l.length : Int) then (if 0 ≤ i then (if history_Inserts1.f (rd_T38 l i) e = true then hin_c.l0 e k l (wrap64 (i + 1)) (wrap64 (n + 1)) else hin_c.l0 e k l (wrap64 (i + 1)) n) else none) else some n
theorem hin_c.mono_l (e : S38) : ∀ k l i n, LeO (hin_c.l0 e k l i n) (hin_c.l0 e (k + 1) l i n)
  | 0, _, _, _ => fun r h => by simp [hin_c.l0] at h
  | k + 1, l, i, n => by
    unfold hin_c.l0
    exact LeO.ite (LeO.ite (LeO.ite (hin_c.mono_l e k _ _ _) (hin_c.mono_l e k _ _ _)) (LeO.refl _)) (LeO.refl _)
set_option maxHeartbeats 8000000 in
set_option maxRecDepth 100000 in
theorem hin_c.calls (k : Nat) (e : S38) (Ae : Option Addr) (ce : Nat) (A0 : Option Addr) (c0 : Nat) (l0 : List S38) (r : Int) (ge : Nat) (W : World) (hr0 : Kd.C k38 W A0 l0.length l0) (hg : W.heap[ge]? = some (.cells #[.int .i64 e.f0, .int .i64 e.f1, .int .i64 e.f2, .int .i64 e.f3, .int .i64 e.f4, .int .i64 e.f5.f0, .int .u64 e.f5.f1, .int .u64 e.f5.f2, .int .i64 e.f5.f3, .int .i64 e.f6.f0, .bool e.f6.f1, .int .u64 e.f6.f2, .slice Ae e.f6.f3.length ce] 38 (0, 0))) (h : hin_c.l0 e k l0 0 0 = some r) :
    Calls Try.prog 31 #[.slice A0 l0.length c0, .func (.func 34) #[] #[.pointer (some ⟨ge, 0, none⟩)]] W fun e w' => e = .returned (.int .i64 r) ∧ Below W.heap.size W w' := by
  have HR0 := Aside0.mk hr0
  have Bhg := Aside0.mk hg
  have H' := Aside0.mk h
  have HB := Aside0.mk (Below.refl W.heap.size W)
  clear hr0 h hg
  go_enter Try.func31, Try.ntmps31
  go_wp2
  go_loopg [5, 10] k (fun kq v5 v10 w' => ∃ (n i : Int), v5 = .int .i64 n ∧ v10 = .int .i64 i ∧ Aside0 (hin_c.l0 e kq l0 i n = some r) ∧ Aside0 (kq ≤ k) ∧ Aside0 (Below W.heap.size W w'))
  case atStart => exact ⟨0, 0, by rfl, by rfl, H', ⟨Nat.le_refl _⟩, ⟨by repeat (first | (with_reducible first | exact HB.out | apply below_alloc | apply pw_below_drewN | apply below_drew1) | exact HB.out)⟩⟩
  case round =>
    clear H'
    clear HB
    try clear p2
    obtain ⟨n, i, rfl, rfl, HA, HK1, HB⟩ := hrel
    cases gk with
    | zero => exact absurd HA.out (by simp [hin_c.l0])
    | succ k1 =>
      have H := HA.out
      clear HA
      simp only [hin_c.l0] at H
      by_cases c4 : i < (l0.length : Int)
      · rw [if_pos c4] at H
        have c4b0 : decide (i < (l0.length : Int)) = true := decide_eq_true c4
        by_cases c5 : 0 ≤ i
        · rw [if_pos c5] at H
          have c5b0 : decide (0 ≤ i) = true := decide_eq_true c5
          obtain ⟨ad, A12, c12, e12, hx0, hx1, hx2, hx3, hx4, hx5, hx6, hx7, hx8, hx9, hx10, hx11, hx12, hl12, hi12⟩ := at_T38 (hin_up HR0.out HB.out) i c5 c4
          cases e12
          have HI := Aside0.mk hi12
          have HL := Aside0.mk hl12
          clear hi12 hl12
          by_cases c6 : history_Inserts1.f (rd_T38 l0 i) e = true
          · rw [if_pos c6] at H
            have c6b0 : history_Inserts1.f (rd_T38 l0 i) e = true := c6
            have H' := Aside0.mk H
            clear H
            go_wp2_with (first | (go_at_call 34; (with_reducible refine (history_Inserts1.calls (rd_T38 l0 i) e A12 Ae c12 ce ge _ (blk_alloc (blk_below Bhg.out HB.out) _)).mono ?_); rintro e w1 ⟨rfl, hb⟩; have n0_ := Aside0.mk (below_step (below_alloc HB.out _) hb); clear HB hb; have HB := n0_; clear n0_))
            go_roundg k1
            case measure => have := HK1.out; omega
            case rel => exact ⟨wrap64 (n + 1), wrap64 (i + 1), (by first | rfl | (simp; done) | (simp [*]; done)), (by first | rfl | (simp; done) | (simp [*]; done)), H', ⟨by have := HK1.out; omega⟩, ⟨by repeat (first | (with_reducible first | exact HB.out | apply below_alloc | apply pw_below_drewN | apply below_drew1) | exact HB.out)⟩⟩
          · rw [if_neg c6] at H
            have c6b0 : history_Inserts1.f (rd_T38 l0 i) e = false := Bool.eq_false_iff.mpr c6
            have H' := Aside0.mk H
            clear H
            go_wp2_with (first | (go_at_call 34; (with_reducible refine (history_Inserts1.calls (rd_T38 l0 i) e A12 Ae c12 ce ge _ (blk_alloc (blk_below Bhg.out HB.out) _)).mono ?_); rintro e w1 ⟨rfl, hb⟩; have n0_ := Aside0.mk (below_step (below_alloc HB.out _) hb); clear HB hb; have HB := n0_; clear n0_))
            go_roundg k1
            case measure => have := HK1.out; omega
            case rel => exact ⟨n, wrap64 (i + 1), (by first | rfl | (simp; done) | (simp [*]; done)), (by first | rfl | (simp; done) | (simp [*]; done)), H', ⟨by have := HK1.out; omega⟩, ⟨by repeat (first | (with_reducible first | exact HB.out | apply below_alloc | apply pw_below_drewN | apply below_drew1) | exact HB.out)⟩⟩
        · rw [if_neg c5] at H
          exact absurd H (by simp)
      · rw [if_neg c4] at H
        have c4b0 : decide (i < (l0.length : Int)) = false := decide_eq_false c4
        clear c4
        obtain rfl := Option.some.inj H
        clear H
        go_wp2
        go_ret
        exact ⟨by first | rfl | (simp [*]; done), by repeat (first | (with_reducible first | exact HB.out | apply below_alloc | apply pw_below_drewN | apply below_drew1) | exact HB.out)⟩
set_option maxHeartbeats 8000000 in
set_option maxRecDepth 100000 in
theorem history_Inserts.law (k : Nat) (A0 : Option Addr) (c0 : Nat) (l0 : List S38) (e : S38) (Ae : Option Addr) (ce : Nat) (r : Int) (w : World) (hr0 : Kd.C k38 w A0 l0.length l0) (h : hin_c.l0 e k l0 0 0 = some r) :
    Calls Try.prog 25 #[.slice A0 l0.length c0, .agg #[.int .i64 e.f0, .int .i64 e.f1, .int .i64 e.f2, .int .i64 e.f3, .int .i64 e.f4, .int .i64 e.f5.f0, .int .u64 e.f5.f1, .int .u64 e.f5.f2, .int .i64 e.f5.f3, .int .i64 e.f6.f0, .bool e.f6.f1, .int .u64 e.f6.f2, .slice Ae e.f6.f3.length ce]] w fun e w' => e = .returned (.int .i64 r) ∧ Below w.heap.size w w' := by
  have hmf : ∀ (fn : Fn) (first cap : Array Value) (w : World), (Instr.makeFunc fn first cap).run Try.prog w = .ok (.func fn first cap) w := fun _ _ _ _ => rfl
  have HR0 := Aside0.mk hr0
  have H' := Aside0.mk h
  have HB := Aside0.mk (Below.refl w.heap.size w)
  clear hr0 h
  go_enter Try.func25, Try.ntmps25
  go_wp2_with (first | ((with_reducible refine gate_dst (N := 3) rfl ?_); refine box_event ?hg (N := 3) ?hd (cs := #[.int .i64 e.f0, .int .i64 e.f1, .int .i64 e.f2, .int .i64 e.f3, .int .i64 e.f4, .int .i64 e.f5.f0, .int .u64 e.f5.f1, .int .u64 e.f5.f2, .int .i64 e.f5.f3, .int .i64 e.f6.f0, .bool e.f6.f1, .int .u64 e.f6.f2, .slice Ae e.f6.f3.length ce]) (t := 38) ?hr ?_; (case hd => rfl); (case hg => rfl); (case hr => first | (go_simp; done) | (go_simp; rfl)); intro ge hg wb_ge hbox hb; have BKge := Aside0.mk hbox; have n0_ := Aside0.mk (below_step HB.out hb); clear HB; have HB := n0_; clear n0_; clear hb hbox hg) | (go_at_call 31; (with_reducible refine (hin_c.calls k e Ae ce A0 c0 l0 r ge _ (hin_up HR0.out HB.out) BKge.out H'.out).mono ?_); rintro e w1 ⟨rfl, hb⟩; have n0_ := Aside0.mk (below_step HB.out hb); clear HB hb; have HB := n0_; clear n0_))
  go_ret
  exact ⟨rfl, by repeat (first | (with_reducible first | exact HB.out | apply below_alloc | apply pw_below_drewN | apply below_drew1) | exact HB.out)⟩
def history_Inserts.f (k : Nat) (l0 : List S38) (a1_0 : Int) (a1_1 : Int) (a1_2 : Int) (a1_3 : Int) (a1_4 : Int) (a1_5 : Int) (a1_6 : Int) (a1_7 : Int) (a1_8 : Int) (a1_9 : Int) (a1_10 : Bool) (a1_11 : Int) (l1_12 : List S137) : Option Int := hin_c.l0 ⟨a1_0, a1_1, a1_2, a1_3, a1_4, ⟨a1_5, a1_6, a1_7, a1_8⟩, ⟨a1_9, a1_10, a1_11, l1_12⟩⟩ k l0 0 0
theorem history_Inserts.mono : ∀ l0 a1_0 a1_1 a1_2 a1_3 a1_4 a1_5 a1_6 a1_7 a1_8 a1_9 a1_10 a1_11 l1_12 k, LeO (history_Inserts.f k l0 a1_0 a1_1 a1_2 a1_3 a1_4 a1_5 a1_6 a1_7 a1_8 a1_9 a1_10 a1_11 l1_12) (history_Inserts.f (k + 1) l0 a1_0 a1_1 a1_2 a1_3 a1_4 a1_5 a1_6 a1_7 a1_8 a1_9 a1_10 a1_11 l1_12) := by
  intros
  exact hin_c.mono_l _ _ _ _ _
theorem history_Inserts.calls (k : Nat) (A0 : Option Addr) (c0 : Nat) (l0 : List S38) (a1_0 : Int) (a1_1 : Int) (a1_2 : Int) (a1_3 : Int) (a1_4 : Int) (a1_5 : Int) (a1_6 : Int) (a1_7 : Int) (a1_8 : Int) (a1_9 : Int) (a1_10 : Bool) (a1_11 : Int) (A1_12 : Option Addr) (c1_12 : Nat) (l1_12 : List S137) (r : Int) (w : World) (hr0 : Kd.C k38 w A0 l0.length l0) (hc0 : l0.length ≤ c0) (hr1_12 : Kd.C k137 w A1_12 l1_12.length l1_12) (hc1_12 : l1_12.length ≤ c1_12) (h : history_Inserts.f k l0 a1_0 a1_1 a1_2 a1_3 a1_4 a1_5 a1_6 a1_7 a1_8 a1_9 a1_10 a1_11 l1_12 = some r) :
    Calls Try.prog 25 #[.slice A0 l0.length c0, .agg #[.int .i64 a1_0, .int .i64 a1_1, .int .i64 a1_2, .int .i64 a1_3, .int .i64 a1_4, .int .i64 a1_5, .int .u64 a1_6, .int .u64 a1_7, .int .i64 a1_8, .int .i64 a1_9, .bool a1_10, .int .u64 a1_11, .slice A1_12 l1_12.length c1_12]] w fun e w' => e = .returned (.int .i64 r) ∧ Below w.heap.size w w' :=
  history_Inserts.law k A0 c0 l0 ⟨a1_0, a1_1, a1_2, a1_3, a1_4, ⟨a1_5, a1_6, a1_7, a1_8⟩, ⟨a1_9, a1_10, a1_11, l1_12⟩⟩ A1_12 c1_12 r w hr0 h


end Go.Proofs.Ytpcmoclohepdiab.PBoundSteps
