-- Written by a program of this session: a variant of the print that takes proofs by hand (wip/tools/mkprint.py)
import Derived.Test.YtpcmoclohepdiafPBookRetiresx0
import Derived.Test.YtpcmoclohepdiafPBookRetiresx4
namespace Go.Proofs.Ytpcmoclohepdiaf.PBookRetires
open Go.RowKit Go.Proofs.YtpcmoclohepdiafW.PrintWords Go.Proofs.YtpcmoclohepdiafW.PrintLast Go.Proofs.YtpcmoclohepdiafW.PrintMore
attribute [local go_sem] max2_int min2_int max_two min_two max_three min_three max_four min_four   -- for this text's walks alone
set_option linter.unusedVariables false
set_option linter.unusedSimpArgs false

/-! ### corrieref03_May: function 35 -/
def corrieref03_May.f (a0 : Int) : Option (Bool) := if a0 = 1 then (some true) else (if a0 = 2 then (some true) else (if a0 = 4 then (some true) else (if a0 = 8 then (some true) else (if a0 = 16 then (some true) else (if a0 = 32 then (some true) else (some (a0 == 64)))))))
set_option maxHeartbeats 8000000 in
set_option maxRecDepth 100000 in
theorem corrieref03_May.calls (a0 : Int) (r : Bool) (w : World) (h : corrieref03_May.f a0 = some r) :
    Calls Try.prog 35 #[.int .i64 a0] w fun e w' => e = .returned (.bool r) ∧ Drawn0 w w' := by
  have H : (if a0 = 1 then (some true) else (if a0 = 2 then (some true) else (if a0 = 4 then (some true) else (if a0 = 8 then (some true) else (if a0 = 16 then (some true) else (if a0 = 32 then (some true) else (some (a0 == 64)))))))) = some r := h
  clear h
  by_cases c2 : a0 = 1
  · rw [if_pos c2] at H
    have c2b0 : (a0 == 1) = true := beq_iff_eq.mpr c2
    have c2b1 : (a0 != 1) = false := bne_eq_false_iff_eq.mpr c2
    clear c2
    obtain rfl := Option.some.inj H
    go_enter Try.func35, Try.ntmps35
    go_wp2
    go_ret
    exact ⟨by first | rfl | (simp; done) | (simp [*]; done), by repeat (first | exact Drawn0.refl _ | apply Drawn0.step)⟩
  · rw [if_neg c2] at H
    have c2b0 : (a0 == 1) = false := beq_eq_false_iff_ne.mpr c2
    have c2b1 : (a0 != 1) = true := bne_iff_ne.mpr c2
    by_cases c3 : a0 = 2
    · rw [if_pos c3] at H
      have c3b0 : (a0 == 2) = true := beq_iff_eq.mpr c3
      have c3b1 : (a0 != 2) = false := bne_eq_false_iff_eq.mpr c3
      clear c3
      obtain rfl := Option.some.inj H
      go_enter Try.func35, Try.ntmps35
      go_wp2
      go_ret
      exact ⟨by first | rfl | (simp; done) | (simp [*]; done), by repeat (first | exact Drawn0.refl _ | apply Drawn0.step)⟩
    · rw [if_neg c3] at H
      have c3b0 : (a0 == 2) = false := beq_eq_false_iff_ne.mpr c3
      have c3b1 : (a0 != 2) = true := bne_iff_ne.mpr c3
      by_cases c4 : a0 = 4
      · rw [if_pos c4] at H
        have c4b0 : (a0 == 4) = true := beq_iff_eq.mpr c4
        have c4b1 : (a0 != 4) = false := bne_eq_false_iff_eq.mpr c4
        clear c4
        obtain rfl := Option.some.inj H
        go_enter Try.func35, Try.ntmps35
        go_wp2
        go_ret
        exact ⟨by first | rfl | (simp; done) | (simp [*]; done), by repeat (first | exact Drawn0.refl _ | apply Drawn0.step)⟩
      · rw [if_neg c4] at H
        have c4b0 : (a0 == 4) = false := beq_eq_false_iff_ne.mpr c4
        have c4b1 : (a0 != 4) = true := bne_iff_ne.mpr c4
        by_cases c5 : a0 = 8
        · rw [if_pos c5] at H
          have c5b0 : (a0 == 8) = true := beq_iff_eq.mpr c5
          have c5b1 : (a0 != 8) = false := bne_eq_false_iff_eq.mpr c5
          clear c5
          obtain rfl := Option.some.inj H
          go_enter Try.func35, Try.ntmps35
          go_wp2
          go_ret
          exact ⟨by first | rfl | (simp; done) | (simp [*]; done), by repeat (first | exact Drawn0.refl _ | apply Drawn0.step)⟩
        · rw [if_neg c5] at H
          have c5b0 : (a0 == 8) = false := beq_eq_false_iff_ne.mpr c5
          have c5b1 : (a0 != 8) = true := bne_iff_ne.mpr c5
          by_cases c6 : a0 = 16
          · rw [if_pos c6] at H
            have c6b0 : (a0 == 16) = true := beq_iff_eq.mpr c6
            have c6b1 : (a0 != 16) = false := bne_eq_false_iff_eq.mpr c6
            clear c6
            obtain rfl := Option.some.inj H
            go_enter Try.func35, Try.ntmps35
            go_wp2
            go_ret
            exact ⟨by first | rfl | (simp; done) | (simp [*]; done), by repeat (first | exact Drawn0.refl _ | apply Drawn0.step)⟩
          · rw [if_neg c6] at H
            have c6b0 : (a0 == 16) = false := beq_eq_false_iff_ne.mpr c6
            have c6b1 : (a0 != 16) = true := bne_iff_ne.mpr c6
            by_cases c7 : a0 = 32
            · rw [if_pos c7] at H
              have c7b0 : (a0 == 32) = true := beq_iff_eq.mpr c7
              have c7b1 : (a0 != 32) = false := bne_eq_false_iff_eq.mpr c7
              clear c7
              obtain rfl := Option.some.inj H
              go_enter Try.func35, Try.ntmps35
              go_wp2
              go_ret
              exact ⟨by first | rfl | (simp; done) | (simp [*]; done), by repeat (first | exact Drawn0.refl _ | apply Drawn0.step)⟩
            · rw [if_neg c7] at H
              have c7b0 : (a0 == 32) = false := beq_eq_false_iff_ne.mpr c7
              have c7b1 : (a0 != 32) = true := bne_iff_ne.mpr c7
              obtain rfl := Option.some.inj H
              go_enter Try.func35, Try.ntmps35
              go_wp2
              go_ret
              exact ⟨by first | rfl | (simp; done) | (simp [*]; done), by repeat (first | exact Drawn0.refl _ | apply Drawn0.step)⟩

/-! ### corrieref04_May: function 27 -/
def corrieref04_May.j0 : Nat → Bool → Int → Int → Int → Int → Int → Option (Int)
  | 0, _, _, _, _, _, _ => none
  | k + 1, x16, x114000, x114001, x114002, x114003, x114004 => if x16 = true then (some 1) else (if x114002 < 0 then (some 1) else (if x114002 > 256 then (some 1) else (if x114003 < 0 then (some 1) else (if x114003 > 65536 then (some 1) else (if x114004 < 1 then (some 1) else (if x114004 > 256 then (some 1) else (some 0)))))))
def corrieref04_May.f (k : Nat) (a0_0 : Int) (a0_1 : Int) (a0_2 : Int) (a0_3 : Int) (a0_4 : Int) : Option (Int) := if a0_0 < 1 then (corrieref04_May.j0 k true a0_0 a0_1 a0_2 a0_3 a0_4) else (if a0_0 > 8 then (corrieref04_May.j0 k true a0_0 a0_1 a0_2 a0_3 a0_4) else ((corrieref03_May.f a0_1).bind fun t114 => (corrieref04_May.j0 k (!t114) a0_0 a0_1 a0_2 a0_3 a0_4)))
theorem corrieref04_May.mono_l : ∀ k, (∀ y0 y1 y2 y3 y4 y5, LeO (corrieref04_May.j0 k y0 y1 y2 y3 y4 y5) (corrieref04_May.j0 (k + 1) y0 y1 y2 y3 y4 y5))
  | 0 => fun _ _ _ _ _ _ r h => by simp [corrieref04_May.j0] at h
  | k + 1 => by
    have ih0 := corrieref04_May.mono_l k
    · intro y0 y1 y2 y3 y4 y5
      unfold corrieref04_May.j0
      repeat' first
      | (with_reducible exact ih0 _ _ _ _ _ _)
      | (with_reducible exact LeO.refl _)
      | (with_reducible exact LeO.none _)
      | (with_reducible refine LeO.ite ?_ ?_)
      | (with_reducible refine LeO.bind ?_ (fun _ => ?_))
      | exact ih0 _ _ _ _ _ _
      | exact LeO.none _
      | refine LeO.ite ?_ ?_
      | refine LeO.bind ?_ (fun _ => ?_)
theorem corrieref04_May.mono : ∀ a0 a1 a2 a3 a4 k, LeO (corrieref04_May.f k a0 a1 a2 a3 a4) (corrieref04_May.f (k + 1) a0 a1 a2 a3 a4) := by
  intro a0 a1 a2 a3 a4 k
  have ih0 := corrieref04_May.mono_l k
  unfold corrieref04_May.f
  repeat' first
      | (with_reducible exact ih0 _ _ _ _ _ _)
      | (with_reducible exact LeO.refl _)
      | (with_reducible exact LeO.none _)
      | (with_reducible refine LeO.ite ?_ ?_)
      | (with_reducible refine LeO.bind ?_ (fun _ => ?_))
      | exact ih0 _ _ _ _ _ _
      | exact LeO.none _
      | refine LeO.ite ?_ ?_
      | refine LeO.bind ?_ (fun _ => ?_)
set_option maxHeartbeats 8000000 in
set_option maxRecDepth 100000 in
theorem corrieref04_May.calls (k : Nat) (a0_0 : Int) (a0_1 : Int) (a0_2 : Int) (a0_3 : Int) (a0_4 : Int) (r : Int) (w : World) (h : corrieref04_May.f k a0_0 a0_1 a0_2 a0_3 a0_4 = some r) :
    Calls Try.prog 27 #[.agg #[.int .i64 a0_0, .int .i64 a0_1, .int .i64 a0_2, .int .i64 a0_3, .int .i64 a0_4]] w fun e w' => e = .returned (.int .i64 r) ∧ Below w.heap.size w w' := by
  have hu23 := Try.underlying23
  have HB := Aside0.mk (Below.refl w.heap.size w)
  have H : (if a0_0 < 1 then (corrieref04_May.j0 k true a0_0 a0_1 a0_2 a0_3 a0_4) else (if a0_0 > 8 then (corrieref04_May.j0 k true a0_0 a0_1 a0_2 a0_3 a0_4) else ((corrieref03_May.f a0_1).bind fun t114 => (corrieref04_May.j0 k (!t114) a0_0 a0_1 a0_2 a0_3 a0_4)))) = some r := h
  clear h
  have HC2 := Aside0.mk H
  clear H
  go_enter Try.func27, Try.ntmps27
  go_upto_region 1 with (first | ((with_reducible refine gate_dst (N := 1) rfl ?_); refine box_event ?hg (N := 1) ?hd (cs := #[.int .i64 a0_0, .int .i64 a0_1, .int .i64 a0_2, .int .i64 a0_3, .int .i64 a0_4]) (t := 23) ?hr ?_; (case hd => rfl); (case hg => rfl); (case hr => first | (go_simp; done) | (go_simp; rfl)); intro gb113 hg w3 hbox hb; have n0_ := Aside0.mk (below_step (by repeat (first | (with_reducible first | exact HB.out | apply below_alloc | apply pw_below_drewN | apply below_drew1) | exact HB.out)) hb); have n1_ := Aside0.mk (hbox); have n2_ := Aside0.mk ((by rw [hg]; exact (below_size (by repeat (first | (with_reducible first | exact HB.out | apply below_alloc | apply pw_below_drewN | apply below_drew1) | exact HB.out))) : w.heap.size ≤ gb113)); have n3_ := Aside0.mk ((by rw [hg]; exact (below_size (by repeat (first | (with_reducible first | exact HB.out | apply below_alloc | apply pw_below_drewN | apply below_drew1) | exact HB.out))) : w.heap.size ≤ gb113)); clear HB; have HB := n0_; have BK113 := n1_; have GW113 := n2_; have GE113 := n3_; clear n0_ n1_ n2_ n3_; clear hb hbox hg))
  (try simp only [Act.put, List.setIfInBounds_toArray, List.set_cons_zero, List.set_cons_succ])
  go_cut [16] (fun v16 wc => ∃ (kq : Nat) (x16_1 : Bool), v16 = .bool x16_1 ∧ Aside0 (corrieref04_May.j0 kq x16_1 a0_0 a0_1 a0_2 a0_3 a0_4 = some r) ∧ Aside0 (kq ≤ k) ∧ Aside0 (wc.heap[gb113]? = some (.cells #[.int .i64 a0_0, .int .i64 a0_1, .int .i64 a0_2, .int .i64 a0_3, .int .i64 a0_4] 23 (0, 0))) ∧ Aside0 (Below w.heap.size w wc))
  case first =>
    have H := HC2.out
    clear HC2
    by_cases c4 : a0_0 < 1
    · rw [if_pos c4] at H
      have c4b0 : decide (a0_0 < 1) = true := decide_eq_true c4
      clear c4
      (first | rw [c4b0] | (simp only [i64_w, i32_w]; rw [c4b0]) | skip)
      have H' := Aside0.mk H
      clear H
      have hcz5_0 : w3.cell? ⟨gb113, 0, none⟩ = some (.int .i64 a0_0) := (blk_cell BK113.out 0).trans rfl
      have hcz5_1 : w3.cell? ⟨gb113, 1, none⟩ = some (.int .i64 a0_1) := (blk_cell BK113.out 1).trans rfl
      have hcz5_2 : w3.cell? ⟨gb113, 2, none⟩ = some (.int .i64 a0_2) := (blk_cell BK113.out 2).trans rfl
      have hcz5_3 : w3.cell? ⟨gb113, 3, none⟩ = some (.int .i64 a0_3) := (blk_cell BK113.out 3).trans rfl
      have hcz5_4 : w3.cell? ⟨gb113, 4, none⟩ = some (.int .i64 a0_4) := (blk_cell BK113.out 4).trans rfl
      have hfz5_0 := blk_frozen BK113.out 0
      have hfz5_1 := blk_frozen BK113.out 1
      have hfz5_2 := blk_frozen BK113.out 2
      have hfz5_3 := blk_frozen BK113.out 3
      have hfz5_4 := blk_frozen BK113.out 4
      go_wp2
      go_meet
      case rel => exact ⟨_, (true), (by first | rfl | (simp; done) | (simp [*]; done)), H', ⟨by first | omega | exact Nat.le_refl _⟩, ⟨by (with_reducible repeat (first | refine blk_drewN ?_ _ | refine blk_drew ?_ | refine blk_alloc ?_ _)); exact BK113.out⟩, ⟨by repeat (first | (with_reducible first | exact HB.out | apply below_alloc | apply pw_below_drewN | apply below_drew1 | refine below_set ?_ GE113.out) | exact HB.out)⟩⟩
    · rw [if_neg c4] at H
      have c4b0 : decide (a0_0 < 1) = false := decide_eq_false c4
      clear c4
      (first | rw [c4b0] | (simp only [i64_w, i32_w]; rw [c4b0]) | skip)
      by_cases c6 : a0_0 > 8
      · rw [if_pos c6] at H
        have c6b0 : decide (8 < a0_0) = true := decide_eq_true c6
        clear c6
        have H' := Aside0.mk H
        clear H
        have hcz7_0 : w3.cell? ⟨gb113, 0, none⟩ = some (.int .i64 a0_0) := (blk_cell BK113.out 0).trans rfl
        have hcz7_1 : w3.cell? ⟨gb113, 1, none⟩ = some (.int .i64 a0_1) := (blk_cell BK113.out 1).trans rfl
        have hcz7_2 : w3.cell? ⟨gb113, 2, none⟩ = some (.int .i64 a0_2) := (blk_cell BK113.out 2).trans rfl
        have hcz7_3 : w3.cell? ⟨gb113, 3, none⟩ = some (.int .i64 a0_3) := (blk_cell BK113.out 3).trans rfl
        have hcz7_4 : w3.cell? ⟨gb113, 4, none⟩ = some (.int .i64 a0_4) := (blk_cell BK113.out 4).trans rfl
        have hfz7_0 := blk_frozen BK113.out 0
        have hfz7_1 := blk_frozen BK113.out 1
        have hfz7_2 := blk_frozen BK113.out 2
        have hfz7_3 := blk_frozen BK113.out 3
        have hfz7_4 := blk_frozen BK113.out 4
        go_wp2
        go_meet
        case rel => exact ⟨_, (true), (by first | rfl | (simp; done) | (simp [*]; done)), H', ⟨by first | omega | exact Nat.le_refl _⟩, ⟨by (with_reducible repeat (first | refine blk_drewN ?_ _ | refine blk_drew ?_ | refine blk_alloc ?_ _)); exact BK113.out⟩, ⟨by repeat (first | (with_reducible first | exact HB.out | apply below_alloc | apply pw_below_drewN | apply below_drew1 | refine below_set ?_ GE113.out) | exact HB.out)⟩⟩
      · rw [if_neg c6] at H
        have c6b0 : decide (8 < a0_0) = false := decide_eq_false c6
        clear c6
        replace H := Option.bind_eq_some_iff.mp H
        obtain ⟨t114, A80, H⟩ := H
        replace H : (corrieref04_May.j0 k (!t114) a0_0 a0_1 a0_2 a0_3 a0_4) = some r := H
        have A8 := Aside0.mk A80
        clear A80
        have H' := Aside0.mk H
        clear H
        have hcz9_0 : w3.cell? ⟨gb113, 0, none⟩ = some (.int .i64 a0_0) := (blk_cell BK113.out 0).trans rfl
        have hcz9_1 : w3.cell? ⟨gb113, 1, none⟩ = some (.int .i64 a0_1) := (blk_cell BK113.out 1).trans rfl
        have hcz9_2 : w3.cell? ⟨gb113, 2, none⟩ = some (.int .i64 a0_2) := (blk_cell BK113.out 2).trans rfl
        have hcz9_3 : w3.cell? ⟨gb113, 3, none⟩ = some (.int .i64 a0_3) := (blk_cell BK113.out 3).trans rfl
        have hcz9_4 : w3.cell? ⟨gb113, 4, none⟩ = some (.int .i64 a0_4) := (blk_cell BK113.out 4).trans rfl
        have hfz9_0 := blk_frozen BK113.out 0
        have hfz9_1 := blk_frozen BK113.out 1
        have hfz9_2 := blk_frozen BK113.out 2
        have hfz9_3 := blk_frozen BK113.out 3
        have hfz9_4 := blk_frozen BK113.out 4
        go_wp2_with (first | (go_at_call 35; (with_reducible refine (corrieref03_May.calls a0_1 t114 _ A8.out).mono ?_); rintro e w' ⟨rfl, ⟨nd, rfl⟩⟩))
        go_meet
        case rel => exact ⟨_, (!t114), (by first | rfl | (simp; done) | (simp [*]; done)), H', ⟨by first | omega | exact Nat.le_refl _⟩, ⟨by (with_reducible repeat (first | refine blk_drewN ?_ _ | refine blk_drew ?_ | refine blk_alloc ?_ _)); exact BK113.out⟩, ⟨by repeat (first | (with_reducible first | exact HB.out | apply below_alloc | apply pw_below_drewN | apply below_drew1 | refine below_set ?_ GE113.out) | exact HB.out)⟩⟩
  case rest =>
    clear HC2
    try clear c2
    try clear p2
    try clear c4
    try clear c4b0
    try clear c6
    try clear c6b0
    try clear hcz5_0
    try clear hcz5_1
    try clear hcz5_2
    try clear hcz5_3
    try clear hcz5_4
    try clear hcz7_0
    try clear hcz7_1
    try clear hcz7_2
    try clear hcz7_3
    try clear hcz7_4
    try clear hcz9_0
    try clear hcz9_1
    try clear hcz9_2
    try clear hcz9_3
    try clear hcz9_4
    try clear hfz5_0
    try clear hfz5_1
    try clear hfz5_2
    try clear hfz5_3
    try clear hfz5_4
    try clear hfz7_0
    try clear hfz7_1
    try clear hfz7_2
    try clear hfz7_3
    try clear hfz7_4
    try clear hfz9_0
    try clear hfz9_1
    try clear hfz9_2
    try clear hfz9_3
    try clear hfz9_4
    obtain ⟨kq, x16_1, rfl, HA, HJ1, BK113, HB⟩ := hcut
    cases kq with
    | zero => exact absurd HA.out (by simp [corrieref04_May.j0])
    | succ kj1 =>
      have H := HA.out
      clear HA
      simp only [corrieref04_May.j0] at H
      by_cases c10 : x16_1 = true
      · subst c10
        have H1 : (some 1) = some r := by rw [if_pos rfl] at H; exact H
        clear H
        have H := H1
        clear H1
        obtain rfl := Option.some.inj H
        go_wp2
        go_ret
        exact ⟨by first | rfl | (simp [errW_none, errW_some] <;> rfl) | (simp [*, errW_none, errW_some] <;> rfl), by repeat (first | (with_reducible first | exact HB.out | apply below_alloc | apply pw_below_drewN | apply below_drew1 | refine below_set ?_ GE113.out) | exact HB.out)⟩
      · replace c10 := Bool.eq_false_iff.mpr c10
        subst c10
        have H1 : (if a0_2 < 0 then (some 1) else (if a0_2 > 256 then (some 1) else (if a0_3 < 0 then (some 1) else (if a0_3 > 65536 then (some 1) else (if a0_4 < 1 then (some 1) else (if a0_4 > 256 then (some 1) else (some 0))))))) = some r := by rw [if_neg (show ¬ (false = true) by decide)] at H; exact H
        clear H
        have H := H1
        clear H1
        by_cases c11 : a0_2 < 0
        · rw [if_pos c11] at H
          have c11b0 : decide (a0_2 < 0) = true := decide_eq_true c11
          clear c11
          obtain rfl := Option.some.inj H
          have hcz12_0 : wc.cell? ⟨gb113, 0, none⟩ = some (.int .i64 a0_0) := (blk_cell BK113.out 0).trans rfl
          have hcz12_1 : wc.cell? ⟨gb113, 1, none⟩ = some (.int .i64 a0_1) := (blk_cell BK113.out 1).trans rfl
          have hcz12_2 : wc.cell? ⟨gb113, 2, none⟩ = some (.int .i64 a0_2) := (blk_cell BK113.out 2).trans rfl
          have hcz12_3 : wc.cell? ⟨gb113, 3, none⟩ = some (.int .i64 a0_3) := (blk_cell BK113.out 3).trans rfl
          have hcz12_4 : wc.cell? ⟨gb113, 4, none⟩ = some (.int .i64 a0_4) := (blk_cell BK113.out 4).trans rfl
          have hfz12_0 := blk_frozen BK113.out 0
          have hfz12_1 := blk_frozen BK113.out 1
          have hfz12_2 := blk_frozen BK113.out 2
          have hfz12_3 := blk_frozen BK113.out 3
          have hfz12_4 := blk_frozen BK113.out 4
          go_wp2
          go_ret
          exact ⟨by first | rfl | (simp [errW_none, errW_some] <;> rfl) | (simp [*, errW_none, errW_some] <;> rfl), by repeat (first | (with_reducible first | exact HB.out | apply below_alloc | apply pw_below_drewN | apply below_drew1 | refine below_set ?_ GE113.out) | exact HB.out)⟩
        · rw [if_neg c11] at H
          have c11b0 : decide (a0_2 < 0) = false := decide_eq_false c11
          clear c11
          by_cases c13 : a0_2 > 256
          · rw [if_pos c13] at H
            have c13b0 : decide (256 < a0_2) = true := decide_eq_true c13
            clear c13
            obtain rfl := Option.some.inj H
            have hcz14_0 : wc.cell? ⟨gb113, 0, none⟩ = some (.int .i64 a0_0) := (blk_cell BK113.out 0).trans rfl
            have hcz14_1 : wc.cell? ⟨gb113, 1, none⟩ = some (.int .i64 a0_1) := (blk_cell BK113.out 1).trans rfl
            have hcz14_2 : wc.cell? ⟨gb113, 2, none⟩ = some (.int .i64 a0_2) := (blk_cell BK113.out 2).trans rfl
            have hcz14_3 : wc.cell? ⟨gb113, 3, none⟩ = some (.int .i64 a0_3) := (blk_cell BK113.out 3).trans rfl
            have hcz14_4 : wc.cell? ⟨gb113, 4, none⟩ = some (.int .i64 a0_4) := (blk_cell BK113.out 4).trans rfl
            have hfz14_0 := blk_frozen BK113.out 0
            have hfz14_1 := blk_frozen BK113.out 1
            have hfz14_2 := blk_frozen BK113.out 2
            have hfz14_3 := blk_frozen BK113.out 3
            have hfz14_4 := blk_frozen BK113.out 4
            go_wp2
            go_ret
            exact ⟨by first | rfl | (simp [errW_none, errW_some] <;> rfl) | (simp [*, errW_none, errW_some] <;> rfl), by repeat (first | (with_reducible first | exact HB.out | apply below_alloc | apply pw_below_drewN | apply below_drew1 | refine below_set ?_ GE113.out) | exact HB.out)⟩
          · rw [if_neg c13] at H
            have c13b0 : decide (256 < a0_2) = false := decide_eq_false c13
            clear c13
            by_cases c15 : a0_3 < 0
            · rw [if_pos c15] at H
              have c15b0 : decide (a0_3 < 0) = true := decide_eq_true c15
              clear c15
              obtain rfl := Option.some.inj H
              have hcz16_0 : wc.cell? ⟨gb113, 0, none⟩ = some (.int .i64 a0_0) := (blk_cell BK113.out 0).trans rfl
              have hcz16_1 : wc.cell? ⟨gb113, 1, none⟩ = some (.int .i64 a0_1) := (blk_cell BK113.out 1).trans rfl
              have hcz16_2 : wc.cell? ⟨gb113, 2, none⟩ = some (.int .i64 a0_2) := (blk_cell BK113.out 2).trans rfl
              have hcz16_3 : wc.cell? ⟨gb113, 3, none⟩ = some (.int .i64 a0_3) := (blk_cell BK113.out 3).trans rfl
              have hcz16_4 : wc.cell? ⟨gb113, 4, none⟩ = some (.int .i64 a0_4) := (blk_cell BK113.out 4).trans rfl
              have hfz16_0 := blk_frozen BK113.out 0
              have hfz16_1 := blk_frozen BK113.out 1
              have hfz16_2 := blk_frozen BK113.out 2
              have hfz16_3 := blk_frozen BK113.out 3
              have hfz16_4 := blk_frozen BK113.out 4
              go_wp2
              go_ret
              exact ⟨by first | rfl | (simp [errW_none, errW_some] <;> rfl) | (simp [*, errW_none, errW_some] <;> rfl), by repeat (first | (with_reducible first | exact HB.out | apply below_alloc | apply pw_below_drewN | apply below_drew1 | refine below_set ?_ GE113.out) | exact HB.out)⟩
            · rw [if_neg c15] at H
              have c15b0 : decide (a0_3 < 0) = false := decide_eq_false c15
              clear c15
              by_cases c17 : a0_3 > 65536
              · rw [if_pos c17] at H
                have c17b0 : decide (65536 < a0_3) = true := decide_eq_true c17
                clear c17
                obtain rfl := Option.some.inj H
                have hcz18_0 : wc.cell? ⟨gb113, 0, none⟩ = some (.int .i64 a0_0) := (blk_cell BK113.out 0).trans rfl
                have hcz18_1 : wc.cell? ⟨gb113, 1, none⟩ = some (.int .i64 a0_1) := (blk_cell BK113.out 1).trans rfl
                have hcz18_2 : wc.cell? ⟨gb113, 2, none⟩ = some (.int .i64 a0_2) := (blk_cell BK113.out 2).trans rfl
                have hcz18_3 : wc.cell? ⟨gb113, 3, none⟩ = some (.int .i64 a0_3) := (blk_cell BK113.out 3).trans rfl
                have hcz18_4 : wc.cell? ⟨gb113, 4, none⟩ = some (.int .i64 a0_4) := (blk_cell BK113.out 4).trans rfl
                have hfz18_0 := blk_frozen BK113.out 0
                have hfz18_1 := blk_frozen BK113.out 1
                have hfz18_2 := blk_frozen BK113.out 2
                have hfz18_3 := blk_frozen BK113.out 3
                have hfz18_4 := blk_frozen BK113.out 4
                go_wp2
                go_ret
                exact ⟨by first | rfl | (simp [errW_none, errW_some] <;> rfl) | (simp [*, errW_none, errW_some] <;> rfl), by repeat (first | (with_reducible first | exact HB.out | apply below_alloc | apply pw_below_drewN | apply below_drew1 | refine below_set ?_ GE113.out) | exact HB.out)⟩
              · rw [if_neg c17] at H
                have c17b0 : decide (65536 < a0_3) = false := decide_eq_false c17
                clear c17
                by_cases c19 : a0_4 < 1
                · rw [if_pos c19] at H
                  have c19b0 : decide (a0_4 < 1) = true := decide_eq_true c19
                  clear c19
                  obtain rfl := Option.some.inj H
                  have hcz20_0 : wc.cell? ⟨gb113, 0, none⟩ = some (.int .i64 a0_0) := (blk_cell BK113.out 0).trans rfl
                  have hcz20_1 : wc.cell? ⟨gb113, 1, none⟩ = some (.int .i64 a0_1) := (blk_cell BK113.out 1).trans rfl
                  have hcz20_2 : wc.cell? ⟨gb113, 2, none⟩ = some (.int .i64 a0_2) := (blk_cell BK113.out 2).trans rfl
                  have hcz20_3 : wc.cell? ⟨gb113, 3, none⟩ = some (.int .i64 a0_3) := (blk_cell BK113.out 3).trans rfl
                  have hcz20_4 : wc.cell? ⟨gb113, 4, none⟩ = some (.int .i64 a0_4) := (blk_cell BK113.out 4).trans rfl
                  have hfz20_0 := blk_frozen BK113.out 0
                  have hfz20_1 := blk_frozen BK113.out 1
                  have hfz20_2 := blk_frozen BK113.out 2
                  have hfz20_3 := blk_frozen BK113.out 3
                  have hfz20_4 := blk_frozen BK113.out 4
                  go_wp2
                  go_ret
                  exact ⟨by first | rfl | (simp [errW_none, errW_some] <;> rfl) | (simp [*, errW_none, errW_some] <;> rfl), by repeat (first | (with_reducible first | exact HB.out | apply below_alloc | apply pw_below_drewN | apply below_drew1 | refine below_set ?_ GE113.out) | exact HB.out)⟩
                · rw [if_neg c19] at H
                  have c19b0 : decide (a0_4 < 1) = false := decide_eq_false c19
                  clear c19
                  by_cases c21 : a0_4 > 256
                  · rw [if_pos c21] at H
                    have c21b0 : decide (256 < a0_4) = true := decide_eq_true c21
                    clear c21
                    obtain rfl := Option.some.inj H
                    have hcz22_0 : wc.cell? ⟨gb113, 0, none⟩ = some (.int .i64 a0_0) := (blk_cell BK113.out 0).trans rfl
                    have hcz22_1 : wc.cell? ⟨gb113, 1, none⟩ = some (.int .i64 a0_1) := (blk_cell BK113.out 1).trans rfl
                    have hcz22_2 : wc.cell? ⟨gb113, 2, none⟩ = some (.int .i64 a0_2) := (blk_cell BK113.out 2).trans rfl
                    have hcz22_3 : wc.cell? ⟨gb113, 3, none⟩ = some (.int .i64 a0_3) := (blk_cell BK113.out 3).trans rfl
                    have hcz22_4 : wc.cell? ⟨gb113, 4, none⟩ = some (.int .i64 a0_4) := (blk_cell BK113.out 4).trans rfl
                    have hfz22_0 := blk_frozen BK113.out 0
                    have hfz22_1 := blk_frozen BK113.out 1
                    have hfz22_2 := blk_frozen BK113.out 2
                    have hfz22_3 := blk_frozen BK113.out 3
                    have hfz22_4 := blk_frozen BK113.out 4
                    go_wp2
                    go_ret
                    exact ⟨by first | rfl | (simp [errW_none, errW_some] <;> rfl) | (simp [*, errW_none, errW_some] <;> rfl), by repeat (first | (with_reducible first | exact HB.out | apply below_alloc | apply pw_below_drewN | apply below_drew1 | refine below_set ?_ GE113.out) | exact HB.out)⟩
                  · rw [if_neg c21] at H
                    have c21b0 : decide (256 < a0_4) = false := decide_eq_false c21
                    clear c21
                    obtain rfl := Option.some.inj H
                    have hcz23_0 : wc.cell? ⟨gb113, 0, none⟩ = some (.int .i64 a0_0) := (blk_cell BK113.out 0).trans rfl
                    have hcz23_1 : wc.cell? ⟨gb113, 1, none⟩ = some (.int .i64 a0_1) := (blk_cell BK113.out 1).trans rfl
                    have hcz23_2 : wc.cell? ⟨gb113, 2, none⟩ = some (.int .i64 a0_2) := (blk_cell BK113.out 2).trans rfl
                    have hcz23_3 : wc.cell? ⟨gb113, 3, none⟩ = some (.int .i64 a0_3) := (blk_cell BK113.out 3).trans rfl
                    have hcz23_4 : wc.cell? ⟨gb113, 4, none⟩ = some (.int .i64 a0_4) := (blk_cell BK113.out 4).trans rfl
                    have hfz23_0 := blk_frozen BK113.out 0
                    have hfz23_1 := blk_frozen BK113.out 1
                    have hfz23_2 := blk_frozen BK113.out 2
                    have hfz23_3 := blk_frozen BK113.out 3
                    have hfz23_4 := blk_frozen BK113.out 4
                    go_wp2
                    go_ret
                    exact ⟨by first | rfl | (simp [errW_none, errW_some] <;> rfl) | (simp [*, errW_none, errW_some] <;> rfl), by repeat (first | (with_reducible first | exact HB.out | apply below_alloc | apply pw_below_drewN | apply below_drew1 | refine below_set ?_ GE113.out) | exact HB.out)⟩

theorem rpow_eq (b : Int) : corrieref03_May.f b = some (isPow b) := by
  unfold corrieref03_May.f isPow
  repeat' split
  all_goals first | (subst_vars; rfl) | (congr 1; rw [Bool.eq_iff_iff]; simp [*])
theorem rmay_eq (k : Nat) (t b i f c : Int) : corrieref04_May.f (k + 1) t b i f c = some (if Ok t b i f c then 0 else 1) := by
  unfold corrieref04_May.f
  rw [rpow_eq]
  simp only [corrieref04_May.j0, Option.bind_some, if_true]
  by_cases h1 : t < 1
  · rw [if_pos h1, if_neg (fun h => by have := h.1; omega)]
  rw [if_neg h1]
  by_cases h2 : t > 8
  · rw [if_pos h2, if_neg (fun h => by have := h.1; omega)]
  rw [if_neg h2]
  cases hb : isPow b
  · rw [if_pos (by rfl), if_neg (fun h => by have := h.2.1; rw [hb] at this; cases this)]
  rw [if_neg (by decide)]
  by_cases h3 : i < 0
  · rw [if_pos h3, if_neg (fun h => by have := h.2.2.1; omega)]
  rw [if_neg h3]
  by_cases h4 : i > 256
  · rw [if_pos h4, if_neg (fun h => by have := h.2.2.1; omega)]
  rw [if_neg h4]
  by_cases h5 : f < 0
  · rw [if_pos h5, if_neg (fun h => by have := h.2.2.2.1; omega)]
  rw [if_neg h5]
  by_cases h6 : f > 65536
  · rw [if_pos h6, if_neg (fun h => by have := h.2.2.2.1; omega)]
  rw [if_neg h6]
  by_cases h7 : c < 1
  · rw [if_pos h7, if_neg (fun h => by have := h.2.2.2.2; omega)]
  rw [if_neg h7]
  by_cases h8 : c > 256
  · rw [if_pos h8, if_neg (fun h => by have := h.2.2.2.2; omega)]
  rw [if_neg h8, if_pos ⟨⟨by omega, by omega⟩, hb, ⟨by omega, by omega⟩, ⟨by omega, by omega⟩, by omega, by omega⟩]

/-! ### corrieref04_Few: function 9 -/
def corrieref04_Few.f (k : Nat) (a0_0 : Int) (a0_1 : Int) (a0_2 : Int) (a0_3 : Int) (a0_4 : Int) : Option (Bool) := (corrieref04_May.f k a0_0 a0_1 a0_2 a0_3 a0_4).bind fun t116 => (if t116 = 0 then (if a0_0 ≤ 4 then (if a0_1 ≤ 4 then (some (decide (a0_4 ≤ 8))) else (some false)) else (some false)) else (some false))
theorem corrieref04_Few.mono : ∀ a0 a1 a2 a3 a4 k, LeO (corrieref04_Few.f k a0 a1 a2 a3 a4) (corrieref04_Few.f (k + 1) a0 a1 a2 a3 a4) := by
  intro a0 a1 a2 a3 a4 k
  unfold corrieref04_Few.f
  repeat' first
      | (with_reducible exact corrieref04_May.mono _ _ _ _ _ _)
      | (with_reducible exact LeO.refl _)
      | (with_reducible exact LeO.none _)
      | (with_reducible refine LeO.ite ?_ ?_)
      | (with_reducible refine LeO.bind ?_ (fun _ => ?_))
      | exact corrieref04_May.mono _ _ _ _ _ _
      | exact LeO.none _
      | refine LeO.ite ?_ ?_
      | refine LeO.bind ?_ (fun _ => ?_)
set_option maxHeartbeats 8000000 in
set_option maxRecDepth 100000 in
theorem corrieref04_Few.calls (k : Nat) (a0_0 : Int) (a0_1 : Int) (a0_2 : Int) (a0_3 : Int) (a0_4 : Int) (r : Bool) (w : World) (h : corrieref04_Few.f k a0_0 a0_1 a0_2 a0_3 a0_4 = some r) :
    Calls Try.prog 9 #[.agg #[.int .i64 a0_0, .int .i64 a0_1, .int .i64 a0_2, .int .i64 a0_3, .int .i64 a0_4]] w fun e w' => e = .returned (.bool r) ∧ Below w.heap.size w w' := by
  have hu23 := Try.underlying23
  have HB := Aside0.mk (Below.refl w.heap.size w)
  have H : ((corrieref04_May.f k a0_0 a0_1 a0_2 a0_3 a0_4).bind fun t116 => (if t116 = 0 then (if a0_0 ≤ 4 then (if a0_1 ≤ 4 then (some (decide (a0_4 ≤ 8))) else (some false)) else (some false)) else (some false))) = some r := h
  clear h
  replace H := Option.bind_eq_some_iff.mp H
  obtain ⟨t116, A20, H⟩ := H
  replace H : (if t116 = 0 then (if a0_0 ≤ 4 then (if a0_1 ≤ 4 then (some (decide (a0_4 ≤ 8))) else (some false)) else (some false)) else (some false)) = some r := H
  have A2 := Aside0.mk A20
  clear A20
  by_cases c3 : t116 = 0
  · rw [if_pos c3] at H
    have c3b0 : (t116 == 0) = true := beq_iff_eq.mpr c3
    have c3b1 : (t116 != 0) = false := bne_eq_false_iff_eq.mpr c3
    clear c3
    by_cases c4 : a0_0 ≤ 4
    · rw [if_pos c4] at H
      have c4b0 : decide (a0_0 ≤ 4) = true := decide_eq_true c4
      clear c4
      by_cases c5 : a0_1 ≤ 4
      · rw [if_pos c5] at H
        have c5b0 : decide (a0_1 ≤ 4) = true := decide_eq_true c5
        clear c5
        obtain rfl := Option.some.inj H
        go_enter Try.func9, Try.ntmps9
        go_wp2_with (first | ((with_reducible refine gate_dst (N := 1) rfl ?_); refine box_event ?hg (N := 1) ?hd (cs := #[.int .i64 a0_0, .int .i64 a0_1, .int .i64 a0_2, .int .i64 a0_3, .int .i64 a0_4]) (t := 23) ?hr ?_; (case hd => rfl); (case hg => rfl); (case hr => first | (go_simp; done) | (go_simp; rfl)); intro gb115 hg w6 hbox hb; have n0_ := Aside0.mk (below_step (by repeat (first | (with_reducible first | exact HB.out | apply below_alloc | apply pw_below_drewN | apply below_drew1) | exact HB.out)) hb); have n1_ := Aside0.mk (hbox); have n2_ := Aside0.mk ((by rw [hg]; exact (below_size (by repeat (first | (with_reducible first | exact HB.out | apply below_alloc | apply pw_below_drewN | apply below_drew1) | exact HB.out))) : w.heap.size ≤ gb115)); have n3_ := Aside0.mk ((by rw [hg]; exact (below_size (by repeat (first | (with_reducible first | exact HB.out | apply below_alloc | apply pw_below_drewN | apply below_drew1) | exact HB.out))) : w.heap.size ≤ gb115)); clear HB; have HB := n0_; have BK115 := n1_; have GW115 := n2_; have GE115 := n3_; clear n0_ n1_ n2_ n3_; clear hb hbox hg; have hcz7_0 : w6.cell? ⟨gb115, 0, none⟩ = some (.int .i64 a0_0) := (blk_cell BK115.out 0).trans rfl; have hcz7_1 : w6.cell? ⟨gb115, 1, none⟩ = some (.int .i64 a0_1) := (blk_cell BK115.out 1).trans rfl; have hcz7_2 : w6.cell? ⟨gb115, 2, none⟩ = some (.int .i64 a0_2) := (blk_cell BK115.out 2).trans rfl; have hcz7_3 : w6.cell? ⟨gb115, 3, none⟩ = some (.int .i64 a0_3) := (blk_cell BK115.out 3).trans rfl; have hcz7_4 : w6.cell? ⟨gb115, 4, none⟩ = some (.int .i64 a0_4) := (blk_cell BK115.out 4).trans rfl; have hfz7_0 := blk_frozen BK115.out 0; have hfz7_1 := blk_frozen BK115.out 1; have hfz7_2 := blk_frozen BK115.out 2; have hfz7_3 := blk_frozen BK115.out 3; have hfz7_4 := blk_frozen BK115.out 4) | ((with_reducible refine gate_callee (f := 27) rfl ?_); refine goesL_ (some 4) rfl rfl Try.func27 (by kernel_rfl) rfl #[.agg #[.int .i64 a0_0, .int .i64 a0_1, .int .i64 a0_2, .int .i64 a0_3, .int .i64 a0_4]] rfl (by (try simp only [List.map_toArray, List.map_cons, List.map_nil]); first | done | rfl | (simp only [List.length_drop, List.length_take]; rfl)) ?_; (with_reducible refine (corrieref04_May.calls k a0_0 a0_1 a0_2 a0_3 a0_4 t116 _ A2.out).mono ?_); rintro e w8 ⟨rfl, hb⟩; refine ⟨_, rfl, ?_⟩; have n0_ := Aside0.mk (blk_below (g := gb115) (o := .cells #[.int .i64 a0_0, .int .i64 a0_1, .int .i64 a0_2, .int .i64 a0_3, .int .i64 a0_4] 23 (0, 0)) (by (with_reducible repeat (first | refine blk_drewN ?_ _ | refine blk_drew ?_ | refine blk_alloc ?_ _)); exact BK115.out) hb); have n1_ := Aside0.mk (below_step (by repeat (first | (with_reducible first | exact HB.out | apply below_alloc | apply pw_below_drewN | apply below_drew1 | refine below_set ?_ GE115.out) | exact HB.out)) hb); clear BK115; clear HB; have BK115 := n0_; have HB := n1_; clear n0_ n1_; (try clear hb); (try clear hb2); (try clear hk); (try clear hi); have hcz9_0 : w8.cell? ⟨gb115, 0, none⟩ = some (.int .i64 a0_0) := (blk_cell BK115.out 0).trans rfl; have hcz9_1 : w8.cell? ⟨gb115, 1, none⟩ = some (.int .i64 a0_1) := (blk_cell BK115.out 1).trans rfl; have hcz9_2 : w8.cell? ⟨gb115, 2, none⟩ = some (.int .i64 a0_2) := (blk_cell BK115.out 2).trans rfl; have hcz9_3 : w8.cell? ⟨gb115, 3, none⟩ = some (.int .i64 a0_3) := (blk_cell BK115.out 3).trans rfl; have hcz9_4 : w8.cell? ⟨gb115, 4, none⟩ = some (.int .i64 a0_4) := (blk_cell BK115.out 4).trans rfl; have hfz9_0 := blk_frozen BK115.out 0; have hfz9_1 := blk_frozen BK115.out 1; have hfz9_2 := blk_frozen BK115.out 2; have hfz9_3 := blk_frozen BK115.out 3; have hfz9_4 := blk_frozen BK115.out 4))
        go_ret
        exact ⟨by first | rfl | (simp [errW_none, errW_some] <;> rfl) | (simp [*, errW_none, errW_some] <;> rfl), by repeat (first | (with_reducible first | exact HB.out | apply below_alloc | apply pw_below_drewN | apply below_drew1 | refine below_set ?_ GE115.out) | exact HB.out)⟩
      · rw [if_neg c5] at H
        have c5b0 : decide (a0_1 ≤ 4) = false := decide_eq_false c5
        clear c5
        obtain rfl := Option.some.inj H
        go_enter Try.func9, Try.ntmps9
        go_wp2_with (first | ((with_reducible refine gate_dst (N := 1) rfl ?_); refine box_event ?hg (N := 1) ?hd (cs := #[.int .i64 a0_0, .int .i64 a0_1, .int .i64 a0_2, .int .i64 a0_3, .int .i64 a0_4]) (t := 23) ?hr ?_; (case hd => rfl); (case hg => rfl); (case hr => first | (go_simp; done) | (go_simp; rfl)); intro gb115 hg w10 hbox hb; have n0_ := Aside0.mk (below_step (by repeat (first | (with_reducible first | exact HB.out | apply below_alloc | apply pw_below_drewN | apply below_drew1) | exact HB.out)) hb); have n1_ := Aside0.mk (hbox); have n2_ := Aside0.mk ((by rw [hg]; exact (below_size (by repeat (first | (with_reducible first | exact HB.out | apply below_alloc | apply pw_below_drewN | apply below_drew1) | exact HB.out))) : w.heap.size ≤ gb115)); have n3_ := Aside0.mk ((by rw [hg]; exact (below_size (by repeat (first | (with_reducible first | exact HB.out | apply below_alloc | apply pw_below_drewN | apply below_drew1) | exact HB.out))) : w.heap.size ≤ gb115)); clear HB; have HB := n0_; have BK115 := n1_; have GW115 := n2_; have GE115 := n3_; clear n0_ n1_ n2_ n3_; clear hb hbox hg; have hcz11_0 : w10.cell? ⟨gb115, 0, none⟩ = some (.int .i64 a0_0) := (blk_cell BK115.out 0).trans rfl; have hcz11_1 : w10.cell? ⟨gb115, 1, none⟩ = some (.int .i64 a0_1) := (blk_cell BK115.out 1).trans rfl; have hcz11_2 : w10.cell? ⟨gb115, 2, none⟩ = some (.int .i64 a0_2) := (blk_cell BK115.out 2).trans rfl; have hcz11_3 : w10.cell? ⟨gb115, 3, none⟩ = some (.int .i64 a0_3) := (blk_cell BK115.out 3).trans rfl; have hcz11_4 : w10.cell? ⟨gb115, 4, none⟩ = some (.int .i64 a0_4) := (blk_cell BK115.out 4).trans rfl; have hfz11_0 := blk_frozen BK115.out 0; have hfz11_1 := blk_frozen BK115.out 1; have hfz11_2 := blk_frozen BK115.out 2; have hfz11_3 := blk_frozen BK115.out 3; have hfz11_4 := blk_frozen BK115.out 4) | ((with_reducible refine gate_callee (f := 27) rfl ?_); refine goesL_ (some 4) rfl rfl Try.func27 (by kernel_rfl) rfl #[.agg #[.int .i64 a0_0, .int .i64 a0_1, .int .i64 a0_2, .int .i64 a0_3, .int .i64 a0_4]] rfl (by (try simp only [List.map_toArray, List.map_cons, List.map_nil]); first | done | rfl | (simp only [List.length_drop, List.length_take]; rfl)) ?_; (with_reducible refine (corrieref04_May.calls k a0_0 a0_1 a0_2 a0_3 a0_4 t116 _ A2.out).mono ?_); rintro e w12 ⟨rfl, hb⟩; refine ⟨_, rfl, ?_⟩; have n0_ := Aside0.mk (blk_below (g := gb115) (o := .cells #[.int .i64 a0_0, .int .i64 a0_1, .int .i64 a0_2, .int .i64 a0_3, .int .i64 a0_4] 23 (0, 0)) (by (with_reducible repeat (first | refine blk_drewN ?_ _ | refine blk_drew ?_ | refine blk_alloc ?_ _)); exact BK115.out) hb); have n1_ := Aside0.mk (below_step (by repeat (first | (with_reducible first | exact HB.out | apply below_alloc | apply pw_below_drewN | apply below_drew1 | refine below_set ?_ GE115.out) | exact HB.out)) hb); clear BK115; clear HB; have BK115 := n0_; have HB := n1_; clear n0_ n1_; (try clear hb); (try clear hb2); (try clear hk); (try clear hi); have hcz13_0 : w12.cell? ⟨gb115, 0, none⟩ = some (.int .i64 a0_0) := (blk_cell BK115.out 0).trans rfl; have hcz13_1 : w12.cell? ⟨gb115, 1, none⟩ = some (.int .i64 a0_1) := (blk_cell BK115.out 1).trans rfl; have hcz13_2 : w12.cell? ⟨gb115, 2, none⟩ = some (.int .i64 a0_2) := (blk_cell BK115.out 2).trans rfl; have hcz13_3 : w12.cell? ⟨gb115, 3, none⟩ = some (.int .i64 a0_3) := (blk_cell BK115.out 3).trans rfl; have hcz13_4 : w12.cell? ⟨gb115, 4, none⟩ = some (.int .i64 a0_4) := (blk_cell BK115.out 4).trans rfl; have hfz13_0 := blk_frozen BK115.out 0; have hfz13_1 := blk_frozen BK115.out 1; have hfz13_2 := blk_frozen BK115.out 2; have hfz13_3 := blk_frozen BK115.out 3; have hfz13_4 := blk_frozen BK115.out 4))
        go_ret
        exact ⟨by first | rfl | (simp [errW_none, errW_some] <;> rfl) | (simp [*, errW_none, errW_some] <;> rfl), by repeat (first | (with_reducible first | exact HB.out | apply below_alloc | apply pw_below_drewN | apply below_drew1 | refine below_set ?_ GE115.out) | exact HB.out)⟩
    · rw [if_neg c4] at H
      have c4b0 : decide (a0_0 ≤ 4) = false := decide_eq_false c4
      clear c4
      obtain rfl := Option.some.inj H
      go_enter Try.func9, Try.ntmps9
      go_wp2_with (first | ((with_reducible refine gate_dst (N := 1) rfl ?_); refine box_event ?hg (N := 1) ?hd (cs := #[.int .i64 a0_0, .int .i64 a0_1, .int .i64 a0_2, .int .i64 a0_3, .int .i64 a0_4]) (t := 23) ?hr ?_; (case hd => rfl); (case hg => rfl); (case hr => first | (go_simp; done) | (go_simp; rfl)); intro gb115 hg w14 hbox hb; have n0_ := Aside0.mk (below_step (by repeat (first | (with_reducible first | exact HB.out | apply below_alloc | apply pw_below_drewN | apply below_drew1) | exact HB.out)) hb); have n1_ := Aside0.mk (hbox); have n2_ := Aside0.mk ((by rw [hg]; exact (below_size (by repeat (first | (with_reducible first | exact HB.out | apply below_alloc | apply pw_below_drewN | apply below_drew1) | exact HB.out))) : w.heap.size ≤ gb115)); have n3_ := Aside0.mk ((by rw [hg]; exact (below_size (by repeat (first | (with_reducible first | exact HB.out | apply below_alloc | apply pw_below_drewN | apply below_drew1) | exact HB.out))) : w.heap.size ≤ gb115)); clear HB; have HB := n0_; have BK115 := n1_; have GW115 := n2_; have GE115 := n3_; clear n0_ n1_ n2_ n3_; clear hb hbox hg; have hcz15_0 : w14.cell? ⟨gb115, 0, none⟩ = some (.int .i64 a0_0) := (blk_cell BK115.out 0).trans rfl; have hcz15_1 : w14.cell? ⟨gb115, 1, none⟩ = some (.int .i64 a0_1) := (blk_cell BK115.out 1).trans rfl; have hcz15_2 : w14.cell? ⟨gb115, 2, none⟩ = some (.int .i64 a0_2) := (blk_cell BK115.out 2).trans rfl; have hcz15_3 : w14.cell? ⟨gb115, 3, none⟩ = some (.int .i64 a0_3) := (blk_cell BK115.out 3).trans rfl; have hcz15_4 : w14.cell? ⟨gb115, 4, none⟩ = some (.int .i64 a0_4) := (blk_cell BK115.out 4).trans rfl; have hfz15_0 := blk_frozen BK115.out 0; have hfz15_1 := blk_frozen BK115.out 1; have hfz15_2 := blk_frozen BK115.out 2; have hfz15_3 := blk_frozen BK115.out 3; have hfz15_4 := blk_frozen BK115.out 4) | ((with_reducible refine gate_callee (f := 27) rfl ?_); refine goesL_ (some 4) rfl rfl Try.func27 (by kernel_rfl) rfl #[.agg #[.int .i64 a0_0, .int .i64 a0_1, .int .i64 a0_2, .int .i64 a0_3, .int .i64 a0_4]] rfl (by (try simp only [List.map_toArray, List.map_cons, List.map_nil]); first | done | rfl | (simp only [List.length_drop, List.length_take]; rfl)) ?_; (with_reducible refine (corrieref04_May.calls k a0_0 a0_1 a0_2 a0_3 a0_4 t116 _ A2.out).mono ?_); rintro e w16 ⟨rfl, hb⟩; refine ⟨_, rfl, ?_⟩; have n0_ := Aside0.mk (blk_below (g := gb115) (o := .cells #[.int .i64 a0_0, .int .i64 a0_1, .int .i64 a0_2, .int .i64 a0_3, .int .i64 a0_4] 23 (0, 0)) (by (with_reducible repeat (first | refine blk_drewN ?_ _ | refine blk_drew ?_ | refine blk_alloc ?_ _)); exact BK115.out) hb); have n1_ := Aside0.mk (below_step (by repeat (first | (with_reducible first | exact HB.out | apply below_alloc | apply pw_below_drewN | apply below_drew1 | refine below_set ?_ GE115.out) | exact HB.out)) hb); clear BK115; clear HB; have BK115 := n0_; have HB := n1_; clear n0_ n1_; (try clear hb); (try clear hb2); (try clear hk); (try clear hi); have hcz17_0 : w16.cell? ⟨gb115, 0, none⟩ = some (.int .i64 a0_0) := (blk_cell BK115.out 0).trans rfl; have hcz17_1 : w16.cell? ⟨gb115, 1, none⟩ = some (.int .i64 a0_1) := (blk_cell BK115.out 1).trans rfl; have hcz17_2 : w16.cell? ⟨gb115, 2, none⟩ = some (.int .i64 a0_2) := (blk_cell BK115.out 2).trans rfl; have hcz17_3 : w16.cell? ⟨gb115, 3, none⟩ = some (.int .i64 a0_3) := (blk_cell BK115.out 3).trans rfl; have hcz17_4 : w16.cell? ⟨gb115, 4, none⟩ = some (.int .i64 a0_4) := (blk_cell BK115.out 4).trans rfl; have hfz17_0 := blk_frozen BK115.out 0; have hfz17_1 := blk_frozen BK115.out 1; have hfz17_2 := blk_frozen BK115.out 2; have hfz17_3 := blk_frozen BK115.out 3; have hfz17_4 := blk_frozen BK115.out 4))
      go_ret
      exact ⟨by first | rfl | (simp [errW_none, errW_some] <;> rfl) | (simp [*, errW_none, errW_some] <;> rfl), by repeat (first | (with_reducible first | exact HB.out | apply below_alloc | apply pw_below_drewN | apply below_drew1 | refine below_set ?_ GE115.out) | exact HB.out)⟩
  · rw [if_neg c3] at H
    have c3b0 : (t116 == 0) = false := beq_eq_false_iff_ne.mpr c3
    have c3b1 : (t116 != 0) = true := bne_iff_ne.mpr c3
    obtain rfl := Option.some.inj H
    go_enter Try.func9, Try.ntmps9
    go_wp2_with (first | ((with_reducible refine gate_dst (N := 1) rfl ?_); refine box_event ?hg (N := 1) ?hd (cs := #[.int .i64 a0_0, .int .i64 a0_1, .int .i64 a0_2, .int .i64 a0_3, .int .i64 a0_4]) (t := 23) ?hr ?_; (case hd => rfl); (case hg => rfl); (case hr => first | (go_simp; done) | (go_simp; rfl)); intro gb115 hg w18 hbox hb; have n0_ := Aside0.mk (below_step (by repeat (first | (with_reducible first | exact HB.out | apply below_alloc | apply pw_below_drewN | apply below_drew1) | exact HB.out)) hb); have n1_ := Aside0.mk (hbox); have n2_ := Aside0.mk ((by rw [hg]; exact (below_size (by repeat (first | (with_reducible first | exact HB.out | apply below_alloc | apply pw_below_drewN | apply below_drew1) | exact HB.out))) : w.heap.size ≤ gb115)); have n3_ := Aside0.mk ((by rw [hg]; exact (below_size (by repeat (first | (with_reducible first | exact HB.out | apply below_alloc | apply pw_below_drewN | apply below_drew1) | exact HB.out))) : w.heap.size ≤ gb115)); clear HB; have HB := n0_; have BK115 := n1_; have GW115 := n2_; have GE115 := n3_; clear n0_ n1_ n2_ n3_; clear hb hbox hg; have hcz19_0 : w18.cell? ⟨gb115, 0, none⟩ = some (.int .i64 a0_0) := (blk_cell BK115.out 0).trans rfl; have hcz19_1 : w18.cell? ⟨gb115, 1, none⟩ = some (.int .i64 a0_1) := (blk_cell BK115.out 1).trans rfl; have hcz19_2 : w18.cell? ⟨gb115, 2, none⟩ = some (.int .i64 a0_2) := (blk_cell BK115.out 2).trans rfl; have hcz19_3 : w18.cell? ⟨gb115, 3, none⟩ = some (.int .i64 a0_3) := (blk_cell BK115.out 3).trans rfl; have hcz19_4 : w18.cell? ⟨gb115, 4, none⟩ = some (.int .i64 a0_4) := (blk_cell BK115.out 4).trans rfl; have hfz19_0 := blk_frozen BK115.out 0; have hfz19_1 := blk_frozen BK115.out 1; have hfz19_2 := blk_frozen BK115.out 2; have hfz19_3 := blk_frozen BK115.out 3; have hfz19_4 := blk_frozen BK115.out 4) | ((with_reducible refine gate_callee (f := 27) rfl ?_); refine goesL_ (some 4) rfl rfl Try.func27 (by kernel_rfl) rfl #[.agg #[.int .i64 a0_0, .int .i64 a0_1, .int .i64 a0_2, .int .i64 a0_3, .int .i64 a0_4]] rfl (by (try simp only [List.map_toArray, List.map_cons, List.map_nil]); first | done | rfl | (simp only [List.length_drop, List.length_take]; rfl)) ?_; (with_reducible refine (corrieref04_May.calls k a0_0 a0_1 a0_2 a0_3 a0_4 t116 _ A2.out).mono ?_); rintro e w20 ⟨rfl, hb⟩; refine ⟨_, rfl, ?_⟩; have n0_ := Aside0.mk (blk_below (g := gb115) (o := .cells #[.int .i64 a0_0, .int .i64 a0_1, .int .i64 a0_2, .int .i64 a0_3, .int .i64 a0_4] 23 (0, 0)) (by (with_reducible repeat (first | refine blk_drewN ?_ _ | refine blk_drew ?_ | refine blk_alloc ?_ _)); exact BK115.out) hb); have n1_ := Aside0.mk (below_step (by repeat (first | (with_reducible first | exact HB.out | apply below_alloc | apply pw_below_drewN | apply below_drew1 | refine below_set ?_ GE115.out) | exact HB.out)) hb); clear BK115; clear HB; have BK115 := n0_; have HB := n1_; clear n0_ n1_; (try clear hb); (try clear hb2); (try clear hk); (try clear hi)))
    go_ret
    exact ⟨by first | rfl | (simp [errW_none, errW_some] <;> rfl) | (simp [*, errW_none, errW_some] <;> rfl), by repeat (first | (with_reducible first | exact HB.out | apply below_alloc | apply pw_below_drewN | apply below_drew1 | refine below_set ?_ GE115.out) | exact HB.out)⟩

def FewP (t b i f c : Int) : Prop := Ok t b i f c ∧ t ≤ 4 ∧ b ≤ 4 ∧ c ≤ 8
instance (t b i f c : Int) : Decidable (FewP t b i f c) := by unfold FewP; infer_instance
theorem few_eq (k : Nat) (t b i f c : Int) : corrieref04_Few.f (k + 1) t b i f c = some (decide (FewP t b i f c)) := by
  unfold corrieref04_Few.f FewP
  rw [rmay_eq k t b i f c, Option.bind_some]
  by_cases h : Ok t b i f c
  · rw [if_pos h, if_pos rfl]
    by_cases h1 : t ≤ 4
    · rw [if_pos h1]
      by_cases h2 : b ≤ 4
      · rw [if_pos h2]
        simp [h, h1, h2]
      · rw [if_neg h2]
        simp [h2]
    · rw [if_neg h1]
      simp [h1]
  · rw [if_neg h, if_neg (by decide)]
    simp [h]
theorem few_calls (t b i f c : Int) (fb : Bool) (hf : decide (FewP t b i f c) = fb) (W : World) :
    Calls Try.prog 9 #[.agg #[.int .i64 t, .int .i64 b, .int .i64 i, .int .i64 f, .int .i64 c]] W fun e w' => e = .returned (.bool fb) ∧ Below W.heap.size W w' := by
  subst hf
  exact corrieref04_Few.calls 1 t b i f c _ W (few_eq 0 t b i f c)

/-! ### corrielaw07_BookRetires: function 6 (by hand) -/
structure RetS (c : S23) (t : Nat) (K : Int) (i : Nat) (b : RB) : Prop where
  inv : Inv b
  hc : b.c = c
  ht : t < b.calls.length
  calls : b.calls.getD t 0 = (i : Int)
  ins : K = 1 → b.ins.getD t 0 = if (i : Int) ≤ c.f2 then (i : Int) else c.f2
theorem RetS.new (c : S23) (hO : Ok c.f0 c.f1 c.f2 c.f3 c.f4) (t : Nat) (ht : (t : Int) < c.f0) (K : Int) : RetS c t K 0 (newRB c) := by
  have hI := Inv.new c hO
  have hl : t < (newRB c).calls.length := by have := hI.lc; have e : (newRB c).c = c := rfl; rw [e] at this; omega
  have h0 : ∀ n j : Nat, (List.replicate n (0 : Int)).getD j 0 = 0 := by
    intro n j
    simp only [List.getD, List.getElem?_replicate]
    split <;> rfl
  refine ⟨hI, rfl, hl, h0 _ _, fun _ => ?_⟩
  rw [if_pos (by have := hO.2.2.1.1; omega)]
  exact h0 _ _
theorem RetS.step {c : S23} {t : Nat} {K : Int} {i : Nat} {b : RB} (h : RetS c t K i b) (hi : (i : Int) < c.f4) (hK : 1 ≤ K ∧ K ≤ 4) :
    (begR b (t : Int) ⟨K, 0, 0, 0⟩).2.2 = (if K = 1 ∧ c.f2 ≤ (i : Int) then 3 else 0) ∧ RetS c t K (i + 1) (begR b (t : Int) ⟨K, 0, 0, 0⟩).1 := by
  have hI := h.inv.beg (t : Int) ⟨K, 0, 0, 0⟩
  have ht := h.ht
  have hg : 0 ≤ (t : Int) ∧ (t : Int) < (b.calls.length : Int) ∧ 1 ≤ K ∧ K ≤ 4 := ⟨by omega, by omega, hK⟩
  have h4 : ¬ b.calls.getD t 0 = b.c.f4 := by rw [h.calls, h.hc]; omega
  have hcl : (b.called t).calls.getD t 0 = ((i + 1 : Nat) : Int) := by
    rw [show (b.called t).calls = b.calls.set t (b.calls.getD t 0 + 1) from rfl, getD_set _ _ _ _ ht, if_pos rfl, h.calls]
    rfl
  have hll : t < (b.called t).calls.length := by rw [show (b.called t).calls = b.calls.set t (b.calls.getD t 0 + 1) from rfl, List.length_set]; exact ht
  by_cases k1 : K = 1
  · have hin := h.ins k1
    by_cases c3 : b.ins.getD t 0 = b.c.f2
    · have e : begR b (t : Int) ⟨K, 0, 0, 0⟩ = (b.called t, 0, 3) := by
        unfold begR
        rw [if_pos hg]
        simp only [Int.toNat_natCast]
        rw [if_neg h4, if_pos k1, if_pos c3]
      have hge : c.f2 ≤ (i : Int) := by
        rw [c3, h.hc] at hin
        split at hin <;> omega
      rw [e] at hI ⊢
      rw [if_pos ⟨k1, hge⟩]
      refine ⟨rfl, ⟨hI, h.hc, hll, hcl, fun _ => ?_⟩⟩
      rw [if_neg (by omega), show (b.called t).ins = b.ins from rfl, c3, h.hc]
    · have e : begR b (t : Int) ⟨K, 0, 0, 0⟩ = (((b.called t).inserted t).addOp (opNo b.c t (b.calls.getD t 0)) ⟨K, 0, 0, 0⟩, opNo b.c t (b.calls.getD t 0), 0) := by
        unfold begR
        rw [if_pos hg]
        simp only [Int.toNat_natCast]
        rw [if_neg h4, if_pos k1, if_neg c3]
      have hlt : (i : Int) < c.f2 := by
        rw [h.hc, hin] at c3
        split at c3 <;> omega
      rw [e] at hI ⊢
      rw [if_neg (by omega)]
      refine ⟨rfl, ⟨hI, h.hc, hll, hcl, fun _ => ?_⟩⟩
      rw [if_pos (by omega), show (((b.called t).inserted t).addOp (opNo b.c t (b.calls.getD t 0)) ⟨K, 0, 0, 0⟩).ins = b.ins.set t (b.ins.getD t 0 + 1) from rfl, getD_set _ _ _ _ (by rw [h.inv.li]; exact ht), if_pos rfl, hin, if_pos (by omega)]
      rfl
  · have e : begR b (t : Int) ⟨K, 0, 0, 0⟩ = ((b.called t).addOp (opNo b.c t (b.calls.getD t 0)) ⟨K, 0, 0, 0⟩, opNo b.c t (b.calls.getD t 0), 0) := by
      unfold begR
      rw [if_pos hg]
      simp only [Int.toNat_natCast]
      rw [if_neg h4, if_neg k1]
    rw [e] at hI ⊢
    rw [if_neg (fun h => k1 h.1)]
    exact ⟨rfl, ⟨hI, h.hc, hll, hcl, fun h => absurd h k1⟩⟩
theorem RetS.last {c : S23} {t : Nat} {K : Int} {i : Nat} {b : RB} (h : RetS c t K i b) (hi : (i : Int) = c.f4) (hK : 1 ≤ K ∧ K ≤ 4) : begR b (t : Int) ⟨K, 0, 0, 0⟩ = (b, 0, 2) := by
  have ht := h.ht
  unfold begR
  rw [if_pos ⟨by omega, by omega, hK⟩]
  simp only [Int.toNat_natCast]
  rw [if_pos (by rw [h.calls, h.hc]; exact hi)]
theorem beg_bad (b : RB) (n : Int) : begR b n ⟨5, 0, 0, 0⟩ = (b, 0, 1) := by
  unfold begR
  rw [if_neg (fun h => absurd h.2.2.2 (by decide))]
def bre_lb (n m : Nat) : Array Bool := ((List.range n).map (fun i => m.testBit i)).toArray
def corrielaw07_BookRetires.T16 : Bool × List (List Nat × List Nat) := (true, [([], []), ([0], [0]), ([1], [1]), ([2, 1], [1, 2]), ([1, 3], [1, 3]), ([4, 1], [4]), ([5], [5]), ([6, 5], [5, 6]), ([5, 7], [5, 7]), ([8, 5], [8]), ([9], [9]), ([9], [9]), ([10, 11, 9, 9], [9, 10, 11]), ([9], [9]), ([13, 9], [9, 13]), ([12, 14, 9], [9, 12, 14]), ([9, 15], [9, 15]), ([16, 12, 0, 1, 2, 3, 4, 5, 6, 7, 8, 9, 10, 11, 12, 13, 14, 15, 16], [16])])
def corrielaw07_BookRetires.B16 : List Nat := [0, 1, 3, 7, 15, 31, 63, 127, 255, 511, 1023, 1023, 4095, 1023, 9215, 32767, 65535, 131071]
theorem corrielaw07_BookRetires.tab16 : rtab .any (opsOf Try.f6 16) = corrielaw07_BookRetires.T16 := by kernel_rfl
theorem corrielaw07_BookRetires.bits16 : waitsOk corrielaw07_BookRetires.T16.2 corrielaw07_BookRetires.B16 = true := by kernel_rfl
def corrielaw07_BookRetires.f (a0_0 a0_1 a0_2 a0_3 a0_4 : Int) (a1 a2 : Int) : Option Bool := if 0 ≤ a1 ∧ a1 ≤ 255 ∧ 0 ≤ a2 ∧ a2 ≤ 255 then some true else none
set_option maxHeartbeats 8000000 in
set_option maxRecDepth 100000 in
theorem corrielaw07_BookRetires.calls (a0_0 a0_1 a0_2 a0_3 a0_4 : Int) (a1 : Int) (a2 : Int) (r : Bool) (w : World) (h : corrielaw07_BookRetires.f a0_0 a0_1 a0_2 a0_3 a0_4 a1 a2 = some r) :
    Calls Try.prog 6 #[.agg #[.int .i64 a0_0, .int .i64 a0_1, .int .i64 a0_2, .int .i64 a0_3, .int .i64 a0_4], .int .u8 a1, .int .u8 a2] w fun e w' => e = .returned (.bool r) ∧ Below w.heap.size w w' := by
  have HB := Aside0.mk (Below.refl w.heap.size w)
  unfold corrielaw07_BookRetires.f at h
  by_cases hwf : 0 ≤ a1 ∧ a1 ≤ 255 ∧ 0 ≤ a2 ∧ a2 ≤ 255
  rotate_left
  · rw [if_neg hwf] at h
    cases h
  rw [if_pos hwf] at h
  obtain rfl := Option.some.inj h
  clear h
  by_cases hF : FewP a0_0 a0_1 a0_2 a0_3 a0_4
  rotate_left
  · have HF := Aside0.mk (show ∀ W : World, Calls Try.prog 9 #[.agg #[.int .i64 a0_0, .int .i64 a0_1, .int .i64 a0_2, .int .i64 a0_3, .int .i64 a0_4]] W (fun e w' => e = .returned (.bool false) ∧ Below W.heap.size W w') from fun W => few_calls a0_0 a0_1 a0_2 a0_3 a0_4 false (decide_eq_false hF) W)
    clear hF hwf
    go_enter Try.func6, Try.ntmps6
    go_wp2_with (first | ((with_reducible refine gate_dst (N := 3) rfl ?_); refine box_event ?hg (N := 3) ?hd (cs := #[.int .i64 a0_0, .int .i64 a0_1, .int .i64 a0_2, .int .i64 a0_3, .int .i64 a0_4]) (t := 23) ?hr ?_; (case hd => rfl); (case hg => rfl); (case hr => first | (go_simp; done) | (go_simp; rfl)); intro g3 hg w1 hbox hbk; have B3 := Aside0.mk hbox; have HGB3 := Aside0.mk (show w.heap.size ≤ g3 from by rw [hg]; exact HB.out.size); have n_HB := Aside0.mk (below_step HB.out hbk); clear HB; have HB := n_HB; clear n_HB; clear hbk hbox hg) | (go_at_call 8; (with_reducible refine (corrielaw07_awake.calls true _ rfl).mono ?_); rintro e w0 ⟨rfl, hbk⟩; have n_B3 := Aside0.mk (blk_below B3.out hbk); have n_HB := Aside0.mk (below_step HB.out hbk); clear B3 HB; have B3 := n_B3; have HB := n_HB; clear n_B3 n_HB; have c3_0 : w0.cell? ⟨g3, 0, none⟩ = some (.int .i64 a0_0) := (blk_cell B3.out 0).trans rfl; have c3_1 : w0.cell? ⟨g3, 1, none⟩ = some (.int .i64 a0_1) := (blk_cell B3.out 1).trans rfl; have c3_2 : w0.cell? ⟨g3, 2, none⟩ = some (.int .i64 a0_2) := (blk_cell B3.out 2).trans rfl; have c3_3 : w0.cell? ⟨g3, 3, none⟩ = some (.int .i64 a0_3) := (blk_cell B3.out 3).trans rfl; have c3_4 : w0.cell? ⟨g3, 4, none⟩ = some (.int .i64 a0_4) := (blk_cell B3.out 4).trans rfl; clear hbk) | (go_at_call 9; (with_reducible refine (HF.out _).mono ?_); rintro e wf ⟨rfl, hbk⟩; clear c3_0 c3_1 c3_2 c3_3 c3_4; have n_B3 := Aside0.mk (blk_below B3.out hbk); have n_HB := Aside0.mk (below_step HB.out hbk); clear B3 HB; have B3 := n_B3; have HB := n_HB; clear n_B3 n_HB; have c3_0 : wf.cell? ⟨g3, 0, none⟩ = some (.int .i64 a0_0) := (blk_cell B3.out 0).trans rfl; have c3_1 : wf.cell? ⟨g3, 1, none⟩ = some (.int .i64 a0_1) := (blk_cell B3.out 1).trans rfl; have c3_2 : wf.cell? ⟨g3, 2, none⟩ = some (.int .i64 a0_2) := (blk_cell B3.out 2).trans rfl; have c3_3 : wf.cell? ⟨g3, 3, none⟩ = some (.int .i64 a0_3) := (blk_cell B3.out 3).trans rfl; have c3_4 : wf.cell? ⟨g3, 4, none⟩ = some (.int .i64 a0_4) := (blk_cell B3.out 4).trans rfl; clear hbk))
    go_ret
    exact ⟨by first | rfl | (simp [*]; done), HB.out⟩
  have HF := Aside0.mk (show ∀ W : World, Calls Try.prog 9 #[.agg #[.int .i64 a0_0, .int .i64 a0_1, .int .i64 a0_2, .int .i64 a0_3, .int .i64 a0_4]] W (fun e w' => e = .returned (.bool true) ∧ Below W.heap.size W w') from fun W => few_calls a0_0 a0_1 a0_2 a0_3 a0_4 true (decide_eq_true hF) W)
  have hO := hF.1
  have HC4 := Aside0.mk (show 1 ≤ a0_4 ∧ a0_4 ≤ 8 from ⟨by have := bnds hO; omega, hF.2.2.2⟩)
  clear hF
  have HT := Aside0.mk (show ∃ t : Nat, (wrap64 a1).tmod a0_0 = (t : Int) ∧ (t : Int) < a0_0 from by
    have hb := bnds hO
    have e1 : wrap64 a1 = a1 := by unfold wrap64; omega
    refine ⟨(a1 % a0_0).toNat, ?_, ?_⟩
    · rw [e1, Int.tmod_eq_emod_of_nonneg hwf.1]
      have := Int.emod_nonneg a1 (show a0_0 ≠ 0 by omega)
      omega
    · have := Int.emod_nonneg a1 (show a0_0 ≠ 0 by omega)
      have := Int.emod_lt_of_pos a1 (show 0 < a0_0 by omega)
      omega)
  have HK := Aside0.mk (show 1 ≤ wrap64 (1 + (wrap64 a2).tmod 4) ∧ wrap64 (1 + (wrap64 a2).tmod 4) ≤ 4 from by
    have e1 : wrap64 a2 = a2 := by unfold wrap64; omega
    rw [e1, Int.tmod_eq_emod_of_nonneg hwf.2.2.1]
    unfold wrap64
    omega)
  have hne0 : ¬ a0_0 = 0 := by have := bnds hO; omega
  have HO := Aside0.mk hO
  clear hwf hO
  have H1 := Aside0.mk (show ∀ W : World, Calls Try.prog 21 #[.agg #[.int .i64 a0_0, .int .i64 a0_1, .int .i64 a0_2, .int .i64 a0_3, .int .i64 a0_4]] W (fun r w' => ∃ p gt go gn, r = .returned (.tuple #[.pointer (some ⟨p, 0, none⟩), .int .i64 0]) ∧ BookAt w' p gt go gn (newRB ⟨a0_0, a0_1, a0_2, a0_3, a0_4⟩) ∧ Below W.heap.size W w' ∧ W.heap.size ≤ p ∧ W.heap.size ≤ gt ∧ W.heap.size ≤ go ∧ W.heap.size ≤ gn) from fun W => p_New ⟨a0_0, a0_1, a0_2, a0_3, a0_4⟩ HO.out W)
  go_enter Try.func6, Try.ntmps6
  go_upto_region 7 with (first | ((with_reducible refine gate_dst (N := 3) rfl ?_); refine box_event ?hg (N := 3) ?hd (cs := #[.int .i64 a0_0, .int .i64 a0_1, .int .i64 a0_2, .int .i64 a0_3, .int .i64 a0_4]) (t := 23) ?hr ?_; (case hd => rfl); (case hg => rfl); (case hr => first | (go_simp; done) | (go_simp; rfl)); intro g3 hg w1 hbox hbk; have B3 := Aside0.mk hbox; have HGB3 := Aside0.mk (show w.heap.size ≤ g3 from by rw [hg]; exact HB.out.size); have n_HB := Aside0.mk (below_step HB.out hbk); clear HB; have HB := n_HB; clear n_HB; clear hbk hbox hg) | (go_at_call 8; (with_reducible refine (corrielaw07_awake.calls true _ rfl).mono ?_); rintro e w0 ⟨rfl, hbk⟩; have n_B3 := Aside0.mk (blk_below B3.out hbk); have n_HB := Aside0.mk (below_step HB.out hbk); clear B3 HB; have B3 := n_B3; have HB := n_HB; clear n_B3 n_HB; have c3_0 : w0.cell? ⟨g3, 0, none⟩ = some (.int .i64 a0_0) := (blk_cell B3.out 0).trans rfl; have c3_1 : w0.cell? ⟨g3, 1, none⟩ = some (.int .i64 a0_1) := (blk_cell B3.out 1).trans rfl; have c3_2 : w0.cell? ⟨g3, 2, none⟩ = some (.int .i64 a0_2) := (blk_cell B3.out 2).trans rfl; have c3_3 : w0.cell? ⟨g3, 3, none⟩ = some (.int .i64 a0_3) := (blk_cell B3.out 3).trans rfl; have c3_4 : w0.cell? ⟨g3, 4, none⟩ = some (.int .i64 a0_4) := (blk_cell B3.out 4).trans rfl; clear hbk) | (go_at_call 9; (with_reducible refine (HF.out _).mono ?_); rintro e wf ⟨rfl, hbk⟩; clear c3_0 c3_1 c3_2 c3_3 c3_4; have n_B3 := Aside0.mk (blk_below B3.out hbk); have n_HB := Aside0.mk (below_step HB.out hbk); clear B3 HB; have B3 := n_B3; have HB := n_HB; clear n_B3 n_HB; have c3_0 : wf.cell? ⟨g3, 0, none⟩ = some (.int .i64 a0_0) := (blk_cell B3.out 0).trans rfl; have c3_1 : wf.cell? ⟨g3, 1, none⟩ = some (.int .i64 a0_1) := (blk_cell B3.out 1).trans rfl; have c3_2 : wf.cell? ⟨g3, 2, none⟩ = some (.int .i64 a0_2) := (blk_cell B3.out 2).trans rfl; have c3_3 : wf.cell? ⟨g3, 3, none⟩ = some (.int .i64 a0_3) := (blk_cell B3.out 3).trans rfl; have c3_4 : wf.cell? ⟨g3, 4, none⟩ = some (.int .i64 a0_4) := (blk_cell B3.out 4).trans rfl; clear hbk) | (go_at_call 21; (with_reducible refine (H1.out _).mono ?_); rintro e w2 ⟨p, gt, go, gn, rfl, hA, hbk, hg1, hg2, hg3, hg4⟩; have HA := Aside0.mk hA; have HGN := Aside0.mk (show (w.heap.size ≤ gt ∧ w.heap.size ≤ go ∧ w.heap.size ≤ gn) ∧ g3 ≠ gt ∧ g3 ≠ go ∧ g3 ≠ gn from by have := HB.out.size; have := blk_lt B3.out; omega); clear c3_0 c3_1 c3_2 c3_3 c3_4; have n_B3 := Aside0.mk (blk_below B3.out hbk); have n_HB := Aside0.mk (below_step HB.out hbk); clear B3 HB; have B3 := n_B3; have HB := n_HB; clear n_B3 n_HB; have c3_0 : w2.cell? ⟨g3, 0, none⟩ = some (.int .i64 a0_0) := (blk_cell B3.out 0).trans rfl; have c3_1 : w2.cell? ⟨g3, 1, none⟩ = some (.int .i64 a0_1) := (blk_cell B3.out 1).trans rfl; have c3_2 : w2.cell? ⟨g3, 2, none⟩ = some (.int .i64 a0_2) := (blk_cell B3.out 2).trans rfl; have c3_3 : w2.cell? ⟨g3, 3, none⟩ = some (.int .i64 a0_3) := (blk_cell B3.out 3).trans rfl; have c3_4 : w2.cell? ⟨g3, 4, none⟩ = some (.int .i64 a0_4) := (blk_cell B3.out 4).trans rfl; clear hbk hA hg1 hg2 hg3 hg4))
  generalize (wrap64 a1).tmod a0_0 = T at HT ⊢
  obtain ⟨t, rfl, ht⟩ := HT.out
  generalize wrap64 (1 + (wrap64 a2).tmod 4) = K at HK ⊢
  clear HT
  have HS0 := Aside0.mk (RetS.new ⟨a0_0, a0_1, a0_2, a0_3, a0_4⟩ HO.out t ht K)
  clear c3_0 c3_1 c3_2 c3_3 c3_4
  go_wp2
  go_loopg [12] a0_4.toNat (fun kq v12 wr => ∃ (i : Nat) (b : RB), v12 = .int .i64 i ∧ Aside0 ((i : Int) ≤ a0_4) ∧ Aside0 (a0_4.toNat - i ≤ kq) ∧ Aside0 (RetS ⟨a0_0, a0_1, a0_2, a0_3, a0_4⟩ t K i b) ∧ Aside0 (BookAt wr p gt go gn b) ∧ Aside0 (wr.heap[g3]? = some (.cells #[.int .i64 a0_0, .int .i64 a0_1, .int .i64 a0_2, .int .i64 a0_3, .int .i64 a0_4] 23 (0, 0))) ∧ Aside0 (Below w.heap.size w wr))
  case atStart => exact ⟨0, newRB ⟨a0_0, a0_1, a0_2, a0_3, a0_4⟩, rfl, ⟨by have := HC4.out; omega⟩, ⟨by omega⟩, HS0, HA, B3, HB⟩
  case round =>
    clear HB HA B3 HS0
    obtain ⟨i, b, rfl, HJ, HM, HS, HA, B3, HB⟩ := hrel
    have c3_0 : wr.cell? ⟨g3, 0, none⟩ = some (.int .i64 a0_0) := (blk_cell B3.out 0).trans rfl
    have c3_1 : wr.cell? ⟨g3, 1, none⟩ = some (.int .i64 a0_1) := (blk_cell B3.out 1).trans rfl
    have c3_2 : wr.cell? ⟨g3, 2, none⟩ = some (.int .i64 a0_2) := (blk_cell B3.out 2).trans rfl
    have c3_3 : wr.cell? ⟨g3, 3, none⟩ = some (.int .i64 a0_3) := (blk_cell B3.out 3).trans rfl
    have c3_4 : wr.cell? ⟨g3, 4, none⟩ = some (.int .i64 a0_4) := (blk_cell B3.out 4).trans rfl
    by_cases hlt : (i : Int) < a0_4
    · have HLT := Aside0.mk hlt
      have hst := HS.out.step hlt HK.out
      obtain ⟨b1, v, E, hbeg⟩ : ∃ b1 v E, begR b (t : Int) ⟨K, 0, 0, 0⟩ = (b1, v, E) := ⟨_, _, _, rfl⟩
      rw [hbeg] at hst
      have F1 := Aside0.mk (show ∀ W : World, BookAt W p gt go gn b → Calls Try.prog 24 #[.pointer (some ⟨p, 0, none⟩), .int .i64 (t : Int), .agg #[.int .i64 K, .int .u64 0, .int .u64 0, .int .i64 0]] W (fun e w' => e = .returned (.tuple #[.int .i64 v, .int .i64 E]) ∧ BookAt w' p gt go gn b1 ∧ Touch (T3 gt go gn) W w') from fun W h => by
        have h2 := p_Begin HS.out.inv p gt go gn (t : Int) ⟨K, 0, 0, 0⟩ W h
        rw [hbeg] at h2
        exact h2)
      have HS1 := Aside0.mk (show RetS ⟨a0_0, a0_1, a0_2, a0_3, a0_4⟩ t K (i + 1) b1 from hst.2)
      have hE : E = if K = 1 ∧ a0_2 ≤ (i : Int) then 3 else 0 := hst.1
      clear hst hbeg
      have F2 := Aside0.mk (show ∀ W : World, BookAt W p gt go gn b1 → Calls Try.prog 19 #[.pointer (some ⟨p, 0, none⟩), .int .i64 (t : Int)] W (fun e w' => e = .returned (.int .i64 (wrap64 ((i : Int) + 1))) ∧ w' = W) from fun W h => by
        have h2 := bk_Calls p gt go gn b1 (t : Int) W h
        have e2 : cnt b1.calls (t : Int) = wrap64 ((i : Int) + 1) := by
          unfold cnt
          rw [if_pos ⟨by omega, by have := HS1.out.ht; omega⟩, Int.toNat_natCast, HS1.out.calls]
          have := HC4.out
          unfold wrap64
          omega
        rw [e2] at h2
        exact h2)
      by_cases hk1 : K = 1
      · subst hk1
        by_cases hf : a0_2 ≤ (i : Int)
        · rw [if_pos ⟨rfl, hf⟩] at hE
          subst hE
          go_wp2_with (first | (go_at_call 24; (with_reducible refine (F1.out _ HA.out).mono ?_); rintro e w5 ⟨rfl, hA, hT⟩; have hgn := HGN.out; have n_ := Aside0.mk (blk_touch B3.out hT (fun h => h.elim (fun e => hgn.2.1 e) (fun h => h.elim (fun e => hgn.2.2.1 e) (fun e => hgn.2.2.2 e)))); have n2_ := Aside0.mk (HB.out.trans (hT.below HB.out.size (fun k hk => by rcases hk with rfl | rfl | rfl <;> omega))); clear HA B3 HB hgn c3_0 c3_1 c3_2 c3_3 c3_4; have HA := Aside0.mk hA; have B3 := n_; have HB := n2_; clear n_ n2_ hA hT; have c3_0 : w5.cell? ⟨g3, 0, none⟩ = some (.int .i64 a0_0) := (blk_cell B3.out 0).trans rfl; have c3_1 : w5.cell? ⟨g3, 1, none⟩ = some (.int .i64 a0_1) := (blk_cell B3.out 1).trans rfl; have c3_2 : w5.cell? ⟨g3, 2, none⟩ = some (.int .i64 a0_2) := (blk_cell B3.out 2).trans rfl; have c3_3 : w5.cell? ⟨g3, 3, none⟩ = some (.int .i64 a0_3) := (blk_cell B3.out 3).trans rfl; have c3_4 : w5.cell? ⟨g3, 4, none⟩ = some (.int .i64 a0_4) := (blk_cell B3.out 4).trans rfl) | (go_at_call 19; (with_reducible refine (F2.out _ HA.out).mono ?_); rintro e wk ⟨rfl, hq⟩; have hq2 := hq.symm; subst hq2; clear hq))
          go_roundg (a0_4.toNat - (i + 1))
          case measure => have := HLT.out; have := HM.out; omega
          case rel =>
            have hlt := HLT.out
            have h4 := HC4.out
            exact ⟨i + 1, b1, by rw [show wrap64 ((i : Int) + 1) = ((i + 1 : Nat) : Int) from by unfold wrap64; omega], ⟨by omega⟩, ⟨by omega⟩, HS1, HA, B3, HB⟩
        · rw [if_neg (fun h => hf h.2)] at hE
          subst hE
          go_wp2_with (first | (go_at_call 24; (with_reducible refine (F1.out _ HA.out).mono ?_); rintro e w5 ⟨rfl, hA, hT⟩; have hgn := HGN.out; have n_ := Aside0.mk (blk_touch B3.out hT (fun h => h.elim (fun e => hgn.2.1 e) (fun h => h.elim (fun e => hgn.2.2.1 e) (fun e => hgn.2.2.2 e)))); have n2_ := Aside0.mk (HB.out.trans (hT.below HB.out.size (fun k hk => by rcases hk with rfl | rfl | rfl <;> omega))); clear HA B3 HB hgn c3_0 c3_1 c3_2 c3_3 c3_4; have HA := Aside0.mk hA; have B3 := n_; have HB := n2_; clear n_ n2_ hA hT; have c3_0 : w5.cell? ⟨g3, 0, none⟩ = some (.int .i64 a0_0) := (blk_cell B3.out 0).trans rfl; have c3_1 : w5.cell? ⟨g3, 1, none⟩ = some (.int .i64 a0_1) := (blk_cell B3.out 1).trans rfl; have c3_2 : w5.cell? ⟨g3, 2, none⟩ = some (.int .i64 a0_2) := (blk_cell B3.out 2).trans rfl; have c3_3 : w5.cell? ⟨g3, 3, none⟩ = some (.int .i64 a0_3) := (blk_cell B3.out 3).trans rfl; have c3_4 : w5.cell? ⟨g3, 4, none⟩ = some (.int .i64 a0_4) := (blk_cell B3.out 4).trans rfl) | (go_at_call 19; (with_reducible refine (F2.out _ HA.out).mono ?_); rintro e wk ⟨rfl, hq⟩; have hq2 := hq.symm; subst hq2; clear hq))
          go_roundg (a0_4.toNat - (i + 1))
          case measure => have := HLT.out; have := HM.out; omega
          case rel =>
            have hlt := HLT.out
            have h4 := HC4.out
            exact ⟨i + 1, b1, by rw [show wrap64 ((i : Int) + 1) = ((i + 1 : Nat) : Int) from by unfold wrap64; omega], ⟨by omega⟩, ⟨by omega⟩, HS1, HA, B3, HB⟩
      · rw [if_neg (fun h => hk1 h.1)] at hE
        subst hE
        go_wp2_with (first | (go_at_call 24; (with_reducible refine (F1.out _ HA.out).mono ?_); rintro e w5 ⟨rfl, hA, hT⟩; have hgn := HGN.out; have n_ := Aside0.mk (blk_touch B3.out hT (fun h => h.elim (fun e => hgn.2.1 e) (fun h => h.elim (fun e => hgn.2.2.1 e) (fun e => hgn.2.2.2 e)))); have n2_ := Aside0.mk (HB.out.trans (hT.below HB.out.size (fun k hk => by rcases hk with rfl | rfl | rfl <;> omega))); clear HA B3 HB hgn c3_0 c3_1 c3_2 c3_3 c3_4; have HA := Aside0.mk hA; have B3 := n_; have HB := n2_; clear n_ n2_ hA hT; have c3_0 : w5.cell? ⟨g3, 0, none⟩ = some (.int .i64 a0_0) := (blk_cell B3.out 0).trans rfl; have c3_1 : w5.cell? ⟨g3, 1, none⟩ = some (.int .i64 a0_1) := (blk_cell B3.out 1).trans rfl; have c3_2 : w5.cell? ⟨g3, 2, none⟩ = some (.int .i64 a0_2) := (blk_cell B3.out 2).trans rfl; have c3_3 : w5.cell? ⟨g3, 3, none⟩ = some (.int .i64 a0_3) := (blk_cell B3.out 3).trans rfl; have c3_4 : w5.cell? ⟨g3, 4, none⟩ = some (.int .i64 a0_4) := (blk_cell B3.out 4).trans rfl) | (go_at_call 19; (with_reducible refine (F2.out _ HA.out).mono ?_); rintro e wk ⟨rfl, hq⟩; have hq2 := hq.symm; subst hq2; clear hq))
        go_roundg (a0_4.toNat - (i + 1))
        case measure => have := HLT.out; have := HM.out; omega
        case rel =>
          have hlt := HLT.out
          have h4 := HC4.out
          exact ⟨i + 1, b1, by rw [show wrap64 ((i : Int) + 1) = ((i + 1 : Nat) : Int) from by unfold wrap64; omega], ⟨by omega⟩, ⟨by omega⟩, HS1, HA, B3, HB⟩
    · have hj : (i : Int) = a0_4 := by have := HJ.out; omega
      have F1 := Aside0.mk (show ∀ W : World, BookAt W p gt go gn b → Calls Try.prog 24 #[.pointer (some ⟨p, 0, none⟩), .int .i64 (t : Int), .agg #[.int .i64 K, .int .u64 0, .int .u64 0, .int .i64 0]] W (fun e w' => e = .returned (.tuple #[.int .i64 0, .int .i64 2]) ∧ BookAt w' p gt go gn b ∧ Touch (T3 gt go gn) W w') from fun W h => by
        have h2 := p_Begin HS.out.inv p gt go gn (t : Int) ⟨K, 0, 0, 0⟩ W h
        rw [HS.out.last hj HK.out] at h2
        exact h2)
      have F2 := Aside0.mk (show ∀ W : World, BookAt W p gt go gn b → Calls Try.prog 24 #[.pointer (some ⟨p, 0, none⟩), .int .i64 (t : Int), .agg #[.int .i64 5, .int .u64 0, .int .u64 0, .int .i64 0]] W (fun e w' => e = .returned (.tuple #[.int .i64 0, .int .i64 1]) ∧ BookAt w' p gt go gn b ∧ Touch (T3 gt go gn) W w') from fun W h => by
        have h2 := p_Begin HS.out.inv p gt go gn (t : Int) ⟨5, 0, 0, 0⟩ W h
        rw [beg_bad b (t : Int)] at h2
        exact h2)
      have F3 := Aside0.mk (show ∀ W : World, BookAt W p gt go gn b → Calls Try.prog 19 #[.pointer (some ⟨p, 0, none⟩), .int .i64 (t : Int)] W (fun e w' => e = .returned (.int .i64 a0_4) ∧ Below W.heap.size W w') from fun W h => by
        have h2 := bk_Calls p gt go gn b (t : Int) W h
        have e2 : cnt b.calls (t : Int) = a0_4 := by
          unfold cnt
          rw [if_pos ⟨by omega, by have := HS.out.ht; omega⟩, Int.toNat_natCast, HS.out.calls]
          exact hj
        rw [e2] at h2
        exact h2.mono (fun e w' h => wkB h))
      have hnlt : ¬ (i : Int) < a0_4 := hlt
      go_upto_region 16 with (first | (go_at_call 24; (with_reducible refine (F1.out _ HA.out).mono ?_); rintro e w6 ⟨rfl, hA, hT⟩; have hgn := HGN.out; have n_ := Aside0.mk (blk_touch B3.out hT (fun h => h.elim (fun e => hgn.2.1 e) (fun h => h.elim (fun e => hgn.2.2.1 e) (fun e => hgn.2.2.2 e)))); have n2_ := Aside0.mk (HB.out.trans (hT.below HB.out.size (fun k hk => by rcases hk with rfl | rfl | rfl <;> omega))); clear HA B3 HB hgn c3_0 c3_1 c3_2 c3_3 c3_4; have HA := Aside0.mk hA; have B3 := n_; have HB := n2_; clear n_ n2_ hA hT; have c3_0 : w6.cell? ⟨g3, 0, none⟩ = some (.int .i64 a0_0) := (blk_cell B3.out 0).trans rfl; have c3_1 : w6.cell? ⟨g3, 1, none⟩ = some (.int .i64 a0_1) := (blk_cell B3.out 1).trans rfl; have c3_2 : w6.cell? ⟨g3, 2, none⟩ = some (.int .i64 a0_2) := (blk_cell B3.out 2).trans rfl; have c3_3 : w6.cell? ⟨g3, 3, none⟩ = some (.int .i64 a0_3) := (blk_cell B3.out 3).trans rfl; have c3_4 : w6.cell? ⟨g3, 4, none⟩ = some (.int .i64 a0_4) := (blk_cell B3.out 4).trans rfl) | (go_at_call 24; (with_reducible refine (F2.out _ HA.out).mono ?_); rintro e w7 ⟨rfl, hA, hT⟩; have hgn := HGN.out; have n_ := Aside0.mk (blk_touch B3.out hT (fun h => h.elim (fun e => hgn.2.1 e) (fun h => h.elim (fun e => hgn.2.2.1 e) (fun e => hgn.2.2.2 e)))); have n2_ := Aside0.mk (HB.out.trans (hT.below HB.out.size (fun k hk => by rcases hk with rfl | rfl | rfl <;> omega))); clear HA B3 HB hgn c3_0 c3_1 c3_2 c3_3 c3_4; have HA := Aside0.mk hA; have B3 := n_; have HB := n2_; clear n_ n2_ hA hT; have c3_0 : w7.cell? ⟨g3, 0, none⟩ = some (.int .i64 a0_0) := (blk_cell B3.out 0).trans rfl; have c3_1 : w7.cell? ⟨g3, 1, none⟩ = some (.int .i64 a0_1) := (blk_cell B3.out 1).trans rfl; have c3_2 : w7.cell? ⟨g3, 2, none⟩ = some (.int .i64 a0_2) := (blk_cell B3.out 2).trans rfl; have c3_3 : w7.cell? ⟨g3, 3, none⟩ = some (.int .i64 a0_3) := (blk_cell B3.out 3).trans rfl; have c3_4 : w7.cell? ⟨g3, 4, none⟩ = some (.int .i64 a0_4) := (blk_cell B3.out 4).trans rfl))
      clear c3_0 c3_1 c3_2 c3_3 c3_4
      have n_HA := Aside0.mk (HA.out.drew)
      have n_B3 := Aside0.mk (blk_drew B3.out)
      have n_HB := Aside0.mk (below_drew1 HB.out)
      clear HA B3 HB
      have HA := n_HA
      have B3 := n_B3
      have HB := n_HB
      clear n_HA n_B3 n_HB
      refine start_ (n := 18) (S := fun w' => w'.cell? ⟨g3, 4, none⟩ = some (.int .i64 a0_4)) (ds := []) #[false, false, false, false, false, false, false, false, false, false, false, false, false, false, false, false, false, false] (by kernel_rfl) rfl rfl (((blk_cell B3.out 4).trans rfl)) (fun hHeld => ?_); refine with_tabW corrielaw07_BookRetires.tab16 corrielaw07_BookRetires.bits16 (fun HT_ HW_ => ?_)
      generalize w7.drew = W1 at HA B3 HB hHeld ⊢
      refine pure_ (i := 0) (N := some 97) (v := ?_) (a' := ?_) (bre_lb 18 1) rfl rfl (any_of HT_.out (by kernel_rfl)) (fun _ _ _ h => h) (Or.inl ⟨by rfl, ?_⟩) ?_ ?_; rotate_left
      · intro w'; go_simp; with_reducible rfl
      rotate_left
      · simp only [Act.put, List.setIfInBounds_toArray, List.set_cons_zero, List.set_cons_succ, i64_w, i32_w]; rfl
      refine pure_ (i := 1) (N := some 98) (v := ?_) (a' := ?_) (bre_lb 18 3) rfl rfl (any_of HT_.out (by kernel_rfl)) (fun _ _ _ h => h) (Or.inl ⟨by rfl, ?_⟩) ?_ ?_; rotate_left
      · intro w'; go_simp; with_reducible rfl
      rotate_left
      · simp only [Act.put, List.setIfInBounds_toArray, List.set_cons_zero, List.set_cons_succ, i64_w, i32_w]; rfl
      refine pure_ (i := 2) (N := some 99) (v := ?_) (a' := ?_) (bre_lb 18 7) rfl rfl (any_of HT_.out (by kernel_rfl)) (fun _ _ _ h => h) (Or.inl ⟨by rfl, ?_⟩) ?_ ?_; rotate_left
      · intro w'; go_simp; with_reducible rfl
      rotate_left
      · simp only [Act.put, List.setIfInBounds_toArray, List.set_cons_zero, List.set_cons_succ, i64_w, i32_w]; rfl
      refine pure_ (i := 3) (N := some 100) (v := ?_) (a' := ?_) (bre_lb 18 15) rfl rfl (any_of HT_.out (by kernel_rfl)) (fun _ _ _ h => h) (Or.inl ⟨by rfl, ?_⟩) ?_ ?_; rotate_left
      · intro w'; go_simp; with_reducible rfl
      rotate_left
      · simp only [Act.put, List.setIfInBounds_toArray, List.set_cons_zero, List.set_cons_succ, i64_w, i32_w]; rfl
      refine pure_ (i := 4) (N := some 101) (v := ?_) (a' := ?_) (bre_lb 18 31) rfl rfl (any_of HT_.out (by kernel_rfl)) (fun _ _ _ h => h) (Or.inl ⟨by rfl, ?_⟩) ?_ ?_; rotate_left
      · intro w'; go_simp; with_reducible rfl
      rotate_left
      · simp only [Act.put, List.setIfInBounds_toArray, List.set_cons_zero, List.set_cons_succ, i64_w, i32_w]; rfl
      refine pure_ (i := 5) (N := some 102) (v := ?_) (a' := ?_) (bre_lb 18 63) rfl rfl (any_of HT_.out (by kernel_rfl)) (fun _ _ _ h => h) (Or.inl ⟨by rfl, ?_⟩) ?_ ?_; rotate_left
      · intro w'; go_simp; with_reducible rfl
      rotate_left
      · simp only [Act.put, List.setIfInBounds_toArray, List.set_cons_zero, List.set_cons_succ, i64_w, i32_w]; rfl
      refine pure_ (i := 6) (N := some 103) (v := ?_) (a' := ?_) (bre_lb 18 127) rfl rfl (any_of HT_.out (by kernel_rfl)) (fun _ _ _ h => h) (Or.inl ⟨by rfl, ?_⟩) ?_ ?_; rotate_left
      · intro w'; go_simp; with_reducible rfl
      rotate_left
      · simp only [Act.put, List.setIfInBounds_toArray, List.set_cons_zero, List.set_cons_succ, i64_w, i32_w]; rfl
      refine pure_ (i := 7) (N := some 104) (v := ?_) (a' := ?_) (bre_lb 18 255) rfl rfl (any_of HT_.out (by kernel_rfl)) (fun _ _ _ h => h) (Or.inl ⟨by rfl, ?_⟩) ?_ ?_; rotate_left
      · intro w'; go_simp; with_reducible rfl
      rotate_left
      · simp only [Act.put, List.setIfInBounds_toArray, List.set_cons_zero, List.set_cons_succ, i64_w, i32_w]; rfl
      refine pure_ (i := 8) (N := some 105) (v := ?_) (a' := ?_) (bre_lb 18 511) rfl rfl (any_of HT_.out (by kernel_rfl)) (fun _ _ _ h => h) (Or.inl ⟨by rfl, ?_⟩) ?_ ?_; rotate_left
      · intro w'; go_simp; with_reducible rfl
      rotate_left
      · simp only [Act.put, List.setIfInBounds_toArray, List.set_cons_zero, List.set_cons_succ, i64_w, i32_w]; rfl
      refine pure_ (i := 9) (N := some 106) (v := ?_) (a' := ?_) (bre_lb 18 1023) rfl rfl (any_of HT_.out (by kernel_rfl)) (fun _ _ _ h => h) (Or.inl ⟨by rfl, ?_⟩) ?_ ?_; rotate_left
      · intro w'; go_simp; with_reducible rfl
      rotate_left
      · simp only [Act.put, List.setIfInBounds_toArray, List.set_cons_zero, List.set_cons_succ, i64_w, i32_w]; rfl
      refine pure_ (i := 10) (N := some 107) (v := ?_) (a' := ?_) (bre_lb 18 2047) rfl rfl (any_of HT_.out (by kernel_rfl)) (fun _ _ _ h => h) (Or.inl ⟨by rfl, ?_⟩) ?_ ?_; rotate_left
      · intro w'; go_simp; with_reducible rfl
      rotate_left
      · simp only [Act.put, List.setIfInBounds_toArray, List.set_cons_zero, List.set_cons_succ, i64_w, i32_w]; rfl
      refine pure_ (i := 11) (N := some 108) (v := ?_) (a' := ?_) (bre_lb 18 4095) rfl rfl (any_of HT_.out (by kernel_rfl)) (fun _ _ _ h => h) (Or.inl ⟨by rfl, ?_⟩) ?_ ?_; rotate_left
      · intro w'; go_simp; with_reducible rfl
      rotate_left
      · simp only [Act.put, List.setIfInBounds_toArray, List.set_cons_zero, List.set_cons_succ, i64_w, i32_w]; rfl
      refine pure_ (i := 13) (N := some 110) (v := ?_) (a' := ?_) (bre_lb 18 12287) rfl rfl (any_of HT_.out (by kernel_rfl)) (fun _ _ _ h => h) (Or.inl ⟨by rfl, ?_⟩) ?_ ?_; rotate_left
      · intro w'; go_simp; with_reducible rfl
      rotate_left
      · simp only [Act.put, List.setIfInBounds_toArray, List.set_cons_zero, List.set_cons_succ, i64_w, i32_w]; rfl
      refine take_ (i := 14) (N := some 111) (v := ?_) (a' := ?_) (bre_lb 18 28671) rfl rfl (take_ofW HT_.out HW_.out (by kernel_rfl)) (fun _ _ _ h => h) (Or.inl ⟨by rfl, ?_⟩) hHeld ?_ ?_; rotate_left
      · intro w' s0; go_simp; with_reducible rfl
      rotate_left
      · simp only [Act.put, List.setIfInBounds_toArray, List.set_cons_zero, List.set_cons_succ, i64_w, i32_w]; rfl
      refine one_ (i := 12) (N := some 109) (bre_lb 18 32767) rfl rfl (one_of HT_.out (by kernel_rfl)) (by decide) (fun K hK => ?_)
      refine goes_ Try.func19 (by kernel_rfl) rfl #[.pointer (some ⟨p, 0, none⟩), .int .i64 (t : Int)] (by rfl) rfl rfl (by (try simp only [List.map_toArray, List.map_cons, List.map_nil]); first | done | rfl) ?_
      with_reducible refine (F3.out _ HA.out).mono ?_
      rintro e u1 ⟨rfl, hbk⟩
      refine ⟨_, rfl, ?_⟩
      have n_HA := Aside0.mk (HA.out.below hbk)
      have n_B3 := Aside0.mk (blk_below B3.out hbk)
      have n_HB := Aside0.mk (below_step HB.out hbk)
      clear HA B3 HB hbk
      have HA := n_HA
      have B3 := n_B3
      have HB := n_HB
      clear n_HA n_B3 n_HB
      refine hK.out _ _ (((blk_cell B3.out 4).trans rfl)) (fun hHeld => ?_)
      clear hK K
      refine norm_ (a' := ?_) ?_ ?_
      rotate_left
      · show Act.put _ (some 109) _ = _
        simp only [Act.put, List.setIfInBounds_toArray, List.set_cons_zero, List.set_cons_succ, i64_w, i32_w]
        rfl
      refine pure_ (i := 15) (N := some 112) (v := ?_) (a' := ?_) (bre_lb 18 65535) rfl rfl (any_of HT_.out (by kernel_rfl)) (fun _ _ _ h => h) (Or.inl ⟨by rfl, ?_⟩) ?_ ?_; rotate_left
      · intro w'; go_simp; with_reducible rfl
      rotate_left
      · simp only [Act.put, List.setIfInBounds_toArray, List.set_cons_zero, List.set_cons_succ, i64_w, i32_w]; rfl
      refine pure_ (i := 16) (N := some 113) (v := ?_) (a' := ?_) (bre_lb 18 131071) rfl rfl (any_of HT_.out (by kernel_rfl)) (fun _ _ _ h => h) (Or.inl ⟨by rfl, ?_⟩) ?_ ?_; rotate_left
      · intro w'; go_simp; with_reducible rfl
      rotate_left
      · simp only [Act.put, List.setIfInBounds_toArray, List.set_cons_zero, List.set_cons_succ, i64_w, i32_w]; rfl
      refine pure_ (i := 17) (N := some 6) (v := ?_) (a' := ?_) (bre_lb 18 262143) rfl rfl (any_of HT_.out (by kernel_rfl)) (fun _ _ _ h => h) (Or.inl ⟨by rfl, ?_⟩) ?_ ?_; rotate_left
      · intro w'; go_simp; with_reducible rfl
      rotate_left
      · simp only [Act.put, List.setIfInBounds_toArray, List.set_cons_zero, List.set_cons_succ, i64_w, i32_w]; rfl
      refine done_ (done_of HT_.out (by kernel_rfl)) ?_
      go_wp2
      go_ret
      exact ⟨by first | rfl | (simp [*]; done), HB.out⟩


end Go.Proofs.Ytpcmoclohepdiaf.PBookRetires
