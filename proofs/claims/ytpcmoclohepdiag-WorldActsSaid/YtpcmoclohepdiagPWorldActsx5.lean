-- Written by a program of this session: a variant of the print that takes proofs by hand (wip/tools/mkprint.py)
import Derived.Test.YtpcmoclohepdiagPWorldActsx0
import Derived.Test.YtpcmoclohepdiagPWorldActsx4
namespace Go.Proofs.Ytpcmoclohepdiag.PWorldActs
open Go.RowKit Go.Proofs.YtpcmoclohepdiagW.PrintWords Go.Proofs.YtpcmoclohepdiagW.PrintLast
set_option linter.unusedVariables false
set_option linter.unusedSimpArgs false

/-! ### corrieref03_May: function 65 -/
def corrieref03_May.f (a0 : Int) : Option (Bool) := if a0 = 1 then (some true) else (if a0 = 2 then (some true) else (if a0 = 4 then (some true) else (if a0 = 8 then (some true) else (if a0 = 16 then (some true) else (if a0 = 32 then (some true) else (some (a0 == 64)))))))
set_option maxHeartbeats 8000000 in
set_option maxRecDepth 100000 in
theorem corrieref03_May.calls (a0 : Int) (r : Bool) (w : World) (h : corrieref03_May.f a0 = some r) :
  Calls Try.prog 65 #[.int .i64 a0] w fun e w' => e = .returned (.bool r) ∧ Drawn0 w w' := by
 have H : (if a0 = 1 then (some true) else (if a0 = 2 then (some true) else (if a0 = 4 then (some true) else (if a0 = 8 then (some true) else (if a0 = 16 then (some true) else (if a0 = 32 then (some true) else (some (a0 == 64)))))))) = some r := h
 clear h
 by_cases c2 : a0 = 1
 ·rw [if_pos c2] at H
  have c2b0 : (a0 == 1) = true := beq_iff_eq.mpr c2
  have c2b1 : (a0 != 1) = false := bne_eq_false_iff_eq.mpr c2
  clear c2
  obtain rfl := Option.some.inj H
  go_enter Try.func65, Try.ntmps65
  go_wp2
  go_ret
  exact ⟨by first | rfl | (simp; done) | (simp [*]; done), by repeat (first | exact Drawn0.refl _ | apply Drawn0.step)⟩
 ·rw [if_neg c2] at H
  have c2b0 : (a0 == 1) = false := beq_eq_false_iff_ne.mpr c2
  have c2b1 : (a0 != 1) = true := bne_iff_ne.mpr c2
  by_cases c3 : a0 = 2
  ·rw [if_pos c3] at H
   have c3b0 : (a0 == 2) = true := beq_iff_eq.mpr c3
   have c3b1 : (a0 != 2) = false := bne_eq_false_iff_eq.mpr c3
   clear c3
   obtain rfl := Option.some.inj H
   go_enter Try.func65, Try.ntmps65
   go_wp2
   go_ret
   exact ⟨by first | rfl | (simp; done) | (simp [*]; done), by repeat (first | exact Drawn0.refl _ | apply Drawn0.step)⟩
  ·rw [if_neg c3] at H
   have c3b0 : (a0 == 2) = false := beq_eq_false_iff_ne.mpr c3
   have c3b1 : (a0 != 2) = true := bne_iff_ne.mpr c3
   by_cases c4 : a0 = 4
   ·rw [if_pos c4] at H
    have c4b0 : (a0 == 4) = true := beq_iff_eq.mpr c4
    have c4b1 : (a0 != 4) = false := bne_eq_false_iff_eq.mpr c4
    clear c4
    obtain rfl := Option.some.inj H
    go_enter Try.func65, Try.ntmps65
    go_wp2
    go_ret
    exact ⟨by first | rfl | (simp; done) | (simp [*]; done), by repeat (first | exact Drawn0.refl _ | apply Drawn0.step)⟩
   ·rw [if_neg c4] at H
    have c4b0 : (a0 == 4) = false := beq_eq_false_iff_ne.mpr c4
    have c4b1 : (a0 != 4) = true := bne_iff_ne.mpr c4
    by_cases c5 : a0 = 8
    ·rw [if_pos c5] at H
     have c5b0 : (a0 == 8) = true := beq_iff_eq.mpr c5
     have c5b1 : (a0 != 8) = false := bne_eq_false_iff_eq.mpr c5
     clear c5
     obtain rfl := Option.some.inj H
     go_enter Try.func65, Try.ntmps65
     go_wp2
     go_ret
     exact ⟨by first | rfl | (simp; done) | (simp [*]; done), by repeat (first | exact Drawn0.refl _ | apply Drawn0.step)⟩
    ·rw [if_neg c5] at H
     have c5b0 : (a0 == 8) = false := beq_eq_false_iff_ne.mpr c5
     have c5b1 : (a0 != 8) = true := bne_iff_ne.mpr c5
     by_cases c6 : a0 = 16
     ·rw [if_pos c6] at H
      have c6b0 : (a0 == 16) = true := beq_iff_eq.mpr c6
      have c6b1 : (a0 != 16) = false := bne_eq_false_iff_eq.mpr c6
      clear c6
      obtain rfl := Option.some.inj H
      go_enter Try.func65, Try.ntmps65
      go_wp2
      go_ret
      exact ⟨by first | rfl | (simp; done) | (simp [*]; done), by repeat (first | exact Drawn0.refl _ | apply Drawn0.step)⟩
     ·rw [if_neg c6] at H
      have c6b0 : (a0 == 16) = false := beq_eq_false_iff_ne.mpr c6
      have c6b1 : (a0 != 16) = true := bne_iff_ne.mpr c6
      by_cases c7 : a0 = 32
      ·rw [if_pos c7] at H
       have c7b0 : (a0 == 32) = true := beq_iff_eq.mpr c7
       have c7b1 : (a0 != 32) = false := bne_eq_false_iff_eq.mpr c7
       clear c7
       obtain rfl := Option.some.inj H
       go_enter Try.func65, Try.ntmps65
       go_wp2
       go_ret
       exact ⟨by first | rfl | (simp; done) | (simp [*]; done), by repeat (first | exact Drawn0.refl _ | apply Drawn0.step)⟩
      ·rw [if_neg c7] at H
       have c7b0 : (a0 == 32) = false := beq_eq_false_iff_ne.mpr c7
       have c7b1 : (a0 != 32) = true := bne_iff_ne.mpr c7
       obtain rfl := Option.some.inj H
       go_enter Try.func65, Try.ntmps65
       go_wp2
       go_ret
       exact ⟨by first | rfl | (simp; done) | (simp [*]; done), by repeat (first | exact Drawn0.refl _ | apply Drawn0.step)⟩

/-! ### corrieref04_May: function 31 -/
def corrieref04_May.j0 : Nat → Bool → Int → Int → Int → Int → Int → Option (Int)
 | 0, _, _, _, _, _, _ => none
 | k + 1, x16, x123000, x123001, x123002, x123003, x123004 => if x16 = true then (some 1) else (if x123002 < 0 then (some 1) else (if x123002 > 256 then (some 1) else (if x123003 < 0 then (some 1) else (if x123003 > 65536 then (some 1) else (if x123004 < 1 then (some 1) else (if x123004 > 256 then (some 1) else (some 0)))))))
def corrieref04_May.f (k : Nat) (a0_0 : Int) (a0_1 : Int) (a0_2 : Int) (a0_3 : Int) (a0_4 : Int) : Option (Int) := if a0_0 < 1 then (corrieref04_May.j0 k true a0_0 a0_1 a0_2 a0_3 a0_4) else (if a0_0 > 8 then (corrieref04_May.j0 k true a0_0 a0_1 a0_2 a0_3 a0_4) else ((corrieref03_May.f a0_1).bind fun t123 => (corrieref04_May.j0 k (!t123) a0_0 a0_1 a0_2 a0_3 a0_4)))
theorem corrieref04_May.mono_l : ∀ k, (∀ y0 y1 y2 y3 y4 y5, LeO (corrieref04_May.j0 k y0 y1 y2 y3 y4 y5) (corrieref04_May.j0 (k + 1) y0 y1 y2 y3 y4 y5))
 | 0 => fun _ _ _ _ _ _ r h => by simp [corrieref04_May.j0] at h
 | k + 1 => by
  have ih0 := corrieref04_May.mono_l k
  ·intro y0 y1 y2 y3 y4 y5
   unfold corrieref04_May.j0
   repeat' first
   | (with_reducible exact ih0 _ _ _ _ _ _)
   | (with_reducible exact LeO.refl _)
   | (with_reducible exact LeO.none _)
   | (with_reducible refine LeO.ite ?_ ?_)
   | (with_reducible refine LeO.bind ?_ (fun _ => ?_))
   | exact ih0 _ _ _ _ _ _
   | exact LeO.none _
   | refine LeO.ite ?_ ?_
   | refine LeO.bind ?_ (fun _ => ?_)
theorem corrieref04_May.mono : ∀ a0 a1 a2 a3 a4 k, LeO (corrieref04_May.f k a0 a1 a2 a3 a4) (corrieref04_May.f (k + 1) a0 a1 a2 a3 a4) := by
 intro a0 a1 a2 a3 a4 k
 have ih0 := corrieref04_May.mono_l k
 unfold corrieref04_May.f
 repeat' first
   | (with_reducible exact ih0 _ _ _ _ _ _)
   | (with_reducible exact LeO.refl _)
   | (with_reducible exact LeO.none _)
   | (with_reducible refine LeO.ite ?_ ?_)
   | (with_reducible refine LeO.bind ?_ (fun _ => ?_))
   | exact ih0 _ _ _ _ _ _
   | exact LeO.none _
   | refine LeO.ite ?_ ?_
   | refine LeO.bind ?_ (fun _ => ?_)
set_option maxHeartbeats 8000000 in
set_option maxRecDepth 100000 in
theorem corrieref04_May.calls (k : Nat) (a0_0 : Int) (a0_1 : Int) (a0_2 : Int) (a0_3 : Int) (a0_4 : Int) (r : Int) (w : World) (h : corrieref04_May.f k a0_0 a0_1 a0_2 a0_3 a0_4 = some r) :
  Calls Try.prog 31 #[.agg #[.int .i64 a0_0, .int .i64 a0_1, .int .i64 a0_2, .int .i64 a0_3, .int .i64 a0_4]] w fun e w' => e = .returned (.int .i64 r) ∧ Below w.heap.size w w' := by
 have hu23 := Try.underlying23
 have HB := Aside0.mk (Below.refl w.heap.size w)
 have H : (if a0_0 < 1 then (corrieref04_May.j0 k true a0_0 a0_1 a0_2 a0_3 a0_4) else (if a0_0 > 8 then (corrieref04_May.j0 k true a0_0 a0_1 a0_2 a0_3 a0_4) else ((corrieref03_May.f a0_1).bind fun t123 => (corrieref04_May.j0 k (!t123) a0_0 a0_1 a0_2 a0_3 a0_4)))) = some r := h
 clear h
 have HC2 := Aside0.mk H
 clear H
 go_enter Try.func31, Try.ntmps31
 go_upto_region 1 with (first | ((with_reducible refine gate_dst (N := 1) rfl ?_); refine box_event ?hg (N := 1) ?hd (cs := #[.int .i64 a0_0, .int .i64 a0_1, .int .i64 a0_2, .int .i64 a0_3, .int .i64 a0_4]) (t := 23) ?hr ?_; (case hd => rfl); (case hg => rfl); (case hr => first | (go_simp; done) | (go_simp; rfl)); intro gb122 hg w3 hbox hb; have n0_ := Aside0.mk (below_step (by repeat (first | (with_reducible first | exact HB.out | apply below_alloc | apply pw_below_drewN | apply below_drew1) | exact HB.out)) hb); have n1_ := Aside0.mk (hbox); have n2_ := Aside0.mk ((by rw [hg]; exact (below_size (by repeat (first | (with_reducible first | exact HB.out | apply below_alloc | apply pw_below_drewN | apply below_drew1) | exact HB.out))) : w.heap.size ≤ gb122)); have n3_ := Aside0.mk ((by rw [hg]; exact (below_size (by repeat (first | (with_reducible first | exact HB.out | apply below_alloc | apply pw_below_drewN | apply below_drew1) | exact HB.out))) : w.heap.size ≤ gb122)); clear HB; have HB := n0_; have BK122 := n1_; have GW122 := n2_; have GE122 := n3_; clear n0_ n1_ n2_ n3_; clear hb hbox hg))
 (try simp only [Act.put, List.setIfInBounds_toArray, List.set_cons_zero, List.set_cons_succ])
 go_cut [16] (fun v16 wc => ∃ (kq : Nat) (x16_1 : Bool), v16 = .bool x16_1 ∧ Aside0 (corrieref04_May.j0 kq x16_1 a0_0 a0_1 a0_2 a0_3 a0_4 = some r) ∧ Aside0 (kq ≤ k) ∧ Aside0 (wc.heap[gb122]? = some (.cells #[.int .i64 a0_0, .int .i64 a0_1, .int .i64 a0_2, .int .i64 a0_3, .int .i64 a0_4] 23 (0, 0))) ∧ Aside0 (Below w.heap.size w wc))
 case first =>
  have H := HC2.out
  clear HC2
  by_cases c4 : a0_0 < 1
  ·rw [if_pos c4] at H
   have c4b0 : decide (a0_0 < 1) = true := decide_eq_true c4
   clear c4
   (first | rw [c4b0] | (simp only [i64_w, i32_w]; rw [c4b0]) | skip)
   have H' := Aside0.mk H
   clear H
   have hcz5_0 : w3.cell? ⟨gb122, 0, none⟩ = some (.int .i64 a0_0) := (blk_cell BK122.out 0).trans rfl
   have hcz5_1 : w3.cell? ⟨gb122, 1, none⟩ = some (.int .i64 a0_1) := (blk_cell BK122.out 1).trans rfl
   have hcz5_2 : w3.cell? ⟨gb122, 2, none⟩ = some (.int .i64 a0_2) := (blk_cell BK122.out 2).trans rfl
   have hcz5_3 : w3.cell? ⟨gb122, 3, none⟩ = some (.int .i64 a0_3) := (blk_cell BK122.out 3).trans rfl
   have hcz5_4 : w3.cell? ⟨gb122, 4, none⟩ = some (.int .i64 a0_4) := (blk_cell BK122.out 4).trans rfl
   have hfz5_0 := blk_frozen BK122.out 0
   have hfz5_1 := blk_frozen BK122.out 1
   have hfz5_2 := blk_frozen BK122.out 2
   have hfz5_3 := blk_frozen BK122.out 3
   have hfz5_4 := blk_frozen BK122.out 4
   go_wp2
   go_meet
   case rel => exact ⟨_, (true), (by first | rfl | (simp; done) | (simp [*]; done)), H', ⟨by first | omega | exact Nat.le_refl _⟩, ⟨by (with_reducible repeat (first | refine blk_drewN ?_ _ | refine blk_drew ?_ | refine blk_alloc ?_ _)); exact BK122.out⟩, ⟨by repeat (first | (with_reducible first | exact HB.out | apply below_alloc | apply pw_below_drewN | apply below_drew1 | refine below_set ?_ GE122.out) | exact HB.out)⟩⟩
  ·rw [if_neg c4] at H
   have c4b0 : decide (a0_0 < 1) = false := decide_eq_false c4
   clear c4
   (first | rw [c4b0] | (simp only [i64_w, i32_w]; rw [c4b0]) | skip)
   by_cases c6 : a0_0 > 8
   ·rw [if_pos c6] at H
    have c6b0 : decide (8 < a0_0) = true := decide_eq_true c6
    clear c6
    have H' := Aside0.mk H
    clear H
    have hcz7_0 : w3.cell? ⟨gb122, 0, none⟩ = some (.int .i64 a0_0) := (blk_cell BK122.out 0).trans rfl
    have hcz7_1 : w3.cell? ⟨gb122, 1, none⟩ = some (.int .i64 a0_1) := (blk_cell BK122.out 1).trans rfl
    have hcz7_2 : w3.cell? ⟨gb122, 2, none⟩ = some (.int .i64 a0_2) := (blk_cell BK122.out 2).trans rfl
    have hcz7_3 : w3.cell? ⟨gb122, 3, none⟩ = some (.int .i64 a0_3) := (blk_cell BK122.out 3).trans rfl
    have hcz7_4 : w3.cell? ⟨gb122, 4, none⟩ = some (.int .i64 a0_4) := (blk_cell BK122.out 4).trans rfl
    have hfz7_0 := blk_frozen BK122.out 0
    have hfz7_1 := blk_frozen BK122.out 1
    have hfz7_2 := blk_frozen BK122.out 2
    have hfz7_3 := blk_frozen BK122.out 3
    have hfz7_4 := blk_frozen BK122.out 4
    go_wp2
    go_meet
    case rel => exact ⟨_, (true), (by first | rfl | (simp; done) | (simp [*]; done)), H', ⟨by first | omega | exact Nat.le_refl _⟩, ⟨by (with_reducible repeat (first | refine blk_drewN ?_ _ | refine blk_drew ?_ | refine blk_alloc ?_ _)); exact BK122.out⟩, ⟨by repeat (first | (with_reducible first | exact HB.out | apply below_alloc | apply pw_below_drewN | apply below_drew1 | refine below_set ?_ GE122.out) | exact HB.out)⟩⟩
   ·rw [if_neg c6] at H
    have c6b0 : decide (8 < a0_0) = false := decide_eq_false c6
    clear c6
    replace H := Option.bind_eq_some_iff.mp H
    obtain ⟨t123, A80, H⟩ := H
    replace H : (corrieref04_May.j0 k (!t123) a0_0 a0_1 a0_2 a0_3 a0_4) = some r := H
    have A8 := Aside0.mk A80
    clear A80
    have H' := Aside0.mk H
    clear H
    have hcz9_0 : w3.cell? ⟨gb122, 0, none⟩ = some (.int .i64 a0_0) := (blk_cell BK122.out 0).trans rfl
    have hcz9_1 : w3.cell? ⟨gb122, 1, none⟩ = some (.int .i64 a0_1) := (blk_cell BK122.out 1).trans rfl
    have hcz9_2 : w3.cell? ⟨gb122, 2, none⟩ = some (.int .i64 a0_2) := (blk_cell BK122.out 2).trans rfl
    have hcz9_3 : w3.cell? ⟨gb122, 3, none⟩ = some (.int .i64 a0_3) := (blk_cell BK122.out 3).trans rfl
    have hcz9_4 : w3.cell? ⟨gb122, 4, none⟩ = some (.int .i64 a0_4) := (blk_cell BK122.out 4).trans rfl
    have hfz9_0 := blk_frozen BK122.out 0
    have hfz9_1 := blk_frozen BK122.out 1
    have hfz9_2 := blk_frozen BK122.out 2
    have hfz9_3 := blk_frozen BK122.out 3
    have hfz9_4 := blk_frozen BK122.out 4
    go_wp2_with (first | (go_at_call 65; (with_reducible refine (corrieref03_May.calls a0_1 t123 _ A8.out).mono ?_); rintro e w' ⟨rfl, ⟨nd, rfl⟩⟩))
    go_meet
    case rel => exact ⟨_, (!t123), (by first | rfl | (simp; done) | (simp [*]; done)), H', ⟨by first | omega | exact Nat.le_refl _⟩, ⟨by (with_reducible repeat (first | refine blk_drewN ?_ _ | refine blk_drew ?_ | refine blk_alloc ?_ _)); exact BK122.out⟩, ⟨by repeat (first | (with_reducible first | exact HB.out | apply below_alloc | apply pw_below_drewN | apply below_drew1 | refine below_set ?_ GE122.out) | exact HB.out)⟩⟩
 case rest =>
  clear HC2
  try clear p2
  try clear c3
  try clear c4
  try clear c4b0
  try clear c6
  try clear c6b0
  try clear hcz5_0
  try clear hcz5_1
  try clear hcz5_2
  try clear hcz5_3
  try clear hcz5_4
  try clear hcz7_0
  try clear hcz7_1
  try clear hcz7_2
  try clear hcz7_3
  try clear hcz7_4
  try clear hcz9_0
  try clear hcz9_1
  try clear hcz9_2
  try clear hcz9_3
  try clear hcz9_4
  try clear hfz5_0
  try clear hfz5_1
  try clear hfz5_2
  try clear hfz5_3
  try clear hfz5_4
  try clear hfz7_0
  try clear hfz7_1
  try clear hfz7_2
  try clear hfz7_3
  try clear hfz7_4
  try clear hfz9_0
  try clear hfz9_1
  try clear hfz9_2
  try clear hfz9_3
  try clear hfz9_4
  obtain ⟨kq, x16_1, rfl, HA, HJ1, BK122, HB⟩ := hcut
  cases kq with
  | zero => exact absurd HA.out (by simp [corrieref04_May.j0])
  | succ kj1 =>
   have H := HA.out
   clear HA
   simp only [corrieref04_May.j0] at H
   by_cases c10 : x16_1 = true
   ·subst c10
    have H1 : (some 1) = some r := by rw [if_pos rfl] at H; exact H
    clear H
    have H := H1
    clear H1
    obtain rfl := Option.some.inj H
    go_wp2
    go_ret
    exact ⟨by first | rfl | (simp [errW_none, errW_some] <;> rfl) | (simp [*, errW_none, errW_some] <;> rfl), by repeat (first | (with_reducible first | exact HB.out | apply below_alloc | apply pw_below_drewN | apply below_drew1 | refine below_set ?_ GE122.out) | exact HB.out)⟩
   ·replace c10 := Bool.eq_false_iff.mpr c10
    subst c10
    have H1 : (if a0_2 < 0 then (some 1) else (if a0_2 > 256 then (some 1) else (if a0_3 < 0 then (some 1) else (if a0_3 > 65536 then (some 1) else (if a0_4 < 1 then (some 1) else (if a0_4 > 256 then (some 1) else (some 0))))))) = some r := by rw [if_neg (show ¬ (false = true) by decide)] at H; exact H
    clear H
    have H := H1
    clear H1
    by_cases c11 : a0_2 < 0
    ·rw [if_pos c11] at H
     have c11b0 : decide (a0_2 < 0) = true := decide_eq_true c11
     clear c11
     obtain rfl := Option.some.inj H
     have hcz12_0 : wc.cell? ⟨gb122, 0, none⟩ = some (.int .i64 a0_0) := (blk_cell BK122.out 0).trans rfl
     have hcz12_1 : wc.cell? ⟨gb122, 1, none⟩ = some (.int .i64 a0_1) := (blk_cell BK122.out 1).trans rfl
     have hcz12_2 : wc.cell? ⟨gb122, 2, none⟩ = some (.int .i64 a0_2) := (blk_cell BK122.out 2).trans rfl
     have hcz12_3 : wc.cell? ⟨gb122, 3, none⟩ = some (.int .i64 a0_3) := (blk_cell BK122.out 3).trans rfl
     have hcz12_4 : wc.cell? ⟨gb122, 4, none⟩ = some (.int .i64 a0_4) := (blk_cell BK122.out 4).trans rfl
     have hfz12_0 := blk_frozen BK122.out 0
     have hfz12_1 := blk_frozen BK122.out 1
     have hfz12_2 := blk_frozen BK122.out 2
     have hfz12_3 := blk_frozen BK122.out 3
     have hfz12_4 := blk_frozen BK122.out 4
     go_wp2
     go_ret
     exact ⟨by first | rfl | (simp [errW_none, errW_some] <;> rfl) | (simp [*, errW_none, errW_some] <;> rfl), by repeat (first | (with_reducible first | exact HB.out | apply below_alloc | apply pw_below_drewN | apply below_drew1 | refine below_set ?_ GE122.out) | exact HB.out)⟩
    ·rw [if_neg c11] at H
     have c11b0 : decide (a0_2 < 0) = false := decide_eq_false c11
     clear c11
     by_cases c13 : a0_2 > 256
     ·rw [if_pos c13] at H
      have c13b0 : decide (256 < a0_2) = true := decide_eq_true c13
      clear c13
      obtain rfl := Option.some.inj H
      have hcz14_0 : wc.cell? ⟨gb122, 0, none⟩ = some (.int .i64 a0_0) := (blk_cell BK122.out 0).trans rfl
      have hcz14_1 : wc.cell? ⟨gb122, 1, none⟩ = some (.int .i64 a0_1) := (blk_cell BK122.out 1).trans rfl
      have hcz14_2 : wc.cell? ⟨gb122, 2, none⟩ = some (.int .i64 a0_2) := (blk_cell BK122.out 2).trans rfl
      have hcz14_3 : wc.cell? ⟨gb122, 3, none⟩ = some (.int .i64 a0_3) := (blk_cell BK122.out 3).trans rfl
      have hcz14_4 : wc.cell? ⟨gb122, 4, none⟩ = some (.int .i64 a0_4) := (blk_cell BK122.out 4).trans rfl
      have hfz14_0 := blk_frozen BK122.out 0
      have hfz14_1 := blk_frozen BK122.out 1
      have hfz14_2 := blk_frozen BK122.out 2
      have hfz14_3 := blk_frozen BK122.out 3
      have hfz14_4 := blk_frozen BK122.out 4
      go_wp2
      go_ret
      exact ⟨by first | rfl | (simp [errW_none, errW_some] <;> rfl) | (simp [*, errW_none, errW_some] <;> rfl), by repeat (first | (with_reducible first | exact HB.out | apply below_alloc | apply pw_below_drewN | apply below_drew1 | refine below_set ?_ GE122.out) | exact HB.out)⟩
     ·rw [if_neg c13] at H
      have c13b0 : decide (256 < a0_2) = false := decide_eq_false c13
      clear c13
      by_cases c15 : a0_3 < 0
      ·rw [if_pos c15] at H
       have c15b0 : decide (a0_3 < 0) = true := decide_eq_true c15
       clear c15
       obtain rfl := Option.some.inj H
       have hcz16_0 : wc.cell? ⟨gb122, 0, none⟩ = some (.int .i64 a0_0) := (blk_cell BK122.out 0).trans rfl
       have hcz16_1 : wc.cell? ⟨gb122, 1, none⟩ = some (.int .i64 a0_1) := (blk_cell BK122.out 1).trans rfl
       have hcz16_2 : wc.cell? ⟨gb122, 2, none⟩ = some (.int .i64 a0_2) := (blk_cell BK122.out 2).trans rfl
       have hcz16_3 : wc.cell? ⟨gb122, 3, none⟩ = some (.int .i64 a0_3) := (blk_cell BK122.out 3).trans rfl
       have hcz16_4 : wc.cell? ⟨gb122, 4, none⟩ = some (.int .i64 a0_4) := (blk_cell BK122.out 4).trans rfl
       have hfz16_0 := blk_frozen BK122.out 0
       have hfz16_1 := blk_frozen BK122.out 1
       have hfz16_2 := blk_frozen BK122.out 2
       have hfz16_3 := blk_frozen BK122.out 3
       have hfz16_4 := blk_frozen BK122.out 4
       go_wp2
       go_ret
       exact ⟨by first | rfl | (simp [errW_none, errW_some] <;> rfl) | (simp [*, errW_none, errW_some] <;> rfl), by repeat (first | (with_reducible first | exact HB.out | apply below_alloc | apply pw_below_drewN | apply below_drew1 | refine below_set ?_ GE122.out) | exact HB.out)⟩
      ·rw [if_neg c15] at H
       have c15b0 : decide (a0_3 < 0) = false := decide_eq_false c15
       clear c15
       by_cases c17 : a0_3 > 65536
       ·rw [if_pos c17] at H
        have c17b0 : decide (65536 < a0_3) = true := decide_eq_true c17
        clear c17
        obtain rfl := Option.some.inj H
        have hcz18_0 : wc.cell? ⟨gb122, 0, none⟩ = some (.int .i64 a0_0) := (blk_cell BK122.out 0).trans rfl
        have hcz18_1 : wc.cell? ⟨gb122, 1, none⟩ = some (.int .i64 a0_1) := (blk_cell BK122.out 1).trans rfl
        have hcz18_2 : wc.cell? ⟨gb122, 2, none⟩ = some (.int .i64 a0_2) := (blk_cell BK122.out 2).trans rfl
        have hcz18_3 : wc.cell? ⟨gb122, 3, none⟩ = some (.int .i64 a0_3) := (blk_cell BK122.out 3).trans rfl
        have hcz18_4 : wc.cell? ⟨gb122, 4, none⟩ = some (.int .i64 a0_4) := (blk_cell BK122.out 4).trans rfl
        have hfz18_0 := blk_frozen BK122.out 0
        have hfz18_1 := blk_frozen BK122.out 1
        have hfz18_2 := blk_frozen BK122.out 2
        have hfz18_3 := blk_frozen BK122.out 3
        have hfz18_4 := blk_frozen BK122.out 4
        go_wp2
        go_ret
        exact ⟨by first | rfl | (simp [errW_none, errW_some] <;> rfl) | (simp [*, errW_none, errW_some] <;> rfl), by repeat (first | (with_reducible first | exact HB.out | apply below_alloc | apply pw_below_drewN | apply below_drew1 | refine below_set ?_ GE122.out) | exact HB.out)⟩
       ·rw [if_neg c17] at H
        have c17b0 : decide (65536 < a0_3) = false := decide_eq_false c17
        clear c17
        by_cases c19 : a0_4 < 1
        ·rw [if_pos c19] at H
         have c19b0 : decide (a0_4 < 1) = true := decide_eq_true c19
         clear c19
         obtain rfl := Option.some.inj H
         have hcz20_0 : wc.cell? ⟨gb122, 0, none⟩ = some (.int .i64 a0_0) := (blk_cell BK122.out 0).trans rfl
         have hcz20_1 : wc.cell? ⟨gb122, 1, none⟩ = some (.int .i64 a0_1) := (blk_cell BK122.out 1).trans rfl
         have hcz20_2 : wc.cell? ⟨gb122, 2, none⟩ = some (.int .i64 a0_2) := (blk_cell BK122.out 2).trans rfl
         have hcz20_3 : wc.cell? ⟨gb122, 3, none⟩ = some (.int .i64 a0_3) := (blk_cell BK122.out 3).trans rfl
         have hcz20_4 : wc.cell? ⟨gb122, 4, none⟩ = some (.int .i64 a0_4) := (blk_cell BK122.out 4).trans rfl
         have hfz20_0 := blk_frozen BK122.out 0
         have hfz20_1 := blk_frozen BK122.out 1
         have hfz20_2 := blk_frozen BK122.out 2
         have hfz20_3 := blk_frozen BK122.out 3
         have hfz20_4 := blk_frozen BK122.out 4
         go_wp2
         go_ret
         exact ⟨by first | rfl | (simp [errW_none, errW_some] <;> rfl) | (simp [*, errW_none, errW_some] <;> rfl), by repeat (first | (with_reducible first | exact HB.out | apply below_alloc | apply pw_below_drewN | apply below_drew1 | refine below_set ?_ GE122.out) | exact HB.out)⟩
        ·rw [if_neg c19] at H
         have c19b0 : decide (a0_4 < 1) = false := decide_eq_false c19
         clear c19
         by_cases c21 : a0_4 > 256
         ·rw [if_pos c21] at H
          have c21b0 : decide (256 < a0_4) = true := decide_eq_true c21
          clear c21
          obtain rfl := Option.some.inj H
          have hcz22_0 : wc.cell? ⟨gb122, 0, none⟩ = some (.int .i64 a0_0) := (blk_cell BK122.out 0).trans rfl
          have hcz22_1 : wc.cell? ⟨gb122, 1, none⟩ = some (.int .i64 a0_1) := (blk_cell BK122.out 1).trans rfl
          have hcz22_2 : wc.cell? ⟨gb122, 2, none⟩ = some (.int .i64 a0_2) := (blk_cell BK122.out 2).trans rfl
          have hcz22_3 : wc.cell? ⟨gb122, 3, none⟩ = some (.int .i64 a0_3) := (blk_cell BK122.out 3).trans rfl
          have hcz22_4 : wc.cell? ⟨gb122, 4, none⟩ = some (.int .i64 a0_4) := (blk_cell BK122.out 4).trans rfl
          have hfz22_0 := blk_frozen BK122.out 0
          have hfz22_1 := blk_frozen BK122.out 1
          have hfz22_2 := blk_frozen BK122.out 2
          have hfz22_3 := blk_frozen BK122.out 3
          have hfz22_4 := blk_frozen BK122.out 4
          go_wp2
          go_ret
          exact ⟨by first | rfl | (simp [errW_none, errW_some] <;> rfl) | (simp [*, errW_none, errW_some] <;> rfl), by repeat (first | (with_reducible first | exact HB.out | apply below_alloc | apply pw_below_drewN | apply below_drew1 | refine below_set ?_ GE122.out) | exact HB.out)⟩
         ·rw [if_neg c21] at H
          have c21b0 : decide (256 < a0_4) = false := decide_eq_false c21
          clear c21
          obtain rfl := Option.some.inj H
          have hcz23_0 : wc.cell? ⟨gb122, 0, none⟩ = some (.int .i64 a0_0) := (blk_cell BK122.out 0).trans rfl
          have hcz23_1 : wc.cell? ⟨gb122, 1, none⟩ = some (.int .i64 a0_1) := (blk_cell BK122.out 1).trans rfl
          have hcz23_2 : wc.cell? ⟨gb122, 2, none⟩ = some (.int .i64 a0_2) := (blk_cell BK122.out 2).trans rfl
          have hcz23_3 : wc.cell? ⟨gb122, 3, none⟩ = some (.int .i64 a0_3) := (blk_cell BK122.out 3).trans rfl
          have hcz23_4 : wc.cell? ⟨gb122, 4, none⟩ = some (.int .i64 a0_4) := (blk_cell BK122.out 4).trans rfl
          have hfz23_0 := blk_frozen BK122.out 0
          have hfz23_1 := blk_frozen BK122.out 1
          have hfz23_2 := blk_frozen BK122.out 2
          have hfz23_3 := blk_frozen BK122.out 3
          have hfz23_4 := blk_frozen BK122.out 4
          go_wp2
          go_ret
          exact ⟨by first | rfl | (simp [errW_none, errW_some] <;> rfl) | (simp [*, errW_none, errW_some] <;> rfl), by repeat (first | (with_reducible first | exact HB.out | apply below_alloc | apply pw_below_drewN | apply below_drew1 | refine below_set ?_ GE122.out) | exact HB.out)⟩

theorem rpow_eq (b : Int) : corrieref03_May.f b = some (isPow b) := by
 unfold corrieref03_May.f isPow
 repeat' split
 all_goals first | (subst_vars; rfl) | (congr 1; rw [Bool.eq_iff_iff]; simp [*])
theorem rmay_eq (k : Nat) (t b i f c : Int) : corrieref04_May.f (k + 1) t b i f c = some (if Ok t b i f c then 0 else 1) := by
 unfold corrieref04_May.f
 rw [rpow_eq]
 simp only [corrieref04_May.j0, Option.bind_some, if_true]
 by_cases h1 : t < 1
 ·rw [if_pos h1, if_neg (fun h => by have := h.1; omega)]
 rw [if_neg h1]
 by_cases h2 : t > 8
 ·rw [if_pos h2, if_neg (fun h => by have := h.1; omega)]
 rw [if_neg h2]
 cases hb : isPow b
 ·rw [if_pos (by rfl), if_neg (fun h => by have := h.2.1; rw [hb] at this; cases this)]
 rw [if_neg (by decide)]
 by_cases h3 : i < 0
 ·rw [if_pos h3, if_neg (fun h => by have := h.2.2.1; omega)]
 rw [if_neg h3]
 by_cases h4 : i > 256
 ·rw [if_pos h4, if_neg (fun h => by have := h.2.2.1; omega)]
 rw [if_neg h4]
 by_cases h5 : f < 0
 ·rw [if_pos h5, if_neg (fun h => by have := h.2.2.2.1; omega)]
 rw [if_neg h5]
 by_cases h6 : f > 65536
 ·rw [if_pos h6, if_neg (fun h => by have := h.2.2.2.1; omega)]
 rw [if_neg h6]
 by_cases h7 : c < 1
 ·rw [if_pos h7, if_neg (fun h => by have := h.2.2.2.2; omega)]
 rw [if_neg h7]
 by_cases h8 : c > 256
 ·rw [if_pos h8, if_neg (fun h => by have := h.2.2.2.2; omega)]
 rw [if_neg h8, if_pos ⟨⟨by omega, by omega⟩, hb, ⟨by omega, by omega⟩, ⟨by omega, by omega⟩, by omega, by omega⟩]

/-! ### corrieref04_Few: function 9 -/
def corrieref04_Few.f (k : Nat) (a0_0 : Int) (a0_1 : Int) (a0_2 : Int) (a0_3 : Int) (a0_4 : Int) : Option (Bool) := (corrieref04_May.f k a0_0 a0_1 a0_2 a0_3 a0_4).bind fun t125 => (if t125 = 0 then (if a0_0 ≤ 4 then (if a0_1 ≤ 4 then (some (decide (a0_4 ≤ 8))) else (some false)) else (some false)) else (some false))
theorem corrieref04_Few.mono : ∀ a0 a1 a2 a3 a4 k, LeO (corrieref04_Few.f k a0 a1 a2 a3 a4) (corrieref04_Few.f (k + 1) a0 a1 a2 a3 a4) := by
 intro a0 a1 a2 a3 a4 k
 unfold corrieref04_Few.f
 repeat' first
   | (with_reducible exact corrieref04_May.mono _ _ _ _ _ _)
   | (with_reducible exact LeO.refl _)
   | (with_reducible exact LeO.none _)
   | (with_reducible refine LeO.ite ?_ ?_)
   | (with_reducible refine LeO.bind ?_ (fun _ => ?_))
   | exact corrieref04_May.mono _ _ _ _ _ _
   | exact LeO.none _
   | refine LeO.ite ?_ ?_
   | refine LeO.bind ?_ (fun _ => ?_)
set_option maxHeartbeats 8000000 in
set_option maxRecDepth 100000 in
theorem corrieref04_Few.calls (k : Nat) (a0_0 : Int) (a0_1 : Int) (a0_2 : Int) (a0_3 : Int) (a0_4 : Int) (r : Bool) (w : World) (h : corrieref04_Few.f k a0_0 a0_1 a0_2 a0_3 a0_4 = some r) :
  Calls Try.prog 9 #[.agg #[.int .i64 a0_0, .int .i64 a0_1, .int .i64 a0_2, .int .i64 a0_3, .int .i64 a0_4]] w fun e w' => e = .returned (.bool r) ∧ Below w.heap.size w w' := by
 have hu23 := Try.underlying23
 have HB := Aside0.mk (Below.refl w.heap.size w)
 have H : ((corrieref04_May.f k a0_0 a0_1 a0_2 a0_3 a0_4).bind fun t125 => (if t125 = 0 then (if a0_0 ≤ 4 then (if a0_1 ≤ 4 then (some (decide (a0_4 ≤ 8))) else (some false)) else (some false)) else (some false))) = some r := h
 clear h
 replace H := Option.bind_eq_some_iff.mp H
 obtain ⟨t125, A20, H⟩ := H
 replace H : (if t125 = 0 then (if a0_0 ≤ 4 then (if a0_1 ≤ 4 then (some (decide (a0_4 ≤ 8))) else (some false)) else (some false)) else (some false)) = some r := H
 have A2 := Aside0.mk A20
 clear A20
 by_cases c3 : t125 = 0
 ·rw [if_pos c3] at H
  have c3b0 : (t125 == 0) = true := beq_iff_eq.mpr c3
  have c3b1 : (t125 != 0) = false := bne_eq_false_iff_eq.mpr c3
  clear c3
  by_cases c4 : a0_0 ≤ 4
  ·rw [if_pos c4] at H
   have c4b0 : decide (a0_0 ≤ 4) = true := decide_eq_true c4
   clear c4
   by_cases c5 : a0_1 ≤ 4
   ·rw [if_pos c5] at H
    have c5b0 : decide (a0_1 ≤ 4) = true := decide_eq_true c5
    clear c5
    obtain rfl := Option.some.inj H
    go_enter Try.func9, Try.ntmps9
    go_wp2_with (first | ((with_reducible refine gate_dst (N := 1) rfl ?_); refine box_event ?hg (N := 1) ?hd (cs := #[.int .i64 a0_0, .int .i64 a0_1, .int .i64 a0_2, .int .i64 a0_3, .int .i64 a0_4]) (t := 23) ?hr ?_; (case hd => rfl); (case hg => rfl); (case hr => first | (go_simp; done) | (go_simp; rfl)); intro gb124 hg w6 hbox hb; have n0_ := Aside0.mk (below_step (by repeat (first | (with_reducible first | exact HB.out | apply below_alloc | apply pw_below_drewN | apply below_drew1) | exact HB.out)) hb); have n1_ := Aside0.mk (hbox); have n2_ := Aside0.mk ((by rw [hg]; exact (below_size (by repeat (first | (with_reducible first | exact HB.out | apply below_alloc | apply pw_below_drewN | apply below_drew1) | exact HB.out))) : w.heap.size ≤ gb124)); have n3_ := Aside0.mk ((by rw [hg]; exact (below_size (by repeat (first | (with_reducible first | exact HB.out | apply below_alloc | apply pw_below_drewN | apply below_drew1) | exact HB.out))) : w.heap.size ≤ gb124)); clear HB; have HB := n0_; have BK124 := n1_; have GW124 := n2_; have GE124 := n3_; clear n0_ n1_ n2_ n3_; clear hb hbox hg; have hcz7_0 : w6.cell? ⟨gb124, 0, none⟩ = some (.int .i64 a0_0) := (blk_cell BK124.out 0).trans rfl; have hcz7_1 : w6.cell? ⟨gb124, 1, none⟩ = some (.int .i64 a0_1) := (blk_cell BK124.out 1).trans rfl; have hcz7_2 : w6.cell? ⟨gb124, 2, none⟩ = some (.int .i64 a0_2) := (blk_cell BK124.out 2).trans rfl; have hcz7_3 : w6.cell? ⟨gb124, 3, none⟩ = some (.int .i64 a0_3) := (blk_cell BK124.out 3).trans rfl; have hcz7_4 : w6.cell? ⟨gb124, 4, none⟩ = some (.int .i64 a0_4) := (blk_cell BK124.out 4).trans rfl; have hfz7_0 := blk_frozen BK124.out 0; have hfz7_1 := blk_frozen BK124.out 1; have hfz7_2 := blk_frozen BK124.out 2; have hfz7_3 := blk_frozen BK124.out 3; have hfz7_4 := blk_frozen BK124.out 4) | ((with_reducible refine gate_callee (f := 31) rfl ?_); refine goesL_ (some 4) rfl rfl Try.func31 (by kernel_rfl) rfl #[.agg #[.int .i64 a0_0, .int .i64 a0_1, .int .i64 a0_2, .int .i64 a0_3, .int .i64 a0_4]] rfl (by (try simp only [List.map_toArray, List.map_cons, List.map_nil]); first | done | rfl | (simp only [List.length_drop, List.length_take]; rfl)) ?_; (with_reducible refine (corrieref04_May.calls k a0_0 a0_1 a0_2 a0_3 a0_4 t125 _ A2.out).mono ?_); rintro e w8 ⟨rfl, hb⟩; refine ⟨_, rfl, ?_⟩; have n0_ := Aside0.mk (blk_below (g := gb124) (o := .cells #[.int .i64 a0_0, .int .i64 a0_1, .int .i64 a0_2, .int .i64 a0_3, .int .i64 a0_4] 23 (0, 0)) (by (with_reducible repeat (first | refine blk_drewN ?_ _ | refine blk_drew ?_ | refine blk_alloc ?_ _)); exact BK124.out) hb); have n1_ := Aside0.mk (below_step (by repeat (first | (with_reducible first | exact HB.out | apply below_alloc | apply pw_below_drewN | apply below_drew1 | refine below_set ?_ GE124.out) | exact HB.out)) hb); clear BK124; clear HB; have BK124 := n0_; have HB := n1_; clear n0_ n1_; (try clear hb); (try clear hb2); (try clear hk); (try clear hi); have hcz9_0 : w8.cell? ⟨gb124, 0, none⟩ = some (.int .i64 a0_0) := (blk_cell BK124.out 0).trans rfl; have hcz9_1 : w8.cell? ⟨gb124, 1, none⟩ = some (.int .i64 a0_1) := (blk_cell BK124.out 1).trans rfl; have hcz9_2 : w8.cell? ⟨gb124, 2, none⟩ = some (.int .i64 a0_2) := (blk_cell BK124.out 2).trans rfl; have hcz9_3 : w8.cell? ⟨gb124, 3, none⟩ = some (.int .i64 a0_3) := (blk_cell BK124.out 3).trans rfl; have hcz9_4 : w8.cell? ⟨gb124, 4, none⟩ = some (.int .i64 a0_4) := (blk_cell BK124.out 4).trans rfl; have hfz9_0 := blk_frozen BK124.out 0; have hfz9_1 := blk_frozen BK124.out 1; have hfz9_2 := blk_frozen BK124.out 2; have hfz9_3 := blk_frozen BK124.out 3; have hfz9_4 := blk_frozen BK124.out 4))
    go_ret
    exact ⟨by first | rfl | (simp [errW_none, errW_some] <;> rfl) | (simp [*, errW_none, errW_some] <;> rfl), by repeat (first | (with_reducible first | exact HB.out | apply below_alloc | apply pw_below_drewN | apply below_drew1 | refine below_set ?_ GE124.out) | exact HB.out)⟩
   ·rw [if_neg c5] at H
    have c5b0 : decide (a0_1 ≤ 4) = false := decide_eq_false c5
    clear c5
    obtain rfl := Option.some.inj H
    go_enter Try.func9, Try.ntmps9
    go_wp2_with (first | ((with_reducible refine gate_dst (N := 1) rfl ?_); refine box_event ?hg (N := 1) ?hd (cs := #[.int .i64 a0_0, .int .i64 a0_1, .int .i64 a0_2, .int .i64 a0_3, .int .i64 a0_4]) (t := 23) ?hr ?_; (case hd => rfl); (case hg => rfl); (case hr => first | (go_simp; done) | (go_simp; rfl)); intro gb124 hg w10 hbox hb; have n0_ := Aside0.mk (below_step (by repeat (first | (with_reducible first | exact HB.out | apply below_alloc | apply pw_below_drewN | apply below_drew1) | exact HB.out)) hb); have n1_ := Aside0.mk (hbox); have n2_ := Aside0.mk ((by rw [hg]; exact (below_size (by repeat (first | (with_reducible first | exact HB.out | apply below_alloc | apply pw_below_drewN | apply below_drew1) | exact HB.out))) : w.heap.size ≤ gb124)); have n3_ := Aside0.mk ((by rw [hg]; exact (below_size (by repeat (first | (with_reducible first | exact HB.out | apply below_alloc | apply pw_below_drewN | apply below_drew1) | exact HB.out))) : w.heap.size ≤ gb124)); clear HB; have HB := n0_; have BK124 := n1_; have GW124 := n2_; have GE124 := n3_; clear n0_ n1_ n2_ n3_; clear hb hbox hg; have hcz11_0 : w10.cell? ⟨gb124, 0, none⟩ = some (.int .i64 a0_0) := (blk_cell BK124.out 0).trans rfl; have hcz11_1 : w10.cell? ⟨gb124, 1, none⟩ = some (.int .i64 a0_1) := (blk_cell BK124.out 1).trans rfl; have hcz11_2 : w10.cell? ⟨gb124, 2, none⟩ = some (.int .i64 a0_2) := (blk_cell BK124.out 2).trans rfl; have hcz11_3 : w10.cell? ⟨gb124, 3, none⟩ = some (.int .i64 a0_3) := (blk_cell BK124.out 3).trans rfl; have hcz11_4 : w10.cell? ⟨gb124, 4, none⟩ = some (.int .i64 a0_4) := (blk_cell BK124.out 4).trans rfl; have hfz11_0 := blk_frozen BK124.out 0; have hfz11_1 := blk_frozen BK124.out 1; have hfz11_2 := blk_frozen BK124.out 2; have hfz11_3 := blk_frozen BK124.out 3; have hfz11_4 := blk_frozen BK124.out 4) | ((with_reducible refine gate_callee (f := 31) rfl ?_); refine goesL_ (some 4) rfl rfl Try.func31 (by kernel_rfl) rfl #[.agg #[.int .i64 a0_0, .int .i64 a0_1, .int .i64 a0_2, .int .i64 a0_3, .int .i64 a0_4]] rfl (by (try simp only [List.map_toArray, List.map_cons, List.map_nil]); first | done | rfl | (simp only [List.length_drop, List.length_take]; rfl)) ?_; (with_reducible refine (corrieref04_May.calls k a0_0 a0_1 a0_2 a0_3 a0_4 t125 _ A2.out).mono ?_); rintro e w12 ⟨rfl, hb⟩; refine ⟨_, rfl, ?_⟩; have n0_ := Aside0.mk (blk_below (g := gb124) (o := .cells #[.int .i64 a0_0, .int .i64 a0_1, .int .i64 a0_2, .int .i64 a0_3, .int .i64 a0_4] 23 (0, 0)) (by (with_reducible repeat (first | refine blk_drewN ?_ _ | refine blk_drew ?_ | refine blk_alloc ?_ _)); exact BK124.out) hb); have n1_ := Aside0.mk (below_step (by repeat (first | (with_reducible first | exact HB.out | apply below_alloc | apply pw_below_drewN | apply below_drew1 | refine below_set ?_ GE124.out) | exact HB.out)) hb); clear BK124; clear HB; have BK124 := n0_; have HB := n1_; clear n0_ n1_; (try clear hb); (try clear hb2); (try clear hk); (try clear hi); have hcz13_0 : w12.cell? ⟨gb124, 0, none⟩ = some (.int .i64 a0_0) := (blk_cell BK124.out 0).trans rfl; have hcz13_1 : w12.cell? ⟨gb124, 1, none⟩ = some (.int .i64 a0_1) := (blk_cell BK124.out 1).trans rfl; have hcz13_2 : w12.cell? ⟨gb124, 2, none⟩ = some (.int .i64 a0_2) := (blk_cell BK124.out 2).trans rfl; have hcz13_3 : w12.cell? ⟨gb124, 3, none⟩ = some (.int .i64 a0_3) := (blk_cell BK124.out 3).trans rfl; have hcz13_4 : w12.cell? ⟨gb124, 4, none⟩ = some (.int .i64 a0_4) := (blk_cell BK124.out 4).trans rfl; have hfz13_0 := blk_frozen BK124.out 0; have hfz13_1 := blk_frozen BK124.out 1; have hfz13_2 := blk_frozen BK124.out 2; have hfz13_3 := blk_frozen BK124.out 3; have hfz13_4 := blk_frozen BK124.out 4))
    go_ret
    exact ⟨by first | rfl | (simp [errW_none, errW_some] <;> rfl) | (simp [*, errW_none, errW_some] <;> rfl), by repeat (first | (with_reducible first | exact HB.out | apply below_alloc | apply pw_below_drewN | apply below_drew1 | refine below_set ?_ GE124.out) | exact HB.out)⟩
  ·rw [if_neg c4] at H
   have c4b0 : decide (a0_0 ≤ 4) = false := decide_eq_false c4
   clear c4
   obtain rfl := Option.some.inj H
   go_enter Try.func9, Try.ntmps9
   go_wp2_with (first | ((with_reducible refine gate_dst (N := 1) rfl ?_); refine box_event ?hg (N := 1) ?hd (cs := #[.int .i64 a0_0, .int .i64 a0_1, .int .i64 a0_2, .int .i64 a0_3, .int .i64 a0_4]) (t := 23) ?hr ?_; (case hd => rfl); (case hg => rfl); (case hr => first | (go_simp; done) | (go_simp; rfl)); intro gb124 hg w14 hbox hb; have n0_ := Aside0.mk (below_step (by repeat (first | (with_reducible first | exact HB.out | apply below_alloc | apply pw_below_drewN | apply below_drew1) | exact HB.out)) hb); have n1_ := Aside0.mk (hbox); have n2_ := Aside0.mk ((by rw [hg]; exact (below_size (by repeat (first | (with_reducible first | exact HB.out | apply below_alloc | apply pw_below_drewN | apply below_drew1) | exact HB.out))) : w.heap.size ≤ gb124)); have n3_ := Aside0.mk ((by rw [hg]; exact (below_size (by repeat (first | (with_reducible first | exact HB.out | apply below_alloc | apply pw_below_drewN | apply below_drew1) | exact HB.out))) : w.heap.size ≤ gb124)); clear HB; have HB := n0_; have BK124 := n1_; have GW124 := n2_; have GE124 := n3_; clear n0_ n1_ n2_ n3_; clear hb hbox hg; have hcz15_0 : w14.cell? ⟨gb124, 0, none⟩ = some (.int .i64 a0_0) := (blk_cell BK124.out 0).trans rfl; have hcz15_1 : w14.cell? ⟨gb124, 1, none⟩ = some (.int .i64 a0_1) := (blk_cell BK124.out 1).trans rfl; have hcz15_2 : w14.cell? ⟨gb124, 2, none⟩ = some (.int .i64 a0_2) := (blk_cell BK124.out 2).trans rfl; have hcz15_3 : w14.cell? ⟨gb124, 3, none⟩ = some (.int .i64 a0_3) := (blk_cell BK124.out 3).trans rfl; have hcz15_4 : w14.cell? ⟨gb124, 4, none⟩ = some (.int .i64 a0_4) := (blk_cell BK124.out 4).trans rfl; have hfz15_0 := blk_frozen BK124.out 0; have hfz15_1 := blk_frozen BK124.out 1; have hfz15_2 := blk_frozen BK124.out 2; have hfz15_3 := blk_frozen BK124.out 3; have hfz15_4 := blk_frozen BK124.out 4) | ((with_reducible refine gate_callee (f := 31) rfl ?_); refine goesL_ (some 4) rfl rfl Try.func31 (by kernel_rfl) rfl #[.agg #[.int .i64 a0_0, .int .i64 a0_1, .int .i64 a0_2, .int .i64 a0_3, .int .i64 a0_4]] rfl (by (try simp only [List.map_toArray, List.map_cons, List.map_nil]); first | done | rfl | (simp only [List.length_drop, List.length_take]; rfl)) ?_; (with_reducible refine (corrieref04_May.calls k a0_0 a0_1 a0_2 a0_3 a0_4 t125 _ A2.out).mono ?_); rintro e w16 ⟨rfl, hb⟩; refine ⟨_, rfl, ?_⟩; have n0_ := Aside0.mk (blk_below (g := gb124) (o := .cells #[.int .i64 a0_0, .int .i64 a0_1, .int .i64 a0_2, .int .i64 a0_3, .int .i64 a0_4] 23 (0, 0)) (by (with_reducible repeat (first | refine blk_drewN ?_ _ | refine blk_drew ?_ | refine blk_alloc ?_ _)); exact BK124.out) hb); have n1_ := Aside0.mk (below_step (by repeat (first | (with_reducible first | exact HB.out | apply below_alloc | apply pw_below_drewN | apply below_drew1 | refine below_set ?_ GE124.out) | exact HB.out)) hb); clear BK124; clear HB; have BK124 := n0_; have HB := n1_; clear n0_ n1_; (try clear hb); (try clear hb2); (try clear hk); (try clear hi); have hcz17_0 : w16.cell? ⟨gb124, 0, none⟩ = some (.int .i64 a0_0) := (blk_cell BK124.out 0).trans rfl; have hcz17_1 : w16.cell? ⟨gb124, 1, none⟩ = some (.int .i64 a0_1) := (blk_cell BK124.out 1).trans rfl; have hcz17_2 : w16.cell? ⟨gb124, 2, none⟩ = some (.int .i64 a0_2) := (blk_cell BK124.out 2).trans rfl; have hcz17_3 : w16.cell? ⟨gb124, 3, none⟩ = some (.int .i64 a0_3) := (blk_cell BK124.out 3).trans rfl; have hcz17_4 : w16.cell? ⟨gb124, 4, none⟩ = some (.int .i64 a0_4) := (blk_cell BK124.out 4).trans rfl; have hfz17_0 := blk_frozen BK124.out 0; have hfz17_1 := blk_frozen BK124.out 1; have hfz17_2 := blk_frozen BK124.out 2; have hfz17_3 := blk_frozen BK124.out 3; have hfz17_4 := blk_frozen BK124.out 4))
   go_ret
   exact ⟨by first | rfl | (simp [errW_none, errW_some] <;> rfl) | (simp [*, errW_none, errW_some] <;> rfl), by repeat (first | (with_reducible first | exact HB.out | apply below_alloc | apply pw_below_drewN | apply below_drew1 | refine below_set ?_ GE124.out) | exact HB.out)⟩
 ·rw [if_neg c3] at H
  have c3b0 : (t125 == 0) = false := beq_eq_false_iff_ne.mpr c3
  have c3b1 : (t125 != 0) = true := bne_iff_ne.mpr c3
  obtain rfl := Option.some.inj H
  go_enter Try.func9, Try.ntmps9
  go_wp2_with (first | ((with_reducible refine gate_dst (N := 1) rfl ?_); refine box_event ?hg (N := 1) ?hd (cs := #[.int .i64 a0_0, .int .i64 a0_1, .int .i64 a0_2, .int .i64 a0_3, .int .i64 a0_4]) (t := 23) ?hr ?_; (case hd => rfl); (case hg => rfl); (case hr => first | (go_simp; done) | (go_simp; rfl)); intro gb124 hg w18 hbox hb; have n0_ := Aside0.mk (below_step (by repeat (first | (with_reducible first | exact HB.out | apply below_alloc | apply pw_below_drewN | apply below_drew1) | exact HB.out)) hb); have n1_ := Aside0.mk (hbox); have n2_ := Aside0.mk ((by rw [hg]; exact (below_size (by repeat (first | (with_reducible first | exact HB.out | apply below_alloc | apply pw_below_drewN | apply below_drew1) | exact HB.out))) : w.heap.size ≤ gb124)); have n3_ := Aside0.mk ((by rw [hg]; exact (below_size (by repeat (first | (with_reducible first | exact HB.out | apply below_alloc | apply pw_below_drewN | apply below_drew1) | exact HB.out))) : w.heap.size ≤ gb124)); clear HB; have HB := n0_; have BK124 := n1_; have GW124 := n2_; have GE124 := n3_; clear n0_ n1_ n2_ n3_; clear hb hbox hg; have hcz19_0 : w18.cell? ⟨gb124, 0, none⟩ = some (.int .i64 a0_0) := (blk_cell BK124.out 0).trans rfl; have hcz19_1 : w18.cell? ⟨gb124, 1, none⟩ = some (.int .i64 a0_1) := (blk_cell BK124.out 1).trans rfl; have hcz19_2 : w18.cell? ⟨gb124, 2, none⟩ = some (.int .i64 a0_2) := (blk_cell BK124.out 2).trans rfl; have hcz19_3 : w18.cell? ⟨gb124, 3, none⟩ = some (.int .i64 a0_3) := (blk_cell BK124.out 3).trans rfl; have hcz19_4 : w18.cell? ⟨gb124, 4, none⟩ = some (.int .i64 a0_4) := (blk_cell BK124.out 4).trans rfl; have hfz19_0 := blk_frozen BK124.out 0; have hfz19_1 := blk_frozen BK124.out 1; have hfz19_2 := blk_frozen BK124.out 2; have hfz19_3 := blk_frozen BK124.out 3; have hfz19_4 := blk_frozen BK124.out 4) | ((with_reducible refine gate_callee (f := 31) rfl ?_); refine goesL_ (some 4) rfl rfl Try.func31 (by kernel_rfl) rfl #[.agg #[.int .i64 a0_0, .int .i64 a0_1, .int .i64 a0_2, .int .i64 a0_3, .int .i64 a0_4]] rfl (by (try simp only [List.map_toArray, List.map_cons, List.map_nil]); first | done | rfl | (simp only [List.length_drop, List.length_take]; rfl)) ?_; (with_reducible refine (corrieref04_May.calls k a0_0 a0_1 a0_2 a0_3 a0_4 t125 _ A2.out).mono ?_); rintro e w20 ⟨rfl, hb⟩; refine ⟨_, rfl, ?_⟩; have n0_ := Aside0.mk (blk_below (g := gb124) (o := .cells #[.int .i64 a0_0, .int .i64 a0_1, .int .i64 a0_2, .int .i64 a0_3, .int .i64 a0_4] 23 (0, 0)) (by (with_reducible repeat (first | refine blk_drewN ?_ _ | refine blk_drew ?_ | refine blk_alloc ?_ _)); exact BK124.out) hb); have n1_ := Aside0.mk (below_step (by repeat (first | (with_reducible first | exact HB.out | apply below_alloc | apply pw_below_drewN | apply below_drew1 | refine below_set ?_ GE124.out) | exact HB.out)) hb); clear BK124; clear HB; have BK124 := n0_; have HB := n1_; clear n0_ n1_; (try clear hb); (try clear hb2); (try clear hk); (try clear hi)))
  go_ret
  exact ⟨by first | rfl | (simp [errW_none, errW_some] <;> rfl) | (simp [*, errW_none, errW_some] <;> rfl), by repeat (first | (with_reducible first | exact HB.out | apply below_alloc | apply pw_below_drewN | apply below_drew1 | refine below_set ?_ GE124.out) | exact HB.out)⟩

def FewP (t b i f c : Int) : Prop := Ok t b i f c ∧ t ≤ 4 ∧ b ≤ 4 ∧ c ≤ 8
instance (t b i f c : Int) : Decidable (FewP t b i f c) := by unfold FewP; infer_instance
theorem few_eq (k : Nat) (t b i f c : Int) : corrieref04_Few.f (k + 1) t b i f c = some (decide (FewP t b i f c)) := by
 unfold corrieref04_Few.f FewP
 rw [rmay_eq k t b i f c, Option.bind_some]
 by_cases h : Ok t b i f c
 ·rw [if_pos h, if_pos rfl]
  by_cases h1 : t ≤ 4
  ·rw [if_pos h1]
   by_cases h2 : b ≤ 4
   ·rw [if_pos h2]
    simp [h, h1, h2]
   ·rw [if_neg h2]
    simp [h2]
  ·rw [if_neg h1]
   simp [h1]
 ·rw [if_neg h, if_neg (by decide)]
  simp [h]
theorem few_calls (t b i f c : Int) (fb : Bool) (hf : decide (FewP t b i f c) = fb) (W : World) :
  Calls Try.prog 9 #[.agg #[.int .i64 t, .int .i64 b, .int .i64 i, .int .i64 f, .int .i64 c]] W fun e w' => e = .returned (.bool fb) ∧ Below W.heap.size W w' := by
 subst hf
 exact corrieref04_Few.calls 1 t b i f c _ W (few_eq 0 t b i f c)

/-! ### corrielaw08_do: function 11 (by hand) -/
def wDo (ws : List Int) (k x a2 old y : Int) : Int × Bool × Int × List Int :=
 if k = 0 then (cRd ws x, false, 0, ws)
 else if k = 1 then (0, cSwB ws x old, 0, cSwW ws x old y)
 else if k = 2 then (0, false, 0, cPutW ws x y)
 else if k = 3 then (cRd ws x, false, 0, ws)
 else if k = 4 then (0, cSwB ws x old, 0, cSwW ws x old y)
 else if k = 5 then (0, false, wrap64 (wrap64 (cRd ws x) + -1), ws)
 else (0, false, 0, cPutW ws x (IntKind.u64.wrap (wrap64 ((wrap64 (wrap64 a2 - 1)) - -1))))
set_option maxHeartbeats 8000000 in
set_option maxRecDepth 100000 in
theorem wl_do (pw gc gw : Nat) (bk : Value) (c : S23) (ws : List Int) (st : Int) (a0 a1 a2 old y x : Int) (W : World) (h : WAt W pw gc gw bk c ws st) (hk : 0 ≤ (Int.tmod a0 7) ∧ (Int.tmod a0 7) < 7) (hN : (Int.tmod a0 7) < 3 → ∀ W : World, Calls Try.prog 37 #[.agg #[.int .i64 c.f0, .int .i64 c.f1, .int .i64 c.f2, .int .i64 c.f3, .int .i64 c.f4], .int .i64 a1] W (fun e w' => e = .returned (.int .i64 x) ∧ Below W.heap.size W w')) (hW : 3 ≤ (Int.tmod a0 7) ∧ (Int.tmod a0 7) < 5 → ∀ W : World, Calls Try.prog 41 #[.agg #[.int .i64 c.f0, .int .i64 c.f1, .int .i64 c.f2, .int .i64 c.f3, .int .i64 c.f4], .int .i64 a1] W (fun e w' => e = .returned (.int .i64 x) ∧ Below W.heap.size W w')) (hA : 5 ≤ (Int.tmod a0 7) → ∀ W : World, Calls Try.prog 42 #[.agg #[.int .i64 c.f0, .int .i64 c.f1, .int .i64 c.f2, .int .i64 c.f3, .int .i64 c.f4], .int .i64 a1] W (fun e w' => e = .returned (.int .i64 x) ∧ Below W.heap.size W w')) :
  Calls Try.prog 11 #[.pointer (some ⟨pw, 0, none⟩), .agg #[.int .u8 a0, .int .i64 a1, .int .u16 a2, .int .u64 old, .int .u64 y]] W fun e w' => e = .returned (.tuple #[.int .u64 (wDo ws (Int.tmod a0 7) x a2 old y).1, .bool (wDo ws (Int.tmod a0 7) x a2 old y).2.1, .int .i64 (wDo ws (Int.tmod a0 7) x a2 old y).2.2.1]) ∧ WAt w' pw gc gw bk c (wDo ws (Int.tmod a0 7) x a2 old y).2.2.2 (cSt ws st x) ∧ Touch (fun k => k = gc ∨ k = gw) W w' := by
 have HA := Aside0.mk h
 have HT := Aside0.mk (Touch.refl (fun k => k = gc ∨ k = gw) W)
 clear h
 by_cases q0 : (Int.tmod a0 7) = 0
 ·have HX := Aside0.mk (hN (by omega))
  have b0 : ((Int.tmod a0 7) == 0) = true := beq_iff_eq.mpr q0
  unfold wDo
  rw [if_pos q0]
  clear hk hN hW hA q0
  go_enter Try.func11, Try.ntmps11
  go_wp2_with (first | ((with_reducible refine gate_dst (N := 3) rfl ?_); refine box_event ?hg (N := 3) ?hd (cs := #[.int .u8 a0, .int .i64 a1, .int .u16 a2, .int .u64 old, .int .u64 y]) (t := 27) ?hr ?_; (case hd => rfl); (case hg => rfl); (case hr => first | (go_simp; done) | (go_simp; rfl)); intro g3 hg w3 hbox hbk; have B3 := Aside0.mk hbox; have n_HA := Aside0.mk (HA.out.below hbk); have n_HT := Aside0.mk (HT.out.trans (.of_below hbk)); clear HA HT; have HA := n_HA; have HT := n_HT; clear n_HA n_HT; have c3_0 : w3.cell? ⟨g3, 0, none⟩ = some (.int .u8 a0) := (blk_cell B3.out 0).trans rfl; have c3_1 : w3.cell? ⟨g3, 1, none⟩ = some (.int .i64 a1) := (blk_cell B3.out 1).trans rfl; have c3_2 : w3.cell? ⟨g3, 2, none⟩ = some (.int .u16 a2) := (blk_cell B3.out 2).trans rfl; have c3_3 : w3.cell? ⟨g3, 3, none⟩ = some (.int .u64 old) := (blk_cell B3.out 3).trans rfl; have c3_4 : w3.cell? ⟨g3, 4, none⟩ = some (.int .u64 y) := (blk_cell B3.out 4).trans rfl; clear hbk hbox hg) | (go_at_call 18; (with_reducible refine (wl_Next pw gc gw bk c ws st a1 x _ HA.out HX.out).mono ?_); rintro e w4 ⟨rfl, hA4, hT4⟩; have HA2 := Aside0.mk hA4; have HT2 := Aside0.mk (HT.out.trans hT4); clear hA4 hT4))
  go_ret3
  exact ⟨by first | rfl | (simp; done), HA2.out, HT2.out⟩
 by_cases q1 : (Int.tmod a0 7) = 1
 ·have HX := Aside0.mk (hN (by omega))
  have b0 : ((Int.tmod a0 7) == 0) = false := beq_eq_false_iff_ne.mpr q0
  have b1 : ((Int.tmod a0 7) == 1) = true := beq_iff_eq.mpr q1
  unfold wDo
  rw [if_neg q0, if_pos q1]
  clear hk hN hW hA q0 q1
  go_enter Try.func11, Try.ntmps11
  go_wp2_with (first | ((with_reducible refine gate_dst (N := 3) rfl ?_); refine box_event ?hg (N := 3) ?hd (cs := #[.int .u8 a0, .int .i64 a1, .int .u16 a2, .int .u64 old, .int .u64 y]) (t := 27) ?hr ?_; (case hd => rfl); (case hg => rfl); (case hr => first | (go_simp; done) | (go_simp; rfl)); intro g3 hg w3 hbox hbk; have B3 := Aside0.mk hbox; have n_HA := Aside0.mk (HA.out.below hbk); have n_HT := Aside0.mk (HT.out.trans (.of_below hbk)); clear HA HT; have HA := n_HA; have HT := n_HT; clear n_HA n_HT; have c3_0 : w3.cell? ⟨g3, 0, none⟩ = some (.int .u8 a0) := (blk_cell B3.out 0).trans rfl; have c3_1 : w3.cell? ⟨g3, 1, none⟩ = some (.int .i64 a1) := (blk_cell B3.out 1).trans rfl; have c3_2 : w3.cell? ⟨g3, 2, none⟩ = some (.int .u16 a2) := (blk_cell B3.out 2).trans rfl; have c3_3 : w3.cell? ⟨g3, 3, none⟩ = some (.int .u64 old) := (blk_cell B3.out 3).trans rfl; have c3_4 : w3.cell? ⟨g3, 4, none⟩ = some (.int .u64 y) := (blk_cell B3.out 4).trans rfl; clear hbk hbox hg) | (go_at_call 24; (with_reducible refine (wl_Link pw gc gw bk c ws st a1 x old y _ HA.out HX.out).mono ?_); rintro e w4 ⟨rfl, hA4, hT4⟩; have HA2 := Aside0.mk hA4; have HT2 := Aside0.mk (HT.out.trans hT4); clear hA4 hT4))
  go_ret3
  exact ⟨by first | rfl | (simp; done), HA2.out, HT2.out⟩
 by_cases q2 : (Int.tmod a0 7) = 2
 ·have HX := Aside0.mk (hN (by omega))
  have b0 : ((Int.tmod a0 7) == 0) = false := beq_eq_false_iff_ne.mpr q0
  have b1 : ((Int.tmod a0 7) == 1) = false := beq_eq_false_iff_ne.mpr q1
  have b2 : ((Int.tmod a0 7) == 2) = true := beq_iff_eq.mpr q2
  unfold wDo
  rw [if_neg q0, if_neg q1, if_pos q2]
  clear hk hN hW hA q0 q1 q2
  go_enter Try.func11, Try.ntmps11
  go_wp2_with (first | ((with_reducible refine gate_dst (N := 3) rfl ?_); refine box_event ?hg (N := 3) ?hd (cs := #[.int .u8 a0, .int .i64 a1, .int .u16 a2, .int .u64 old, .int .u64 y]) (t := 27) ?hr ?_; (case hd => rfl); (case hg => rfl); (case hr => first | (go_simp; done) | (go_simp; rfl)); intro g3 hg w3 hbox hbk; have B3 := Aside0.mk hbox; have n_HA := Aside0.mk (HA.out.below hbk); have n_HT := Aside0.mk (HT.out.trans (.of_below hbk)); clear HA HT; have HA := n_HA; have HT := n_HT; clear n_HA n_HT; have c3_0 : w3.cell? ⟨g3, 0, none⟩ = some (.int .u8 a0) := (blk_cell B3.out 0).trans rfl; have c3_1 : w3.cell? ⟨g3, 1, none⟩ = some (.int .i64 a1) := (blk_cell B3.out 1).trans rfl; have c3_2 : w3.cell? ⟨g3, 2, none⟩ = some (.int .u16 a2) := (blk_cell B3.out 2).trans rfl; have c3_3 : w3.cell? ⟨g3, 3, none⟩ = some (.int .u64 old) := (blk_cell B3.out 3).trans rfl; have c3_4 : w3.cell? ⟨g3, 4, none⟩ = some (.int .u64 y) := (blk_cell B3.out 4).trans rfl; clear hbk hbox hg) | (go_at_call 15; (with_reducible refine (wl_Set pw gc gw bk c ws st a1 x y _ HA.out HX.out).mono ?_); rintro e w4 ⟨rfl, hA4, hT4⟩; have HA2 := Aside0.mk hA4; have HT2 := Aside0.mk (HT.out.trans hT4); clear hA4 hT4))
  go_ret3
  exact ⟨by first | rfl | (simp; done), HA2.out, HT2.out⟩
 by_cases q3 : (Int.tmod a0 7) = 3
 ·have HX := Aside0.mk (hW (by omega))
  have b0 : ((Int.tmod a0 7) == 0) = false := beq_eq_false_iff_ne.mpr q0
  have b1 : ((Int.tmod a0 7) == 1) = false := beq_eq_false_iff_ne.mpr q1
  have b2 : ((Int.tmod a0 7) == 2) = false := beq_eq_false_iff_ne.mpr q2
  have b3 : ((Int.tmod a0 7) == 3) = true := beq_iff_eq.mpr q3
  unfold wDo
  rw [if_neg q0, if_neg q1, if_neg q2, if_pos q3]
  clear hk hN hW hA q0 q1 q2 q3
  go_enter Try.func11, Try.ntmps11
  go_wp2_with (first | ((with_reducible refine gate_dst (N := 3) rfl ?_); refine box_event ?hg (N := 3) ?hd (cs := #[.int .u8 a0, .int .i64 a1, .int .u16 a2, .int .u64 old, .int .u64 y]) (t := 27) ?hr ?_; (case hd => rfl); (case hg => rfl); (case hr => first | (go_simp; done) | (go_simp; rfl)); intro g3 hg w3 hbox hbk; have B3 := Aside0.mk hbox; have n_HA := Aside0.mk (HA.out.below hbk); have n_HT := Aside0.mk (HT.out.trans (.of_below hbk)); clear HA HT; have HA := n_HA; have HT := n_HT; clear n_HA n_HT; have c3_0 : w3.cell? ⟨g3, 0, none⟩ = some (.int .u8 a0) := (blk_cell B3.out 0).trans rfl; have c3_1 : w3.cell? ⟨g3, 1, none⟩ = some (.int .i64 a1) := (blk_cell B3.out 1).trans rfl; have c3_2 : w3.cell? ⟨g3, 2, none⟩ = some (.int .u16 a2) := (blk_cell B3.out 2).trans rfl; have c3_3 : w3.cell? ⟨g3, 3, none⟩ = some (.int .u64 old) := (blk_cell B3.out 3).trans rfl; have c3_4 : w3.cell? ⟨g3, 4, none⟩ = some (.int .u64 y) := (blk_cell B3.out 4).trans rfl; clear hbk hbox hg) | (go_at_call 19; (with_reducible refine (wl_Word pw gc gw bk c ws st a1 x _ HA.out HX.out).mono ?_); rintro e w4 ⟨rfl, hA4, hT4⟩; have HA2 := Aside0.mk hA4; have HT2 := Aside0.mk (HT.out.trans hT4); clear hA4 hT4))
  go_ret3
  exact ⟨by first | rfl | (simp; done), HA2.out, HT2.out⟩
 by_cases q4 : (Int.tmod a0 7) = 4
 ·have HX := Aside0.mk (hW (by omega))
  have b0 : ((Int.tmod a0 7) == 0) = false := beq_eq_false_iff_ne.mpr q0
  have b1 : ((Int.tmod a0 7) == 1) = false := beq_eq_false_iff_ne.mpr q1
  have b2 : ((Int.tmod a0 7) == 2) = false := beq_eq_false_iff_ne.mpr q2
  have b3 : ((Int.tmod a0 7) == 3) = false := beq_eq_false_iff_ne.mpr q3
  have b4 : ((Int.tmod a0 7) == 4) = true := beq_iff_eq.mpr q4
  unfold wDo
  rw [if_neg q0, if_neg q1, if_neg q2, if_neg q3, if_pos q4]
  clear hk hN hW hA q0 q1 q2 q3 q4
  go_enter Try.func11, Try.ntmps11
  go_wp2_with (first | ((with_reducible refine gate_dst (N := 3) rfl ?_); refine box_event ?hg (N := 3) ?hd (cs := #[.int .u8 a0, .int .i64 a1, .int .u16 a2, .int .u64 old, .int .u64 y]) (t := 27) ?hr ?_; (case hd => rfl); (case hg => rfl); (case hr => first | (go_simp; done) | (go_simp; rfl)); intro g3 hg w3 hbox hbk; have B3 := Aside0.mk hbox; have n_HA := Aside0.mk (HA.out.below hbk); have n_HT := Aside0.mk (HT.out.trans (.of_below hbk)); clear HA HT; have HA := n_HA; have HT := n_HT; clear n_HA n_HT; have c3_0 : w3.cell? ⟨g3, 0, none⟩ = some (.int .u8 a0) := (blk_cell B3.out 0).trans rfl; have c3_1 : w3.cell? ⟨g3, 1, none⟩ = some (.int .i64 a1) := (blk_cell B3.out 1).trans rfl; have c3_2 : w3.cell? ⟨g3, 2, none⟩ = some (.int .u16 a2) := (blk_cell B3.out 2).trans rfl; have c3_3 : w3.cell? ⟨g3, 3, none⟩ = some (.int .u64 old) := (blk_cell B3.out 3).trans rfl; have c3_4 : w3.cell? ⟨g3, 4, none⟩ = some (.int .u64 y) := (blk_cell B3.out 4).trans rfl; clear hbk hbox hg) | (go_at_call 16; (with_reducible refine (wl_Turn pw gc gw bk c ws st a1 x old y _ HA.out HX.out).mono ?_); rintro e w4 ⟨rfl, hA4, hT4⟩; have HA2 := Aside0.mk hA4; have HT2 := Aside0.mk (HT.out.trans hT4); clear hA4 hT4))
  go_ret3
  exact ⟨by first | rfl | (simp; done), HA2.out, HT2.out⟩
 by_cases q5 : (Int.tmod a0 7) = 5
 ·have HX := Aside0.mk (hA (by omega))
  have b0 : ((Int.tmod a0 7) == 0) = false := beq_eq_false_iff_ne.mpr q0
  have b1 : ((Int.tmod a0 7) == 1) = false := beq_eq_false_iff_ne.mpr q1
  have b2 : ((Int.tmod a0 7) == 2) = false := beq_eq_false_iff_ne.mpr q2
  have b3 : ((Int.tmod a0 7) == 3) = false := beq_eq_false_iff_ne.mpr q3
  have b4 : ((Int.tmod a0 7) == 4) = false := beq_eq_false_iff_ne.mpr q4
  have b5 : ((Int.tmod a0 7) == 5) = true := beq_iff_eq.mpr q5
  unfold wDo
  rw [if_neg q0, if_neg q1, if_neg q2, if_neg q3, if_neg q4, if_pos q5]
  clear hk hN hW hA q0 q1 q2 q3 q4 q5
  go_enter Try.func11, Try.ntmps11
  go_wp2_with (first | ((with_reducible refine gate_dst (N := 3) rfl ?_); refine box_event ?hg (N := 3) ?hd (cs := #[.int .u8 a0, .int .i64 a1, .int .u16 a2, .int .u64 old, .int .u64 y]) (t := 27) ?hr ?_; (case hd => rfl); (case hg => rfl); (case hr => first | (go_simp; done) | (go_simp; rfl)); intro g3 hg w3 hbox hbk; have B3 := Aside0.mk hbox; have n_HA := Aside0.mk (HA.out.below hbk); have n_HT := Aside0.mk (HT.out.trans (.of_below hbk)); clear HA HT; have HA := n_HA; have HT := n_HT; clear n_HA n_HT; have c3_0 : w3.cell? ⟨g3, 0, none⟩ = some (.int .u8 a0) := (blk_cell B3.out 0).trans rfl; have c3_1 : w3.cell? ⟨g3, 1, none⟩ = some (.int .i64 a1) := (blk_cell B3.out 1).trans rfl; have c3_2 : w3.cell? ⟨g3, 2, none⟩ = some (.int .u16 a2) := (blk_cell B3.out 2).trans rfl; have c3_3 : w3.cell? ⟨g3, 3, none⟩ = some (.int .u64 old) := (blk_cell B3.out 3).trans rfl; have c3_4 : w3.cell? ⟨g3, 4, none⟩ = some (.int .u64 y) := (blk_cell B3.out 4).trans rfl; clear hbk hbox hg) | (go_at_call 20; (with_reducible refine (wl_Ann pw gc gw bk c ws st a1 x _ HA.out HX.out).mono ?_); rintro e w4 ⟨rfl, hA4, hT4⟩; have HA2 := Aside0.mk hA4; have HT2 := Aside0.mk (HT.out.trans hT4); clear hA4 hT4))
  go_ret3
  exact ⟨by first | rfl | (simp; done), HA2.out, HT2.out⟩
 ·have HX := Aside0.mk (hA (by omega))
  have b0 : ((Int.tmod a0 7) == 0) = false := beq_eq_false_iff_ne.mpr q0
  have b1 : ((Int.tmod a0 7) == 1) = false := beq_eq_false_iff_ne.mpr q1
  have b2 : ((Int.tmod a0 7) == 2) = false := beq_eq_false_iff_ne.mpr q2
  have b3 : ((Int.tmod a0 7) == 3) = false := beq_eq_false_iff_ne.mpr q3
  have b4 : ((Int.tmod a0 7) == 4) = false := beq_eq_false_iff_ne.mpr q4
  have b5 : ((Int.tmod a0 7) == 5) = false := beq_eq_false_iff_ne.mpr q5
  unfold wDo
  rw [if_neg q0, if_neg q1, if_neg q2, if_neg q3, if_neg q4, if_neg q5]
  clear hk hN hW hA q0 q1 q2 q3 q4 q5
  go_enter Try.func11, Try.ntmps11
  go_wp2_with (first | ((with_reducible refine gate_dst (N := 3) rfl ?_); refine box_event ?hg (N := 3) ?hd (cs := #[.int .u8 a0, .int .i64 a1, .int .u16 a2, .int .u64 old, .int .u64 y]) (t := 27) ?hr ?_; (case hd => rfl); (case hg => rfl); (case hr => first | (go_simp; done) | (go_simp; rfl)); intro g3 hg w3 hbox hbk; have B3 := Aside0.mk hbox; have n_HA := Aside0.mk (HA.out.below hbk); have n_HT := Aside0.mk (HT.out.trans (.of_below hbk)); clear HA HT; have HA := n_HA; have HT := n_HT; clear n_HA n_HT; have c3_0 : w3.cell? ⟨g3, 0, none⟩ = some (.int .u8 a0) := (blk_cell B3.out 0).trans rfl; have c3_1 : w3.cell? ⟨g3, 1, none⟩ = some (.int .i64 a1) := (blk_cell B3.out 1).trans rfl; have c3_2 : w3.cell? ⟨g3, 2, none⟩ = some (.int .u16 a2) := (blk_cell B3.out 2).trans rfl; have c3_3 : w3.cell? ⟨g3, 3, none⟩ = some (.int .u64 old) := (blk_cell B3.out 3).trans rfl; have c3_4 : w3.cell? ⟨g3, 4, none⟩ = some (.int .u64 y) := (blk_cell B3.out 4).trans rfl; clear hbk hbox hg) | (go_at_call 17; (with_reducible refine (wl_Say pw gc gw bk c ws st a1 x _ _ HA.out HX.out).mono ?_); rintro e w4 ⟨rfl, hA4, hT4⟩; have HA2 := Aside0.mk hA4; have HT2 := Aside0.mk (HT.out.trans hT4); clear hA4 hT4))
  go_ret3
  exact ⟨by first | rfl | (simp; done), HA2.out, HT2.out⟩


/-! ### corrieref04_Nodes: function 12 -/
def corrieref04_Nodes.f (k : Nat) (a0_0 : Int) (a0_1 : Int) (a0_2 : Int) (a0_3 : Int) (a0_4 : Int) : Option (Int) := (corrieref04_May.f k a0_0 a0_1 a0_2 a0_3 a0_4).bind fun t127 => (if t127 = 0 then (some (wrap64 ((wrap64 (1 + a0_1)) + (wrap64 ((wrap64 (2 * a0_0)) * a0_4))))) else (some 0))
theorem corrieref04_Nodes.mono : ∀ a0 a1 a2 a3 a4 k, LeO (corrieref04_Nodes.f k a0 a1 a2 a3 a4) (corrieref04_Nodes.f (k + 1) a0 a1 a2 a3 a4) := by
 intro a0 a1 a2 a3 a4 k
 unfold corrieref04_Nodes.f
 repeat' first
   | (with_reducible exact corrieref04_May.mono _ _ _ _ _ _)
   | (with_reducible exact LeO.refl _)
   | (with_reducible exact LeO.none _)
   | (with_reducible refine LeO.ite ?_ ?_)
   | (with_reducible refine LeO.bind ?_ (fun _ => ?_))
   | exact corrieref04_May.mono _ _ _ _ _ _
   | exact LeO.none _
   | refine LeO.ite ?_ ?_
   | refine LeO.bind ?_ (fun _ => ?_)
set_option maxHeartbeats 8000000 in
set_option maxRecDepth 100000 in
theorem corrieref04_Nodes.calls (k : Nat) (a0_0 : Int) (a0_1 : Int) (a0_2 : Int) (a0_3 : Int) (a0_4 : Int) (r : Int) (w : World) (h : corrieref04_Nodes.f k a0_0 a0_1 a0_2 a0_3 a0_4 = some r) :
  Calls Try.prog 12 #[.agg #[.int .i64 a0_0, .int .i64 a0_1, .int .i64 a0_2, .int .i64 a0_3, .int .i64 a0_4]] w fun e w' => e = .returned (.int .i64 r) ∧ Below w.heap.size w w' := by
 have hu23 := Try.underlying23
 have HB := Aside0.mk (Below.refl w.heap.size w)
 have H : ((corrieref04_May.f k a0_0 a0_1 a0_2 a0_3 a0_4).bind fun t127 => (if t127 = 0 then (some (wrap64 ((wrap64 (1 + a0_1)) + (wrap64 ((wrap64 (2 * a0_0)) * a0_4))))) else (some 0))) = some r := h
 clear h
 replace H := Option.bind_eq_some_iff.mp H
 obtain ⟨t127, A20, H⟩ := H
 replace H : (if t127 = 0 then (some (wrap64 ((wrap64 (1 + a0_1)) + (wrap64 ((wrap64 (2 * a0_0)) * a0_4))))) else (some 0)) = some r := H
 have A2 := Aside0.mk A20
 clear A20
 by_cases c3 : t127 = 0
 ·rw [if_pos c3] at H
  have c3b0 : (t127 == 0) = true := beq_iff_eq.mpr c3
  have c3b1 : (t127 != 0) = false := bne_eq_false_iff_eq.mpr c3
  clear c3
  obtain rfl := Option.some.inj H
  go_enter Try.func12, Try.ntmps12
  go_wp2_with (first | ((with_reducible refine gate_dst (N := 1) rfl ?_); refine box_event ?hg (N := 1) ?hd (cs := #[.int .i64 a0_0, .int .i64 a0_1, .int .i64 a0_2, .int .i64 a0_3, .int .i64 a0_4]) (t := 23) ?hr ?_; (case hd => rfl); (case hg => rfl); (case hr => first | (go_simp; done) | (go_simp; rfl)); intro gb126 hg w4 hbox hb; have n0_ := Aside0.mk (below_step (by repeat (first | (with_reducible first | exact HB.out | apply below_alloc | apply pw_below_drewN | apply below_drew1) | exact HB.out)) hb); have n1_ := Aside0.mk (hbox); have n2_ := Aside0.mk ((by rw [hg]; exact (below_size (by repeat (first | (with_reducible first | exact HB.out | apply below_alloc | apply pw_below_drewN | apply below_drew1) | exact HB.out))) : w.heap.size ≤ gb126)); have n3_ := Aside0.mk ((by rw [hg]; exact (below_size (by repeat (first | (with_reducible first | exact HB.out | apply below_alloc | apply pw_below_drewN | apply below_drew1) | exact HB.out))) : w.heap.size ≤ gb126)); clear HB; have HB := n0_; have BK126 := n1_; have GW126 := n2_; have GE126 := n3_; clear n0_ n1_ n2_ n3_; clear hb hbox hg; have hcz5_0 : w4.cell? ⟨gb126, 0, none⟩ = some (.int .i64 a0_0) := (blk_cell BK126.out 0).trans rfl; have hcz5_1 : w4.cell? ⟨gb126, 1, none⟩ = some (.int .i64 a0_1) := (blk_cell BK126.out 1).trans rfl; have hcz5_2 : w4.cell? ⟨gb126, 2, none⟩ = some (.int .i64 a0_2) := (blk_cell BK126.out 2).trans rfl; have hcz5_3 : w4.cell? ⟨gb126, 3, none⟩ = some (.int .i64 a0_3) := (blk_cell BK126.out 3).trans rfl; have hcz5_4 : w4.cell? ⟨gb126, 4, none⟩ = some (.int .i64 a0_4) := (blk_cell BK126.out 4).trans rfl; have hfz5_0 := blk_frozen BK126.out 0; have hfz5_1 := blk_frozen BK126.out 1; have hfz5_2 := blk_frozen BK126.out 2; have hfz5_3 := blk_frozen BK126.out 3; have hfz5_4 := blk_frozen BK126.out 4) | ((with_reducible refine gate_callee (f := 31) rfl ?_); refine goesL_ (some 4) rfl rfl Try.func31 (by kernel_rfl) rfl #[.agg #[.int .i64 a0_0, .int .i64 a0_1, .int .i64 a0_2, .int .i64 a0_3, .int .i64 a0_4]] rfl (by (try simp only [List.map_toArray, List.map_cons, List.map_nil]); first | done | rfl | (simp only [List.length_drop, List.length_take]; rfl)) ?_; (with_reducible refine (corrieref04_May.calls k a0_0 a0_1 a0_2 a0_3 a0_4 t127 _ A2.out).mono ?_); rintro e w6 ⟨rfl, hb⟩; refine ⟨_, rfl, ?_⟩; have n0_ := Aside0.mk (blk_below (g := gb126) (o := .cells #[.int .i64 a0_0, .int .i64 a0_1, .int .i64 a0_2, .int .i64 a0_3, .int .i64 a0_4] 23 (0, 0)) (by (with_reducible repeat (first | refine blk_drewN ?_ _ | refine blk_drew ?_ | refine blk_alloc ?_ _)); exact BK126.out) hb); have n1_ := Aside0.mk (below_step (by repeat (first | (with_reducible first | exact HB.out | apply below_alloc | apply pw_below_drewN | apply below_drew1 | refine below_set ?_ GE126.out) | exact HB.out)) hb); clear BK126; clear HB; have BK126 := n0_; have HB := n1_; clear n0_ n1_; (try clear hb); (try clear hb2); (try clear hk); (try clear hi); have hcz7_0 : w6.cell? ⟨gb126, 0, none⟩ = some (.int .i64 a0_0) := (blk_cell BK126.out 0).trans rfl; have hcz7_1 : w6.cell? ⟨gb126, 1, none⟩ = some (.int .i64 a0_1) := (blk_cell BK126.out 1).trans rfl; have hcz7_2 : w6.cell? ⟨gb126, 2, none⟩ = some (.int .i64 a0_2) := (blk_cell BK126.out 2).trans rfl; have hcz7_3 : w6.cell? ⟨gb126, 3, none⟩ = some (.int .i64 a0_3) := (blk_cell BK126.out 3).trans rfl; have hcz7_4 : w6.cell? ⟨gb126, 4, none⟩ = some (.int .i64 a0_4) := (blk_cell BK126.out 4).trans rfl; have hfz7_0 := blk_frozen BK126.out 0; have hfz7_1 := blk_frozen BK126.out 1; have hfz7_2 := blk_frozen BK126.out 2; have hfz7_3 := blk_frozen BK126.out 3; have hfz7_4 := blk_frozen BK126.out 4))
  go_ret
  exact ⟨by first | rfl | (simp [errW_none, errW_some] <;> rfl) | (simp [*, errW_none, errW_some] <;> rfl), by repeat (first | (with_reducible first | exact HB.out | apply below_alloc | apply pw_below_drewN | apply below_drew1 | refine below_set ?_ GE126.out) | exact HB.out)⟩
 ·rw [if_neg c3] at H
  have c3b0 : (t127 == 0) = false := beq_eq_false_iff_ne.mpr c3
  have c3b1 : (t127 != 0) = true := bne_iff_ne.mpr c3
  obtain rfl := Option.some.inj H
  go_enter Try.func12, Try.ntmps12
  go_wp2_with (first | ((with_reducible refine gate_dst (N := 1) rfl ?_); refine box_event ?hg (N := 1) ?hd (cs := #[.int .i64 a0_0, .int .i64 a0_1, .int .i64 a0_2, .int .i64 a0_3, .int .i64 a0_4]) (t := 23) ?hr ?_; (case hd => rfl); (case hg => rfl); (case hr => first | (go_simp; done) | (go_simp; rfl)); intro gb126 hg w8 hbox hb; have n0_ := Aside0.mk (below_step (by repeat (first | (with_reducible first | exact HB.out | apply below_alloc | apply pw_below_drewN | apply below_drew1) | exact HB.out)) hb); have n1_ := Aside0.mk (hbox); have n2_ := Aside0.mk ((by rw [hg]; exact (below_size (by repeat (first | (with_reducible first | exact HB.out | apply below_alloc | apply pw_below_drewN | apply below_drew1) | exact HB.out))) : w.heap.size ≤ gb126)); have n3_ := Aside0.mk ((by rw [hg]; exact (below_size (by repeat (first | (with_reducible first | exact HB.out | apply below_alloc | apply pw_below_drewN | apply below_drew1) | exact HB.out))) : w.heap.size ≤ gb126)); clear HB; have HB := n0_; have BK126 := n1_; have GW126 := n2_; have GE126 := n3_; clear n0_ n1_ n2_ n3_; clear hb hbox hg; have hcz9_0 : w8.cell? ⟨gb126, 0, none⟩ = some (.int .i64 a0_0) := (blk_cell BK126.out 0).trans rfl; have hcz9_1 : w8.cell? ⟨gb126, 1, none⟩ = some (.int .i64 a0_1) := (blk_cell BK126.out 1).trans rfl; have hcz9_2 : w8.cell? ⟨gb126, 2, none⟩ = some (.int .i64 a0_2) := (blk_cell BK126.out 2).trans rfl; have hcz9_3 : w8.cell? ⟨gb126, 3, none⟩ = some (.int .i64 a0_3) := (blk_cell BK126.out 3).trans rfl; have hcz9_4 : w8.cell? ⟨gb126, 4, none⟩ = some (.int .i64 a0_4) := (blk_cell BK126.out 4).trans rfl; have hfz9_0 := blk_frozen BK126.out 0; have hfz9_1 := blk_frozen BK126.out 1; have hfz9_2 := blk_frozen BK126.out 2; have hfz9_3 := blk_frozen BK126.out 3; have hfz9_4 := blk_frozen BK126.out 4) | ((with_reducible refine gate_callee (f := 31) rfl ?_); refine goesL_ (some 4) rfl rfl Try.func31 (by kernel_rfl) rfl #[.agg #[.int .i64 a0_0, .int .i64 a0_1, .int .i64 a0_2, .int .i64 a0_3, .int .i64 a0_4]] rfl (by (try simp only [List.map_toArray, List.map_cons, List.map_nil]); first | done | rfl | (simp only [List.length_drop, List.length_take]; rfl)) ?_; (with_reducible refine (corrieref04_May.calls k a0_0 a0_1 a0_2 a0_3 a0_4 t127 _ A2.out).mono ?_); rintro e w10 ⟨rfl, hb⟩; refine ⟨_, rfl, ?_⟩; have n0_ := Aside0.mk (blk_below (g := gb126) (o := .cells #[.int .i64 a0_0, .int .i64 a0_1, .int .i64 a0_2, .int .i64 a0_3, .int .i64 a0_4] 23 (0, 0)) (by (with_reducible repeat (first | refine blk_drewN ?_ _ | refine blk_drew ?_ | refine blk_alloc ?_ _)); exact BK126.out) hb); have n1_ := Aside0.mk (below_step (by repeat (first | (with_reducible first | exact HB.out | apply below_alloc | apply pw_below_drewN | apply below_drew1 | refine below_set ?_ GE126.out) | exact HB.out)) hb); clear BK126; clear HB; have BK126 := n0_; have HB := n1_; clear n0_ n1_; (try clear hb); (try clear hb2); (try clear hk); (try clear hi)))
  go_ret
  exact ⟨by first | rfl | (simp [errW_none, errW_some] <;> rfl) | (simp [*, errW_none, errW_some] <;> rfl), by repeat (first | (with_reducible first | exact HB.out | apply below_alloc | apply pw_below_drewN | apply below_drew1 | refine below_set ?_ GE126.out) | exact HB.out)⟩

theorem rnodes_eq (k : Nat) (t b i f c : Int) : corrieref04_Nodes.f (k + 1) t b i f c = some (if Ok t b i f c then 1 + b + 2 * (t * c) else 0) := by
 unfold corrieref04_Nodes.f
 rw [rmay_eq]
 simp only [Option.bind_some]
 by_cases h : Ok t b i f c
 ·simp only [if_pos h]
  have hm := mul_le h.1.1 h.1.2 h.2.2.2.2.1 h.2.2.2.2.2
  have hb := isPow_le h.2.1
  have e : 2 * t * c = 2 * (t * c) := Int.mul_assoc 2 t c
  have ht := h.1
  rw [if_pos trivial, wrap64_eq (n := 1 + b) (by omega) (by omega), wrap64_eq (n := 2 * t) (by omega) (by omega), e, wrap64_eq (n := 2 * (t * c)) (by omega) (by omega), wrap64_eq (by omega) (by omega)]
 ·simp only [if_neg h]
  rw [if_neg (by decide)]

/-! ### corrieref04_Ops: function 13 -/
def corrieref04_Ops.f (k : Nat) (a0_0 : Int) (a0_1 : Int) (a0_2 : Int) (a0_3 : Int) (a0_4 : Int) : Option (Int) := (corrieref04_May.f k a0_0 a0_1 a0_2 a0_3 a0_4).bind fun t129 => (if t129 = 0 then (some (wrap64 (a0_0 * a0_4))) else (some 0))
theorem corrieref04_Ops.mono : ∀ a0 a1 a2 a3 a4 k, LeO (corrieref04_Ops.f k a0 a1 a2 a3 a4) (corrieref04_Ops.f (k + 1) a0 a1 a2 a3 a4) := by
 intro a0 a1 a2 a3 a4 k
 unfold corrieref04_Ops.f
 repeat' first
   | (with_reducible exact corrieref04_May.mono _ _ _ _ _ _)
   | (with_reducible exact LeO.refl _)
   | (with_reducible exact LeO.none _)
   | (with_reducible refine LeO.ite ?_ ?_)
   | (with_reducible refine LeO.bind ?_ (fun _ => ?_))
   | exact corrieref04_May.mono _ _ _ _ _ _
   | exact LeO.none _
   | refine LeO.ite ?_ ?_
   | refine LeO.bind ?_ (fun _ => ?_)
set_option maxHeartbeats 8000000 in
set_option maxRecDepth 100000 in
theorem corrieref04_Ops.calls (k : Nat) (a0_0 : Int) (a0_1 : Int) (a0_2 : Int) (a0_3 : Int) (a0_4 : Int) (r : Int) (w : World) (h : corrieref04_Ops.f k a0_0 a0_1 a0_2 a0_3 a0_4 = some r) :
  Calls Try.prog 13 #[.agg #[.int .i64 a0_0, .int .i64 a0_1, .int .i64 a0_2, .int .i64 a0_3, .int .i64 a0_4]] w fun e w' => e = .returned (.int .i64 r) ∧ Below w.heap.size w w' := by
 have hu23 := Try.underlying23
 have HB := Aside0.mk (Below.refl w.heap.size w)
 have H : ((corrieref04_May.f k a0_0 a0_1 a0_2 a0_3 a0_4).bind fun t129 => (if t129 = 0 then (some (wrap64 (a0_0 * a0_4))) else (some 0))) = some r := h
 clear h
 replace H := Option.bind_eq_some_iff.mp H
 obtain ⟨t129, A20, H⟩ := H
 replace H : (if t129 = 0 then (some (wrap64 (a0_0 * a0_4))) else (some 0)) = some r := H
 have A2 := Aside0.mk A20
 clear A20
 by_cases c3 : t129 = 0
 ·rw [if_pos c3] at H
  have c3b0 : (t129 == 0) = true := beq_iff_eq.mpr c3
  have c3b1 : (t129 != 0) = false := bne_eq_false_iff_eq.mpr c3
  clear c3
  obtain rfl := Option.some.inj H
  go_enter Try.func13, Try.ntmps13
  go_wp2_with (first | ((with_reducible refine gate_dst (N := 1) rfl ?_); refine box_event ?hg (N := 1) ?hd (cs := #[.int .i64 a0_0, .int .i64 a0_1, .int .i64 a0_2, .int .i64 a0_3, .int .i64 a0_4]) (t := 23) ?hr ?_; (case hd => rfl); (case hg => rfl); (case hr => first | (go_simp; done) | (go_simp; rfl)); intro gb128 hg w4 hbox hb; have n0_ := Aside0.mk (below_step (by repeat (first | (with_reducible first | exact HB.out | apply below_alloc | apply pw_below_drewN | apply below_drew1) | exact HB.out)) hb); have n1_ := Aside0.mk (hbox); have n2_ := Aside0.mk ((by rw [hg]; exact (below_size (by repeat (first | (with_reducible first | exact HB.out | apply below_alloc | apply pw_below_drewN | apply below_drew1) | exact HB.out))) : w.heap.size ≤ gb128)); have n3_ := Aside0.mk ((by rw [hg]; exact (below_size (by repeat (first | (with_reducible first | exact HB.out | apply below_alloc | apply pw_below_drewN | apply below_drew1) | exact HB.out))) : w.heap.size ≤ gb128)); clear HB; have HB := n0_; have BK128 := n1_; have GW128 := n2_; have GE128 := n3_; clear n0_ n1_ n2_ n3_; clear hb hbox hg; have hcz5_0 : w4.cell? ⟨gb128, 0, none⟩ = some (.int .i64 a0_0) := (blk_cell BK128.out 0).trans rfl; have hcz5_1 : w4.cell? ⟨gb128, 1, none⟩ = some (.int .i64 a0_1) := (blk_cell BK128.out 1).trans rfl; have hcz5_2 : w4.cell? ⟨gb128, 2, none⟩ = some (.int .i64 a0_2) := (blk_cell BK128.out 2).trans rfl; have hcz5_3 : w4.cell? ⟨gb128, 3, none⟩ = some (.int .i64 a0_3) := (blk_cell BK128.out 3).trans rfl; have hcz5_4 : w4.cell? ⟨gb128, 4, none⟩ = some (.int .i64 a0_4) := (blk_cell BK128.out 4).trans rfl; have hfz5_0 := blk_frozen BK128.out 0; have hfz5_1 := blk_frozen BK128.out 1; have hfz5_2 := blk_frozen BK128.out 2; have hfz5_3 := blk_frozen BK128.out 3; have hfz5_4 := blk_frozen BK128.out 4) | ((with_reducible refine gate_callee (f := 31) rfl ?_); refine goesL_ (some 4) rfl rfl Try.func31 (by kernel_rfl) rfl #[.agg #[.int .i64 a0_0, .int .i64 a0_1, .int .i64 a0_2, .int .i64 a0_3, .int .i64 a0_4]] rfl (by (try simp only [List.map_toArray, List.map_cons, List.map_nil]); first | done | rfl | (simp only [List.length_drop, List.length_take]; rfl)) ?_; (with_reducible refine (corrieref04_May.calls k a0_0 a0_1 a0_2 a0_3 a0_4 t129 _ A2.out).mono ?_); rintro e w6 ⟨rfl, hb⟩; refine ⟨_, rfl, ?_⟩; have n0_ := Aside0.mk (blk_below (g := gb128) (o := .cells #[.int .i64 a0_0, .int .i64 a0_1, .int .i64 a0_2, .int .i64 a0_3, .int .i64 a0_4] 23 (0, 0)) (by (with_reducible repeat (first | refine blk_drewN ?_ _ | refine blk_drew ?_ | refine blk_alloc ?_ _)); exact BK128.out) hb); have n1_ := Aside0.mk (below_step (by repeat (first | (with_reducible first | exact HB.out | apply below_alloc | apply pw_below_drewN | apply below_drew1 | refine below_set ?_ GE128.out) | exact HB.out)) hb); clear BK128; clear HB; have BK128 := n0_; have HB := n1_; clear n0_ n1_; (try clear hb); (try clear hb2); (try clear hk); (try clear hi); have hcz7_0 : w6.cell? ⟨gb128, 0, none⟩ = some (.int .i64 a0_0) := (blk_cell BK128.out 0).trans rfl; have hcz7_1 : w6.cell? ⟨gb128, 1, none⟩ = some (.int .i64 a0_1) := (blk_cell BK128.out 1).trans rfl; have hcz7_2 : w6.cell? ⟨gb128, 2, none⟩ = some (.int .i64 a0_2) := (blk_cell BK128.out 2).trans rfl; have hcz7_3 : w6.cell? ⟨gb128, 3, none⟩ = some (.int .i64 a0_3) := (blk_cell BK128.out 3).trans rfl; have hcz7_4 : w6.cell? ⟨gb128, 4, none⟩ = some (.int .i64 a0_4) := (blk_cell BK128.out 4).trans rfl; have hfz7_0 := blk_frozen BK128.out 0; have hfz7_1 := blk_frozen BK128.out 1; have hfz7_2 := blk_frozen BK128.out 2; have hfz7_3 := blk_frozen BK128.out 3; have hfz7_4 := blk_frozen BK128.out 4))
  go_ret
  exact ⟨by first | rfl | (simp [errW_none, errW_some] <;> rfl) | (simp [*, errW_none, errW_some] <;> rfl), by repeat (first | (with_reducible first | exact HB.out | apply below_alloc | apply pw_below_drewN | apply below_drew1 | refine below_set ?_ GE128.out) | exact HB.out)⟩
 ·rw [if_neg c3] at H
  have c3b0 : (t129 == 0) = false := beq_eq_false_iff_ne.mpr c3
  have c3b1 : (t129 != 0) = true := bne_iff_ne.mpr c3
  obtain rfl := Option.some.inj H
  go_enter Try.func13, Try.ntmps13
  go_wp2_with (first | ((with_reducible refine gate_dst (N := 1) rfl ?_); refine box_event ?hg (N := 1) ?hd (cs := #[.int .i64 a0_0, .int .i64 a0_1, .int .i64 a0_2, .int .i64 a0_3, .int .i64 a0_4]) (t := 23) ?hr ?_; (case hd => rfl); (case hg => rfl); (case hr => first | (go_simp; done) | (go_simp; rfl)); intro gb128 hg w8 hbox hb; have n0_ := Aside0.mk (below_step (by repeat (first | (with_reducible first | exact HB.out | apply below_alloc | apply pw_below_drewN | apply below_drew1) | exact HB.out)) hb); have n1_ := Aside0.mk (hbox); have n2_ := Aside0.mk ((by rw [hg]; exact (below_size (by repeat (first | (with_reducible first | exact HB.out | apply below_alloc | apply pw_below_drewN | apply below_drew1) | exact HB.out))) : w.heap.size ≤ gb128)); have n3_ := Aside0.mk ((by rw [hg]; exact (below_size (by repeat (first | (with_reducible first | exact HB.out | apply below_alloc | apply pw_below_drewN | apply below_drew1) | exact HB.out))) : w.heap.size ≤ gb128)); clear HB; have HB := n0_; have BK128 := n1_; have GW128 := n2_; have GE128 := n3_; clear n0_ n1_ n2_ n3_; clear hb hbox hg; have hcz9_0 : w8.cell? ⟨gb128, 0, none⟩ = some (.int .i64 a0_0) := (blk_cell BK128.out 0).trans rfl; have hcz9_1 : w8.cell? ⟨gb128, 1, none⟩ = some (.int .i64 a0_1) := (blk_cell BK128.out 1).trans rfl; have hcz9_2 : w8.cell? ⟨gb128, 2, none⟩ = some (.int .i64 a0_2) := (blk_cell BK128.out 2).trans rfl; have hcz9_3 : w8.cell? ⟨gb128, 3, none⟩ = some (.int .i64 a0_3) := (blk_cell BK128.out 3).trans rfl; have hcz9_4 : w8.cell? ⟨gb128, 4, none⟩ = some (.int .i64 a0_4) := (blk_cell BK128.out 4).trans rfl; have hfz9_0 := blk_frozen BK128.out 0; have hfz9_1 := blk_frozen BK128.out 1; have hfz9_2 := blk_frozen BK128.out 2; have hfz9_3 := blk_frozen BK128.out 3; have hfz9_4 := blk_frozen BK128.out 4) | ((with_reducible refine gate_callee (f := 31) rfl ?_); refine goesL_ (some 4) rfl rfl Try.func31 (by kernel_rfl) rfl #[.agg #[.int .i64 a0_0, .int .i64 a0_1, .int .i64 a0_2, .int .i64 a0_3, .int .i64 a0_4]] rfl (by (try simp only [List.map_toArray, List.map_cons, List.map_nil]); first | done | rfl | (simp only [List.length_drop, List.length_take]; rfl)) ?_; (with_reducible refine (corrieref04_May.calls k a0_0 a0_1 a0_2 a0_3 a0_4 t129 _ A2.out).mono ?_); rintro e w10 ⟨rfl, hb⟩; refine ⟨_, rfl, ?_⟩; have n0_ := Aside0.mk (blk_below (g := gb128) (o := .cells #[.int .i64 a0_0, .int .i64 a0_1, .int .i64 a0_2, .int .i64 a0_3, .int .i64 a0_4] 23 (0, 0)) (by (with_reducible repeat (first | refine blk_drewN ?_ _ | refine blk_drew ?_ | refine blk_alloc ?_ _)); exact BK128.out) hb); have n1_ := Aside0.mk (below_step (by repeat (first | (with_reducible first | exact HB.out | apply below_alloc | apply pw_below_drewN | apply below_drew1 | refine below_set ?_ GE128.out) | exact HB.out)) hb); clear BK128; clear HB; have BK128 := n0_; have HB := n1_; clear n0_ n1_; (try clear hb); (try clear hb2); (try clear hk); (try clear hi)))
  go_ret
  exact ⟨by first | rfl | (simp [errW_none, errW_some] <;> rfl) | (simp [*, errW_none, errW_some] <;> rfl), by repeat (first | (with_reducible first | exact HB.out | apply below_alloc | apply pw_below_drewN | apply below_drew1 | refine below_set ?_ GE128.out) | exact HB.out)⟩

theorem rops_eq (k : Nat) (t b i f c : Int) : corrieref04_Ops.f (k + 1) t b i f c = some (if Ok t b i f c then t * c else 0) := by
 unfold corrieref04_Ops.f
 rw [rmay_eq]
 simp only [Option.bind_some]
 by_cases h : Ok t b i f c
 ·simp only [if_pos h]
  have hm := mul_le h.1.1 h.1.2 h.2.2.2.2.1 h.2.2.2.2.2
  rw [if_pos trivial, wrap64_eq (by omega) (by omega)]
 ·simp only [if_neg h]
  rw [if_neg (by decide)]

end Go.Proofs.Ytpcmoclohepdiag.PWorldActs
