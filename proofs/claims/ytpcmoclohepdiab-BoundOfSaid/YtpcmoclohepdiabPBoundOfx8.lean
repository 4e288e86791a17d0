-- Written by a program of this session: a variant of the print that takes proofs by hand (wip/tools/mkprint.py)
import Derived.Test.YtpcmoclohepdiabPBoundOfx0
import Derived.Test.YtpcmoclohepdiabPBoundOfx4
import Derived.Test.YtpcmoclohepdiabPBoundOfx5
import Derived.Test.YtpcmoclohepdiabPBoundOfx7
namespace Go.Proofs.Ytpcmoclohepdiab.PBoundOf
open Go.RowKit Go.Proofs.YtpcmoclohepdiabW.PrintWords Go.Proofs.YtpcmoclohepdiabW.PrintLast Go.Proofs.YtpcmoclohepdiabW.PrintMore
attribute [local go_sem] max2_int min2_int max_two min_two max_three min_three max_four min_four   -- for this text's walks alone
set_option linter.unusedVariables false
set_option linter.unusedSimpArgs false

/-! ### corrieref23_Of: function 16 -/
def corrieref23_Of.j0 : Nat → List (S38) → Int → Int → Int → Int → Int → Int → Int → Int → Int → Int → Int → Int → Int → Int → Int → Int → Bool → Int → List (S137) → Option (Int)
  | 0, _, _, _, _, _, _, _, _, _, _, _, _, _, _, _, _, _, _, _, _ => none
  | k + 1, x1, x7, x132000, x132001, x132002, x132003, x132004, x133000, x133001, x133002, x133003, x133004, x133005, x133006, x133007, x133008, x133009, x133010, x133011, x133012 => if x133005 = 4 then ((corrieref19_Inserts.f k x1 x133000 x133001 x133002 x133003 x133004 x133005 x133006 x133007 x133008 x133009 x133010 x133011 x133012).bind fun t134 => ((corrieref23_Scan.f x132000 x132001 x132002 x132003 x132004 x7 t134).bind fun t135 => (some t135))) else ((corrieref19_Inserts.f k x1 x133000 x133001 x133002 x133003 x133004 x133005 x133006 x133007 x133008 x133009 x133010 x133011 x133012).bind fun t136 => ((corrieref23_Point.f x132000 x132001 x132002 x132003 x132004 x7 t136).bind fun t137 => (some t137)))
def corrieref23_Of.f (k : Nat) (a0_0 : Int) (a0_1 : Int) (a0_2 : Int) (a0_3 : Int) (a0_4 : Int) (l1 : List (S38)) (a2_0 : Int) (a2_1 : Int) (a2_2 : Int) (a2_3 : Int) (a2_4 : Int) (a2_5 : Int) (a2_6 : Int) (a2_7 : Int) (a2_8 : Int) (a2_9 : Int) (a2_10 : Bool) (a2_11 : Int) (l2_12 : List (S137)) : Option (Int) := (corrieref19_Size.f k l1 a2_2).bind fun t133 => (if t133 < 0 then (corrieref23_Of.j0 k l1 0 a0_0 a0_1 a0_2 a0_3 a0_4 a2_0 a2_1 a2_2 a2_3 a2_4 a2_5 a2_6 a2_7 a2_8 a2_9 a2_10 a2_11 l2_12) else (corrieref23_Of.j0 k l1 t133 a0_0 a0_1 a0_2 a0_3 a0_4 a2_0 a2_1 a2_2 a2_3 a2_4 a2_5 a2_6 a2_7 a2_8 a2_9 a2_10 a2_11 l2_12))
theorem corrieref23_Of.mono_l : ∀ k, (∀ y0 y1 y2 y3 y4 y5 y6 y7 y8 y9 y10 y11 y12 y13 y14 y15 y16 y17 y18 y19, LeO (corrieref23_Of.j0 k y0 y1 y2 y3 y4 y5 y6 y7 y8 y9 y10 y11 y12 y13 y14 y15 y16 y17 y18 y19) (corrieref23_Of.j0 (k + 1) y0 y1 y2 y3 y4 y5 y6 y7 y8 y9 y10 y11 y12 y13 y14 y15 y16 y17 y18 y19))
  | 0 => fun _ _ _ _ _ _ _ _ _ _ _ _ _ _ _ _ _ _ _ _ r h => by simp [corrieref23_Of.j0] at h
  | k + 1 => by
    have ih0 := corrieref23_Of.mono_l k
    · intro y0 y1 y2 y3 y4 y5 y6 y7 y8 y9 y10 y11 y12 y13 y14 y15 y16 y17 y18 y19
      unfold corrieref23_Of.j0
      repeat' first
      | (with_reducible exact ih0 _ _ _ _ _ _ _ _ _ _ _ _ _ _ _ _ _ _ _ _)
      | (with_reducible exact corrieref19_Inserts.mono _ _ _ _ _ _ _ _ _ _ _ _ _ _ _)
      | (with_reducible exact corrieref19_Size.mono _ _ _)
      | (with_reducible exact LeO.refl _)
      | (with_reducible exact LeO.none _)
      | (with_reducible refine LeO.ite ?_ ?_)
      | (with_reducible refine LeO.bind ?_ (fun _ => ?_))
      | exact ih0 _ _ _ _ _ _ _ _ _ _ _ _ _ _ _ _ _ _ _ _
      | exact corrieref19_Inserts.mono _ _ _ _ _ _ _ _ _ _ _ _ _ _ _
      | exact corrieref19_Size.mono _ _ _
      | exact LeO.none _
      | refine LeO.ite ?_ ?_
      | refine LeO.bind ?_ (fun _ => ?_)
theorem corrieref23_Of.mono : ∀ a0 a1 a2 a3 a4 a5 a6 a7 a8 a9 a10 a11 a12 a13 a14 a15 a16 a17 a18 k, LeO (corrieref23_Of.f k a0 a1 a2 a3 a4 a5 a6 a7 a8 a9 a10 a11 a12 a13 a14 a15 a16 a17 a18) (corrieref23_Of.f (k + 1) a0 a1 a2 a3 a4 a5 a6 a7 a8 a9 a10 a11 a12 a13 a14 a15 a16 a17 a18) := by
  intro a0 a1 a2 a3 a4 a5 a6 a7 a8 a9 a10 a11 a12 a13 a14 a15 a16 a17 a18 k
  have ih0 := corrieref23_Of.mono_l k
  unfold corrieref23_Of.f
  repeat' first
      | (with_reducible exact ih0 _ _ _ _ _ _ _ _ _ _ _ _ _ _ _ _ _ _ _ _)
      | (with_reducible exact corrieref19_Inserts.mono _ _ _ _ _ _ _ _ _ _ _ _ _ _ _)
      | (with_reducible exact corrieref19_Size.mono _ _ _)
      | (with_reducible exact LeO.refl _)
      | (with_reducible exact LeO.none _)
      | (with_reducible refine LeO.ite ?_ ?_)
      | (with_reducible refine LeO.bind ?_ (fun _ => ?_))
      | exact ih0 _ _ _ _ _ _ _ _ _ _ _ _ _ _ _ _ _ _ _ _
      | exact corrieref19_Inserts.mono _ _ _ _ _ _ _ _ _ _ _ _ _ _ _
      | exact corrieref19_Size.mono _ _ _
      | exact LeO.none _
      | refine LeO.ite ?_ ?_
      | refine LeO.bind ?_ (fun _ => ?_)
set_option maxHeartbeats 8000000 in
set_option maxRecDepth 100000 in
theorem corrieref23_Of.calls (k : Nat) (a0_0 : Int) (a0_1 : Int) (a0_2 : Int) (a0_3 : Int) (a0_4 : Int) (A1 : Option Addr) (c1 : Nat) (l1 : List (S38)) (a2_0 : Int) (a2_1 : Int) (a2_2 : Int) (a2_3 : Int) (a2_4 : Int) (a2_5 : Int) (a2_6 : Int) (a2_7 : Int) (a2_8 : Int) (a2_9 : Int) (a2_10 : Bool) (a2_11 : Int) (A2_12 : Option Addr) (c2_12 : Nat) (l2_12 : List (S137)) (r : Int) (w : World) (hr1 : Kd.C k38 w A1 l1.length l1) (hc1 : l1.length ≤ c1) (hr2_12 : Kd.C k137 w A2_12 l2_12.length l2_12) (hc2_12 : l2_12.length ≤ c2_12) (h : corrieref23_Of.f k a0_0 a0_1 a0_2 a0_3 a0_4 l1 a2_0 a2_1 a2_2 a2_3 a2_4 a2_5 a2_6 a2_7 a2_8 a2_9 a2_10 a2_11 l2_12 = some r) :
    Calls Try.prog 16 #[.agg #[.int .i64 a0_0, .int .i64 a0_1, .int .i64 a0_2, .int .i64 a0_3, .int .i64 a0_4], .slice A1 l1.length c1, .agg #[.int .i64 a2_0, .int .i64 a2_1, .int .i64 a2_2, .int .i64 a2_3, .int .i64 a2_4, .int .i64 a2_5, .int .u64 a2_6, .int .u64 a2_7, .int .i64 a2_8, .int .i64 a2_9, .bool a2_10, .int .u64 a2_11, .slice A2_12 l2_12.length c2_12]] w fun e w' => e = .returned (.int .i64 r) ∧ Below w.heap.size w w' := by
  have hu23 := Try.underlying23
  have hu38 := Try.underlying38
  have HR1 := Aside0.mk hr1
  have HC1 := Aside0.mk hc1
  clear hr1 hc1
  have HR2_12 := Aside0.mk hr2_12
  have HC2_12 := Aside0.mk hc2_12
  clear hr2_12 hc2_12
  have HB := Aside0.mk (Below.refl w.heap.size w)
  have H : ((corrieref19_Size.f k l1 a2_2).bind fun t133 => (if t133 < 0 then (corrieref23_Of.j0 k l1 0 a0_0 a0_1 a0_2 a0_3 a0_4 a2_0 a2_1 a2_2 a2_3 a2_4 a2_5 a2_6 a2_7 a2_8 a2_9 a2_10 a2_11 l2_12) else (corrieref23_Of.j0 k l1 t133 a0_0 a0_1 a0_2 a0_3 a0_4 a2_0 a2_1 a2_2 a2_3 a2_4 a2_5 a2_6 a2_7 a2_8 a2_9 a2_10 a2_11 l2_12))) = some r := h
  clear h
  replace H := Option.bind_eq_some_iff.mp H
  obtain ⟨t133, A40, H⟩ := H
  replace H : (if t133 < 0 then (corrieref23_Of.j0 k l1 0 a0_0 a0_1 a0_2 a0_3 a0_4 a2_0 a2_1 a2_2 a2_3 a2_4 a2_5 a2_6 a2_7 a2_8 a2_9 a2_10 a2_11 l2_12) else (corrieref23_Of.j0 k l1 t133 a0_0 a0_1 a0_2 a0_3 a0_4 a2_0 a2_1 a2_2 a2_3 a2_4 a2_5 a2_6 a2_7 a2_8 a2_9 a2_10 a2_11 l2_12)) = some r := H
  have A4 := Aside0.mk A40
  clear A40
  have HC5 := Aside0.mk H
  clear H
  go_enter Try.func16, Try.ntmps16
  go_upto_if 13 with (first | ((with_reducible refine gate_dst (N := 3) rfl ?_); refine box_event ?hg (N := 3) ?hd (cs := #[.int .i64 a0_0, .int .i64 a0_1, .int .i64 a0_2, .int .i64 a0_3, .int .i64 a0_4]) (t := 23) ?hr ?_; (case hd => rfl); (case hg => rfl); (case hr => first | (go_simp; done) | (go_simp; rfl)); intro gb131 hg w6 hbox hb; have n0_ := Aside0.mk (below_step (by repeat (first | (with_reducible first | exact HB.out | apply below_alloc | apply pw_below_drewN | apply below_drew1) | exact HB.out)) hb); have n1_ := Aside0.mk (hbox); have n2_ := Aside0.mk ((by rw [hg]; exact (below_size (by repeat (first | (with_reducible first | exact HB.out | apply below_alloc | apply pw_below_drewN | apply below_drew1) | exact HB.out))) : w.heap.size ≤ gb131)); have n3_ := Aside0.mk ((by rw [hg]; exact (below_size (by repeat (first | (with_reducible first | exact HB.out | apply below_alloc | apply pw_below_drewN | apply below_drew1) | exact HB.out))) : w.heap.size ≤ gb131)); clear HB; have HB := n0_; have BK131 := n1_; have GW131 := n2_; have GE131 := n3_; clear n0_ n1_ n2_ n3_; clear hb hbox hg) | ((with_reducible refine gate_dst (N := 5) rfl ?_); refine box_event ?hg (N := 5) ?hd (cs := #[.int .i64 a2_0, .int .i64 a2_1, .int .i64 a2_2, .int .i64 a2_3, .int .i64 a2_4, .int .i64 a2_5, .int .u64 a2_6, .int .u64 a2_7, .int .i64 a2_8, .int .i64 a2_9, .bool a2_10, .int .u64 a2_11, .slice A2_12 l2_12.length c2_12]) (t := 38) ?hr ?_; (case hd => rfl); (case hg => rfl); (case hr => first | (go_simp; done) | (go_simp; rfl)); intro gb132 hg w7 hbox hb; have n0_ := Aside0.mk (blk_below (g := gb131) (o := .cells #[.int .i64 a0_0, .int .i64 a0_1, .int .i64 a0_2, .int .i64 a0_3, .int .i64 a0_4] 23 (0, 0)) (by (with_reducible repeat (first | refine blk_drewN ?_ _ | refine blk_drew ?_ | refine blk_alloc ?_ _)); exact BK131.out) hb); have n1_ := Aside0.mk (below_step (by repeat (first | (with_reducible first | exact HB.out | apply below_alloc | apply pw_below_drewN | apply below_drew1 | refine below_set ?_ GE131.out) | exact HB.out)) hb); have n2_ := Aside0.mk (hbox); have n3_ := Aside0.mk ((by rw [hg]; exact (below_size (by repeat (first | (with_reducible first | exact HB.out | apply below_alloc | apply pw_below_drewN | apply below_drew1 | refine below_set ?_ GE131.out) | exact HB.out))) : w.heap.size ≤ gb132)); have n4_ := Aside0.mk ((by rw [hg]; exact (below_size (by repeat (first | (with_reducible first | exact HB.out | apply below_alloc | apply pw_below_drewN | apply below_drew1 | refine below_set ?_ GE131.out) | exact HB.out))) : w.heap.size ≤ gb132)); have n5_ := Aside0.mk ((by rw [hg]; exact Nat.ne_of_lt (blk_lt (g := gb131) (o := .cells #[.int .i64 a0_0, .int .i64 a0_1, .int .i64 a0_2, .int .i64 a0_3, .int .i64 a0_4] 23 (0, 0)) (by (with_reducible repeat (first | refine blk_drewN ?_ _ | refine blk_drew ?_ | refine blk_alloc ?_ _)); exact BK131.out)) : gb131 ≠ gb132)); have n6_ := Aside0.mk ((by rw [hg]; exact Nat.ne_of_gt (blk_lt (g := gb131) (o := .cells #[.int .i64 a0_0, .int .i64 a0_1, .int .i64 a0_2, .int .i64 a0_3, .int .i64 a0_4] 23 (0, 0)) (by (with_reducible repeat (first | refine blk_drewN ?_ _ | refine blk_drew ?_ | refine blk_alloc ?_ _)); exact BK131.out)) : gb132 ≠ gb131)); clear BK131; clear HB; have BK131 := n0_; have HB := n1_; have BK132 := n2_; have GW132 := n3_; have GE132 := n4_; have NB131_132 := n5_; have NB132_131 := n6_; clear n0_ n1_ n2_ n3_ n4_ n5_ n6_; clear hb hbox hg; have hnb8 := NB132_131.out; have hnc8 := NB131_132.out; have hcz9_0 : w7.cell? ⟨gb132, 0, none⟩ = some (.int .i64 a2_0) := (blk_cell BK132.out 0).trans rfl; have hcz9_1 : w7.cell? ⟨gb132, 1, none⟩ = some (.int .i64 a2_1) := (blk_cell BK132.out 1).trans rfl; have hcz9_2 : w7.cell? ⟨gb132, 2, none⟩ = some (.int .i64 a2_2) := (blk_cell BK132.out 2).trans rfl; have hcz9_3 : w7.cell? ⟨gb132, 3, none⟩ = some (.int .i64 a2_3) := (blk_cell BK132.out 3).trans rfl; have hcz9_4 : w7.cell? ⟨gb132, 4, none⟩ = some (.int .i64 a2_4) := (blk_cell BK132.out 4).trans rfl; have hcz9_5 : w7.cell? ⟨gb132, 5, none⟩ = some (.int .i64 a2_5) := (blk_cell BK132.out 5).trans rfl; have hcz9_6 : w7.cell? ⟨gb132, 6, none⟩ = some (.int .u64 a2_6) := (blk_cell BK132.out 6).trans rfl; have hcz9_7 : w7.cell? ⟨gb132, 7, none⟩ = some (.int .u64 a2_7) := (blk_cell BK132.out 7).trans rfl; have hcz9_8 : w7.cell? ⟨gb132, 8, none⟩ = some (.int .i64 a2_8) := (blk_cell BK132.out 8).trans rfl; have hcz9_9 : w7.cell? ⟨gb132, 9, none⟩ = some (.int .i64 a2_9) := (blk_cell BK132.out 9).trans rfl; have hcz9_10 : w7.cell? ⟨gb132, 10, none⟩ = some (.bool a2_10) := (blk_cell BK132.out 10).trans rfl; have hcz9_11 : w7.cell? ⟨gb132, 11, none⟩ = some (.int .u64 a2_11) := (blk_cell BK132.out 11).trans rfl; have hcz9_12 : w7.cell? ⟨gb132, 12, none⟩ = some (.slice A2_12 l2_12.length c2_12) := (blk_cell BK132.out 12).trans rfl; have hfz9_0 := blk_frozen BK132.out 0; have hfz9_1 := blk_frozen BK132.out 1; have hfz9_2 := blk_frozen BK132.out 2; have hfz9_3 := blk_frozen BK132.out 3; have hfz9_4 := blk_frozen BK132.out 4; have hfz9_5 := blk_frozen BK132.out 5; have hfz9_6 := blk_frozen BK132.out 6; have hfz9_7 := blk_frozen BK132.out 7; have hfz9_8 := blk_frozen BK132.out 8; have hfz9_9 := blk_frozen BK132.out 9; have hfz9_10 := blk_frozen BK132.out 10; have hfz9_11 := blk_frozen BK132.out 11; have hfz9_12 := blk_frozen BK132.out 12) | ((with_reducible refine gate_callee (f := 26) rfl ?_); refine goesL_ (some 11) rfl rfl Try.func26 (by kernel_rfl) rfl #[.slice A1 l1.length c1, .int .i64 a2_2] rfl (by (try simp only [List.map_toArray, List.map_cons, List.map_nil]); first | done | rfl | (simp only [List.length_drop, List.length_take]; rfl)) ?_; (with_reducible refine (corrieref19_Size.calls k _ _ l1 a2_2 t133 _ ?side1 ?side2 A4.out).mono ?_); (case side1 => repeat (first | exact (Kd.C_below HR1.out HB.out) | (with_reducible refine Kd.C_alloc ?_ _) | (with_reducible refine Kd.C_drewN ?_ _) | (with_reducible refine Kd.C_drew ?_))); (case side2 => exact HC1.out); rintro e w10 ⟨rfl, hb⟩; refine ⟨_, rfl, ?_⟩; have n0_ := Aside0.mk (blk_below (g := gb131) (o := .cells #[.int .i64 a0_0, .int .i64 a0_1, .int .i64 a0_2, .int .i64 a0_3, .int .i64 a0_4] 23 (0, 0)) (by (with_reducible repeat (first | refine blk_drewN ?_ _ | refine blk_drew ?_ | refine blk_alloc ?_ _)); exact BK131.out) hb); have n1_ := Aside0.mk (blk_below (g := gb132) (o := .cells #[.int .i64 a2_0, .int .i64 a2_1, .int .i64 a2_2, .int .i64 a2_3, .int .i64 a2_4, .int .i64 a2_5, .int .u64 a2_6, .int .u64 a2_7, .int .i64 a2_8, .int .i64 a2_9, .bool a2_10, .int .u64 a2_11, .slice A2_12 l2_12.length c2_12] 38 (0, 0)) (by (with_reducible repeat (first | refine blk_drewN ?_ _ | refine blk_drew ?_ | refine blk_alloc ?_ _)); exact BK132.out) hb); have n2_ := Aside0.mk (below_step (by repeat (first | (with_reducible first | exact HB.out | apply below_alloc | apply pw_below_drewN | apply below_drew1 | refine below_set ?_ GE131.out | refine below_set ?_ GE132.out) | exact HB.out)) hb); clear BK131; clear BK132; clear HB; have BK131 := n0_; have BK132 := n1_; have HB := n2_; clear n0_ n1_ n2_; (try clear hb); (try clear hb2); (try clear hk); (try clear hi)))
  (try simp only [Act.put, List.setIfInBounds_toArray, List.set_cons_zero, List.set_cons_succ])
  go_cut [7] (fun v7 wc => ∃ (kq : Nat) (x7_4 : Int), v7 = .int .i64 x7_4 ∧ Aside0 (corrieref23_Of.j0 kq l1 x7_4 a0_0 a0_1 a0_2 a0_3 a0_4 a2_0 a2_1 a2_2 a2_3 a2_4 a2_5 a2_6 a2_7 a2_8 a2_9 a2_10 a2_11 l2_12 = some r) ∧ Aside0 (kq ≤ k) ∧ Aside0 (wc.heap[gb131]? = some (.cells #[.int .i64 a0_0, .int .i64 a0_1, .int .i64 a0_2, .int .i64 a0_3, .int .i64 a0_4] 23 (0, 0))) ∧ Aside0 (wc.heap[gb132]? = some (.cells #[.int .i64 a2_0, .int .i64 a2_1, .int .i64 a2_2, .int .i64 a2_3, .int .i64 a2_4, .int .i64 a2_5, .int .u64 a2_6, .int .u64 a2_7, .int .i64 a2_8, .int .i64 a2_9, .bool a2_10, .int .u64 a2_11, (.slice A2_12 l2_12.length c2_12)] 38 (0, 0))) ∧ Aside0 (Below w.heap.size w wc))
  case first =>
    have H := HC5.out
    clear HC5
    by_cases c11 : t133 < 0
    · rw [if_pos c11] at H
      have c11b0 : decide (t133 < 0) = true := decide_eq_true c11
      clear c11
      (first | rw [c11b0] | (simp only [i64_w, i32_w]; rw [c11b0]) | skip)
      have H' := Aside0.mk H
      clear H
      go_wp2
      go_meet
      case rel => exact ⟨_, (0), (by first | rfl | (simp; done) | (simp [*]; done)), H', ⟨by first | omega | exact Nat.le_refl _⟩, ⟨by (with_reducible repeat (first | refine blk_drewN ?_ _ | refine blk_drew ?_ | refine blk_alloc ?_ _)); exact BK131.out⟩, ⟨by (with_reducible repeat (first | refine blk_drewN ?_ _ | refine blk_drew ?_ | refine blk_alloc ?_ _)); exact BK132.out⟩, ⟨by repeat (first | (with_reducible first | exact HB.out | apply below_alloc | apply pw_below_drewN | apply below_drew1 | refine below_set ?_ GE131.out | refine below_set ?_ GE132.out) | exact HB.out)⟩⟩
    · rw [if_neg c11] at H
      have c11b0 : decide (t133 < 0) = false := decide_eq_false c11
      clear c11
      (first | rw [c11b0] | (simp only [i64_w, i32_w]; rw [c11b0]) | skip)
      have H' := Aside0.mk H
      clear H
      go_wp2
      go_meet
      case rel => exact ⟨_, (t133), (by first | rfl | (simp; done) | (simp [*]; done)), H', ⟨by first | omega | exact Nat.le_refl _⟩, ⟨by (with_reducible repeat (first | refine blk_drewN ?_ _ | refine blk_drew ?_ | refine blk_alloc ?_ _)); exact BK131.out⟩, ⟨by (with_reducible repeat (first | refine blk_drewN ?_ _ | refine blk_drew ?_ | refine blk_alloc ?_ _)); exact BK132.out⟩, ⟨by repeat (first | (with_reducible first | exact HB.out | apply below_alloc | apply pw_below_drewN | apply below_drew1 | refine below_set ?_ GE131.out | refine below_set ?_ GE132.out) | exact HB.out)⟩⟩
  case rest =>
    clear HC5
    try clear c1
    try clear c2
    try clear p2
    try clear c8
    try clear c11
    try clear c11b0
    try clear hcz9_0
    try clear hcz9_1
    try clear hcz9_10
    try clear hcz9_11
    try clear hcz9_12
    try clear hcz9_2
    try clear hcz9_3
    try clear hcz9_4
    try clear hcz9_5
    try clear hcz9_6
    try clear hcz9_7
    try clear hcz9_8
    try clear hcz9_9
    try clear hfz9_0
    try clear hfz9_1
    try clear hfz9_10
    try clear hfz9_11
    try clear hfz9_12
    try clear hfz9_2
    try clear hfz9_3
    try clear hfz9_4
    try clear hfz9_5
    try clear hfz9_6
    try clear hfz9_7
    try clear hfz9_8
    try clear hfz9_9
    obtain ⟨kq, x7_4, rfl, HA, HJ4, BK131, BK132, HB⟩ := hcut
    cases kq with
    | zero => exact absurd HA.out (by simp [corrieref23_Of.j0])
    | succ kj4 =>
      have H := HA.out
      clear HA
      simp only [corrieref23_Of.j0] at H
      by_cases c12 : a2_5 = 4
      · rw [if_pos c12] at H
        have c12b0 : (a2_5 == 4) = true := beq_iff_eq.mpr c12
        have c12b1 : (a2_5 != 4) = false := bne_eq_false_iff_eq.mpr c12
        clear c12
        replace H := Option.bind_eq_some_iff.mp H
        obtain ⟨t134, A130, H⟩ := H
        replace H : ((corrieref23_Scan.f a0_0 a0_1 a0_2 a0_3 a0_4 x7_4 t134).bind fun t135 => (some t135)) = some r := H
        have A13 := Aside0.mk A130
        clear A130
        replace H := Option.bind_eq_some_iff.mp H
        obtain ⟨t135, A140, H⟩ := H
        replace H : (some t135) = some r := H
        have A14 := Aside0.mk A140
        clear A140
        obtain rfl := Option.some.inj H
        have hnb15 := NB132_131.out
        have hnc15 := NB131_132.out
        have hcz16_0 : wc.cell? ⟨gb132, 0, none⟩ = some (.int .i64 a2_0) := (blk_cell BK132.out 0).trans rfl
        have hcz16_1 : wc.cell? ⟨gb132, 1, none⟩ = some (.int .i64 a2_1) := (blk_cell BK132.out 1).trans rfl
        have hcz16_2 : wc.cell? ⟨gb132, 2, none⟩ = some (.int .i64 a2_2) := (blk_cell BK132.out 2).trans rfl
        have hcz16_3 : wc.cell? ⟨gb132, 3, none⟩ = some (.int .i64 a2_3) := (blk_cell BK132.out 3).trans rfl
        have hcz16_4 : wc.cell? ⟨gb132, 4, none⟩ = some (.int .i64 a2_4) := (blk_cell BK132.out 4).trans rfl
        have hcz16_5 : wc.cell? ⟨gb132, 5, none⟩ = some (.int .i64 a2_5) := (blk_cell BK132.out 5).trans rfl
        have hcz16_6 : wc.cell? ⟨gb132, 6, none⟩ = some (.int .u64 a2_6) := (blk_cell BK132.out 6).trans rfl
        have hcz16_7 : wc.cell? ⟨gb132, 7, none⟩ = some (.int .u64 a2_7) := (blk_cell BK132.out 7).trans rfl
        have hcz16_8 : wc.cell? ⟨gb132, 8, none⟩ = some (.int .i64 a2_8) := (blk_cell BK132.out 8).trans rfl
        have hcz16_9 : wc.cell? ⟨gb132, 9, none⟩ = some (.int .i64 a2_9) := (blk_cell BK132.out 9).trans rfl
        have hcz16_10 : wc.cell? ⟨gb132, 10, none⟩ = some (.bool a2_10) := (blk_cell BK132.out 10).trans rfl
        have hcz16_11 : wc.cell? ⟨gb132, 11, none⟩ = some (.int .u64 a2_11) := (blk_cell BK132.out 11).trans rfl
        have hcz16_12 : wc.cell? ⟨gb132, 12, none⟩ = some (.slice A2_12 l2_12.length c2_12) := (blk_cell BK132.out 12).trans rfl
        have hfz16_0 := blk_frozen BK132.out 0
        have hfz16_1 := blk_frozen BK132.out 1
        have hfz16_2 := blk_frozen BK132.out 2
        have hfz16_3 := blk_frozen BK132.out 3
        have hfz16_4 := blk_frozen BK132.out 4
        have hfz16_5 := blk_frozen BK132.out 5
        have hfz16_6 := blk_frozen BK132.out 6
        have hfz16_7 := blk_frozen BK132.out 7
        have hfz16_8 := blk_frozen BK132.out 8
        have hfz16_9 := blk_frozen BK132.out 9
        have hfz16_10 := blk_frozen BK132.out 10
        have hfz16_11 := blk_frozen BK132.out 11
        have hfz16_12 := blk_frozen BK132.out 12
        try go_wp2
        have n0_ := Aside0.mk (blk_drew BK131.out)
        have n1_ := Aside0.mk (blk_drew BK132.out)
        have n2_ := Aside0.mk (below_drew1 HB.out)
        clear BK131
        clear BK132
        clear HB
        have BK131 := n0_
        have BK132 := n1_
        have HB := n2_
        clear n0_ n1_ n2_
        refine start_ (n := 7) (S := fun w' => w'.cell? ⟨gb131, 0, none⟩ = some (.int .i64 a0_0) ∧ w'.cell? ⟨gb131, 1, none⟩ = some (.int .i64 a0_1) ∧ w'.cell? ⟨gb131, 2, none⟩ = some (.int .i64 a0_2) ∧ w'.cell? ⟨gb131, 3, none⟩ = some (.int .i64 a0_3) ∧ w'.cell? ⟨gb131, 4, none⟩ = some (.int .i64 a0_4) ∧ w'.cell? ⟨gb132, 0, none⟩ = some (.int .i64 a2_0) ∧ w'.cell? ⟨gb132, 1, none⟩ = some (.int .i64 a2_1) ∧ w'.cell? ⟨gb132, 2, none⟩ = some (.int .i64 a2_2) ∧ w'.cell? ⟨gb132, 3, none⟩ = some (.int .i64 a2_3) ∧ w'.cell? ⟨gb132, 4, none⟩ = some (.int .i64 a2_4) ∧ w'.cell? ⟨gb132, 5, none⟩ = some (.int .i64 a2_5) ∧ w'.cell? ⟨gb132, 6, none⟩ = some (.int .u64 a2_6) ∧ w'.cell? ⟨gb132, 7, none⟩ = some (.int .u64 a2_7) ∧ w'.cell? ⟨gb132, 8, none⟩ = some (.int .i64 a2_8) ∧ w'.cell? ⟨gb132, 9, none⟩ = some (.int .i64 a2_9) ∧ w'.cell? ⟨gb132, 10, none⟩ = some (.bool a2_10) ∧ w'.cell? ⟨gb132, 11, none⟩ = some (.int .u64 a2_11) ∧ w'.cell? ⟨gb132, 12, none⟩ = some (.slice A2_12 l2_12.length c2_12)) (ds := []) #[false, false, false, false, false, false, false] (by kernel_rfl) rfl rfl ⟨(blk_cell BK131.out 0).trans rfl, (blk_cell BK131.out 1).trans rfl, (blk_cell BK131.out 2).trans rfl, (blk_cell BK131.out 3).trans rfl, (blk_cell BK131.out 4).trans rfl, (blk_cell BK132.out 0).trans rfl, (blk_cell BK132.out 1).trans rfl, (blk_cell BK132.out 2).trans rfl, (blk_cell BK132.out 3).trans rfl, (blk_cell BK132.out 4).trans rfl, (blk_cell BK132.out 5).trans rfl, (blk_cell BK132.out 6).trans rfl, (blk_cell BK132.out 7).trans rfl, (blk_cell BK132.out 8).trans rfl, (blk_cell BK132.out 9).trans rfl, (blk_cell BK132.out 10).trans rfl, (blk_cell BK132.out 11).trans rfl, (blk_cell BK132.out 12).trans rfl⟩ (fun hHeld => ?_)
        generalize wc.drew = w17 at BK131 BK132 HB hHeld ⊢
        refine pure_ (i := 1) (N := some 19) (v := ?_) (a' := ?_) #[false, true, false, false, false, false, false] rfl rfl (by kernel_rfl) (fun _ _ _ h => h) (Or.inl ⟨by rfl, ?_⟩) ?_ ?_
        rotate_left
        · intro w'
          go_simp
          with_reducible rfl
        rotate_left
        · simp only [Act.put, List.setIfInBounds_toArray, List.set_cons_zero, List.set_cons_succ, i64_w, i32_w]
          rfl
        refine pure_ (i := 2) (N := some 20) (v := ?_) (a' := ?_) #[false, true, true, false, false, false, false] rfl rfl (by kernel_rfl) (fun _ _ _ h => h) (Or.inl ⟨by rfl, ?_⟩) ?_ ?_
        rotate_left
        · intro w'
          go_simp
          with_reducible rfl
        rotate_left
        · simp only [Act.put, List.setIfInBounds_toArray, List.set_cons_zero, List.set_cons_succ, i64_w, i32_w]
          rfl
        refine take_ (i := 0) (N := some 18) (v := ?_) (a' := ?_) #[true, true, true, false, false, false, false] rfl rfl (by kernel_rfl) (fun _ _ _ h => h) (Or.inl ⟨by rfl, ?_⟩) hHeld ?_ ?_
        rotate_left
        · rintro w' ⟨s0, s1, s2, s3, s4, s5, s6, s7, s8, s9, s10, s11, s12, s13, s14, s15, s16, s17⟩
          go_simp
          with_reducible rfl
        rotate_left
        · simp only [Act.put, List.setIfInBounds_toArray, List.set_cons_zero, List.set_cons_succ, i64_w, i32_w]
          rfl
        refine take_ (i := 3) (N := some 21) (v := ?_) (a' := ?_) #[true, true, true, true, false, false, false] rfl rfl (by kernel_rfl) (fun _ _ _ h => h) (Or.inl ⟨by rfl, ?_⟩) hHeld ?_ ?_
        rotate_left
        · rintro w' ⟨s0, s1, s2, s3, s4, s5, s6, s7, s8, s9, s10, s11, s12, s13, s14, s15, s16, s17⟩
          go_simp
          with_reducible rfl
        rotate_left
        · simp only [Act.put, List.setIfInBounds_toArray, List.set_cons_zero, List.set_cons_succ, i64_w, i32_w]
          rfl
        refine one_ (i := 4) (N := some 22) #[true, true, true, true, true, false, false] rfl rfl (by kernel_rfl) (by decide) (fun K hK => ?_)
        refine goes_ Try.func27 (by kernel_rfl) rfl #[.slice A1 l1.length c1, .agg #[.int .i64 a2_0, .int .i64 a2_1, .int .i64 a2_2, .int .i64 a2_3, .int .i64 a2_4, .int .i64 a2_5, .int .u64 a2_6, .int .u64 a2_7, .int .i64 a2_8, .int .i64 a2_9, .bool a2_10, .int .u64 a2_11, .slice A2_12 l2_12.length c2_12]] (by rfl) rfl rfl (by (try simp only [List.map_toArray, List.map_cons, List.map_nil]); first | done | rfl | (simp only [List.length_drop, List.length_take]; rfl)) ?_
        with_reducible refine (corrieref19_Inserts.calls kj4 _ _ l1 a2_0 a2_1 a2_2 a2_3 a2_4 a2_5 a2_6 a2_7 a2_8 a2_9 a2_10 a2_11 _ _ l2_12 t134 _ ?side1 ?side2 ?side3 ?side4 A13.out).mono ?_
        (case side1 => repeat (first | exact (Kd.C_below HR1.out HB.out) | (with_reducible refine Kd.C_alloc ?_ _) | (with_reducible refine Kd.C_drewN ?_ _) | (with_reducible refine Kd.C_drew ?_)))
        (case side2 => exact HC1.out)
        (case side3 => repeat (first | exact (Kd.C_below HR2_12.out HB.out) | (with_reducible refine Kd.C_alloc ?_ _) | (with_reducible refine Kd.C_drewN ?_ _) | (with_reducible refine Kd.C_drew ?_)))
        (case side4 => exact HC2_12.out)
        rintro e w18 ⟨rfl, hb⟩
        refine ⟨_, rfl, ?_⟩
        have n0_ := Aside0.mk (blk_below (g := gb131) (o := .cells #[.int .i64 a0_0, .int .i64 a0_1, .int .i64 a0_2, .int .i64 a0_3, .int .i64 a0_4] 23 (0, 0)) (by (with_reducible repeat (first | refine blk_drewN ?_ _ | refine blk_drew ?_ | refine blk_alloc ?_ _)); exact BK131.out) hb)
        have n1_ := Aside0.mk (blk_below (g := gb132) (o := .cells #[.int .i64 a2_0, .int .i64 a2_1, .int .i64 a2_2, .int .i64 a2_3, .int .i64 a2_4, .int .i64 a2_5, .int .u64 a2_6, .int .u64 a2_7, .int .i64 a2_8, .int .i64 a2_9, .bool a2_10, .int .u64 a2_11, .slice A2_12 l2_12.length c2_12] 38 (0, 0)) (by (with_reducible repeat (first | refine blk_drewN ?_ _ | refine blk_drew ?_ | refine blk_alloc ?_ _)); exact BK132.out) hb)
        have n2_ := Aside0.mk (below_step (by repeat (first | (with_reducible first | exact HB.out | apply below_alloc | apply pw_below_drewN | apply below_drew1 | refine below_set ?_ GE131.out | refine below_set ?_ GE132.out) | exact HB.out)) hb)
        clear BK131
        clear BK132
        clear HB
        have BK131 := n0_
        have BK132 := n1_
        have HB := n2_
        clear n0_ n1_ n2_
        (try clear hb)
        (try clear hb2)
        (try clear hk)
        (try clear hi)
        refine hK.out _ _ ⟨(blk_cell BK131.out 0).trans rfl, (blk_cell BK131.out 1).trans rfl, (blk_cell BK131.out 2).trans rfl, (blk_cell BK131.out 3).trans rfl, (blk_cell BK131.out 4).trans rfl, (blk_cell BK132.out 0).trans rfl, (blk_cell BK132.out 1).trans rfl, (blk_cell BK132.out 2).trans rfl, (blk_cell BK132.out 3).trans rfl, (blk_cell BK132.out 4).trans rfl, (blk_cell BK132.out 5).trans rfl, (blk_cell BK132.out 6).trans rfl, (blk_cell BK132.out 7).trans rfl, (blk_cell BK132.out 8).trans rfl, (blk_cell BK132.out 9).trans rfl, (blk_cell BK132.out 10).trans rfl, (blk_cell BK132.out 11).trans rfl, (blk_cell BK132.out 12).trans rfl⟩ (fun hHeld => ?_)
        clear hK K
        refine norm_ (a' := ?_) ?_ ?_
        rotate_left
        · show Act.put _ (some 22) _ = _
          simp only [Act.put, List.setIfInBounds_toArray, List.set_cons_zero, List.set_cons_succ, i64_w, i32_w]
          rfl
        refine one_ (i := 5) (N := some 23) #[true, true, true, true, true, true, false] rfl rfl (by kernel_rfl) (by decide) (fun K hK => ?_)
        refine goes_ Try.func13 (by kernel_rfl) rfl #[.agg #[.int .i64 a0_0, .int .i64 a0_1, .int .i64 a0_2, .int .i64 a0_3, .int .i64 a0_4], .int .i64 x7_4, .int .i64 t134] (by rfl) rfl rfl (by (try simp only [List.map_toArray, List.map_cons, List.map_nil]); first | done | rfl | (simp only [List.length_drop, List.length_take]; rfl)) ?_
        with_reducible refine (corrieref23_Scan.calls a0_0 a0_1 a0_2 a0_3 a0_4 x7_4 t134 t135 _ A14.out).mono ?_
        rintro e w19 ⟨rfl, hb⟩
        refine ⟨_, rfl, ?_⟩
        have n0_ := Aside0.mk (blk_below (g := gb131) (o := .cells #[.int .i64 a0_0, .int .i64 a0_1, .int .i64 a0_2, .int .i64 a0_3, .int .i64 a0_4] 23 (0, 0)) (by (with_reducible repeat (first | refine blk_drewN ?_ _ | refine blk_drew ?_ | refine blk_alloc ?_ _)); exact BK131.out) hb)
        have n1_ := Aside0.mk (blk_below (g := gb132) (o := .cells #[.int .i64 a2_0, .int .i64 a2_1, .int .i64 a2_2, .int .i64 a2_3, .int .i64 a2_4, .int .i64 a2_5, .int .u64 a2_6, .int .u64 a2_7, .int .i64 a2_8, .int .i64 a2_9, .bool a2_10, .int .u64 a2_11, .slice A2_12 l2_12.length c2_12] 38 (0, 0)) (by (with_reducible repeat (first | refine blk_drewN ?_ _ | refine blk_drew ?_ | refine blk_alloc ?_ _)); exact BK132.out) hb)
        have n2_ := Aside0.mk (below_step (by repeat (first | (with_reducible first | exact HB.out | apply below_alloc | apply pw_below_drewN | apply below_drew1 | refine below_set ?_ GE131.out | refine below_set ?_ GE132.out) | exact HB.out)) hb)
        clear BK131
        clear BK132
        clear HB
        have BK131 := n0_
        have BK132 := n1_
        have HB := n2_
        clear n0_ n1_ n2_
        (try clear hb)
        (try clear hb2)
        (try clear hk)
        (try clear hi)
        refine hK.out _ _ ⟨(blk_cell BK131.out 0).trans rfl, (blk_cell BK131.out 1).trans rfl, (blk_cell BK131.out 2).trans rfl, (blk_cell BK131.out 3).trans rfl, (blk_cell BK131.out 4).trans rfl, (blk_cell BK132.out 0).trans rfl, (blk_cell BK132.out 1).trans rfl, (blk_cell BK132.out 2).trans rfl, (blk_cell BK132.out 3).trans rfl, (blk_cell BK132.out 4).trans rfl, (blk_cell BK132.out 5).trans rfl, (blk_cell BK132.out 6).trans rfl, (blk_cell BK132.out 7).trans rfl, (blk_cell BK132.out 8).trans rfl, (blk_cell BK132.out 9).trans rfl, (blk_cell BK132.out 10).trans rfl, (blk_cell BK132.out 11).trans rfl, (blk_cell BK132.out 12).trans rfl⟩ (fun hHeld => ?_)
        clear hK K
        refine norm_ (a' := ?_) ?_ ?_
        rotate_left
        · show Act.put _ (some 23) _ = _
          simp only [Act.put, List.setIfInBounds_toArray, List.set_cons_zero, List.set_cons_succ, i64_w, i32_w]
          rfl
        refine pure_ (i := 6) (N := some 6) (v := ?_) (a' := ?_) #[true, true, true, true, true, true, true] rfl rfl (by kernel_rfl) (fun _ _ _ h => h) (Or.inl ⟨by rfl, ?_⟩) ?_ ?_
        rotate_left
        · intro w'
          go_simp
          with_reducible rfl
        rotate_left
        · simp only [Act.put, List.setIfInBounds_toArray, List.set_cons_zero, List.set_cons_succ, i64_w, i32_w]
          rfl
        refine done_ (by kernel_rfl) ?_
        try go_wp2
        go_ret
        exact ⟨by first | rfl | (simp [errW_none, errW_some] <;> rfl) | (simp [*, errW_none, errW_some] <;> rfl), by repeat (first | (with_reducible first | exact HB.out | apply below_alloc | apply pw_below_drewN | apply below_drew1 | refine below_set ?_ GE131.out | refine below_set ?_ GE132.out) | exact HB.out)⟩
      · rw [if_neg c12] at H
        have c12b0 : (a2_5 == 4) = false := beq_eq_false_iff_ne.mpr c12
        have c12b1 : (a2_5 != 4) = true := bne_iff_ne.mpr c12
        replace H := Option.bind_eq_some_iff.mp H
        obtain ⟨t136, A200, H⟩ := H
        replace H : ((corrieref23_Point.f a0_0 a0_1 a0_2 a0_3 a0_4 x7_4 t136).bind fun t137 => (some t137)) = some r := H
        have A20 := Aside0.mk A200
        clear A200
        replace H := Option.bind_eq_some_iff.mp H
        obtain ⟨t137, A210, H⟩ := H
        replace H : (some t137) = some r := H
        have A21 := Aside0.mk A210
        clear A210
        obtain rfl := Option.some.inj H
        have hnb22 := NB132_131.out
        have hnc22 := NB131_132.out
        have hcz23_0 : wc.cell? ⟨gb132, 0, none⟩ = some (.int .i64 a2_0) := (blk_cell BK132.out 0).trans rfl
        have hcz23_1 : wc.cell? ⟨gb132, 1, none⟩ = some (.int .i64 a2_1) := (blk_cell BK132.out 1).trans rfl
        have hcz23_2 : wc.cell? ⟨gb132, 2, none⟩ = some (.int .i64 a2_2) := (blk_cell BK132.out 2).trans rfl
        have hcz23_3 : wc.cell? ⟨gb132, 3, none⟩ = some (.int .i64 a2_3) := (blk_cell BK132.out 3).trans rfl
        have hcz23_4 : wc.cell? ⟨gb132, 4, none⟩ = some (.int .i64 a2_4) := (blk_cell BK132.out 4).trans rfl
        have hcz23_5 : wc.cell? ⟨gb132, 5, none⟩ = some (.int .i64 a2_5) := (blk_cell BK132.out 5).trans rfl
        have hcz23_6 : wc.cell? ⟨gb132, 6, none⟩ = some (.int .u64 a2_6) := (blk_cell BK132.out 6).trans rfl
        have hcz23_7 : wc.cell? ⟨gb132, 7, none⟩ = some (.int .u64 a2_7) := (blk_cell BK132.out 7).trans rfl
        have hcz23_8 : wc.cell? ⟨gb132, 8, none⟩ = some (.int .i64 a2_8) := (blk_cell BK132.out 8).trans rfl
        have hcz23_9 : wc.cell? ⟨gb132, 9, none⟩ = some (.int .i64 a2_9) := (blk_cell BK132.out 9).trans rfl
        have hcz23_10 : wc.cell? ⟨gb132, 10, none⟩ = some (.bool a2_10) := (blk_cell BK132.out 10).trans rfl
        have hcz23_11 : wc.cell? ⟨gb132, 11, none⟩ = some (.int .u64 a2_11) := (blk_cell BK132.out 11).trans rfl
        have hcz23_12 : wc.cell? ⟨gb132, 12, none⟩ = some (.slice A2_12 l2_12.length c2_12) := (blk_cell BK132.out 12).trans rfl
        have hfz23_0 := blk_frozen BK132.out 0
        have hfz23_1 := blk_frozen BK132.out 1
        have hfz23_2 := blk_frozen BK132.out 2
        have hfz23_3 := blk_frozen BK132.out 3
        have hfz23_4 := blk_frozen BK132.out 4
        have hfz23_5 := blk_frozen BK132.out 5
        have hfz23_6 := blk_frozen BK132.out 6
        have hfz23_7 := blk_frozen BK132.out 7
        have hfz23_8 := blk_frozen BK132.out 8
        have hfz23_9 := blk_frozen BK132.out 9
        have hfz23_10 := blk_frozen BK132.out 10
        have hfz23_11 := blk_frozen BK132.out 11
        have hfz23_12 := blk_frozen BK132.out 12
        try go_wp2
        have n0_ := Aside0.mk (blk_drew BK131.out)
        have n1_ := Aside0.mk (blk_drew BK132.out)
        have n2_ := Aside0.mk (below_drew1 HB.out)
        clear BK131
        clear BK132
        clear HB
        have BK131 := n0_
        have BK132 := n1_
        have HB := n2_
        clear n0_ n1_ n2_
        refine start_ (n := 7) (S := fun w' => w'.cell? ⟨gb131, 0, none⟩ = some (.int .i64 a0_0) ∧ w'.cell? ⟨gb131, 1, none⟩ = some (.int .i64 a0_1) ∧ w'.cell? ⟨gb131, 2, none⟩ = some (.int .i64 a0_2) ∧ w'.cell? ⟨gb131, 3, none⟩ = some (.int .i64 a0_3) ∧ w'.cell? ⟨gb131, 4, none⟩ = some (.int .i64 a0_4) ∧ w'.cell? ⟨gb132, 0, none⟩ = some (.int .i64 a2_0) ∧ w'.cell? ⟨gb132, 1, none⟩ = some (.int .i64 a2_1) ∧ w'.cell? ⟨gb132, 2, none⟩ = some (.int .i64 a2_2) ∧ w'.cell? ⟨gb132, 3, none⟩ = some (.int .i64 a2_3) ∧ w'.cell? ⟨gb132, 4, none⟩ = some (.int .i64 a2_4) ∧ w'.cell? ⟨gb132, 5, none⟩ = some (.int .i64 a2_5) ∧ w'.cell? ⟨gb132, 6, none⟩ = some (.int .u64 a2_6) ∧ w'.cell? ⟨gb132, 7, none⟩ = some (.int .u64 a2_7) ∧ w'.cell? ⟨gb132, 8, none⟩ = some (.int .i64 a2_8) ∧ w'.cell? ⟨gb132, 9, none⟩ = some (.int .i64 a2_9) ∧ w'.cell? ⟨gb132, 10, none⟩ = some (.bool a2_10) ∧ w'.cell? ⟨gb132, 11, none⟩ = some (.int .u64 a2_11) ∧ w'.cell? ⟨gb132, 12, none⟩ = some (.slice A2_12 l2_12.length c2_12)) (ds := []) #[false, false, false, false, false, false, false] (by kernel_rfl) rfl rfl ⟨(blk_cell BK131.out 0).trans rfl, (blk_cell BK131.out 1).trans rfl, (blk_cell BK131.out 2).trans rfl, (blk_cell BK131.out 3).trans rfl, (blk_cell BK131.out 4).trans rfl, (blk_cell BK132.out 0).trans rfl, (blk_cell BK132.out 1).trans rfl, (blk_cell BK132.out 2).trans rfl, (blk_cell BK132.out 3).trans rfl, (blk_cell BK132.out 4).trans rfl, (blk_cell BK132.out 5).trans rfl, (blk_cell BK132.out 6).trans rfl, (blk_cell BK132.out 7).trans rfl, (blk_cell BK132.out 8).trans rfl, (blk_cell BK132.out 9).trans rfl, (blk_cell BK132.out 10).trans rfl, (blk_cell BK132.out 11).trans rfl, (blk_cell BK132.out 12).trans rfl⟩ (fun hHeld => ?_)
        generalize wc.drew = w24 at BK131 BK132 HB hHeld ⊢
        refine pure_ (i := 1) (N := some 25) (v := ?_) (a' := ?_) #[false, true, false, false, false, false, false] rfl rfl (by kernel_rfl) (fun _ _ _ h => h) (Or.inl ⟨by rfl, ?_⟩) ?_ ?_
        rotate_left
        · intro w'
          go_simp
          with_reducible rfl
        rotate_left
        · simp only [Act.put, List.setIfInBounds_toArray, List.set_cons_zero, List.set_cons_succ, i64_w, i32_w]
          rfl
        refine pure_ (i := 2) (N := some 26) (v := ?_) (a' := ?_) #[false, true, true, false, false, false, false] rfl rfl (by kernel_rfl) (fun _ _ _ h => h) (Or.inl ⟨by rfl, ?_⟩) ?_ ?_
        rotate_left
        · intro w'
          go_simp
          with_reducible rfl
        rotate_left
        · simp only [Act.put, List.setIfInBounds_toArray, List.set_cons_zero, List.set_cons_succ, i64_w, i32_w]
          rfl
        refine take_ (i := 0) (N := some 24) (v := ?_) (a' := ?_) #[true, true, true, false, false, false, false] rfl rfl (by kernel_rfl) (fun _ _ _ h => h) (Or.inl ⟨by rfl, ?_⟩) hHeld ?_ ?_
        rotate_left
        · rintro w' ⟨s0, s1, s2, s3, s4, s5, s6, s7, s8, s9, s10, s11, s12, s13, s14, s15, s16, s17⟩
          go_simp
          with_reducible rfl
        rotate_left
        · simp only [Act.put, List.setIfInBounds_toArray, List.set_cons_zero, List.set_cons_succ, i64_w, i32_w]
          rfl
        refine take_ (i := 3) (N := some 27) (v := ?_) (a' := ?_) #[true, true, true, true, false, false, false] rfl rfl (by kernel_rfl) (fun _ _ _ h => h) (Or.inl ⟨by rfl, ?_⟩) hHeld ?_ ?_
        rotate_left
        · rintro w' ⟨s0, s1, s2, s3, s4, s5, s6, s7, s8, s9, s10, s11, s12, s13, s14, s15, s16, s17⟩
          go_simp
          with_reducible rfl
        rotate_left
        · simp only [Act.put, List.setIfInBounds_toArray, List.set_cons_zero, List.set_cons_succ, i64_w, i32_w]
          rfl
        refine one_ (i := 4) (N := some 28) #[true, true, true, true, true, false, false] rfl rfl (by kernel_rfl) (by decide) (fun K hK => ?_)
        refine goes_ Try.func27 (by kernel_rfl) rfl #[.slice A1 l1.length c1, .agg #[.int .i64 a2_0, .int .i64 a2_1, .int .i64 a2_2, .int .i64 a2_3, .int .i64 a2_4, .int .i64 a2_5, .int .u64 a2_6, .int .u64 a2_7, .int .i64 a2_8, .int .i64 a2_9, .bool a2_10, .int .u64 a2_11, .slice A2_12 l2_12.length c2_12]] (by rfl) rfl rfl (by (try simp only [List.map_toArray, List.map_cons, List.map_nil]); first | done | rfl | (simp only [List.length_drop, List.length_take]; rfl)) ?_
        with_reducible refine (corrieref19_Inserts.calls kj4 _ _ l1 a2_0 a2_1 a2_2 a2_3 a2_4 a2_5 a2_6 a2_7 a2_8 a2_9 a2_10 a2_11 _ _ l2_12 t136 _ ?side1 ?side2 ?side3 ?side4 A20.out).mono ?_
        (case side1 => repeat (first | exact (Kd.C_below HR1.out HB.out) | (with_reducible refine Kd.C_alloc ?_ _) | (with_reducible refine Kd.C_drewN ?_ _) | (with_reducible refine Kd.C_drew ?_)))
        (case side2 => exact HC1.out)
        (case side3 => repeat (first | exact (Kd.C_below HR2_12.out HB.out) | (with_reducible refine Kd.C_alloc ?_ _) | (with_reducible refine Kd.C_drewN ?_ _) | (with_reducible refine Kd.C_drew ?_)))
        (case side4 => exact HC2_12.out)
        rintro e w25 ⟨rfl, hb⟩
        refine ⟨_, rfl, ?_⟩
        have n0_ := Aside0.mk (blk_below (g := gb131) (o := .cells #[.int .i64 a0_0, .int .i64 a0_1, .int .i64 a0_2, .int .i64 a0_3, .int .i64 a0_4] 23 (0, 0)) (by (with_reducible repeat (first | refine blk_drewN ?_ _ | refine blk_drew ?_ | refine blk_alloc ?_ _)); exact BK131.out) hb)
        have n1_ := Aside0.mk (blk_below (g := gb132) (o := .cells #[.int .i64 a2_0, .int .i64 a2_1, .int .i64 a2_2, .int .i64 a2_3, .int .i64 a2_4, .int .i64 a2_5, .int .u64 a2_6, .int .u64 a2_7, .int .i64 a2_8, .int .i64 a2_9, .bool a2_10, .int .u64 a2_11, .slice A2_12 l2_12.length c2_12] 38 (0, 0)) (by (with_reducible repeat (first | refine blk_drewN ?_ _ | refine blk_drew ?_ | refine blk_alloc ?_ _)); exact BK132.out) hb)
        have n2_ := Aside0.mk (below_step (by repeat (first | (with_reducible first | exact HB.out | apply below_alloc | apply pw_below_drewN | apply below_drew1 | refine below_set ?_ GE131.out | refine below_set ?_ GE132.out) | exact HB.out)) hb)
        clear BK131
        clear BK132
        clear HB
        have BK131 := n0_
        have BK132 := n1_
        have HB := n2_
        clear n0_ n1_ n2_
        (try clear hb)
        (try clear hb2)
        (try clear hk)
        (try clear hi)
        refine hK.out _ _ ⟨(blk_cell BK131.out 0).trans rfl, (blk_cell BK131.out 1).trans rfl, (blk_cell BK131.out 2).trans rfl, (blk_cell BK131.out 3).trans rfl, (blk_cell BK131.out 4).trans rfl, (blk_cell BK132.out 0).trans rfl, (blk_cell BK132.out 1).trans rfl, (blk_cell BK132.out 2).trans rfl, (blk_cell BK132.out 3).trans rfl, (blk_cell BK132.out 4).trans rfl, (blk_cell BK132.out 5).trans rfl, (blk_cell BK132.out 6).trans rfl, (blk_cell BK132.out 7).trans rfl, (blk_cell BK132.out 8).trans rfl, (blk_cell BK132.out 9).trans rfl, (blk_cell BK132.out 10).trans rfl, (blk_cell BK132.out 11).trans rfl, (blk_cell BK132.out 12).trans rfl⟩ (fun hHeld => ?_)
        clear hK K
        refine norm_ (a' := ?_) ?_ ?_
        rotate_left
        · show Act.put _ (some 28) _ = _
          simp only [Act.put, List.setIfInBounds_toArray, List.set_cons_zero, List.set_cons_succ, i64_w, i32_w]
          rfl
        refine one_ (i := 5) (N := some 29) #[true, true, true, true, true, true, false] rfl rfl (by kernel_rfl) (by decide) (fun K hK => ?_)
        refine goes_ Try.func11 (by kernel_rfl) rfl #[.agg #[.int .i64 a0_0, .int .i64 a0_1, .int .i64 a0_2, .int .i64 a0_3, .int .i64 a0_4], .int .i64 x7_4, .int .i64 t136] (by rfl) rfl rfl (by (try simp only [List.map_toArray, List.map_cons, List.map_nil]); first | done | rfl | (simp only [List.length_drop, List.length_take]; rfl)) ?_
        with_reducible refine (corrieref23_Point.calls a0_0 a0_1 a0_2 a0_3 a0_4 x7_4 t136 t137 _ A21.out).mono ?_
        rintro e w26 ⟨rfl, hb⟩
        refine ⟨_, rfl, ?_⟩
        have n0_ := Aside0.mk (blk_below (g := gb131) (o := .cells #[.int .i64 a0_0, .int .i64 a0_1, .int .i64 a0_2, .int .i64 a0_3, .int .i64 a0_4] 23 (0, 0)) (by (with_reducible repeat (first | refine blk_drewN ?_ _ | refine blk_drew ?_ | refine blk_alloc ?_ _)); exact BK131.out) hb)
        have n1_ := Aside0.mk (blk_below (g := gb132) (o := .cells #[.int .i64 a2_0, .int .i64 a2_1, .int .i64 a2_2, .int .i64 a2_3, .int .i64 a2_4, .int .i64 a2_5, .int .u64 a2_6, .int .u64 a2_7, .int .i64 a2_8, .int .i64 a2_9, .bool a2_10, .int .u64 a2_11, .slice A2_12 l2_12.length c2_12] 38 (0, 0)) (by (with_reducible repeat (first | refine blk_drewN ?_ _ | refine blk_drew ?_ | refine blk_alloc ?_ _)); exact BK132.out) hb)
        have n2_ := Aside0.mk (below_step (by repeat (first | (with_reducible first | exact HB.out | apply below_alloc | apply pw_below_drewN | apply below_drew1 | refine below_set ?_ GE131.out | refine below_set ?_ GE132.out) | exact HB.out)) hb)
        clear BK131
        clear BK132
        clear HB
        have BK131 := n0_
        have BK132 := n1_
        have HB := n2_
        clear n0_ n1_ n2_
        (try clear hb)
        (try clear hb2)
        (try clear hk)
        (try clear hi)
        refine hK.out _ _ ⟨(blk_cell BK131.out 0).trans rfl, (blk_cell BK131.out 1).trans rfl, (blk_cell BK131.out 2).trans rfl, (blk_cell BK131.out 3).trans rfl, (blk_cell BK131.out 4).trans rfl, (blk_cell BK132.out 0).trans rfl, (blk_cell BK132.out 1).trans rfl, (blk_cell BK132.out 2).trans rfl, (blk_cell BK132.out 3).trans rfl, (blk_cell BK132.out 4).trans rfl, (blk_cell BK132.out 5).trans rfl, (blk_cell BK132.out 6).trans rfl, (blk_cell BK132.out 7).trans rfl, (blk_cell BK132.out 8).trans rfl, (blk_cell BK132.out 9).trans rfl, (blk_cell BK132.out 10).trans rfl, (blk_cell BK132.out 11).trans rfl, (blk_cell BK132.out 12).trans rfl⟩ (fun hHeld => ?_)
        clear hK K
        refine norm_ (a' := ?_) ?_ ?_
        rotate_left
        · show Act.put _ (some 29) _ = _
          simp only [Act.put, List.setIfInBounds_toArray, List.set_cons_zero, List.set_cons_succ, i64_w, i32_w]
          rfl
        refine pure_ (i := 6) (N := some 6) (v := ?_) (a' := ?_) #[true, true, true, true, true, true, true] rfl rfl (by kernel_rfl) (fun _ _ _ h => h) (Or.inl ⟨by rfl, ?_⟩) ?_ ?_
        rotate_left
        · intro w'
          go_simp
          with_reducible rfl
        rotate_left
        · simp only [Act.put, List.setIfInBounds_toArray, List.set_cons_zero, List.set_cons_succ, i64_w, i32_w]
          rfl
        refine done_ (by kernel_rfl) ?_
        try go_wp2
        go_ret
        exact ⟨by first | rfl | (simp [errW_none, errW_some] <;> rfl) | (simp [*, errW_none, errW_some] <;> rfl), by repeat (first | (with_reducible first | exact HB.out | apply below_alloc | apply pw_below_drewN | apply below_drew1 | refine below_set ?_ GE131.out | refine below_set ?_ GE132.out) | exact HB.out)⟩

end Go.Proofs.Ytpcmoclohepdiab.PBoundOf
