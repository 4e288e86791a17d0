-- Written by a program of this session: a variant of the print that takes proofs by hand (wip/tools/mkprint.py)
import Derived.Test.YtpcmoclohepdiadPHistoryTellsx0
import Derived.Test.YtpcmoclohepdiadPHistoryTellsx5
namespace Go.Proofs.Ytpcmoclohepdiad.PHistoryTells
open Go.RowKit Go.Proofs.YtpcmoclohepdiadW.PrintWords Go.Proofs.YtpcmoclohepdiadW.PrintLast
set_option linter.unusedVariables false
set_option linter.unusedSimpArgs false

/-! ### corrieref19_Inserts: function 18 -/
def corrieref19_Inserts.l0 : Nat → List (S31) → Int → Int → Int → Int → Int → Int → Int → Int → Int → Int → Int → Int → Bool → Int → List (S49) → Option (Int)
 | 0, _, _, _, _, _, _, _, _, _, _, _, _, _, _, _, _ => none
 | k + 1, x0, x5, x6, x118000, x118001, x118002, x118003, x118004, x118005, x118006, x118007, x118008, x118009, x118010, x118011, x118012 => if x6 < (x0.length : Int) then (if 0 ≤ x6 then (if ((rd_T31 x0 x6).f5.f0) = 1 then ((corrieref19_Before.f ((rd_T31 x0 x6).f0) ((rd_T31 x0 x6).f1) ((rd_T31 x0 x6).f2) ((rd_T31 x0 x6).f3) ((rd_T31 x0 x6).f4) ((rd_T31 x0 x6).f5.f0) ((rd_T31 x0 x6).f5.f1) ((rd_T31 x0 x6).f5.f2) ((rd_T31 x0 x6).f5.f3) ((rd_T31 x0 x6).f6.f0) ((rd_T31 x0 x6).f6.f1) ((rd_T31 x0 x6).f6.f2) ((rd_T31 x0 x6).f6.f3) x118000 x118001 x118002 x118003 x118004 x118005 x118006 x118007 x118008 x118009 x118010 x118011 x118012).bind fun t120 => (if t120 = true then (corrieref19_Inserts.l0 k x0 x5 (wrap64 (x6 + 1)) x118000 x118001 x118002 x118003 x118004 x118005 x118006 x118007 x118008 x118009 x118010 x118011 x118012) else ((corrieref19_Before.f x118000 x118001 x118002 x118003 x118004 x118005 x118006 x118007 x118008 x118009 x118010 x118011 x118012 ((rd_T31 x0 x6).f0) ((rd_T31 x0 x6).f1) ((rd_T31 x0 x6).f2) ((rd_T31 x0 x6).f3) ((rd_T31 x0 x6).f4) ((rd_T31 x0 x6).f5.f0) ((rd_T31 x0 x6).f5.f1) ((rd_T31 x0 x6).f5.f2) ((rd_T31 x0 x6).f5.f3) ((rd_T31 x0 x6).f6.f0) ((rd_T31 x0 x6).f6.f1) ((rd_T31 x0 x6).f6.f2) ((rd_T31 x0 x6).f6.f3)).bind fun t122 => (if t122 = true then (corrieref19_Inserts.l0 k x0 x5 (wrap64 (x6 + 1)) x118000 x118001 x118002 x118003 x118004 x118005 x118006 x118007 x118008 x118009 x118010 x118011 x118012) else (corrieref19_Inserts.l0 k x0 (wrap64 (x5 + 1)) (wrap64 (x6 + 1)) x118000 x118001 x118002 x118003 x118004 x118005 x118006 x118007 x118008 x118009 x118010 x118011 x118012))))) else (corrieref19_Inserts.l0 k x0 x5 (wrap64 (x6 + 1)) x118000 x118001 x118002 x118003 x118004 x118005 x118006 x118007 x118008 x118009 x118010 x118011 x118012)) else (none)) else (some x5)
def corrieref19_Inserts.f (k : Nat) (l0 : List (S31)) (a1_0 : Int) (a1_1 : Int) (a1_2 : Int) (a1_3 : Int) (a1_4 : Int) (a1_5 : Int) (a1_6 : Int) (a1_7 : Int) (a1_8 : Int) (a1_9 : Int) (a1_10 : Bool) (a1_11 : Int) (l1_12 : List (S49)) : Option (Int) := corrieref19_Inserts.l0 k l0 0 0 a1_0 a1_1 a1_2 a1_3 a1_4 a1_5 a1_6 a1_7 a1_8 a1_9 a1_10 a1_11 l1_12
theorem corrieref19_Inserts.mono_l : ∀ k, (∀ y0 y1 y2 y3 y4 y5 y6 y7 y8 y9 y10 y11 y12 y13 y14 y15, LeO (corrieref19_Inserts.l0 k y0 y1 y2 y3 y4 y5 y6 y7 y8 y9 y10 y11 y12 y13 y14 y15) (corrieref19_Inserts.l0 (k + 1) y0 y1 y2 y3 y4 y5 y6 y7 y8 y9 y10 y11 y12 y13 y14 y15))
 | 0 => fun _ _ _ _ _ _ _ _ _ _ _ _ _ _ _ _ r h => by simp [corrieref19_Inserts.l0] at h
 | k + 1 => by
  have ih0 := corrieref19_Inserts.mono_l k
  ·intro y0 y1 y2 y3 y4 y5 y6 y7 y8 y9 y10 y11 y12 y13 y14 y15
   unfold corrieref19_Inserts.l0
   repeat' first
   | (with_reducible exact ih0 _ _ _ _ _ _ _ _ _ _ _ _ _ _ _ _)
   | (with_reducible exact LeO.refl _)
   | (with_reducible exact LeO.none _)
   | (with_reducible refine LeO.ite ?_ ?_)
   | (with_reducible refine LeO.bind ?_ (fun _ => ?_))
   | exact ih0 _ _ _ _ _ _ _ _ _ _ _ _ _ _ _ _
   | exact LeO.none _
   | refine LeO.ite ?_ ?_
   | refine LeO.bind ?_ (fun _ => ?_)
theorem corrieref19_Inserts.mono : ∀ a0 a1 a2 a3 a4 a5 a6 a7 a8 a9 a10 a11 a12 a13 k, LeO (corrieref19_Inserts.f k a0 a1 a2 a3 a4 a5 a6 a7 a8 a9 a10 a11 a12 a13) (corrieref19_Inserts.f (k + 1) a0 a1 a2 a3 a4 a5 a6 a7 a8 a9 a10 a11 a12 a13) := by
 intro a0 a1 a2 a3 a4 a5 a6 a7 a8 a9 a10 a11 a12 a13 k
 have ih0 := corrieref19_Inserts.mono_l k
 unfold corrieref19_Inserts.f
 repeat' first
   | (with_reducible exact ih0 _ _ _ _ _ _ _ _ _ _ _ _ _ _ _ _)
   | (with_reducible exact LeO.refl _)
   | (with_reducible exact LeO.none _)
   | (with_reducible refine LeO.ite ?_ ?_)
   | (with_reducible refine LeO.bind ?_ (fun _ => ?_))
   | exact ih0 _ _ _ _ _ _ _ _ _ _ _ _ _ _ _ _
   | exact LeO.none _
   | refine LeO.ite ?_ ?_
   | refine LeO.bind ?_ (fun _ => ?_)
def corrieref19_Inserts.T5 : Bool × List (List Nat × List Nat) := (true, [([], []), ([], []), ([0, 1], [0, 1]), ([2], [2]), ([3], [3]), ([4], [4]), ([5], [5]), ([6], [6]), ([7], [7]), ([7], [7]), ([8, 9, 7], [7, 8, 9]), ([10, 7], [7, 10]), ([7], [7]), ([11, 12, 7, 7], [7, 11, 12]), ([13, 7], [7, 13]), ([7, 14], [7, 14]), ([15, 13], [15]), ([16], [16]), ([16], [16]), ([16], [16]), ([18, 19, 16], [16, 18, 19]), ([20, 16], [16, 20]), ([17, 21, 16, 16], [16, 17, 21]), ([22, 16], [16, 22]), ([16, 23], [16, 23])])
def corrieref19_Inserts.B5 : List Nat := [0, 0, 3, 7, 15, 31, 63, 127, 255, 255, 1023, 2047, 255, 8191, 16383, 32767, 65535, 131071, 131071, 131071, 917503, 1966079, 4194303, 8388607, 16777215]
theorem corrieref19_Inserts.tab5 : rtab .any (opsOf Try.f18 5) = corrieref19_Inserts.T5 := by kernel_rfl
theorem corrieref19_Inserts.bits5 : waitsOk corrieref19_Inserts.T5.2 corrieref19_Inserts.B5 = true := by kernel_rfl
set_option maxHeartbeats 8000000 in
set_option maxRecDepth 100000 in
theorem corrieref19_Inserts.calls (k : Nat) (A0 : Option Addr) (c0 : Nat) (l0 : List (S31)) (a1_0 : Int) (a1_1 : Int) (a1_2 : Int) (a1_3 : Int) (a1_4 : Int) (a1_5 : Int) (a1_6 : Int) (a1_7 : Int) (a1_8 : Int) (a1_9 : Int) (a1_10 : Bool) (a1_11 : Int) (A1_12 : Option Addr) (c1_12 : Nat) (l1_12 : List (S49)) (r : Int) (w : World) (hr0 : Kd.C k31 w A0 l0.length l0) (hc0 : l0.length ≤ c0) (hr1_12 : Kd.C k49 w A1_12 l1_12.length l1_12) (hc1_12 : l1_12.length ≤ c1_12) (h : corrieref19_Inserts.f k l0 a1_0 a1_1 a1_2 a1_3 a1_4 a1_5 a1_6 a1_7 a1_8 a1_9 a1_10 a1_11 l1_12 = some r) :
  Calls Try.prog 18 #[.slice A0 l0.length c0, .agg #[.int .i64 a1_0, .int .i64 a1_1, .int .i64 a1_2, .int .i64 a1_3, .int .i64 a1_4, .int .i64 a1_5, .int .u64 a1_6, .int .u64 a1_7, .int .i64 a1_8, .int .i64 a1_9, .bool a1_10, .int .u64 a1_11, .slice A1_12 l1_12.length c1_12]] w fun e w' => e = .returned (.int .i64 r) ∧ Below w.heap.size w w' := by
 have hu31 := Try.underlying31
 have HR0 := Aside0.mk hr0
 have HC0 := Aside0.mk hc0
 clear hr0 hc0
 have HR1_12 := Aside0.mk hr1_12
 have HC1_12 := Aside0.mk hc1_12
 clear hr1_12 hc1_12
 have HB := Aside0.mk (Below.refl w.heap.size w)
 have H : (corrieref19_Inserts.l0 k l0 0 0 a1_0 a1_1 a1_2 a1_3 a1_4 a1_5 a1_6 a1_7 a1_8 a1_9 a1_10 a1_11 l1_12) = some r := h
 clear h
 have H' := Aside0.mk H
 clear H
 go_enter Try.func18, Try.ntmps18
 go_wp2_with (first | ((with_reducible refine gate_dst (N := 3) rfl ?_); refine box_event ?hg (N := 3) ?hd (cs := #[.int .i64 a1_0, .int .i64 a1_1, .int .i64 a1_2, .int .i64 a1_3, .int .i64 a1_4, .int .i64 a1_5, .int .u64 a1_6, .int .u64 a1_7, .int .i64 a1_8, .int .i64 a1_9, .bool a1_10, .int .u64 a1_11, .slice A1_12 l1_12.length c1_12]) (t := 31) ?hr ?_; (case hd => rfl); (case hg => rfl); (case hr => first | (go_simp; done) | (go_simp; rfl)); intro gb117 hg w3 hbox hb; have n0_ := Aside0.mk (below_step (by repeat (first | (with_reducible first | exact HB.out | apply below_alloc | apply pw_below_drewN | apply below_drew1) | exact HB.out)) hb); have n1_ := Aside0.mk (hbox); have n2_ := Aside0.mk ((by rw [hg]; exact (below_size (by repeat (first | (with_reducible first | exact HB.out | apply below_alloc | apply pw_below_drewN | apply below_drew1) | exact HB.out))) : w.heap.size ≤ gb117)); have n3_ := Aside0.mk ((by rw [hg]; exact (below_size (by repeat (first | (with_reducible first | exact HB.out | apply below_alloc | apply pw_below_drewN | apply below_drew1) | exact HB.out))) : w.heap.size ≤ gb117)); clear HB; have HB := n0_; have BK117 := n1_; have GW117 := n2_; have GE117 := n3_; clear n0_ n1_ n2_ n3_; clear hb hbox hg))
 go_loopg [5, 6] k (fun kq v5 v6 w' => ∃ (x5_1 : Int) (x6_1 : Int), v5 = .int .i64 x5_1 ∧ v6 = .int .i64 x6_1 ∧ Aside0 (corrieref19_Inserts.l0 kq l0 x5_1 x6_1 a1_0 a1_1 a1_2 a1_3 a1_4 a1_5 a1_6 a1_7 a1_8 a1_9 a1_10 a1_11 l1_12 = some r) ∧ Aside0 (kq ≤ k) ∧ Aside0 (w'.heap[gb117]? = some (.cells #[.int .i64 a1_0, .int .i64 a1_1, .int .i64 a1_2, .int .i64 a1_3, .int .i64 a1_4, .int .i64 a1_5, .int .u64 a1_6, .int .u64 a1_7, .int .i64 a1_8, .int .i64 a1_9, .bool a1_10, .int .u64 a1_11, (.slice A1_12 l1_12.length c1_12)] 31 (0, 0))) ∧ Aside0 (Below w.heap.size w w'))
 case atStart => exact ⟨(0), (0), (by first | rfl | (simp; done) | (simp [*]; done)), (by first | rfl | (simp; done) | (simp [*]; done)), H', ⟨Nat.le_refl _⟩, ⟨by (with_reducible repeat (first | refine blk_drewN ?_ _ | refine blk_drew ?_ | refine blk_alloc ?_ _)); exact BK117.out⟩, ⟨by repeat (first | (with_reducible first | exact HB.out | apply below_alloc | apply pw_below_drewN | apply below_drew1 | refine below_set ?_ GE117.out) | exact HB.out)⟩⟩
 case round =>
  clear H'
  try clear c1
  try clear p2
  obtain ⟨x5_1, x6_1, rfl, rfl, HA, HK1, BK117, HB⟩ := hrel
  cases gk with
  | zero => exact absurd HA.out (by simp [corrieref19_Inserts.l0])
  | succ k1 =>
   have H := HA.out
   clear HA
   simp only [corrieref19_Inserts.l0] at H
   by_cases c4 : x6_1 < (l0.length : Int)
   ·rw [if_pos c4] at H
    have c4b0 : decide (x6_1 < (l0.length : Int)) = true := decide_eq_true c4
    clear c4
    by_cases c5 : 0 ≤ x6_1
    ·rw [if_pos c5] at H
     have c5b0 : decide (0 ≤ x6_1) = true := decide_eq_true c5
     clear c5
     by_cases c6 : ((rd_T31 l0 x6_1).f5.f0) = 1
     ·rw [if_pos c6] at H
      have c6b0 : (((rd_T31 l0 x6_1).f5.f0) == 1) = true := beq_iff_eq.mpr c6
      have c6b1 : (((rd_T31 l0 x6_1).f5.f0) != 1) = false := bne_eq_false_iff_eq.mpr c6
      clear c6
      replace H := Option.bind_eq_some_iff.mp H
      obtain ⟨t120, A70, H⟩ := H
      replace H : (if t120 = true then (corrieref19_Inserts.l0 k1 l0 x5_1 (wrap64 (x6_1 + 1)) a1_0 a1_1 a1_2 a1_3 a1_4 a1_5 a1_6 a1_7 a1_8 a1_9 a1_10 a1_11 l1_12) else ((corrieref19_Before.f a1_0 a1_1 a1_2 a1_3 a1_4 a1_5 a1_6 a1_7 a1_8 a1_9 a1_10 a1_11 l1_12 ((rd_T31 l0 x6_1).f0) ((rd_T31 l0 x6_1).f1) ((rd_T31 l0 x6_1).f2) ((rd_T31 l0 x6_1).f3) ((rd_T31 l0 x6_1).f4) ((rd_T31 l0 x6_1).f5.f0) ((rd_T31 l0 x6_1).f5.f1) ((rd_T31 l0 x6_1).f5.f2) ((rd_T31 l0 x6_1).f5.f3) ((rd_T31 l0 x6_1).f6.f0) ((rd_T31 l0 x6_1).f6.f1) ((rd_T31 l0 x6_1).f6.f2) ((rd_T31 l0 x6_1).f6.f3)).bind fun t122 => (if t122 = true then (corrieref19_Inserts.l0 k1 l0 x5_1 (wrap64 (x6_1 + 1)) a1_0 a1_1 a1_2 a1_3 a1_4 a1_5 a1_6 a1_7 a1_8 a1_9 a1_10 a1_11 l1_12) else (corrieref19_Inserts.l0 k1 l0 (wrap64 (x5_1 + 1)) (wrap64 (x6_1 + 1)) a1_0 a1_1 a1_2 a1_3 a1_4 a1_5 a1_6 a1_7 a1_8 a1_9 a1_10 a1_11 l1_12)))) = some r := H
      have A7 := Aside0.mk A70
      clear A70
      by_cases c8 : t120 = true
      ·subst c8
       have H1 : (corrieref19_Inserts.l0 k1 l0 x5_1 (wrap64 (x6_1 + 1)) a1_0 a1_1 a1_2 a1_3 a1_4 a1_5 a1_6 a1_7 a1_8 a1_9 a1_10 a1_11 l1_12) = some r := by rw [if_pos rfl] at H; exact H
       clear H
       have H := H1
       clear H1
       have H' := Aside0.mk H
       clear H
       try go_wp2
       have n0_ := Aside0.mk (blk_drew BK117.out)
       have n1_ := Aside0.mk (below_drew1 HB.out)
       clear BK117
       clear HB
       have BK117 := n0_
       have HB := n1_
       clear n0_ n1_
       have p118 : 0 ≤ (x6_1 : Int) := of_decide_eq_true (by first | (with_reducible assumption) | assumption)
       have q118 : x6_1 < (l0.length : Int) := of_decide_eq_true (by first | (with_reducible assumption) | assumption)
       obtain ⟨ad118, A118_12, c118_12, e118, hx118_0, hx118_1, hx118_2, hx118_3, hx118_4, hx118_5, hx118_6, hx118_7, hx118_8, hx118_9, hx118_10, hx118_11, hx118_12, hl118_12, hi118_12⟩ := at_T31 HR0.out x6_1 p118 q118
       have hw118_12 := hx118_12
       have hw118_11 := hx118_11
       have hw118_10 := hx118_10
       have hw118_9 := hx118_9
       have hw118_8 := hx118_8
       have hw118_7 := hx118_7
       have hw118_6 := hx118_6
       have hw118_5 := hx118_5
       have hw118_4 := hx118_4
       have hw118_3 := hx118_3
       have hw118_2 := hx118_2
       have hw118_1 := hx118_1
       have hw118_0 := hx118_0
       cases e118
       replace hx118_0 := (HB.out.cell (World.block_lt_of_cell? w _ hx118_0)).trans hx118_0
       replace hx118_1 := (HB.out.cell (World.block_lt_of_cell? w _ hx118_1)).trans hx118_1
       replace hx118_2 := (HB.out.cell (World.block_lt_of_cell? w _ hx118_2)).trans hx118_2
       replace hx118_3 := (HB.out.cell (World.block_lt_of_cell? w _ hx118_3)).trans hx118_3
       replace hx118_4 := (HB.out.cell (World.block_lt_of_cell? w _ hx118_4)).trans hx118_4
       replace hx118_5 := (HB.out.cell (World.block_lt_of_cell? w _ hx118_5)).trans hx118_5
       replace hx118_6 := (HB.out.cell (World.block_lt_of_cell? w _ hx118_6)).trans hx118_6
       replace hx118_7 := (HB.out.cell (World.block_lt_of_cell? w _ hx118_7)).trans hx118_7
       replace hx118_8 := (HB.out.cell (World.block_lt_of_cell? w _ hx118_8)).trans hx118_8
       replace hx118_9 := (HB.out.cell (World.block_lt_of_cell? w _ hx118_9)).trans hx118_9
       replace hx118_10 := (HB.out.cell (World.block_lt_of_cell? w _ hx118_10)).trans hx118_10
       replace hx118_11 := (HB.out.cell (World.block_lt_of_cell? w _ hx118_11)).trans hx118_11
       replace hx118_12 := (HB.out.cell (World.block_lt_of_cell? w _ hx118_12)).trans hx118_12
       have HR118_12 := Aside0.mk hi118_12
       have HC118_12 := Aside0.mk hl118_12
       clear hi118_12 hl118_12
       replace p118 := eq_true p118
       replace q118 := eq_true q118
       have p119 : 0 ≤ (x6_1 : Int) := of_decide_eq_true (by first | (with_reducible assumption) | assumption)
       have q119 : x6_1 < (l0.length : Int) := of_decide_eq_true (by first | (with_reducible assumption) | assumption)
       obtain ⟨ad119, A119_12, c119_12, e119, hx119_0, hx119_1, hx119_2, hx119_3, hx119_4, hx119_5, hx119_6, hx119_7, hx119_8, hx119_9, hx119_10, hx119_11, hx119_12, hl119_12, hi119_12⟩ := at_T31 HR0.out x6_1 p119 q119
       have hw119_12 := hx119_12
       have hw119_11 := hx119_11
       have hw119_10 := hx119_10
       have hw119_9 := hx119_9
       have hw119_8 := hx119_8
       have hw119_7 := hx119_7
       have hw119_6 := hx119_6
       have hw119_5 := hx119_5
       have hw119_4 := hx119_4
       have hw119_3 := hx119_3
       have hw119_2 := hx119_2
       have hw119_1 := hx119_1
       have hw119_0 := hx119_0
       obtain rfl : ad118 = ad119 := (by injection e119)
       replace hx119_0 := (HB.out.cell (World.block_lt_of_cell? w _ hx119_0)).trans hx119_0
       replace hx119_1 := (HB.out.cell (World.block_lt_of_cell? w _ hx119_1)).trans hx119_1
       replace hx119_2 := (HB.out.cell (World.block_lt_of_cell? w _ hx119_2)).trans hx119_2
       replace hx119_3 := (HB.out.cell (World.block_lt_of_cell? w _ hx119_3)).trans hx119_3
       replace hx119_4 := (HB.out.cell (World.block_lt_of_cell? w _ hx119_4)).trans hx119_4
       replace hx119_5 := (HB.out.cell (World.block_lt_of_cell? w _ hx119_5)).trans hx119_5
       replace hx119_6 := (HB.out.cell (World.block_lt_of_cell? w _ hx119_6)).trans hx119_6
       replace hx119_7 := (HB.out.cell (World.block_lt_of_cell? w _ hx119_7)).trans hx119_7
       replace hx119_8 := (HB.out.cell (World.block_lt_of_cell? w _ hx119_8)).trans hx119_8
       replace hx119_9 := (HB.out.cell (World.block_lt_of_cell? w _ hx119_9)).trans hx119_9
       replace hx119_10 := (HB.out.cell (World.block_lt_of_cell? w _ hx119_10)).trans hx119_10
       replace hx119_11 := (HB.out.cell (World.block_lt_of_cell? w _ hx119_11)).trans hx119_11
       replace hx119_12 := (HB.out.cell (World.block_lt_of_cell? w _ hx119_12)).trans hx119_12
       have HR119_12 := Aside0.mk hi119_12
       have HC119_12 := Aside0.mk hl119_12
       clear hi119_12 hl119_12
       replace p119 := eq_true p119
       replace q119 := eq_true q119
       have ea_ := Option.some.inj (hx118_12.symm.trans hx119_12)
       injection ea_ with ea_ en_ ec_
       subst ea_
       subst ec_
       clear en_
       refine start_ (n := 25) (S := fun w' => w'.cell? ⟨gb117, 0, none⟩ = some (.int .i64 a1_0) ∧ w'.cell? ⟨gb117, 1, none⟩ = some (.int .i64 a1_1) ∧ w'.cell? ⟨gb117, 2, none⟩ = some (.int .i64 a1_2) ∧ w'.cell? ⟨gb117, 3, none⟩ = some (.int .i64 a1_3) ∧ w'.cell? ⟨gb117, 4, none⟩ = some (.int .i64 a1_4) ∧ w'.cell? ⟨gb117, 5, none⟩ = some (.int .i64 a1_5) ∧ w'.cell? ⟨gb117, 6, none⟩ = some (.int .u64 a1_6) ∧ w'.cell? ⟨gb117, 7, none⟩ = some (.int .u64 a1_7) ∧ w'.cell? ⟨gb117, 8, none⟩ = some (.int .i64 a1_8) ∧ w'.cell? ⟨gb117, 9, none⟩ = some (.int .i64 a1_9) ∧ w'.cell? ⟨gb117, 10, none⟩ = some (.bool a1_10) ∧ w'.cell? ⟨gb117, 11, none⟩ = some (.int .u64 a1_11) ∧ w'.cell? ⟨gb117, 12, none⟩ = some (.slice A1_12 l1_12.length c1_12) ∧ w'.cell? (ad118.add ((x6_1).toNat * 13)) = some (.int .i64 ((rd_T31 l0 x6_1).f0)) ∧ w'.cell? ⟨(ad118.add ((x6_1).toNat * 13)).block, (ad118.add ((x6_1).toNat * 13)).off + 1, none⟩ = some (.int .i64 ((rd_T31 l0 x6_1).f1)) ∧ w'.cell? ⟨(ad118.add ((x6_1).toNat * 13)).block, (ad118.add ((x6_1).toNat * 13)).off + 2, none⟩ = some (.int .i64 ((rd_T31 l0 x6_1).f2)) ∧ w'.cell? ⟨(ad118.add ((x6_1).toNat * 13)).block, (ad118.add ((x6_1).toNat * 13)).off + 3, none⟩ = some (.int .i64 ((rd_T31 l0 x6_1).f3)) ∧ w'.cell? ⟨(ad118.add ((x6_1).toNat * 13)).block, (ad118.add ((x6_1).toNat * 13)).off + 4, none⟩ = some (.int .i64 ((rd_T31 l0 x6_1).f4)) ∧ w'.cell? ⟨(ad118.add ((x6_1).toNat * 13)).block, (ad118.add ((x6_1).toNat * 13)).off + 5, none⟩ = some (.int .i64 ((rd_T31 l0 x6_1).f5.f0)) ∧ w'.cell? ⟨(ad118.add ((x6_1).toNat * 13)).block, (ad118.add ((x6_1).toNat * 13)).off + 6, none⟩ = some (.int .u64 ((rd_T31 l0 x6_1).f5.f1)) ∧ w'.cell? ⟨(ad118.add ((x6_1).toNat * 13)).block, (ad118.add ((x6_1).toNat * 13)).off + 7, none⟩ = some (.int .u64 ((rd_T31 l0 x6_1).f5.f2)) ∧ w'.cell? ⟨(ad118.add ((x6_1).toNat * 13)).block, (ad118.add ((x6_1).toNat * 13)).off + 8, none⟩ = some (.int .i64 ((rd_T31 l0 x6_1).f5.f3)) ∧ w'.cell? ⟨(ad118.add ((x6_1).toNat * 13)).block, (ad118.add ((x6_1).toNat * 13)).off + 9, none⟩ = some (.int .i64 ((rd_T31 l0 x6_1).f6.f0)) ∧ w'.cell? ⟨(ad118.add ((x6_1).toNat * 13)).block, (ad118.add ((x6_1).toNat * 13)).off + 10, none⟩ = some (.bool ((rd_T31 l0 x6_1).f6.f1)) ∧ w'.cell? ⟨(ad118.add ((x6_1).toNat * 13)).block, (ad118.add ((x6_1).toNat * 13)).off + 11, none⟩ = some (.int .u64 ((rd_T31 l0 x6_1).f6.f2)) ∧ w'.cell? ⟨(ad118.add ((x6_1).toNat * 13)).block, (ad118.add ((x6_1).toNat * 13)).off + 12, none⟩ = some (.slice A118_12 ((rd_T31 l0 x6_1).f6.f3).length c118_12) ∧ w'.cell? (ad118.add ((x6_1).toNat * 13)) = some (.int .i64 ((rd_T31 l0 x6_1).f0)) ∧ w'.cell? ⟨(ad118.add ((x6_1).toNat * 13)).block, (ad118.add ((x6_1).toNat * 13)).off + 1, none⟩ = some (.int .i64 ((rd_T31 l0 x6_1).f1)) ∧ w'.cell? ⟨(ad118.add ((x6_1).toNat * 13)).block, (ad118.add ((x6_1).toNat * 13)).off + 2, none⟩ = some (.int .i64 ((rd_T31 l0 x6_1).f2)) ∧ w'.cell? ⟨(ad118.add ((x6_1).toNat * 13)).block, (ad118.add ((x6_1).toNat * 13)).off + 3, none⟩ = some (.int .i64 ((rd_T31 l0 x6_1).f3)) ∧ w'.cell? ⟨(ad118.add ((x6_1).toNat * 13)).block, (ad118.add ((x6_1).toNat * 13)).off + 4, none⟩ = some (.int .i64 ((rd_T31 l0 x6_1).f4)) ∧ w'.cell? ⟨(ad118.add ((x6_1).toNat * 13)).block, (ad118.add ((x6_1).toNat * 13)).off + 5, none⟩ = some (.int .i64 ((rd_T31 l0 x6_1).f5.f0)) ∧ w'.cell? ⟨(ad118.add ((x6_1).toNat * 13)).block, (ad118.add ((x6_1).toNat * 13)).off + 6, none⟩ = some (.int .u64 ((rd_T31 l0 x6_1).f5.f1)) ∧ w'.cell? ⟨(ad118.add ((x6_1).toNat * 13)).block, (ad118.add ((x6_1).toNat * 13)).off + 7, none⟩ = some (.int .u64 ((rd_T31 l0 x6_1).f5.f2)) ∧ w'.cell? ⟨(ad118.add ((x6_1).toNat * 13)).block, (ad118.add ((x6_1).toNat * 13)).off + 8, none⟩ = some (.int .i64 ((rd_T31 l0 x6_1).f5.f3)) ∧ w'.cell? ⟨(ad118.add ((x6_1).toNat * 13)).block, (ad118.add ((x6_1).toNat * 13)).off + 9, none⟩ = some (.int .i64 ((rd_T31 l0 x6_1).f6.f0)) ∧ w'.cell? ⟨(ad118.add ((x6_1).toNat * 13)).block, (ad118.add ((x6_1).toNat * 13)).off + 10, none⟩ = some (.bool ((rd_T31 l0 x6_1).f6.f1)) ∧ w'.cell? ⟨(ad118.add ((x6_1).toNat * 13)).block, (ad118.add ((x6_1).toNat * 13)).off + 11, none⟩ = some (.int .u64 ((rd_T31 l0 x6_1).f6.f2)) ∧ w'.cell? ⟨(ad118.add ((x6_1).toNat * 13)).block, (ad118.add ((x6_1).toNat * 13)).off + 12, none⟩ = some (.slice A118_12 ((rd_T31 l0 x6_1).f6.f3).length c118_12)) (ds := []) #[false, false, false, false, false, false, false, false, false, false, false, false, false, false, false, false, false, false, false, false, false, false, false, false, false] (by kernel_rfl) rfl rfl ⟨(blk_cell BK117.out 0).trans rfl, (blk_cell BK117.out 1).trans rfl, (blk_cell BK117.out 2).trans rfl, (blk_cell BK117.out 3).trans rfl, (blk_cell BK117.out 4).trans rfl, (blk_cell BK117.out 5).trans rfl, (blk_cell BK117.out 6).trans rfl, (blk_cell BK117.out 7).trans rfl, (blk_cell BK117.out 8).trans rfl, (blk_cell BK117.out 9).trans rfl, (blk_cell BK117.out 10).trans rfl, (blk_cell BK117.out 11).trans rfl, (blk_cell BK117.out 12).trans rfl, ((HB.out.cell (World.block_lt_of_cell? w _ hw118_0)).trans hw118_0), ((HB.out.cell (World.block_lt_of_cell? w _ hw118_1)).trans hw118_1), ((HB.out.cell (World.block_lt_of_cell? w _ hw118_2)).trans hw118_2), ((HB.out.cell (World.block_lt_of_cell? w _ hw118_3)).trans hw118_3), ((HB.out.cell (World.block_lt_of_cell? w _ hw118_4)).trans hw118_4), ((HB.out.cell (World.block_lt_of_cell? w _ hw118_5)).trans hw118_5), ((HB.out.cell (World.block_lt_of_cell? w _ hw118_6)).trans hw118_6), ((HB.out.cell (World.block_lt_of_cell? w _ hw118_7)).trans hw118_7), ((HB.out.cell (World.block_lt_of_cell? w _ hw118_8)).trans hw118_8), ((HB.out.cell (World.block_lt_of_cell? w _ hw118_9)).trans hw118_9), ((HB.out.cell (World.block_lt_of_cell? w _ hw118_10)).trans hw118_10), ((HB.out.cell (World.block_lt_of_cell? w _ hw118_11)).trans hw118_11), ((HB.out.cell (World.block_lt_of_cell? w _ hw118_12)).trans hw118_12), ((HB.out.cell (World.block_lt_of_cell? w _ hw119_0)).trans hw119_0), ((HB.out.cell (World.block_lt_of_cell? w _ hw119_1)).trans hw119_1), ((HB.out.cell (World.block_lt_of_cell? w _ hw119_2)).trans hw119_2), ((HB.out.cell (World.block_lt_of_cell? w _ hw119_3)).trans hw119_3), ((HB.out.cell (World.block_lt_of_cell? w _ hw119_4)).trans hw119_4), ((HB.out.cell (World.block_lt_of_cell? w _ hw119_5)).trans hw119_5), ((HB.out.cell (World.block_lt_of_cell? w _ hw119_6)).trans hw119_6), ((HB.out.cell (World.block_lt_of_cell? w _ hw119_7)).trans hw119_7), ((HB.out.cell (World.block_lt_of_cell? w _ hw119_8)).trans hw119_8), ((HB.out.cell (World.block_lt_of_cell? w _ hw119_9)).trans hw119_9), ((HB.out.cell (World.block_lt_of_cell? w _ hw119_10)).trans hw119_10), ((HB.out.cell (World.block_lt_of_cell? w _ hw119_11)).trans hw119_11), ((HB.out.cell (World.block_lt_of_cell? w _ hw119_12)).trans hw119_12)⟩ (fun hHeld => ?_); refine with_tabW corrieref19_Inserts.tab5 corrieref19_Inserts.bits5 (fun HT_ HW_ => ?_)
       generalize wr.drew = w9 at BK117 HB HR118_12 HR119_12 hx118_0 hx118_1 hx118_10 hx118_11 hx118_12 hx118_2 hx118_3 hx118_4 hx118_5 hx118_6 hx118_7 hx118_8 hx118_9 hx119_0 hx119_1 hx119_10 hx119_11 hx119_12 hx119_2 hx119_3 hx119_4 hx119_5 hx119_6 hx119_7 hx119_8 hx119_9 hHeld ⊢
       refine pure_ (i := 0) (N := some 13) (v := ?_) (a' := ?_) #[true, false, false, false, false, false, false, false, false, false, false, false, false, false, false, false, false, false, false, false, false, false, false, false, false] rfl rfl (any_of HT_.out (by kernel_rfl)) (fun _ _ _ h => h) (Or.inl ⟨by rfl, ?_⟩) ?_ ?_
       rotate_left
       ·intro w'
        go_simp
        with_reducible rfl
       rotate_left
       ·simp only [Act.put, List.setIfInBounds_toArray, List.set_cons_zero, List.set_cons_succ, i64_w, i32_w]
        rfl
       refine pure_ (i := 1) (N := some 14) (v := ?_) (a' := ?_) #[true, true, false, false, false, false, false, false, false, false, false, false, false, false, false, false, false, false, false, false, false, false, false, false, false] rfl rfl (any_of HT_.out (by kernel_rfl)) (fun _ _ _ h => h) (Or.inl ⟨by rfl, ?_⟩) ?_ ?_
       rotate_left
       ·intro w'
        go_simp
        with_reducible rfl
       rotate_left
       ·simp only [Act.put, List.setIfInBounds_toArray, List.set_cons_zero, List.set_cons_succ, i64_w, i32_w]
        rfl
       refine pure_ (i := 2) (N := some 15) (v := ?_) (a' := ?_) #[true, true, true, false, false, false, false, false, false, false, false, false, false, false, false, false, false, false, false, false, false, false, false, false, false] rfl rfl (any_of HT_.out (by kernel_rfl)) (fun _ _ _ h => h) (Or.inl ⟨by rfl, ?_⟩) ?_ ?_
       rotate_left
       ·intro w'
        go_simp
        with_reducible rfl
       rotate_left
       ·simp only [Act.put, List.setIfInBounds_toArray, List.set_cons_zero, List.set_cons_succ, i64_w, i32_w]
        rfl
       refine pure_ (i := 3) (N := some 16) (v := ?_) (a' := ?_) #[true, true, true, true, false, false, false, false, false, false, false, false, false, false, false, false, false, false, false, false, false, false, false, false, false] rfl rfl (any_of HT_.out (by kernel_rfl)) (fun _ _ _ h => h) (Or.inl ⟨by rfl, ?_⟩) ?_ ?_
       rotate_left
       ·intro w'
        go_simp
        with_reducible rfl
       rotate_left
       ·simp only [Act.put, List.setIfInBounds_toArray, List.set_cons_zero, List.set_cons_succ, i64_w, i32_w]
        rfl
       refine pure_ (i := 4) (N := some 17) (v := ?_) (a' := ?_) #[true, true, true, true, true, false, false, false, false, false, false, false, false, false, false, false, false, false, false, false, false, false, false, false, false] rfl rfl (any_of HT_.out (by kernel_rfl)) (fun _ _ _ h => h) (Or.inl ⟨by rfl, ?_⟩) ?_ ?_
       rotate_left
       ·intro w'
        go_simp
        with_reducible rfl
       rotate_left
       ·simp only [Act.put, List.setIfInBounds_toArray, List.set_cons_zero, List.set_cons_succ, i64_w, i32_w]
        rfl
       refine take_ (i := 5) (N := some 18) (v := ?_) (a' := ?_) #[true, true, true, true, true, true, false, false, false, false, false, false, false, false, false, false, false, false, false, false, false, false, false, false, false] rfl rfl (take_ofW HT_.out HW_.out (by kernel_rfl)) (fun _ _ _ h => h) (Or.inl ⟨by rfl, ?_⟩) hHeld ?_ ?_
       rotate_left
       ·rintro w' ⟨s0, s1, s2, s3, s4, s5, s6, s7, s8, s9, s10, s11, s12, s13, s14, s15, s16, s17, s18, s19, s20, s21, s22, s23, s24, s25, s26, s27, s28, s29, s30, s31, s32, s33, s34, s35, s36, s37, s38⟩
        go_simp
        with_reducible rfl
       rotate_left
       ·simp only [Act.put, List.setIfInBounds_toArray, List.set_cons_zero, List.set_cons_succ, i64_w, i32_w]
        rfl
       refine pure_ (i := 6) (N := some 19) (v := ?_) (a' := ?_) #[true, true, true, true, true, true, true, false, false, false, false, false, false, false, false, false, false, false, false, false, false, false, false, false, false] rfl rfl (any_of HT_.out (by kernel_rfl)) (fun _ _ _ h => h) (Or.inl ⟨by rfl, ?_⟩) ?_ ?_
       rotate_left
       ·intro w'
        go_simp
        with_reducible rfl
       rotate_left
       ·simp only [Act.put, List.setIfInBounds_toArray, List.set_cons_zero, List.set_cons_succ, i64_w, i32_w]
        rfl
       refine pure_ (i := 7) (N := some 20) (v := ?_) (a' := ?_) #[true, true, true, true, true, true, true, true, false, false, false, false, false, false, false, false, false, false, false, false, false, false, false, false, false] rfl rfl (any_of HT_.out (by kernel_rfl)) (fun _ _ _ h => h) (Or.inl ⟨by rfl, ?_⟩) ?_ ?_
       rotate_left
       ·intro w'
        go_simp
        with_reducible rfl
       rotate_left
       ·simp only [Act.put, List.setIfInBounds_toArray, List.set_cons_zero, List.set_cons_succ, i64_w, i32_w]
        rfl
       refine pure_ (i := 8) (N := some 21) (v := ?_) (a' := ?_) #[true, true, true, true, true, true, true, true, true, false, false, false, false, false, false, false, false, false, false, false, false, false, false, false, false] rfl rfl (any_of HT_.out (by kernel_rfl)) (fun _ _ _ h => h) (Or.inl ⟨by rfl, ?_⟩) ?_ ?_
       rotate_left
       ·intro w'
        go_simp
        with_reducible rfl
       rotate_left
       ·simp only [Act.put, List.setIfInBounds_toArray, List.set_cons_zero, List.set_cons_succ, i64_w, i32_w]
        rfl
       refine pure_ (i := 9) (N := some 22) (v := ?_) (a' := ?_) #[true, true, true, true, true, true, true, true, true, true, false, false, false, false, false, false, false, false, false, false, false, false, false, false, false] rfl rfl (any_of HT_.out (by kernel_rfl)) (fun _ _ _ h => h) (Or.inl ⟨by rfl, ?_⟩) ?_ ?_
       rotate_left
       ·intro w'
        go_simp
        with_reducible rfl
       rotate_left
       ·simp only [Act.put, List.setIfInBounds_toArray, List.set_cons_zero, List.set_cons_succ, i64_w, i32_w]
        rfl
       refine pure_ (i := 10) (N := some 23) (v := ?_) (a' := ?_) #[true, true, true, true, true, true, true, true, true, true, true, false, false, false, false, false, false, false, false, false, false, false, false, false, false] rfl rfl (any_of HT_.out (by kernel_rfl)) (fun _ _ _ h => h) (Or.inl ⟨by rfl, ?_⟩) ?_ ?_
       rotate_left
       ·intro w'
        go_simp
        with_reducible rfl
       rotate_left
       ·simp only [Act.put, List.setIfInBounds_toArray, List.set_cons_zero, List.set_cons_succ, i64_w, i32_w]
        rfl
       refine take_ (i := 11) (N := some 24) (v := ?_) (a' := ?_) #[true, true, true, true, true, true, true, true, true, true, true, true, false, false, false, false, false, false, false, false, false, false, false, false, false] rfl rfl (take_ofW HT_.out HW_.out (by kernel_rfl)) (fun _ _ _ h => h) (Or.inl ⟨by rfl, ?_⟩) hHeld ?_ ?_
       rotate_left
       ·rintro w' ⟨s0, s1, s2, s3, s4, s5, s6, s7, s8, s9, s10, s11, s12, s13, s14, s15, s16, s17, s18, s19, s20, s21, s22, s23, s24, s25, s26, s27, s28, s29, s30, s31, s32, s33, s34, s35, s36, s37, s38⟩
        go_simp
        with_reducible rfl
       rotate_left
       ·simp only [Act.put, List.setIfInBounds_toArray, List.set_cons_zero, List.set_cons_succ, i64_w, i32_w]
        rfl
       refine take_ (i := 12) (N := some 25) (v := ?_) (a' := ?_) #[true, true, true, true, true, true, true, true, true, true, true, true, true, false, false, false, false, false, false, false, false, false, false, false, false] rfl rfl (take_ofW HT_.out HW_.out (by kernel_rfl)) (fun _ _ _ h => h) (Or.inl ⟨by rfl, ?_⟩) hHeld ?_ ?_
       rotate_left
       ·rintro w' ⟨s0, s1, s2, s3, s4, s5, s6, s7, s8, s9, s10, s11, s12, s13, s14, s15, s16, s17, s18, s19, s20, s21, s22, s23, s24, s25, s26, s27, s28, s29, s30, s31, s32, s33, s34, s35, s36, s37, s38⟩
        go_simp
        with_reducible rfl
       rotate_left
       ·simp only [Act.put, List.setIfInBounds_toArray, List.set_cons_zero, List.set_cons_succ, i64_w, i32_w]
        rfl
       refine one_ (i := 13) (N := some 26) #[true, true, true, true, true, true, true, true, true, true, true, true, true, true, false, false, false, false, false, false, false, false, false, false, false] rfl rfl (one_of HT_.out (by kernel_rfl)) (by decide) (fun K hK => ?_)
       refine goes_ Try.func20 (by kernel_rfl) rfl #[.agg #[.int .i64 ((rd_T31 l0 x6_1).f0), .int .i64 ((rd_T31 l0 x6_1).f1), .int .i64 ((rd_T31 l0 x6_1).f2), .int .i64 ((rd_T31 l0 x6_1).f3), .int .i64 ((rd_T31 l0 x6_1).f4), .int .i64 ((rd_T31 l0 x6_1).f5.f0), .int .u64 ((rd_T31 l0 x6_1).f5.f1), .int .u64 ((rd_T31 l0 x6_1).f5.f2), .int .i64 ((rd_T31 l0 x6_1).f5.f3), .int .i64 ((rd_T31 l0 x6_1).f6.f0), .bool ((rd_T31 l0 x6_1).f6.f1), .int .u64 ((rd_T31 l0 x6_1).f6.f2), .slice A118_12 ((rd_T31 l0 x6_1).f6.f3).length c118_12], .agg #[.int .i64 a1_0, .int .i64 a1_1, .int .i64 a1_2, .int .i64 a1_3, .int .i64 a1_4, .int .i64 a1_5, .int .u64 a1_6, .int .u64 a1_7, .int .i64 a1_8, .int .i64 a1_9, .bool a1_10, .int .u64 a1_11, .slice A1_12 l1_12.length c1_12]] (by rfl) rfl rfl (by (try simp only [List.map_toArray, List.map_cons, List.map_nil]); first | done | rfl | (simp only [List.length_drop, List.length_take]; rfl)) ?_
       with_reducible refine (corrieref19_Before.calls ((rd_T31 l0 x6_1).f0) ((rd_T31 l0 x6_1).f1) ((rd_T31 l0 x6_1).f2) ((rd_T31 l0 x6_1).f3) ((rd_T31 l0 x6_1).f4) ((rd_T31 l0 x6_1).f5.f0) ((rd_T31 l0 x6_1).f5.f1) ((rd_T31 l0 x6_1).f5.f2) ((rd_T31 l0 x6_1).f5.f3) ((rd_T31 l0 x6_1).f6.f0) ((rd_T31 l0 x6_1).f6.f1) ((rd_T31 l0 x6_1).f6.f2) _ _ ((rd_T31 l0 x6_1).f6.f3) a1_0 a1_1 a1_2 a1_3 a1_4 a1_5 a1_6 a1_7 a1_8 a1_9 a1_10 a1_11 _ _ l1_12 true _ ?side1 ?side2 ?side3 ?side4 A7.out).mono ?_
       (case side1 => repeat (first | exact (Kd.C_below HR119_12.out HB.out) | (with_reducible refine Kd.C_alloc ?_ _) | (with_reducible refine Kd.C_drewN ?_ _) | (with_reducible refine Kd.C_drew ?_)))
       (case side2 => exact HC119_12.out)
       (case side3 => repeat (first | exact (Kd.C_below HR1_12.out HB.out) | (with_reducible refine Kd.C_alloc ?_ _) | (with_reducible refine Kd.C_drewN ?_ _) | (with_reducible refine Kd.C_drew ?_)))
       (case side4 => exact HC1_12.out)
       rintro e w10 ⟨rfl, hb⟩
       refine ⟨_, rfl, ?_⟩
       have n0_ := Aside0.mk (blk_below (g := gb117) (o := .cells #[.int .i64 a1_0, .int .i64 a1_1, .int .i64 a1_2, .int .i64 a1_3, .int .i64 a1_4, .int .i64 a1_5, .int .u64 a1_6, .int .u64 a1_7, .int .i64 a1_8, .int .i64 a1_9, .bool a1_10, .int .u64 a1_11, .slice A1_12 l1_12.length c1_12] 31 (0, 0)) (by (with_reducible repeat (first | refine blk_drewN ?_ _ | refine blk_drew ?_ | refine blk_alloc ?_ _)); exact BK117.out) hb)
       have n1_ := Aside0.mk (below_step (by repeat (first | (with_reducible first | exact HB.out | apply below_alloc | apply pw_below_drewN | apply below_drew1 | refine below_set ?_ GE117.out) | exact HB.out)) hb)
       clear BK117
       clear HB
       have BK117 := n0_
       have HB := n1_
       clear n0_ n1_
       (try clear hb)
       (try clear hb2)
       (try clear hk)
       (try clear hi)
       refine hK.out _ _ ⟨(blk_cell BK117.out 0).trans rfl, (blk_cell BK117.out 1).trans rfl, (blk_cell BK117.out 2).trans rfl, (blk_cell BK117.out 3).trans rfl, (blk_cell BK117.out 4).trans rfl, (blk_cell BK117.out 5).trans rfl, (blk_cell BK117.out 6).trans rfl, (blk_cell BK117.out 7).trans rfl, (blk_cell BK117.out 8).trans rfl, (blk_cell BK117.out 9).trans rfl, (blk_cell BK117.out 10).trans rfl, (blk_cell BK117.out 11).trans rfl, (blk_cell BK117.out 12).trans rfl, ((HB.out.cell (World.block_lt_of_cell? w _ hw118_0)).trans hw118_0), ((HB.out.cell (World.block_lt_of_cell? w _ hw118_1)).trans hw118_1), ((HB.out.cell (World.block_lt_of_cell? w _ hw118_2)).trans hw118_2), ((HB.out.cell (World.block_lt_of_cell? w _ hw118_3)).trans hw118_3), ((HB.out.cell (World.block_lt_of_cell? w _ hw118_4)).trans hw118_4), ((HB.out.cell (World.block_lt_of_cell? w _ hw118_5)).trans hw118_5), ((HB.out.cell (World.block_lt_of_cell? w _ hw118_6)).trans hw118_6), ((HB.out.cell (World.block_lt_of_cell? w _ hw118_7)).trans hw118_7), ((HB.out.cell (World.block_lt_of_cell? w _ hw118_8)).trans hw118_8), ((HB.out.cell (World.block_lt_of_cell? w _ hw118_9)).trans hw118_9), ((HB.out.cell (World.block_lt_of_cell? w _ hw118_10)).trans hw118_10), ((HB.out.cell (World.block_lt_of_cell? w _ hw118_11)).trans hw118_11), ((HB.out.cell (World.block_lt_of_cell? w _ hw118_12)).trans hw118_12), ((HB.out.cell (World.block_lt_of_cell? w _ hw119_0)).trans hw119_0), ((HB.out.cell (World.block_lt_of_cell? w _ hw119_1)).trans hw119_1), ((HB.out.cell (World.block_lt_of_cell? w _ hw119_2)).trans hw119_2), ((HB.out.cell (World.block_lt_of_cell? w _ hw119_3)).trans hw119_3), ((HB.out.cell (World.block_lt_of_cell? w _ hw119_4)).trans hw119_4), ((HB.out.cell (World.block_lt_of_cell? w _ hw119_5)).trans hw119_5), ((HB.out.cell (World.block_lt_of_cell? w _ hw119_6)).trans hw119_6), ((HB.out.cell (World.block_lt_of_cell? w _ hw119_7)).trans hw119_7), ((HB.out.cell (World.block_lt_of_cell? w _ hw119_8)).trans hw119_8), ((HB.out.cell (World.block_lt_of_cell? w _ hw119_9)).trans hw119_9), ((HB.out.cell (World.block_lt_of_cell? w _ hw119_10)).trans hw119_10), ((HB.out.cell (World.block_lt_of_cell? w _ hw119_11)).trans hw119_11), ((HB.out.cell (World.block_lt_of_cell? w _ hw119_12)).trans hw119_12)⟩ (fun hHeld => ?_)
       clear hK K
       refine norm_ (a' := ?_) ?_ ?_
       rotate_left
       ·show Act.put _ (some 26) _ = _
        simp only [Act.put, List.setIfInBounds_toArray, List.set_cons_zero, List.set_cons_succ, i64_w, i32_w]
        rfl
       refine pure_ (i := 14) (N := some 27) (v := ?_) (a' := ?_) #[true, true, true, true, true, true, true, true, true, true, true, true, true, true, true, false, false, false, false, false, false, false, false, false, false] rfl rfl (any_of HT_.out (by kernel_rfl)) (fun _ _ _ h => h) (Or.inl ⟨by rfl, ?_⟩) ?_ ?_
       rotate_left
       ·intro w'
        go_simp
        with_reducible rfl
       rotate_left
       ·simp only [Act.put, List.setIfInBounds_toArray, List.set_cons_zero, List.set_cons_succ, i64_w, i32_w]
        rfl
       refine pure_ (i := 15) (N := some 28) (v := ?_) (a' := ?_) #[true, true, true, true, true, true, true, true, true, true, true, true, true, true, true, true, false, false, false, false, false, false, false, false, false] rfl rfl (any_of HT_.out (by kernel_rfl)) (fun _ _ _ h => h) (Or.inl ⟨by rfl, ?_⟩) ?_ ?_
       rotate_left
       ·intro w'
        go_simp
        with_reducible rfl
       rotate_left
       ·simp only [Act.put, List.setIfInBounds_toArray, List.set_cons_zero, List.set_cons_succ, i64_w, i32_w]
        rfl
       refine pure_ (i := 16) (N := some 29) (v := ?_) (a' := ?_) #[true, true, true, true, true, true, true, true, true, true, true, true, true, true, true, true, true, false, false, false, false, false, false, false, false] rfl rfl (any_of HT_.out (by kernel_rfl)) (fun _ _ _ h => h) (Or.inl ⟨by rfl, ?_⟩) ?_ ?_
       rotate_left
       ·intro w'
        go_simp
        with_reducible rfl
       rotate_left
       ·simp only [Act.put, List.setIfInBounds_toArray, List.set_cons_zero, List.set_cons_succ, i64_w, i32_w]
        rfl
       refine pure_ (i := 17) (N := some 30) (v := undef) (a' := ?_) #[true, true, true, true, true, true, true, true, true, true, true, true, true, true, true, true, true, true, false, false, false, false, false, false, false] rfl rfl (any_of HT_.out (by kernel_rfl)) (fun _ _ _ h => h) (Or.inr ⟨by rfl, rfl⟩) ?_ ?_
       rotate_left
       ·simp only [Act.put, List.setIfInBounds_toArray, List.set_cons_zero, List.set_cons_succ, i64_w, i32_w]
        rfl
       refine pure_ (i := 18) (N := some 31) (v := undef) (a' := ?_) #[true, true, true, true, true, true, true, true, true, true, true, true, true, true, true, true, true, true, true, false, false, false, false, false, false] rfl rfl (any_of HT_.out (by kernel_rfl)) (fun _ _ _ h => h) (Or.inr ⟨by rfl, rfl⟩) ?_ ?_
       rotate_left
       ·simp only [Act.put, List.setIfInBounds_toArray, List.set_cons_zero, List.set_cons_succ, i64_w, i32_w]
        rfl
       refine pure_ (i := 19) (N := some 32) (v := undef) (a' := ?_) #[true, true, true, true, true, true, true, true, true, true, true, true, true, true, true, true, true, true, true, true, false, false, false, false, false] rfl rfl (any_of HT_.out (by kernel_rfl)) (fun _ _ _ h => h) (Or.inr ⟨by rfl, rfl⟩) ?_ ?_
       rotate_left
       ·simp only [Act.put, List.setIfInBounds_toArray, List.set_cons_zero, List.set_cons_succ, i64_w, i32_w]
        rfl
       refine pure_ (i := 20) (N := some 33) (v := undef) (a' := ?_) #[true, true, true, true, true, true, true, true, true, true, true, true, true, true, true, true, true, true, true, true, true, false, false, false, false] rfl rfl (any_of HT_.out (by kernel_rfl)) (fun _ _ _ h => h) (Or.inr ⟨by rfl, rfl⟩) ?_ ?_
       rotate_left
       ·simp only [Act.put, List.setIfInBounds_toArray, List.set_cons_zero, List.set_cons_succ, i64_w, i32_w]
        rfl
       refine pure_ (i := 21) (N := some 34) (v := undef) (a' := ?_) #[true, true, true, true, true, true, true, true, true, true, true, true, true, true, true, true, true, true, true, true, true, true, false, false, false] rfl rfl (any_of HT_.out (by kernel_rfl)) (fun _ _ _ h => h) (Or.inr ⟨by rfl, rfl⟩) ?_ ?_
       rotate_left
       ·simp only [Act.put, List.setIfInBounds_toArray, List.set_cons_zero, List.set_cons_succ, i64_w, i32_w]
        rfl
       refine pure_ (i := 22) (N := some 35) (v := undef) (a' := ?_) #[true, true, true, true, true, true, true, true, true, true, true, true, true, true, true, true, true, true, true, true, true, true, true, false, false] rfl rfl (any_of HT_.out (by kernel_rfl)) (fun _ _ _ h => h) (Or.inr ⟨by rfl, rfl⟩) ?_ ?_
       rotate_left
       ·simp only [Act.put, List.setIfInBounds_toArray, List.set_cons_zero, List.set_cons_succ, i64_w, i32_w]
        rfl
       refine pure_ (i := 23) (N := some 36) (v := undef) (a' := ?_) #[true, true, true, true, true, true, true, true, true, true, true, true, true, true, true, true, true, true, true, true, true, true, true, true, false] rfl rfl (any_of HT_.out (by kernel_rfl)) (fun _ _ _ h => h) (Or.inr ⟨by rfl, rfl⟩) ?_ ?_
       rotate_left
       ·simp only [Act.put, List.setIfInBounds_toArray, List.set_cons_zero, List.set_cons_succ, i64_w, i32_w]
        rfl
       refine pure_ (i := 24) (N := some 37) (v := ?_) (a' := ?_) #[true, true, true, true, true, true, true, true, true, true, true, true, true, true, true, true, true, true, true, true, true, true, true, true, true] rfl rfl (any_of HT_.out (by kernel_rfl)) (fun _ _ _ h => h) (Or.inl ⟨by rfl, ?_⟩) ?_ ?_
       rotate_left
       ·intro w'
        go_simp
        with_reducible rfl
       rotate_left
       ·simp only [Act.put, List.setIfInBounds_toArray, List.set_cons_zero, List.set_cons_succ, i64_w, i32_w]
        rfl
       refine done_ (done_of HT_.out (by kernel_rfl)) ?_
       try go_wp2
       go_roundg k1
       case measure => have := HK1.out; omega
       case rel => exact ⟨(x5_1), (wrap64 (x6_1 + 1)), (by first | rfl | (simp; done) | (simp [*]; done)), (by first | rfl | (simp; done) | (simp [*]; done)), H', ⟨by have := HK1.out; omega⟩, ⟨by (with_reducible repeat (first | refine blk_drewN ?_ _ | refine blk_drew ?_ | refine blk_alloc ?_ _)); exact BK117.out⟩, ⟨by repeat (first | (with_reducible first | exact HB.out | apply below_alloc | apply pw_below_drewN | apply below_drew1 | refine below_set ?_ GE117.out) | exact HB.out)⟩⟩
      ·replace c8 := Bool.eq_false_iff.mpr c8
       subst c8
       have H1 : ((corrieref19_Before.f a1_0 a1_1 a1_2 a1_3 a1_4 a1_5 a1_6 a1_7 a1_8 a1_9 a1_10 a1_11 l1_12 ((rd_T31 l0 x6_1).f0) ((rd_T31 l0 x6_1).f1) ((rd_T31 l0 x6_1).f2) ((rd_T31 l0 x6_1).f3) ((rd_T31 l0 x6_1).f4) ((rd_T31 l0 x6_1).f5.f0) ((rd_T31 l0 x6_1).f5.f1) ((rd_T31 l0 x6_1).f5.f2) ((rd_T31 l0 x6_1).f5.f3) ((rd_T31 l0 x6_1).f6.f0) ((rd_T31 l0 x6_1).f6.f1) ((rd_T31 l0 x6_1).f6.f2) ((rd_T31 l0 x6_1).f6.f3)).bind fun t122 => (if t122 = true then (corrieref19_Inserts.l0 k1 l0 x5_1 (wrap64 (x6_1 + 1)) a1_0 a1_1 a1_2 a1_3 a1_4 a1_5 a1_6 a1_7 a1_8 a1_9 a1_10 a1_11 l1_12) else (corrieref19_Inserts.l0 k1 l0 (wrap64 (x5_1 + 1)) (wrap64 (x6_1 + 1)) a1_0 a1_1 a1_2 a1_3 a1_4 a1_5 a1_6 a1_7 a1_8 a1_9 a1_10 a1_11 l1_12))) = some r := by rw [if_neg (show ¬ (false = true) by decide)] at H; exact H
       clear H
       have H := H1
       clear H1
       replace H := Option.bind_eq_some_iff.mp H
       obtain ⟨t122, A110, H⟩ := H
       replace H : (if t122 = true then (corrieref19_Inserts.l0 k1 l0 x5_1 (wrap64 (x6_1 + 1)) a1_0 a1_1 a1_2 a1_3 a1_4 a1_5 a1_6 a1_7 a1_8 a1_9 a1_10 a1_11 l1_12) else (corrieref19_Inserts.l0 k1 l0 (wrap64 (x5_1 + 1)) (wrap64 (x6_1 + 1)) a1_0 a1_1 a1_2 a1_3 a1_4 a1_5 a1_6 a1_7 a1_8 a1_9 a1_10 a1_11 l1_12)) = some r := H
       have A11 := Aside0.mk A110
       clear A110
       by_cases c12 : t122 = true
       ·subst c12
        have H1 : (corrieref19_Inserts.l0 k1 l0 x5_1 (wrap64 (x6_1 + 1)) a1_0 a1_1 a1_2 a1_3 a1_4 a1_5 a1_6 a1_7 a1_8 a1_9 a1_10 a1_11 l1_12) = some r := by rw [if_pos rfl] at H; exact H
        clear H
        have H := H1
        clear H1
        have H' := Aside0.mk H
        clear H
        try go_wp2
        have n0_ := Aside0.mk (blk_drew BK117.out)
        have n1_ := Aside0.mk (below_drew1 HB.out)
        clear BK117
        clear HB
        have BK117 := n0_
        have HB := n1_
        clear n0_ n1_
        have p118 : 0 ≤ (x6_1 : Int) := of_decide_eq_true (by first | (with_reducible assumption) | assumption)
        have q118 : x6_1 < (l0.length : Int) := of_decide_eq_true (by first | (with_reducible assumption) | assumption)
        obtain ⟨ad118, A118_12, c118_12, e118, hx118_0, hx118_1, hx118_2, hx118_3, hx118_4, hx118_5, hx118_6, hx118_7, hx118_8, hx118_9, hx118_10, hx118_11, hx118_12, hl118_12, hi118_12⟩ := at_T31 HR0.out x6_1 p118 q118
        have hw118_12 := hx118_12
        have hw118_11 := hx118_11
        have hw118_10 := hx118_10
        have hw118_9 := hx118_9
        have hw118_8 := hx118_8
        have hw118_7 := hx118_7
        have hw118_6 := hx118_6
        have hw118_5 := hx118_5
        have hw118_4 := hx118_4
        have hw118_3 := hx118_3
        have hw118_2 := hx118_2
        have hw118_1 := hx118_1
        have hw118_0 := hx118_0
        cases e118
        replace hx118_0 := (HB.out.cell (World.block_lt_of_cell? w _ hx118_0)).trans hx118_0
        replace hx118_1 := (HB.out.cell (World.block_lt_of_cell? w _ hx118_1)).trans hx118_1
        replace hx118_2 := (HB.out.cell (World.block_lt_of_cell? w _ hx118_2)).trans hx118_2
        replace hx118_3 := (HB.out.cell (World.block_lt_of_cell? w _ hx118_3)).trans hx118_3
        replace hx118_4 := (HB.out.cell (World.block_lt_of_cell? w _ hx118_4)).trans hx118_4
        replace hx118_5 := (HB.out.cell (World.block_lt_of_cell? w _ hx118_5)).trans hx118_5
        replace hx118_6 := (HB.out.cell (World.block_lt_of_cell? w _ hx118_6)).trans hx118_6
        replace hx118_7 := (HB.out.cell (World.block_lt_of_cell? w _ hx118_7)).trans hx118_7
        replace hx118_8 := (HB.out.cell (World.block_lt_of_cell? w _ hx118_8)).trans hx118_8
        replace hx118_9 := (HB.out.cell (World.block_lt_of_cell? w _ hx118_9)).trans hx118_9
        replace hx118_10 := (HB.out.cell (World.block_lt_of_cell? w _ hx118_10)).trans hx118_10
        replace hx118_11 := (HB.out.cell (World.block_lt_of_cell? w _ hx118_11)).trans hx118_11
        replace hx118_12 := (HB.out.cell (World.block_lt_of_cell? w _ hx118_12)).trans hx118_12
        have HR118_12 := Aside0.mk hi118_12
        have HC118_12 := Aside0.mk hl118_12
        clear hi118_12 hl118_12
        replace p118 := eq_true p118
        replace q118 := eq_true q118
        have p119 : 0 ≤ (x6_1 : Int) := of_decide_eq_true (by first | (with_reducible assumption) | assumption)
        have q119 : x6_1 < (l0.length : Int) := of_decide_eq_true (by first | (with_reducible assumption) | assumption)
        obtain ⟨ad119, A119_12, c119_12, e119, hx119_0, hx119_1, hx119_2, hx119_3, hx119_4, hx119_5, hx119_6, hx119_7, hx119_8, hx119_9, hx119_10, hx119_11, hx119_12, hl119_12, hi119_12⟩ := at_T31 HR0.out x6_1 p119 q119
        have hw119_12 := hx119_12
        have hw119_11 := hx119_11
        have hw119_10 := hx119_10
        have hw119_9 := hx119_9
        have hw119_8 := hx119_8
        have hw119_7 := hx119_7
        have hw119_6 := hx119_6
        have hw119_5 := hx119_5
        have hw119_4 := hx119_4
        have hw119_3 := hx119_3
        have hw119_2 := hx119_2
        have hw119_1 := hx119_1
        have hw119_0 := hx119_0
        obtain rfl : ad118 = ad119 := (by injection e119)
        replace hx119_0 := (HB.out.cell (World.block_lt_of_cell? w _ hx119_0)).trans hx119_0
        replace hx119_1 := (HB.out.cell (World.block_lt_of_cell? w _ hx119_1)).trans hx119_1
        replace hx119_2 := (HB.out.cell (World.block_lt_of_cell? w _ hx119_2)).trans hx119_2
        replace hx119_3 := (HB.out.cell (World.block_lt_of_cell? w _ hx119_3)).trans hx119_3
        replace hx119_4 := (HB.out.cell (World.block_lt_of_cell? w _ hx119_4)).trans hx119_4
        replace hx119_5 := (HB.out.cell (World.block_lt_of_cell? w _ hx119_5)).trans hx119_5
        replace hx119_6 := (HB.out.cell (World.block_lt_of_cell? w _ hx119_6)).trans hx119_6
        replace hx119_7 := (HB.out.cell (World.block_lt_of_cell? w _ hx119_7)).trans hx119_7
        replace hx119_8 := (HB.out.cell (World.block_lt_of_cell? w _ hx119_8)).trans hx119_8
        replace hx119_9 := (HB.out.cell (World.block_lt_of_cell? w _ hx119_9)).trans hx119_9
        replace hx119_10 := (HB.out.cell (World.block_lt_of_cell? w _ hx119_10)).trans hx119_10
        replace hx119_11 := (HB.out.cell (World.block_lt_of_cell? w _ hx119_11)).trans hx119_11
        replace hx119_12 := (HB.out.cell (World.block_lt_of_cell? w _ hx119_12)).trans hx119_12
        have HR119_12 := Aside0.mk hi119_12
        have HC119_12 := Aside0.mk hl119_12
        clear hi119_12 hl119_12
        replace p119 := eq_true p119
        replace q119 := eq_true q119
        have ea_ := Option.some.inj (hx118_12.symm.trans hx119_12)
        injection ea_ with ea_ en_ ec_
        subst ea_
        subst ec_
        clear en_
        have p121 : 0 ≤ (x6_1 : Int) := of_decide_eq_true (by first | (with_reducible assumption) | assumption)
        have q121 : x6_1 < (l0.length : Int) := of_decide_eq_true (by first | (with_reducible assumption) | assumption)
        obtain ⟨ad121, A121_12, c121_12, e121, hx121_0, hx121_1, hx121_2, hx121_3, hx121_4, hx121_5, hx121_6, hx121_7, hx121_8, hx121_9, hx121_10, hx121_11, hx121_12, hl121_12, hi121_12⟩ := at_T31 HR0.out x6_1 p121 q121
        have hw121_12 := hx121_12
        have hw121_11 := hx121_11
        have hw121_10 := hx121_10
        have hw121_9 := hx121_9
        have hw121_8 := hx121_8
        have hw121_7 := hx121_7
        have hw121_6 := hx121_6
        have hw121_5 := hx121_5
        have hw121_4 := hx121_4
        have hw121_3 := hx121_3
        have hw121_2 := hx121_2
        have hw121_1 := hx121_1
        have hw121_0 := hx121_0
        obtain rfl : ad118 = ad121 := (by injection e121)
        obtain ⟨rfl, rfl⟩ : A118_12 = A121_12 ∧ c118_12 = c121_12 := by first | (have hh := Option.some.inj (hw118_12.symm.trans hx121_12); injection hh with ha hb hc; exact ⟨ha, hc⟩) | (have hh := Option.some.inj (hx118_12.symm.trans hx121_12); injection hh with ha hb hc; exact ⟨ha, hc⟩)
        replace hx121_0 := (HB.out.cell (World.block_lt_of_cell? w _ hx121_0)).trans hx121_0
        replace hx121_1 := (HB.out.cell (World.block_lt_of_cell? w _ hx121_1)).trans hx121_1
        replace hx121_2 := (HB.out.cell (World.block_lt_of_cell? w _ hx121_2)).trans hx121_2
        replace hx121_3 := (HB.out.cell (World.block_lt_of_cell? w _ hx121_3)).trans hx121_3
        replace hx121_4 := (HB.out.cell (World.block_lt_of_cell? w _ hx121_4)).trans hx121_4
        replace hx121_5 := (HB.out.cell (World.block_lt_of_cell? w _ hx121_5)).trans hx121_5
        replace hx121_6 := (HB.out.cell (World.block_lt_of_cell? w _ hx121_6)).trans hx121_6
        replace hx121_7 := (HB.out.cell (World.block_lt_of_cell? w _ hx121_7)).trans hx121_7
        replace hx121_8 := (HB.out.cell (World.block_lt_of_cell? w _ hx121_8)).trans hx121_8
        replace hx121_9 := (HB.out.cell (World.block_lt_of_cell? w _ hx121_9)).trans hx121_9
        replace hx121_10 := (HB.out.cell (World.block_lt_of_cell? w _ hx121_10)).trans hx121_10
        replace hx121_11 := (HB.out.cell (World.block_lt_of_cell? w _ hx121_11)).trans hx121_11
        replace hx121_12 := (HB.out.cell (World.block_lt_of_cell? w _ hx121_12)).trans hx121_12
        have HR121_12 := Aside0.mk hi121_12
        have HC121_12 := Aside0.mk hl121_12
        clear hi121_12 hl121_12
        replace p121 := eq_true p121
        replace q121 := eq_true q121
        refine start_ (n := 25) (S := fun w' => w'.cell? ⟨gb117, 0, none⟩ = some (.int .i64 a1_0) ∧ w'.cell? ⟨gb117, 1, none⟩ = some (.int .i64 a1_1) ∧ w'.cell? ⟨gb117, 2, none⟩ = some (.int .i64 a1_2) ∧ w'.cell? ⟨gb117, 3, none⟩ = some (.int .i64 a1_3) ∧ w'.cell? ⟨gb117, 4, none⟩ = some (.int .i64 a1_4) ∧ w'.cell? ⟨gb117, 5, none⟩ = some (.int .i64 a1_5) ∧ w'.cell? ⟨gb117, 6, none⟩ = some (.int .u64 a1_6) ∧ w'.cell? ⟨gb117, 7, none⟩ = some (.int .u64 a1_7) ∧ w'.cell? ⟨gb117, 8, none⟩ = some (.int .i64 a1_8) ∧ w'.cell? ⟨gb117, 9, none⟩ = some (.int .i64 a1_9) ∧ w'.cell? ⟨gb117, 10, none⟩ = some (.bool a1_10) ∧ w'.cell? ⟨gb117, 11, none⟩ = some (.int .u64 a1_11) ∧ w'.cell? ⟨gb117, 12, none⟩ = some (.slice A1_12 l1_12.length c1_12) ∧ w'.cell? (ad118.add ((x6_1).toNat * 13)) = some (.int .i64 ((rd_T31 l0 x6_1).f0)) ∧ w'.cell? ⟨(ad118.add ((x6_1).toNat * 13)).block, (ad118.add ((x6_1).toNat * 13)).off + 1, none⟩ = some (.int .i64 ((rd_T31 l0 x6_1).f1)) ∧ w'.cell? ⟨(ad118.add ((x6_1).toNat * 13)).block, (ad118.add ((x6_1).toNat * 13)).off + 2, none⟩ = some (.int .i64 ((rd_T31 l0 x6_1).f2)) ∧ w'.cell? ⟨(ad118.add ((x6_1).toNat * 13)).block, (ad118.add ((x6_1).toNat * 13)).off + 3, none⟩ = some (.int .i64 ((rd_T31 l0 x6_1).f3)) ∧ w'.cell? ⟨(ad118.add ((x6_1).toNat * 13)).block, (ad118.add ((x6_1).toNat * 13)).off + 4, none⟩ = some (.int .i64 ((rd_T31 l0 x6_1).f4)) ∧ w'.cell? ⟨(ad118.add ((x6_1).toNat * 13)).block, (ad118.add ((x6_1).toNat * 13)).off + 5, none⟩ = some (.int .i64 ((rd_T31 l0 x6_1).f5.f0)) ∧ w'.cell? ⟨(ad118.add ((x6_1).toNat * 13)).block, (ad118.add ((x6_1).toNat * 13)).off + 6, none⟩ = some (.int .u64 ((rd_T31 l0 x6_1).f5.f1)) ∧ w'.cell? ⟨(ad118.add ((x6_1).toNat * 13)).block, (ad118.add ((x6_1).toNat * 13)).off + 7, none⟩ = some (.int .u64 ((rd_T31 l0 x6_1).f5.f2)) ∧ w'.cell? ⟨(ad118.add ((x6_1).toNat * 13)).block, (ad118.add ((x6_1).toNat * 13)).off + 8, none⟩ = some (.int .i64 ((rd_T31 l0 x6_1).f5.f3)) ∧ w'.cell? ⟨(ad118.add ((x6_1).toNat * 13)).block, (ad118.add ((x6_1).toNat * 13)).off + 9, none⟩ = some (.int .i64 ((rd_T31 l0 x6_1).f6.f0)) ∧ w'.cell? ⟨(ad118.add ((x6_1).toNat * 13)).block, (ad118.add ((x6_1).toNat * 13)).off + 10, none⟩ = some (.bool ((rd_T31 l0 x6_1).f6.f1)) ∧ w'.cell? ⟨(ad118.add ((x6_1).toNat * 13)).block, (ad118.add ((x6_1).toNat * 13)).off + 11, none⟩ = some (.int .u64 ((rd_T31 l0 x6_1).f6.f2)) ∧ w'.cell? ⟨(ad118.add ((x6_1).toNat * 13)).block, (ad118.add ((x6_1).toNat * 13)).off + 12, none⟩ = some (.slice A118_12 ((rd_T31 l0 x6_1).f6.f3).length c118_12) ∧ w'.cell? (ad118.add ((x6_1).toNat * 13)) = some (.int .i64 ((rd_T31 l0 x6_1).f0)) ∧ w'.cell? ⟨(ad118.add ((x6_1).toNat * 13)).block, (ad118.add ((x6_1).toNat * 13)).off + 1, none⟩ = some (.int .i64 ((rd_T31 l0 x6_1).f1)) ∧ w'.cell? ⟨(ad118.add ((x6_1).toNat * 13)).block, (ad118.add ((x6_1).toNat * 13)).off + 2, none⟩ = some (.int .i64 ((rd_T31 l0 x6_1).f2)) ∧ w'.cell? ⟨(ad118.add ((x6_1).toNat * 13)).block, (ad118.add ((x6_1).toNat * 13)).off + 3, none⟩ = some (.int .i64 ((rd_T31 l0 x6_1).f3)) ∧ w'.cell? ⟨(ad118.add ((x6_1).toNat * 13)).block, (ad118.add ((x6_1).toNat * 13)).off + 4, none⟩ = some (.int .i64 ((rd_T31 l0 x6_1).f4)) ∧ w'.cell? ⟨(ad118.add ((x6_1).toNat * 13)).block, (ad118.add ((x6_1).toNat * 13)).off + 5, none⟩ = some (.int .i64 ((rd_T31 l0 x6_1).f5.f0)) ∧ w'.cell? ⟨(ad118.add ((x6_1).toNat * 13)).block, (ad118.add ((x6_1).toNat * 13)).off + 6, none⟩ = some (.int .u64 ((rd_T31 l0 x6_1).f5.f1)) ∧ w'.cell? ⟨(ad118.add ((x6_1).toNat * 13)).block, (ad118.add ((x6_1).toNat * 13)).off + 7, none⟩ = some (.int .u64 ((rd_T31 l0 x6_1).f5.f2)) ∧ w'.cell? ⟨(ad118.add ((x6_1).toNat * 13)).block, (ad118.add ((x6_1).toNat * 13)).off + 8, none⟩ = some (.int .i64 ((rd_T31 l0 x6_1).f5.f3)) ∧ w'.cell? ⟨(ad118.add ((x6_1).toNat * 13)).block, (ad118.add ((x6_1).toNat * 13)).off + 9, none⟩ = some (.int .i64 ((rd_T31 l0 x6_1).f6.f0)) ∧ w'.cell? ⟨(ad118.add ((x6_1).toNat * 13)).block, (ad118.add ((x6_1).toNat * 13)).off + 10, none⟩ = some (.bool ((rd_T31 l0 x6_1).f6.f1)) ∧ w'.cell? ⟨(ad118.add ((x6_1).toNat * 13)).block, (ad118.add ((x6_1).toNat * 13)).off + 11, none⟩ = some (.int .u64 ((rd_T31 l0 x6_1).f6.f2)) ∧ w'.cell? ⟨(ad118.add ((x6_1).toNat * 13)).block, (ad118.add ((x6_1).toNat * 13)).off + 12, none⟩ = some (.slice A118_12 ((rd_T31 l0 x6_1).f6.f3).length c118_12) ∧ w'.cell? (ad118.add ((x6_1).toNat * 13)) = some (.int .i64 ((rd_T31 l0 x6_1).f0)) ∧ w'.cell? ⟨(ad118.add ((x6_1).toNat * 13)).block, (ad118.add ((x6_1).toNat * 13)).off + 1, none⟩ = some (.int .i64 ((rd_T31 l0 x6_1).f1)) ∧ w'.cell? ⟨(ad118.add ((x6_1).toNat * 13)).block, (ad118.add ((x6_1).toNat * 13)).off + 2, none⟩ = some (.int .i64 ((rd_T31 l0 x6_1).f2)) ∧ w'.cell? ⟨(ad118.add ((x6_1).toNat * 13)).block, (ad118.add ((x6_1).toNat * 13)).off + 3, none⟩ = some (.int .i64 ((rd_T31 l0 x6_1).f3)) ∧ w'.cell? ⟨(ad118.add ((x6_1).toNat * 13)).block, (ad118.add ((x6_1).toNat * 13)).off + 4, none⟩ = some (.int .i64 ((rd_T31 l0 x6_1).f4)) ∧ w'.cell? ⟨(ad118.add ((x6_1).toNat * 13)).block, (ad118.add ((x6_1).toNat * 13)).off + 5, none⟩ = some (.int .i64 ((rd_T31 l0 x6_1).f5.f0)) ∧ w'.cell? ⟨(ad118.add ((x6_1).toNat * 13)).block, (ad118.add ((x6_1).toNat * 13)).off + 6, none⟩ = some (.int .u64 ((rd_T31 l0 x6_1).f5.f1)) ∧ w'.cell? ⟨(ad118.add ((x6_1).toNat * 13)).block, (ad118.add ((x6_1).toNat * 13)).off + 7, none⟩ = some (.int .u64 ((rd_T31 l0 x6_1).f5.f2)) ∧ w'.cell? ⟨(ad118.add ((x6_1).toNat * 13)).block, (ad118.add ((x6_1).toNat * 13)).off + 8, none⟩ = some (.int .i64 ((rd_T31 l0 x6_1).f5.f3)) ∧ w'.cell? ⟨(ad118.add ((x6_1).toNat * 13)).block, (ad118.add ((x6_1).toNat * 13)).off + 9, none⟩ = some (.int .i64 ((rd_T31 l0 x6_1).f6.f0)) ∧ w'.cell? ⟨(ad118.add ((x6_1).toNat * 13)).block, (ad118.add ((x6_1).toNat * 13)).off + 10, none⟩ = some (.bool ((rd_T31 l0 x6_1).f6.f1)) ∧ w'.cell? ⟨(ad118.add ((x6_1).toNat * 13)).block, (ad118.add ((x6_1).toNat * 13)).off + 11, none⟩ = some (.int .u64 ((rd_T31 l0 x6_1).f6.f2)) ∧ w'.cell? ⟨(ad118.add ((x6_1).toNat * 13)).block, (ad118.add ((x6_1).toNat * 13)).off + 12, none⟩ = some (.slice A118_12 ((rd_T31 l0 x6_1).f6.f3).length c118_12)) (ds := []) #[false, false, false, false, false, false, false, false, false, false, false, false, false, false, false, false, false, false, false, false, false, false, false, false, false] (by kernel_rfl) rfl rfl ⟨(blk_cell BK117.out 0).trans rfl, (blk_cell BK117.out 1).trans rfl, (blk_cell BK117.out 2).trans rfl, (blk_cell BK117.out 3).trans rfl, (blk_cell BK117.out 4).trans rfl, (blk_cell BK117.out 5).trans rfl, (blk_cell BK117.out 6).trans rfl, (blk_cell BK117.out 7).trans rfl, (blk_cell BK117.out 8).trans rfl, (blk_cell BK117.out 9).trans rfl, (blk_cell BK117.out 10).trans rfl, (blk_cell BK117.out 11).trans rfl, (blk_cell BK117.out 12).trans rfl, ((HB.out.cell (World.block_lt_of_cell? w _ hw118_0)).trans hw118_0), ((HB.out.cell (World.block_lt_of_cell? w _ hw118_1)).trans hw118_1), ((HB.out.cell (World.block_lt_of_cell? w _ hw118_2)).trans hw118_2), ((HB.out.cell (World.block_lt_of_cell? w _ hw118_3)).trans hw118_3), ((HB.out.cell (World.block_lt_of_cell? w _ hw118_4)).trans hw118_4), ((HB.out.cell (World.block_lt_of_cell? w _ hw118_5)).trans hw118_5), ((HB.out.cell (World.block_lt_of_cell? w _ hw118_6)).trans hw118_6), ((HB.out.cell (World.block_lt_of_cell? w _ hw118_7)).trans hw118_7), ((HB.out.cell (World.block_lt_of_cell? w _ hw118_8)).trans hw118_8), ((HB.out.cell (World.block_lt_of_cell? w _ hw118_9)).trans hw118_9), ((HB.out.cell (World.block_lt_of_cell? w _ hw118_10)).trans hw118_10), ((HB.out.cell (World.block_lt_of_cell? w _ hw118_11)).trans hw118_11), ((HB.out.cell (World.block_lt_of_cell? w _ hw118_12)).trans hw118_12), ((HB.out.cell (World.block_lt_of_cell? w _ hw119_0)).trans hw119_0), ((HB.out.cell (World.block_lt_of_cell? w _ hw119_1)).trans hw119_1), ((HB.out.cell (World.block_lt_of_cell? w _ hw119_2)).trans hw119_2), ((HB.out.cell (World.block_lt_of_cell? w _ hw119_3)).trans hw119_3), ((HB.out.cell (World.block_lt_of_cell? w _ hw119_4)).trans hw119_4), ((HB.out.cell (World.block_lt_of_cell? w _ hw119_5)).trans hw119_5), ((HB.out.cell (World.block_lt_of_cell? w _ hw119_6)).trans hw119_6), ((HB.out.cell (World.block_lt_of_cell? w _ hw119_7)).trans hw119_7), ((HB.out.cell (World.block_lt_of_cell? w _ hw119_8)).trans hw119_8), ((HB.out.cell (World.block_lt_of_cell? w _ hw119_9)).trans hw119_9), ((HB.out.cell (World.block_lt_of_cell? w _ hw119_10)).trans hw119_10), ((HB.out.cell (World.block_lt_of_cell? w _ hw119_11)).trans hw119_11), ((HB.out.cell (World.block_lt_of_cell? w _ hw119_12)).trans hw119_12), ((HB.out.cell (World.block_lt_of_cell? w _ hw121_0)).trans hw121_0), ((HB.out.cell (World.block_lt_of_cell? w _ hw121_1)).trans hw121_1), ((HB.out.cell (World.block_lt_of_cell? w _ hw121_2)).trans hw121_2), ((HB.out.cell (World.block_lt_of_cell? w _ hw121_3)).trans hw121_3), ((HB.out.cell (World.block_lt_of_cell? w _ hw121_4)).trans hw121_4), ((HB.out.cell (World.block_lt_of_cell? w _ hw121_5)).trans hw121_5), ((HB.out.cell (World.block_lt_of_cell? w _ hw121_6)).trans hw121_6), ((HB.out.cell (World.block_lt_of_cell? w _ hw121_7)).trans hw121_7), ((HB.out.cell (World.block_lt_of_cell? w _ hw121_8)).trans hw121_8), ((HB.out.cell (World.block_lt_of_cell? w _ hw121_9)).trans hw121_9), ((HB.out.cell (World.block_lt_of_cell? w _ hw121_10)).trans hw121_10), ((HB.out.cell (World.block_lt_of_cell? w _ hw121_11)).trans hw121_11), ((HB.out.cell (World.block_lt_of_cell? w _ hw121_12)).trans hw121_12)⟩ (fun hHeld => ?_); refine with_tabW corrieref19_Inserts.tab5 corrieref19_Inserts.bits5 (fun HT_ HW_ => ?_)
        generalize wr.drew = w13 at BK117 HB HR118_12 HR119_12 HR121_12 hx118_0 hx118_1 hx118_10 hx118_11 hx118_12 hx118_2 hx118_3 hx118_4 hx118_5 hx118_6 hx118_7 hx118_8 hx118_9 hx119_0 hx119_1 hx119_10 hx119_11 hx119_12 hx119_2 hx119_3 hx119_4 hx119_5 hx119_6 hx119_7 hx119_8 hx119_9 hx121_0 hx121_1 hx121_10 hx121_11 hx121_12 hx121_2 hx121_3 hx121_4 hx121_5 hx121_6 hx121_7 hx121_8 hx121_9 hHeld ⊢
        refine pure_ (i := 0) (N := some 13) (v := ?_) (a' := ?_) #[true, false, false, false, false, false, false, false, false, false, false, false, false, false, false, false, false, false, false, false, false, false, false, false, false] rfl rfl (any_of HT_.out (by kernel_rfl)) (fun _ _ _ h => h) (Or.inl ⟨by rfl, ?_⟩) ?_ ?_
        rotate_left
        ·intro w'
         go_simp
         with_reducible rfl
        rotate_left
        ·simp only [Act.put, List.setIfInBounds_toArray, List.set_cons_zero, List.set_cons_succ, i64_w, i32_w]
         rfl
        refine pure_ (i := 1) (N := some 14) (v := ?_) (a' := ?_) #[true, true, false, false, false, false, false, false, false, false, false, false, false, false, false, false, false, false, false, false, false, false, false, false, false] rfl rfl (any_of HT_.out (by kernel_rfl)) (fun _ _ _ h => h) (Or.inl ⟨by rfl, ?_⟩) ?_ ?_
        rotate_left
        ·intro w'
         go_simp
         with_reducible rfl
        rotate_left
        ·simp only [Act.put, List.setIfInBounds_toArray, List.set_cons_zero, List.set_cons_succ, i64_w, i32_w]
         rfl
        refine pure_ (i := 2) (N := some 15) (v := ?_) (a' := ?_) #[true, true, true, false, false, false, false, false, false, false, false, false, false, false, false, false, false, false, false, false, false, false, false, false, false] rfl rfl (any_of HT_.out (by kernel_rfl)) (fun _ _ _ h => h) (Or.inl ⟨by rfl, ?_⟩) ?_ ?_
        rotate_left
        ·intro w'
         go_simp
         with_reducible rfl
        rotate_left
        ·simp only [Act.put, List.setIfInBounds_toArray, List.set_cons_zero, List.set_cons_succ, i64_w, i32_w]
         rfl
        refine pure_ (i := 3) (N := some 16) (v := ?_) (a' := ?_) #[true, true, true, true, false, false, false, false, false, false, false, false, false, false, false, false, false, false, false, false, false, false, false, false, false] rfl rfl (any_of HT_.out (by kernel_rfl)) (fun _ _ _ h => h) (Or.inl ⟨by rfl, ?_⟩) ?_ ?_
        rotate_left
        ·intro w'
         go_simp
         with_reducible rfl
        rotate_left
        ·simp only [Act.put, List.setIfInBounds_toArray, List.set_cons_zero, List.set_cons_succ, i64_w, i32_w]
         rfl
        refine pure_ (i := 4) (N := some 17) (v := ?_) (a' := ?_) #[true, true, true, true, true, false, false, false, false, false, false, false, false, false, false, false, false, false, false, false, false, false, false, false, false] rfl rfl (any_of HT_.out (by kernel_rfl)) (fun _ _ _ h => h) (Or.inl ⟨by rfl, ?_⟩) ?_ ?_
        rotate_left
        ·intro w'
         go_simp
         with_reducible rfl
        rotate_left
        ·simp only [Act.put, List.setIfInBounds_toArray, List.set_cons_zero, List.set_cons_succ, i64_w, i32_w]
         rfl
        refine take_ (i := 5) (N := some 18) (v := ?_) (a' := ?_) #[true, true, true, true, true, true, false, false, false, false, false, false, false, false, false, false, false, false, false, false, false, false, false, false, false] rfl rfl (take_ofW HT_.out HW_.out (by kernel_rfl)) (fun _ _ _ h => h) (Or.inl ⟨by rfl, ?_⟩) hHeld ?_ ?_
        rotate_left
        ·rintro w' ⟨s0, s1, s2, s3, s4, s5, s6, s7, s8, s9, s10, s11, s12, s13, s14, s15, s16, s17, s18, s19, s20, s21, s22, s23, s24, s25, s26, s27, s28, s29, s30, s31, s32, s33, s34, s35, s36, s37, s38, s39, s40, s41, s42, s43, s44, s45, s46, s47, s48, s49, s50, s51⟩
         go_simp
         with_reducible rfl
        rotate_left
        ·simp only [Act.put, List.setIfInBounds_toArray, List.set_cons_zero, List.set_cons_succ, i64_w, i32_w]
         rfl
        refine pure_ (i := 6) (N := some 19) (v := ?_) (a' := ?_) #[true, true, true, true, true, true, true, false, false, false, false, false, false, false, false, false, false, false, false, false, false, false, false, false, false] rfl rfl (any_of HT_.out (by kernel_rfl)) (fun _ _ _ h => h) (Or.inl ⟨by rfl, ?_⟩) ?_ ?_
        rotate_left
        ·intro w'
         go_simp
         with_reducible rfl
        rotate_left
        ·simp only [Act.put, List.setIfInBounds_toArray, List.set_cons_zero, List.set_cons_succ, i64_w, i32_w]
         rfl
        refine pure_ (i := 7) (N := some 20) (v := ?_) (a' := ?_) #[true, true, true, true, true, true, true, true, false, false, false, false, false, false, false, false, false, false, false, false, false, false, false, false, false] rfl rfl (any_of HT_.out (by kernel_rfl)) (fun _ _ _ h => h) (Or.inl ⟨by rfl, ?_⟩) ?_ ?_
        rotate_left
        ·intro w'
         go_simp
         with_reducible rfl
        rotate_left
        ·simp only [Act.put, List.setIfInBounds_toArray, List.set_cons_zero, List.set_cons_succ, i64_w, i32_w]
         rfl
        refine pure_ (i := 8) (N := some 21) (v := ?_) (a' := ?_) #[true, true, true, true, true, true, true, true, true, false, false, false, false, false, false, false, false, false, false, false, false, false, false, false, false] rfl rfl (any_of HT_.out (by kernel_rfl)) (fun _ _ _ h => h) (Or.inl ⟨by rfl, ?_⟩) ?_ ?_
        rotate_left
        ·intro w'
         go_simp
         with_reducible rfl
        rotate_left
        ·simp only [Act.put, List.setIfInBounds_toArray, List.set_cons_zero, List.set_cons_succ, i64_w, i32_w]
         rfl
        refine pure_ (i := 9) (N := some 22) (v := ?_) (a' := ?_) #[true, true, true, true, true, true, true, true, true, true, false, false, false, false, false, false, false, false, false, false, false, false, false, false, false] rfl rfl (any_of HT_.out (by kernel_rfl)) (fun _ _ _ h => h) (Or.inl ⟨by rfl, ?_⟩) ?_ ?_
        rotate_left
        ·intro w'
         go_simp
         with_reducible rfl
        rotate_left
        ·simp only [Act.put, List.setIfInBounds_toArray, List.set_cons_zero, List.set_cons_succ, i64_w, i32_w]
         rfl
        refine pure_ (i := 10) (N := some 23) (v := ?_) (a' := ?_) #[true, true, true, true, true, true, true, true, true, true, true, false, false, false, false, false, false, false, false, false, false, false, false, false, false] rfl rfl (any_of HT_.out (by kernel_rfl)) (fun _ _ _ h => h) (Or.inl ⟨by rfl, ?_⟩) ?_ ?_
        rotate_left
        ·intro w'
         go_simp
         with_reducible rfl
        rotate_left
        ·simp only [Act.put, List.setIfInBounds_toArray, List.set_cons_zero, List.set_cons_succ, i64_w, i32_w]
         rfl
        refine take_ (i := 11) (N := some 24) (v := ?_) (a' := ?_) #[true, true, true, true, true, true, true, true, true, true, true, true, false, false, false, false, false, false, false, false, false, false, false, false, false] rfl rfl (take_ofW HT_.out HW_.out (by kernel_rfl)) (fun _ _ _ h => h) (Or.inl ⟨by rfl, ?_⟩) hHeld ?_ ?_
        rotate_left
        ·rintro w' ⟨s0, s1, s2, s3, s4, s5, s6, s7, s8, s9, s10, s11, s12, s13, s14, s15, s16, s17, s18, s19, s20, s21, s22, s23, s24, s25, s26, s27, s28, s29, s30, s31, s32, s33, s34, s35, s36, s37, s38, s39, s40, s41, s42, s43, s44, s45, s46, s47, s48, s49, s50, s51⟩
         go_simp
         with_reducible rfl
        rotate_left
        ·simp only [Act.put, List.setIfInBounds_toArray, List.set_cons_zero, List.set_cons_succ, i64_w, i32_w]
         rfl
        refine take_ (i := 12) (N := some 25) (v := ?_) (a' := ?_) #[true, true, true, true, true, true, true, true, true, true, true, true, true, false, false, false, false, false, false, false, false, false, false, false, false] rfl rfl (take_ofW HT_.out HW_.out (by kernel_rfl)) (fun _ _ _ h => h) (Or.inl ⟨by rfl, ?_⟩) hHeld ?_ ?_
        rotate_left
        ·rintro w' ⟨s0, s1, s2, s3, s4, s5, s6, s7, s8, s9, s10, s11, s12, s13, s14, s15, s16, s17, s18, s19, s20, s21, s22, s23, s24, s25, s26, s27, s28, s29, s30, s31, s32, s33, s34, s35, s36, s37, s38, s39, s40, s41, s42, s43, s44, s45, s46, s47, s48, s49, s50, s51⟩
         go_simp
         with_reducible rfl
        rotate_left
        ·simp only [Act.put, List.setIfInBounds_toArray, List.set_cons_zero, List.set_cons_succ, i64_w, i32_w]
         rfl
        refine one_ (i := 13) (N := some 26) #[true, true, true, true, true, true, true, true, true, true, true, true, true, true, false, false, false, false, false, false, false, false, false, false, false] rfl rfl (one_of HT_.out (by kernel_rfl)) (by decide) (fun K hK => ?_)
        refine goes_ Try.func20 (by kernel_rfl) rfl #[.agg #[.int .i64 ((rd_T31 l0 x6_1).f0), .int .i64 ((rd_T31 l0 x6_1).f1), .int .i64 ((rd_T31 l0 x6_1).f2), .int .i64 ((rd_T31 l0 x6_1).f3), .int .i64 ((rd_T31 l0 x6_1).f4), .int .i64 ((rd_T31 l0 x6_1).f5.f0), .int .u64 ((rd_T31 l0 x6_1).f5.f1), .int .u64 ((rd_T31 l0 x6_1).f5.f2), .int .i64 ((rd_T31 l0 x6_1).f5.f3), .int .i64 ((rd_T31 l0 x6_1).f6.f0), .bool ((rd_T31 l0 x6_1).f6.f1), .int .u64 ((rd_T31 l0 x6_1).f6.f2), .slice A118_12 ((rd_T31 l0 x6_1).f6.f3).length c118_12], .agg #[.int .i64 a1_0, .int .i64 a1_1, .int .i64 a1_2, .int .i64 a1_3, .int .i64 a1_4, .int .i64 a1_5, .int .u64 a1_6, .int .u64 a1_7, .int .i64 a1_8, .int .i64 a1_9, .bool a1_10, .int .u64 a1_11, .slice A1_12 l1_12.length c1_12]] (by rfl) rfl rfl (by (try simp only [List.map_toArray, List.map_cons, List.map_nil]); first | done | rfl | (simp only [List.length_drop, List.length_take]; rfl)) ?_
        with_reducible refine (corrieref19_Before.calls ((rd_T31 l0 x6_1).f0) ((rd_T31 l0 x6_1).f1) ((rd_T31 l0 x6_1).f2) ((rd_T31 l0 x6_1).f3) ((rd_T31 l0 x6_1).f4) ((rd_T31 l0 x6_1).f5.f0) ((rd_T31 l0 x6_1).f5.f1) ((rd_T31 l0 x6_1).f5.f2) ((rd_T31 l0 x6_1).f5.f3) ((rd_T31 l0 x6_1).f6.f0) ((rd_T31 l0 x6_1).f6.f1) ((rd_T31 l0 x6_1).f6.f2) _ _ ((rd_T31 l0 x6_1).f6.f3) a1_0 a1_1 a1_2 a1_3 a1_4 a1_5 a1_6 a1_7 a1_8 a1_9 a1_10 a1_11 _ _ l1_12 false _ ?side1 ?side2 ?side3 ?side4 A7.out).mono ?_
        (case side1 => repeat (first | exact (Kd.C_below HR119_12.out HB.out) | (with_reducible refine Kd.C_alloc ?_ _) | (with_reducible refine Kd.C_drewN ?_ _) | (with_reducible refine Kd.C_drew ?_)))
        (case side2 => exact HC119_12.out)
        (case side3 => repeat (first | exact (Kd.C_below HR1_12.out HB.out) | (with_reducible refine Kd.C_alloc ?_ _) | (with_reducible refine Kd.C_drewN ?_ _) | (with_reducible refine Kd.C_drew ?_)))
        (case side4 => exact HC1_12.out)
        rintro e w14 ⟨rfl, hb⟩
        refine ⟨_, rfl, ?_⟩
        have n0_ := Aside0.mk (blk_below (g := gb117) (o := .cells #[.int .i64 a1_0, .int .i64 a1_1, .int .i64 a1_2, .int .i64 a1_3, .int .i64 a1_4, .int .i64 a1_5, .int .u64 a1_6, .int .u64 a1_7, .int .i64 a1_8, .int .i64 a1_9, .bool a1_10, .int .u64 a1_11, .slice A1_12 l1_12.length c1_12] 31 (0, 0)) (by (with_reducible repeat (first | refine blk_drewN ?_ _ | refine blk_drew ?_ | refine blk_alloc ?_ _)); exact BK117.out) hb)
        have n1_ := Aside0.mk (below_step (by repeat (first | (with_reducible first | exact HB.out | apply below_alloc | apply pw_below_drewN | apply below_drew1 | refine below_set ?_ GE117.out) | exact HB.out)) hb)
        clear BK117
        clear HB
        have BK117 := n0_
        have HB := n1_
        clear n0_ n1_
        (try clear hb)
        (try clear hb2)
        (try clear hk)
        (try clear hi)
        refine hK.out _ _ ⟨(blk_cell BK117.out 0).trans rfl, (blk_cell BK117.out 1).trans rfl, (blk_cell BK117.out 2).trans rfl, (blk_cell BK117.out 3).trans rfl, (blk_cell BK117.out 4).trans rfl, (blk_cell BK117.out 5).trans rfl, (blk_cell BK117.out 6).trans rfl, (blk_cell BK117.out 7).trans rfl, (blk_cell BK117.out 8).trans rfl, (blk_cell BK117.out 9).trans rfl, (blk_cell BK117.out 10).trans rfl, (blk_cell BK117.out 11).trans rfl, (blk_cell BK117.out 12).trans rfl, ((HB.out.cell (World.block_lt_of_cell? w _ hw118_0)).trans hw118_0), ((HB.out.cell (World.block_lt_of_cell? w _ hw118_1)).trans hw118_1), ((HB.out.cell (World.block_lt_of_cell? w _ hw118_2)).trans hw118_2), ((HB.out.cell (World.block_lt_of_cell? w _ hw118_3)).trans hw118_3), ((HB.out.cell (World.block_lt_of_cell? w _ hw118_4)).trans hw118_4), ((HB.out.cell (World.block_lt_of_cell? w _ hw118_5)).trans hw118_5), ((HB.out.cell (World.block_lt_of_cell? w _ hw118_6)).trans hw118_6), ((HB.out.cell (World.block_lt_of_cell? w _ hw118_7)).trans hw118_7), ((HB.out.cell (World.block_lt_of_cell? w _ hw118_8)).trans hw118_8), ((HB.out.cell (World.block_lt_of_cell? w _ hw118_9)).trans hw118_9), ((HB.out.cell (World.block_lt_of_cell? w _ hw118_10)).trans hw118_10), ((HB.out.cell (World.block_lt_of_cell? w _ hw118_11)).trans hw118_11), ((HB.out.cell (World.block_lt_of_cell? w _ hw118_12)).trans hw118_12), ((HB.out.cell (World.block_lt_of_cell? w _ hw119_0)).trans hw119_0), ((HB.out.cell (World.block_lt_of_cell? w _ hw119_1)).trans hw119_1), ((HB.out.cell (World.block_lt_of_cell? w _ hw119_2)).trans hw119_2), ((HB.out.cell (World.block_lt_of_cell? w _ hw119_3)).trans hw119_3), ((HB.out.cell (World.block_lt_of_cell? w _ hw119_4)).trans hw119_4), ((HB.out.cell (World.block_lt_of_cell? w _ hw119_5)).trans hw119_5), ((HB.out.cell (World.block_lt_of_cell? w _ hw119_6)).trans hw119_6), ((HB.out.cell (World.block_lt_of_cell? w _ hw119_7)).trans hw119_7), ((HB.out.cell (World.block_lt_of_cell? w _ hw119_8)).trans hw119_8), ((HB.out.cell (World.block_lt_of_cell? w _ hw119_9)).trans hw119_9), ((HB.out.cell (World.block_lt_of_cell? w _ hw119_10)).trans hw119_10), ((HB.out.cell (World.block_lt_of_cell? w _ hw119_11)).trans hw119_11), ((HB.out.cell (World.block_lt_of_cell? w _ hw119_12)).trans hw119_12), ((HB.out.cell (World.block_lt_of_cell? w _ hw121_0)).trans hw121_0), ((HB.out.cell (World.block_lt_of_cell? w _ hw121_1)).trans hw121_1), ((HB.out.cell (World.block_lt_of_cell? w _ hw121_2)).trans hw121_2), ((HB.out.cell (World.block_lt_of_cell? w _ hw121_3)).trans hw121_3), ((HB.out.cell (World.block_lt_of_cell? w _ hw121_4)).trans hw121_4), ((HB.out.cell (World.block_lt_of_cell? w _ hw121_5)).trans hw121_5), ((HB.out.cell (World.block_lt_of_cell? w _ hw121_6)).trans hw121_6), ((HB.out.cell (World.block_lt_of_cell? w _ hw121_7)).trans hw121_7), ((HB.out.cell (World.block_lt_of_cell? w _ hw121_8)).trans hw121_8), ((HB.out.cell (World.block_lt_of_cell? w _ hw121_9)).trans hw121_9), ((HB.out.cell (World.block_lt_of_cell? w _ hw121_10)).trans hw121_10), ((HB.out.cell (World.block_lt_of_cell? w _ hw121_11)).trans hw121_11), ((HB.out.cell (World.block_lt_of_cell? w _ hw121_12)).trans hw121_12)⟩ (fun hHeld => ?_)
        clear hK K
        refine norm_ (a' := ?_) ?_ ?_
        rotate_left
        ·show Act.put _ (some 26) _ = _
         simp only [Act.put, List.setIfInBounds_toArray, List.set_cons_zero, List.set_cons_succ, i64_w, i32_w]
         rfl
        refine pure_ (i := 14) (N := some 27) (v := ?_) (a' := ?_) #[true, true, true, true, true, true, true, true, true, true, true, true, true, true, true, false, false, false, false, false, false, false, false, false, false] rfl rfl (any_of HT_.out (by kernel_rfl)) (fun _ _ _ h => h) (Or.inl ⟨by rfl, ?_⟩) ?_ ?_
        rotate_left
        ·intro w'
         go_simp
         with_reducible rfl
        rotate_left
        ·simp only [Act.put, List.setIfInBounds_toArray, List.set_cons_zero, List.set_cons_succ, i64_w, i32_w]
         rfl
        refine pure_ (i := 15) (N := some 28) (v := ?_) (a' := ?_) #[true, true, true, true, true, true, true, true, true, true, true, true, true, true, true, true, false, false, false, false, false, false, false, false, false] rfl rfl (any_of HT_.out (by kernel_rfl)) (fun _ _ _ h => h) (Or.inl ⟨by rfl, ?_⟩) ?_ ?_
        rotate_left
        ·intro w'
         go_simp
         with_reducible rfl
        rotate_left
        ·simp only [Act.put, List.setIfInBounds_toArray, List.set_cons_zero, List.set_cons_succ, i64_w, i32_w]
         rfl
        refine pure_ (i := 16) (N := some 29) (v := ?_) (a' := ?_) #[true, true, true, true, true, true, true, true, true, true, true, true, true, true, true, true, true, false, false, false, false, false, false, false, false] rfl rfl (any_of HT_.out (by kernel_rfl)) (fun _ _ _ h => h) (Or.inl ⟨by rfl, ?_⟩) ?_ ?_
        rotate_left
        ·intro w'
         go_simp
         with_reducible rfl
        rotate_left
        ·simp only [Act.put, List.setIfInBounds_toArray, List.set_cons_zero, List.set_cons_succ, i64_w, i32_w]
         rfl
        refine pure_ (i := 18) (N := some 31) (v := ?_) (a' := ?_) #[true, true, true, true, true, true, true, true, true, true, true, true, true, true, true, true, true, false, true, false, false, false, false, false, false] rfl rfl (any_of HT_.out (by kernel_rfl)) (fun _ _ _ h => h) (Or.inl ⟨by rfl, ?_⟩) ?_ ?_
        rotate_left
        ·intro w'
         go_simp
         with_reducible rfl
        rotate_left
        ·simp only [Act.put, List.setIfInBounds_toArray, List.set_cons_zero, List.set_cons_succ, i64_w, i32_w]
         rfl
        refine pure_ (i := 19) (N := some 32) (v := ?_) (a' := ?_) #[true, true, true, true, true, true, true, true, true, true, true, true, true, true, true, true, true, false, true, true, false, false, false, false, false] rfl rfl (any_of HT_.out (by kernel_rfl)) (fun _ _ _ h => h) (Or.inl ⟨by rfl, ?_⟩) ?_ ?_
        rotate_left
        ·intro w'
         go_simp
         with_reducible rfl
        rotate_left
        ·simp only [Act.put, List.setIfInBounds_toArray, List.set_cons_zero, List.set_cons_succ, i64_w, i32_w]
         rfl
        refine pure_ (i := 20) (N := some 33) (v := ?_) (a' := ?_) #[true, true, true, true, true, true, true, true, true, true, true, true, true, true, true, true, true, false, true, true, true, false, false, false, false] rfl rfl (any_of HT_.out (by kernel_rfl)) (fun _ _ _ h => h) (Or.inl ⟨by rfl, ?_⟩) ?_ ?_
        rotate_left
        ·intro w'
         go_simp
         with_reducible rfl
        rotate_left
        ·simp only [Act.put, List.setIfInBounds_toArray, List.set_cons_zero, List.set_cons_succ, i64_w, i32_w]
         rfl
        refine take_ (i := 17) (N := some 30) (v := ?_) (a' := ?_) #[true, true, true, true, true, true, true, true, true, true, true, true, true, true, true, true, true, true, true, true, true, false, false, false, false] rfl rfl (take_ofW HT_.out HW_.out (by kernel_rfl)) (fun _ _ _ h => h) (Or.inl ⟨by rfl, ?_⟩) hHeld ?_ ?_
        rotate_left
        ·rintro w' ⟨s0, s1, s2, s3, s4, s5, s6, s7, s8, s9, s10, s11, s12, s13, s14, s15, s16, s17, s18, s19, s20, s21, s22, s23, s24, s25, s26, s27, s28, s29, s30, s31, s32, s33, s34, s35, s36, s37, s38, s39, s40, s41, s42, s43, s44, s45, s46, s47, s48, s49, s50, s51⟩
         go_simp
         with_reducible rfl
        rotate_left
        ·simp only [Act.put, List.setIfInBounds_toArray, List.set_cons_zero, List.set_cons_succ, i64_w, i32_w]
         rfl
        refine take_ (i := 21) (N := some 34) (v := ?_) (a' := ?_) #[true, true, true, true, true, true, true, true, true, true, true, true, true, true, true, true, true, true, true, true, true, true, false, false, false] rfl rfl (take_ofW HT_.out HW_.out (by kernel_rfl)) (fun _ _ _ h => h) (Or.inl ⟨by rfl, ?_⟩) hHeld ?_ ?_
        rotate_left
        ·rintro w' ⟨s0, s1, s2, s3, s4, s5, s6, s7, s8, s9, s10, s11, s12, s13, s14, s15, s16, s17, s18, s19, s20, s21, s22, s23, s24, s25, s26, s27, s28, s29, s30, s31, s32, s33, s34, s35, s36, s37, s38, s39, s40, s41, s42, s43, s44, s45, s46, s47, s48, s49, s50, s51⟩
         go_simp
         with_reducible rfl
        rotate_left
        ·simp only [Act.put, List.setIfInBounds_toArray, List.set_cons_zero, List.set_cons_succ, i64_w, i32_w]
         rfl
        refine one_ (i := 22) (N := some 35) #[true, true, true, true, true, true, true, true, true, true, true, true, true, true, true, true, true, true, true, true, true, true, true, false, false] rfl rfl (one_of HT_.out (by kernel_rfl)) (by decide) (fun K hK => ?_)
        refine goes_ Try.func20 (by kernel_rfl) rfl #[.agg #[.int .i64 a1_0, .int .i64 a1_1, .int .i64 a1_2, .int .i64 a1_3, .int .i64 a1_4, .int .i64 a1_5, .int .u64 a1_6, .int .u64 a1_7, .int .i64 a1_8, .int .i64 a1_9, .bool a1_10, .int .u64 a1_11, .slice A1_12 l1_12.length c1_12], .agg #[.int .i64 ((rd_T31 l0 x6_1).f0), .int .i64 ((rd_T31 l0 x6_1).f1), .int .i64 ((rd_T31 l0 x6_1).f2), .int .i64 ((rd_T31 l0 x6_1).f3), .int .i64 ((rd_T31 l0 x6_1).f4), .int .i64 ((rd_T31 l0 x6_1).f5.f0), .int .u64 ((rd_T31 l0 x6_1).f5.f1), .int .u64 ((rd_T31 l0 x6_1).f5.f2), .int .i64 ((rd_T31 l0 x6_1).f5.f3), .int .i64 ((rd_T31 l0 x6_1).f6.f0), .bool ((rd_T31 l0 x6_1).f6.f1), .int .u64 ((rd_T31 l0 x6_1).f6.f2), .slice A118_12 ((rd_T31 l0 x6_1).f6.f3).length c118_12]] (by rfl) rfl rfl (by (try simp only [List.map_toArray, List.map_cons, List.map_nil]); first | done | rfl | (simp only [List.length_drop, List.length_take]; rfl)) ?_
        with_reducible refine (corrieref19_Before.calls a1_0 a1_1 a1_2 a1_3 a1_4 a1_5 a1_6 a1_7 a1_8 a1_9 a1_10 a1_11 _ _ l1_12 ((rd_T31 l0 x6_1).f0) ((rd_T31 l0 x6_1).f1) ((rd_T31 l0 x6_1).f2) ((rd_T31 l0 x6_1).f3) ((rd_T31 l0 x6_1).f4) ((rd_T31 l0 x6_1).f5.f0) ((rd_T31 l0 x6_1).f5.f1) ((rd_T31 l0 x6_1).f5.f2) ((rd_T31 l0 x6_1).f5.f3) ((rd_T31 l0 x6_1).f6.f0) ((rd_T31 l0 x6_1).f6.f1) ((rd_T31 l0 x6_1).f6.f2) _ _ ((rd_T31 l0 x6_1).f6.f3) true _ ?side1 ?side2 ?side3 ?side4 A11.out).mono ?_
        (case side1 => repeat (first | exact (Kd.C_below HR1_12.out HB.out) | (with_reducible refine Kd.C_alloc ?_ _) | (with_reducible refine Kd.C_drewN ?_ _) | (with_reducible refine Kd.C_drew ?_)))
        (case side2 => exact HC1_12.out)
        (case side3 => repeat (first | exact (Kd.C_below HR121_12.out HB.out) | (with_reducible refine Kd.C_alloc ?_ _) | (with_reducible refine Kd.C_drewN ?_ _) | (with_reducible refine Kd.C_drew ?_)))
        (case side4 => exact HC121_12.out)
        rintro e w15 ⟨rfl, hb⟩
        refine ⟨_, rfl, ?_⟩
        have n0_ := Aside0.mk (blk_below (g := gb117) (o := .cells #[.int .i64 a1_0, .int .i64 a1_1, .int .i64 a1_2, .int .i64 a1_3, .int .i64 a1_4, .int .i64 a1_5, .int .u64 a1_6, .int .u64 a1_7, .int .i64 a1_8, .int .i64 a1_9, .bool a1_10, .int .u64 a1_11, .slice A1_12 l1_12.length c1_12] 31 (0, 0)) (by (with_reducible repeat (first | refine blk_drewN ?_ _ | refine blk_drew ?_ | refine blk_alloc ?_ _)); exact BK117.out) hb)
        have n1_ := Aside0.mk (below_step (by repeat (first | (with_reducible first | exact HB.out | apply below_alloc | apply pw_below_drewN | apply below_drew1 | refine below_set ?_ GE117.out) | exact HB.out)) hb)
        clear BK117
        clear HB
        have BK117 := n0_
        have HB := n1_
        clear n0_ n1_
        (try clear hb)
        (try clear hb2)
        (try clear hk)
        (try clear hi)
        refine hK.out _ _ ⟨(blk_cell BK117.out 0).trans rfl, (blk_cell BK117.out 1).trans rfl, (blk_cell BK117.out 2).trans rfl, (blk_cell BK117.out 3).trans rfl, (blk_cell BK117.out 4).trans rfl, (blk_cell BK117.out 5).trans rfl, (blk_cell BK117.out 6).trans rfl, (blk_cell BK117.out 7).trans rfl, (blk_cell BK117.out 8).trans rfl, (blk_cell BK117.out 9).trans rfl, (blk_cell BK117.out 10).trans rfl, (blk_cell BK117.out 11).trans rfl, (blk_cell BK117.out 12).trans rfl, ((HB.out.cell (World.block_lt_of_cell? w _ hw118_0)).trans hw118_0), ((HB.out.cell (World.block_lt_of_cell? w _ hw118_1)).trans hw118_1), ((HB.out.cell (World.block_lt_of_cell? w _ hw118_2)).trans hw118_2), ((HB.out.cell (World.block_lt_of_cell? w _ hw118_3)).trans hw118_3), ((HB.out.cell (World.block_lt_of_cell? w _ hw118_4)).trans hw118_4), ((HB.out.cell (World.block_lt_of_cell? w _ hw118_5)).trans hw118_5), ((HB.out.cell (World.block_lt_of_cell? w _ hw118_6)).trans hw118_6), ((HB.out.cell (World.block_lt_of_cell? w _ hw118_7)).trans hw118_7), ((HB.out.cell (World.block_lt_of_cell? w _ hw118_8)).trans hw118_8), ((HB.out.cell (World.block_lt_of_cell? w _ hw118_9)).trans hw118_9), ((HB.out.cell (World.block_lt_of_cell? w _ hw118_10)).trans hw118_10), ((HB.out.cell (World.block_lt_of_cell? w _ hw118_11)).trans hw118_11), ((HB.out.cell (World.block_lt_of_cell? w _ hw118_12)).trans hw118_12), ((HB.out.cell (World.block_lt_of_cell? w _ hw119_0)).trans hw119_0), ((HB.out.cell (World.block_lt_of_cell? w _ hw119_1)).trans hw119_1), ((HB.out.cell (World.block_lt_of_cell? w _ hw119_2)).trans hw119_2), ((HB.out.cell (World.block_lt_of_cell? w _ hw119_3)).trans hw119_3), ((HB.out.cell (World.block_lt_of_cell? w _ hw119_4)).trans hw119_4), ((HB.out.cell (World.block_lt_of_cell? w _ hw119_5)).trans hw119_5), ((HB.out.cell (World.block_lt_of_cell? w _ hw119_6)).trans hw119_6), ((HB.out.cell (World.block_lt_of_cell? w _ hw119_7)).trans hw119_7), ((HB.out.cell (World.block_lt_of_cell? w _ hw119_8)).trans hw119_8), ((HB.out.cell (World.block_lt_of_cell? w _ hw119_9)).trans hw119_9), ((HB.out.cell (World.block_lt_of_cell? w _ hw119_10)).trans hw119_10), ((HB.out.cell (World.block_lt_of_cell? w _ hw119_11)).trans hw119_11), ((HB.out.cell (World.block_lt_of_cell? w _ hw119_12)).trans hw119_12), ((HB.out.cell (World.block_lt_of_cell? w _ hw121_0)).trans hw121_0), ((HB.out.cell (World.block_lt_of_cell? w _ hw121_1)).trans hw121_1), ((HB.out.cell (World.block_lt_of_cell? w _ hw121_2)).trans hw121_2), ((HB.out.cell (World.block_lt_of_cell? w _ hw121_3)).trans hw121_3), ((HB.out.cell (World.block_lt_of_cell? w _ hw121_4)).trans hw121_4), ((HB.out.cell (World.block_lt_of_cell? w _ hw121_5)).trans hw121_5), ((HB.out.cell (World.block_lt_of_cell? w _ hw121_6)).trans hw121_6), ((HB.out.cell (World.block_lt_of_cell? w _ hw121_7)).trans hw121_7), ((HB.out.cell (World.block_lt_of_cell? w _ hw121_8)).trans hw121_8), ((HB.out.cell (World.block_lt_of_cell? w _ hw121_9)).trans hw121_9), ((HB.out.cell (World.block_lt_of_cell? w _ hw121_10)).trans hw121_10), ((HB.out.cell (World.block_lt_of_cell? w _ hw121_11)).trans hw121_11), ((HB.out.cell (World.block_lt_of_cell? w _ hw121_12)).trans hw121_12)⟩ (fun hHeld => ?_)
        clear hK K
        refine norm_ (a' := ?_) ?_ ?_
        rotate_left
        ·show Act.put _ (some 35) _ = _
         simp only [Act.put, List.setIfInBounds_toArray, List.set_cons_zero, List.set_cons_succ, i64_w, i32_w]
         rfl
        refine pure_ (i := 23) (N := some 36) (v := ?_) (a' := ?_) #[true, true, true, true, true, true, true, true, true, true, true, true, true, true, true, true, true, true, true, true, true, true, true, true, false] rfl rfl (any_of HT_.out (by kernel_rfl)) (fun _ _ _ h => h) (Or.inl ⟨by rfl, ?_⟩) ?_ ?_
        rotate_left
        ·intro w'
         go_simp
         with_reducible rfl
        rotate_left
        ·simp only [Act.put, List.setIfInBounds_toArray, List.set_cons_zero, List.set_cons_succ, i64_w, i32_w]
         rfl
        refine pure_ (i := 24) (N := some 37) (v := ?_) (a' := ?_) #[true, true, true, true, true, true, true, true, true, true, true, true, true, true, true, true, true, true, true, true, true, true, true, true, true] rfl rfl (any_of HT_.out (by kernel_rfl)) (fun _ _ _ h => h) (Or.inl ⟨by rfl, ?_⟩) ?_ ?_
        rotate_left
        ·intro w'
         go_simp
         with_reducible rfl
        rotate_left
        ·simp only [Act.put, List.setIfInBounds_toArray, List.set_cons_zero, List.set_cons_succ, i64_w, i32_w]
         rfl
        refine done_ (done_of HT_.out (by kernel_rfl)) ?_
        try go_wp2
        go_roundg k1
        case measure => have := HK1.out; omega
        case rel => exact ⟨(x5_1), (wrap64 (x6_1 + 1)), (by first | rfl | (simp; done) | (simp [*]; done)), (by first | rfl | (simp; done) | (simp [*]; done)), H', ⟨by have := HK1.out; omega⟩, ⟨by (with_reducible repeat (first | refine blk_drewN ?_ _ | refine blk_drew ?_ | refine blk_alloc ?_ _)); exact BK117.out⟩, ⟨by repeat (first | (with_reducible first | exact HB.out | apply below_alloc | apply pw_below_drewN | apply below_drew1 | refine below_set ?_ GE117.out) | exact HB.out)⟩⟩
       ·replace c12 := Bool.eq_false_iff.mpr c12
        subst c12
        have H1 : (corrieref19_Inserts.l0 k1 l0 (wrap64 (x5_1 + 1)) (wrap64 (x6_1 + 1)) a1_0 a1_1 a1_2 a1_3 a1_4 a1_5 a1_6 a1_7 a1_8 a1_9 a1_10 a1_11 l1_12) = some r := by rw [if_neg (show ¬ (false = true) by decide)] at H; exact H
        clear H
        have H := H1
        clear H1
        have H' := Aside0.mk H
        clear H
        try go_wp2
        have n0_ := Aside0.mk (blk_drew BK117.out)
        have n1_ := Aside0.mk (below_drew1 HB.out)
        clear BK117
        clear HB
        have BK117 := n0_
        have HB := n1_
        clear n0_ n1_
        have p118 : 0 ≤ (x6_1 : Int) := of_decide_eq_true (by first | (with_reducible assumption) | assumption)
        have q118 : x6_1 < (l0.length : Int) := of_decide_eq_true (by first | (with_reducible assumption) | assumption)
        obtain ⟨ad118, A118_12, c118_12, e118, hx118_0, hx118_1, hx118_2, hx118_3, hx118_4, hx118_5, hx118_6, hx118_7, hx118_8, hx118_9, hx118_10, hx118_11, hx118_12, hl118_12, hi118_12⟩ := at_T31 HR0.out x6_1 p118 q118
        have hw118_12 := hx118_12
        have hw118_11 := hx118_11
        have hw118_10 := hx118_10
        have hw118_9 := hx118_9
        have hw118_8 := hx118_8
        have hw118_7 := hx118_7
        have hw118_6 := hx118_6
        have hw118_5 := hx118_5
        have hw118_4 := hx118_4
        have hw118_3 := hx118_3
        have hw118_2 := hx118_2
        have hw118_1 := hx118_1
        have hw118_0 := hx118_0
        cases e118
        replace hx118_0 := (HB.out.cell (World.block_lt_of_cell? w _ hx118_0)).trans hx118_0
        replace hx118_1 := (HB.out.cell (World.block_lt_of_cell? w _ hx118_1)).trans hx118_1
        replace hx118_2 := (HB.out.cell (World.block_lt_of_cell? w _ hx118_2)).trans hx118_2
        replace hx118_3 := (HB.out.cell (World.block_lt_of_cell? w _ hx118_3)).trans hx118_3
        replace hx118_4 := (HB.out.cell (World.block_lt_of_cell? w _ hx118_4)).trans hx118_4
        replace hx118_5 := (HB.out.cell (World.block_lt_of_cell? w _ hx118_5)).trans hx118_5
        replace hx118_6 := (HB.out.cell (World.block_lt_of_cell? w _ hx118_6)).trans hx118_6
        replace hx118_7 := (HB.out.cell (World.block_lt_of_cell? w _ hx118_7)).trans hx118_7
        replace hx118_8 := (HB.out.cell (World.block_lt_of_cell? w _ hx118_8)).trans hx118_8
        replace hx118_9 := (HB.out.cell (World.block_lt_of_cell? w _ hx118_9)).trans hx118_9
        replace hx118_10 := (HB.out.cell (World.block_lt_of_cell? w _ hx118_10)).trans hx118_10
        replace hx118_11 := (HB.out.cell (World.block_lt_of_cell? w _ hx118_11)).trans hx118_11
        replace hx118_12 := (HB.out.cell (World.block_lt_of_cell? w _ hx118_12)).trans hx118_12
        have HR118_12 := Aside0.mk hi118_12
        have HC118_12 := Aside0.mk hl118_12
        clear hi118_12 hl118_12
        replace p118 := eq_true p118
        replace q118 := eq_true q118
        have p119 : 0 ≤ (x6_1 : Int) := of_decide_eq_true (by first | (with_reducible assumption) | assumption)
        have q119 : x6_1 < (l0.length : Int) := of_decide_eq_true (by first | (with_reducible assumption) | assumption)
        obtain ⟨ad119, A119_12, c119_12, e119, hx119_0, hx119_1, hx119_2, hx119_3, hx119_4, hx119_5, hx119_6, hx119_7, hx119_8, hx119_9, hx119_10, hx119_11, hx119_12, hl119_12, hi119_12⟩ := at_T31 HR0.out x6_1 p119 q119
        have hw119_12 := hx119_12
        have hw119_11 := hx119_11
        have hw119_10 := hx119_10
        have hw119_9 := hx119_9
        have hw119_8 := hx119_8
        have hw119_7 := hx119_7
        have hw119_6 := hx119_6
        have hw119_5 := hx119_5
        have hw119_4 := hx119_4
        have hw119_3 := hx119_3
        have hw119_2 := hx119_2
        have hw119_1 := hx119_1
        have hw119_0 := hx119_0
        obtain rfl : ad118 = ad119 := (by injection e119)
        replace hx119_0 := (HB.out.cell (World.block_lt_of_cell? w _ hx119_0)).trans hx119_0
        replace hx119_1 := (HB.out.cell (World.block_lt_of_cell? w _ hx119_1)).trans hx119_1
        replace hx119_2 := (HB.out.cell (World.block_lt_of_cell? w _ hx119_2)).trans hx119_2
        replace hx119_3 := (HB.out.cell (World.block_lt_of_cell? w _ hx119_3)).trans hx119_3
        replace hx119_4 := (HB.out.cell (World.block_lt_of_cell? w _ hx119_4)).trans hx119_4
        replace hx119_5 := (HB.out.cell (World.block_lt_of_cell? w _ hx119_5)).trans hx119_5
        replace hx119_6 := (HB.out.cell (World.block_lt_of_cell? w _ hx119_6)).trans hx119_6
        replace hx119_7 := (HB.out.cell (World.block_lt_of_cell? w _ hx119_7)).trans hx119_7
        replace hx119_8 := (HB.out.cell (World.block_lt_of_cell? w _ hx119_8)).trans hx119_8
        replace hx119_9 := (HB.out.cell (World.block_lt_of_cell? w _ hx119_9)).trans hx119_9
        replace hx119_10 := (HB.out.cell (World.block_lt_of_cell? w _ hx119_10)).trans hx119_10
        replace hx119_11 := (HB.out.cell (World.block_lt_of_cell? w _ hx119_11)).trans hx119_11
        replace hx119_12 := (HB.out.cell (World.block_lt_of_cell? w _ hx119_12)).trans hx119_12
        have HR119_12 := Aside0.mk hi119_12
        have HC119_12 := Aside0.mk hl119_12
        clear hi119_12 hl119_12
        replace p119 := eq_true p119
        replace q119 := eq_true q119
        have ea_ := Option.some.inj (hx118_12.symm.trans hx119_12)
        injection ea_ with ea_ en_ ec_
        subst ea_
        subst ec_
        clear en_
        have p121 : 0 ≤ (x6_1 : Int) := of_decide_eq_true (by first | (with_reducible assumption) | assumption)
        have q121 : x6_1 < (l0.length : Int) := of_decide_eq_true (by first | (with_reducible assumption) | assumption)
        obtain ⟨ad121, A121_12, c121_12, e121, hx121_0, hx121_1, hx121_2, hx121_3, hx121_4, hx121_5, hx121_6, hx121_7, hx121_8, hx121_9, hx121_10, hx121_11, hx121_12, hl121_12, hi121_12⟩ := at_T31 HR0.out x6_1 p121 q121
        have hw121_12 := hx121_12
        have hw121_11 := hx121_11
        have hw121_10 := hx121_10
        have hw121_9 := hx121_9
        have hw121_8 := hx121_8
        have hw121_7 := hx121_7
        have hw121_6 := hx121_6
        have hw121_5 := hx121_5
        have hw121_4 := hx121_4
        have hw121_3 := hx121_3
        have hw121_2 := hx121_2
        have hw121_1 := hx121_1
        have hw121_0 := hx121_0
        obtain rfl : ad118 = ad121 := (by injection e121)
        obtain ⟨rfl, rfl⟩ : A118_12 = A121_12 ∧ c118_12 = c121_12 := by first | (have hh := Option.some.inj (hw118_12.symm.trans hx121_12); injection hh with ha hb hc; exact ⟨ha, hc⟩) | (have hh := Option.some.inj (hx118_12.symm.trans hx121_12); injection hh with ha hb hc; exact ⟨ha, hc⟩)
        replace hx121_0 := (HB.out.cell (World.block_lt_of_cell? w _ hx121_0)).trans hx121_0
        replace hx121_1 := (HB.out.cell (World.block_lt_of_cell? w _ hx121_1)).trans hx121_1
        replace hx121_2 := (HB.out.cell (World.block_lt_of_cell? w _ hx121_2)).trans hx121_2
        replace hx121_3 := (HB.out.cell (World.block_lt_of_cell? w _ hx121_3)).trans hx121_3
        replace hx121_4 := (HB.out.cell (World.block_lt_of_cell? w _ hx121_4)).trans hx121_4
        replace hx121_5 := (HB.out.cell (World.block_lt_of_cell? w _ hx121_5)).trans hx121_5
        replace hx121_6 := (HB.out.cell (World.block_lt_of_cell? w _ hx121_6)).trans hx121_6
        replace hx121_7 := (HB.out.cell (World.block_lt_of_cell? w _ hx121_7)).trans hx121_7
        replace hx121_8 := (HB.out.cell (World.block_lt_of_cell? w _ hx121_8)).trans hx121_8
        replace hx121_9 := (HB.out.cell (World.block_lt_of_cell? w _ hx121_9)).trans hx121_9
        replace hx121_10 := (HB.out.cell (World.block_lt_of_cell? w _ hx121_10)).trans hx121_10
        replace hx121_11 := (HB.out.cell (World.block_lt_of_cell? w _ hx121_11)).trans hx121_11
        replace hx121_12 := (HB.out.cell (World.block_lt_of_cell? w _ hx121_12)).trans hx121_12
        have HR121_12 := Aside0.mk hi121_12
        have HC121_12 := Aside0.mk hl121_12
        clear hi121_12 hl121_12
        replace p121 := eq_true p121
        replace q121 := eq_true q121
        refine start_ (n := 25) (S := fun w' => w'.cell? ⟨gb117, 0, none⟩ = some (.int .i64 a1_0) ∧ w'.cell? ⟨gb117, 1, none⟩ = some (.int .i64 a1_1) ∧ w'.cell? ⟨gb117, 2, none⟩ = some (.int .i64 a1_2) ∧ w'.cell? ⟨gb117, 3, none⟩ = some (.int .i64 a1_3) ∧ w'.cell? ⟨gb117, 4, none⟩ = some (.int .i64 a1_4) ∧ w'.cell? ⟨gb117, 5, none⟩ = some (.int .i64 a1_5) ∧ w'.cell? ⟨gb117, 6, none⟩ = some (.int .u64 a1_6) ∧ w'.cell? ⟨gb117, 7, none⟩ = some (.int .u64 a1_7) ∧ w'.cell? ⟨gb117, 8, none⟩ = some (.int .i64 a1_8) ∧ w'.cell? ⟨gb117, 9, none⟩ = some (.int .i64 a1_9) ∧ w'.cell? ⟨gb117, 10, none⟩ = some (.bool a1_10) ∧ w'.cell? ⟨gb117, 11, none⟩ = some (.int .u64 a1_11) ∧ w'.cell? ⟨gb117, 12, none⟩ = some (.slice A1_12 l1_12.length c1_12) ∧ w'.cell? (ad118.add ((x6_1).toNat * 13)) = some (.int .i64 ((rd_T31 l0 x6_1).f0)) ∧ w'.cell? ⟨(ad118.add ((x6_1).toNat * 13)).block, (ad118.add ((x6_1).toNat * 13)).off + 1, none⟩ = some (.int .i64 ((rd_T31 l0 x6_1).f1)) ∧ w'.cell? ⟨(ad118.add ((x6_1).toNat * 13)).block, (ad118.add ((x6_1).toNat * 13)).off + 2, none⟩ = some (.int .i64 ((rd_T31 l0 x6_1).f2)) ∧ w'.cell? ⟨(ad118.add ((x6_1).toNat * 13)).block, (ad118.add ((x6_1).toNat * 13)).off + 3, none⟩ = some (.int .i64 ((rd_T31 l0 x6_1).f3)) ∧ w'.cell? ⟨(ad118.add ((x6_1).toNat * 13)).block, (ad118.add ((x6_1).toNat * 13)).off + 4, none⟩ = some (.int .i64 ((rd_T31 l0 x6_1).f4)) ∧ w'.cell? ⟨(ad118.add ((x6_1).toNat * 13)).block, (ad118.add ((x6_1).toNat * 13)).off + 5, none⟩ = some (.int .i64 ((rd_T31 l0 x6_1).f5.f0)) ∧ w'.cell? ⟨(ad118.add ((x6_1).toNat * 13)).block, (ad118.add ((x6_1).toNat * 13)).off + 6, none⟩ = some (.int .u64 ((rd_T31 l0 x6_1).f5.f1)) ∧ w'.cell? ⟨(ad118.add ((x6_1).toNat * 13)).block, (ad118.add ((x6_1).toNat * 13)).off + 7, none⟩ = some (.int .u64 ((rd_T31 l0 x6_1).f5.f2)) ∧ w'.cell? ⟨(ad118.add ((x6_1).toNat * 13)).block, (ad118.add ((x6_1).toNat * 13)).off + 8, none⟩ = some (.int .i64 ((rd_T31 l0 x6_1).f5.f3)) ∧ w'.cell? ⟨(ad118.add ((x6_1).toNat * 13)).block, (ad118.add ((x6_1).toNat * 13)).off + 9, none⟩ = some (.int .i64 ((rd_T31 l0 x6_1).f6.f0)) ∧ w'.cell? ⟨(ad118.add ((x6_1).toNat * 13)).block, (ad118.add ((x6_1).toNat * 13)).off + 10, none⟩ = some (.bool ((rd_T31 l0 x6_1).f6.f1)) ∧ w'.cell? ⟨(ad118.add ((x6_1).toNat * 13)).block, (ad118.add ((x6_1).toNat * 13)).off + 11, none⟩ = some (.int .u64 ((rd_T31 l0 x6_1).f6.f2)) ∧ w'.cell? ⟨(ad118.add ((x6_1).toNat * 13)).block, (ad118.add ((x6_1).toNat * 13)).off + 12, none⟩ = some (.slice A118_12 ((rd_T31 l0 x6_1).f6.f3).length c118_12) ∧ w'.cell? (ad118.add ((x6_1).toNat * 13)) = some (.int .i64 ((rd_T31 l0 x6_1).f0)) ∧ w'.cell? ⟨(ad118.add ((x6_1).toNat * 13)).block, (ad118.add ((x6_1).toNat * 13)).off + 1, none⟩ = some (.int .i64 ((rd_T31 l0 x6_1).f1)) ∧ w'.cell? ⟨(ad118.add ((x6_1).toNat * 13)).block, (ad118.add ((x6_1).toNat * 13)).off + 2, none⟩ = some (.int .i64 ((rd_T31 l0 x6_1).f2)) ∧ w'.cell? ⟨(ad118.add ((x6_1).toNat * 13)).block, (ad118.add ((x6_1).toNat * 13)).off + 3, none⟩ = some (.int .i64 ((rd_T31 l0 x6_1).f3)) ∧ w'.cell? ⟨(ad118.add ((x6_1).toNat * 13)).block, (ad118.add ((x6_1).toNat * 13)).off + 4, none⟩ = some (.int .i64 ((rd_T31 l0 x6_1).f4)) ∧ w'.cell? ⟨(ad118.add ((x6_1).toNat * 13)).block, (ad118.add ((x6_1).toNat * 13)).off + 5, none⟩ = some (.int .i64 ((rd_T31 l0 x6_1).f5.f0)) ∧ w'.cell? ⟨(ad118.add ((x6_1).toNat * 13)).block, (ad118.add ((x6_1).toNat * 13)).off + 6, none⟩ = some (.int .u64 ((rd_T31 l0 x6_1).f5.f1)) ∧ w'.cell? ⟨(ad118.add ((x6_1).toNat * 13)).block, (ad118.add ((x6_1).toNat * 13)).off + 7, none⟩ = some (.int .u64 ((rd_T31 l0 x6_1).f5.f2)) ∧ w'.cell? ⟨(ad118.add ((x6_1).toNat * 13)).block, (ad118.add ((x6_1).toNat * 13)).off + 8, none⟩ = some (.int .i64 ((rd_T31 l0 x6_1).f5.f3)) ∧ w'.cell? ⟨(ad118.add ((x6_1).toNat * 13)).block, (ad118.add ((x6_1).toNat * 13)).off + 9, none⟩ = some (.int .i64 ((rd_T31 l0 x6_1).f6.f0)) ∧ w'.cell? ⟨(ad118.add ((x6_1).toNat * 13)).block, (ad118.add ((x6_1).toNat * 13)).off + 10, none⟩ = some (.bool ((rd_T31 l0 x6_1).f6.f1)) ∧ w'.cell? ⟨(ad118.add ((x6_1).toNat * 13)).block, (ad118.add ((x6_1).toNat * 13)).off + 11, none⟩ = some (.int .u64 ((rd_T31 l0 x6_1).f6.f2)) ∧ w'.cell? ⟨(ad118.add ((x6_1).toNat * 13)).block, (ad118.add ((x6_1).toNat * 13)).off + 12, none⟩ = some (.slice A118_12 ((rd_T31 l0 x6_1).f6.f3).length c118_12) ∧ w'.cell? (ad118.add ((x6_1).toNat * 13)) = some (.int .i64 ((rd_T31 l0 x6_1).f0)) ∧ w'.cell? ⟨(ad118.add ((x6_1).toNat * 13)).block, (ad118.add ((x6_1).toNat * 13)).off + 1, none⟩ = some (.int .i64 ((rd_T31 l0 x6_1).f1)) ∧ w'.cell? ⟨(ad118.add ((x6_1).toNat * 13)).block, (ad118.add ((x6_1).toNat * 13)).off + 2, none⟩ = some (.int .i64 ((rd_T31 l0 x6_1).f2)) ∧ w'.cell? ⟨(ad118.add ((x6_1).toNat * 13)).block, (ad118.add ((x6_1).toNat * 13)).off + 3, none⟩ = some (.int .i64 ((rd_T31 l0 x6_1).f3)) ∧ w'.cell? ⟨(ad118.add ((x6_1).toNat * 13)).block, (ad118.add ((x6_1).toNat * 13)).off + 4, none⟩ = some (.int .i64 ((rd_T31 l0 x6_1).f4)) ∧ w'.cell? ⟨(ad118.add ((x6_1).toNat * 13)).block, (ad118.add ((x6_1).toNat * 13)).off + 5, none⟩ = some (.int .i64 ((rd_T31 l0 x6_1).f5.f0)) ∧ w'.cell? ⟨(ad118.add ((x6_1).toNat * 13)).block, (ad118.add ((x6_1).toNat * 13)).off + 6, none⟩ = some (.int .u64 ((rd_T31 l0 x6_1).f5.f1)) ∧ w'.cell? ⟨(ad118.add ((x6_1).toNat * 13)).block, (ad118.add ((x6_1).toNat * 13)).off + 7, none⟩ = some (.int .u64 ((rd_T31 l0 x6_1).f5.f2)) ∧ w'.cell? ⟨(ad118.add ((x6_1).toNat * 13)).block, (ad118.add ((x6_1).toNat * 13)).off + 8, none⟩ = some (.int .i64 ((rd_T31 l0 x6_1).f5.f3)) ∧ w'.cell? ⟨(ad118.add ((x6_1).toNat * 13)).block, (ad118.add ((x6_1).toNat * 13)).off + 9, none⟩ = some (.int .i64 ((rd_T31 l0 x6_1).f6.f0)) ∧ w'.cell? ⟨(ad118.add ((x6_1).toNat * 13)).block, (ad118.add ((x6_1).toNat * 13)).off + 10, none⟩ = some (.bool ((rd_T31 l0 x6_1).f6.f1)) ∧ w'.cell? ⟨(ad118.add ((x6_1).toNat * 13)).block, (ad118.add ((x6_1).toNat * 13)).off + 11, none⟩ = some (.int .u64 ((rd_T31 l0 x6_1).f6.f2)) ∧ w'.cell? ⟨(ad118.add ((x6_1).toNat * 13)).block, (ad118.add ((x6_1).toNat * 13)).off + 12, none⟩ = some (.slice A118_12 ((rd_T31 l0 x6_1).f6.f3).length c118_12)) (ds := []) #[false, false, false, false, false, false, false, false, false, false, false, false, false, false, false, false, false, false, false, false, false, false, false, false, false] (by kernel_rfl) rfl rfl ⟨(blk_cell BK117.out 0).trans rfl, (blk_cell BK117.out 1).trans rfl, (blk_cell BK117.out 2).trans rfl, (blk_cell BK117.out 3).trans rfl, (blk_cell BK117.out 4).trans rfl, (blk_cell BK117.out 5).trans rfl, (blk_cell BK117.out 6).trans rfl, (blk_cell BK117.out 7).trans rfl, (blk_cell BK117.out 8).trans rfl, (blk_cell BK117.out 9).trans rfl, (blk_cell BK117.out 10).trans rfl, (blk_cell BK117.out 11).trans rfl, (blk_cell BK117.out 12).trans rfl, ((HB.out.cell (World.block_lt_of_cell? w _ hw118_0)).trans hw118_0), ((HB.out.cell (World.block_lt_of_cell? w _ hw118_1)).trans hw118_1), ((HB.out.cell (World.block_lt_of_cell? w _ hw118_2)).trans hw118_2), ((HB.out.cell (World.block_lt_of_cell? w _ hw118_3)).trans hw118_3), ((HB.out.cell (World.block_lt_of_cell? w _ hw118_4)).trans hw118_4), ((HB.out.cell (World.block_lt_of_cell? w _ hw118_5)).trans hw118_5), ((HB.out.cell (World.block_lt_of_cell? w _ hw118_6)).trans hw118_6), ((HB.out.cell (World.block_lt_of_cell? w _ hw118_7)).trans hw118_7), ((HB.out.cell (World.block_lt_of_cell? w _ hw118_8)).trans hw118_8), ((HB.out.cell (World.block_lt_of_cell? w _ hw118_9)).trans hw118_9), ((HB.out.cell (World.block_lt_of_cell? w _ hw118_10)).trans hw118_10), ((HB.out.cell (World.block_lt_of_cell? w _ hw118_11)).trans hw118_11), ((HB.out.cell (World.block_lt_of_cell? w _ hw118_12)).trans hw118_12), ((HB.out.cell (World.block_lt_of_cell? w _ hw119_0)).trans hw119_0), ((HB.out.cell (World.block_lt_of_cell? w _ hw119_1)).trans hw119_1), ((HB.out.cell (World.block_lt_of_cell? w _ hw119_2)).trans hw119_2), ((HB.out.cell (World.block_lt_of_cell? w _ hw119_3)).trans hw119_3), ((HB.out.cell (World.block_lt_of_cell? w _ hw119_4)).trans hw119_4), ((HB.out.cell (World.block_lt_of_cell? w _ hw119_5)).trans hw119_5), ((HB.out.cell (World.block_lt_of_cell? w _ hw119_6)).trans hw119_6), ((HB.out.cell (World.block_lt_of_cell? w _ hw119_7)).trans hw119_7), ((HB.out.cell (World.block_lt_of_cell? w _ hw119_8)).trans hw119_8), ((HB.out.cell (World.block_lt_of_cell? w _ hw119_9)).trans hw119_9), ((HB.out.cell (World.block_lt_of_cell? w _ hw119_10)).trans hw119_10), ((HB.out.cell (World.block_lt_of_cell? w _ hw119_11)).trans hw119_11), ((HB.out.cell (World.block_lt_of_cell? w _ hw119_12)).trans hw119_12), ((HB.out.cell (World.block_lt_of_cell? w _ hw121_0)).trans hw121_0), ((HB.out.cell (World.block_lt_of_cell? w _ hw121_1)).trans hw121_1), ((HB.out.cell (World.block_lt_of_cell? w _ hw121_2)).trans hw121_2), ((HB.out.cell (World.block_lt_of_cell? w _ hw121_3)).trans hw121_3), ((HB.out.cell (World.block_lt_of_cell? w _ hw121_4)).trans hw121_4), ((HB.out.cell (World.block_lt_of_cell? w _ hw121_5)).trans hw121_5), ((HB.out.cell (World.block_lt_of_cell? w _ hw121_6)).trans hw121_6), ((HB.out.cell (World.block_lt_of_cell? w _ hw121_7)).trans hw121_7), ((HB.out.cell (World.block_lt_of_cell? w _ hw121_8)).trans hw121_8), ((HB.out.cell (World.block_lt_of_cell? w _ hw121_9)).trans hw121_9), ((HB.out.cell (World.block_lt_of_cell? w _ hw121_10)).trans hw121_10), ((HB.out.cell (World.block_lt_of_cell? w _ hw121_11)).trans hw121_11), ((HB.out.cell (World.block_lt_of_cell? w _ hw121_12)).trans hw121_12)⟩ (fun hHeld => ?_); refine with_tabW corrieref19_Inserts.tab5 corrieref19_Inserts.bits5 (fun HT_ HW_ => ?_)
        generalize wr.drew = w16 at BK117 HB HR118_12 HR119_12 HR121_12 hx118_0 hx118_1 hx118_10 hx118_11 hx118_12 hx118_2 hx118_3 hx118_4 hx118_5 hx118_6 hx118_7 hx118_8 hx118_9 hx119_0 hx119_1 hx119_10 hx119_11 hx119_12 hx119_2 hx119_3 hx119_4 hx119_5 hx119_6 hx119_7 hx119_8 hx119_9 hx121_0 hx121_1 hx121_10 hx121_11 hx121_12 hx121_2 hx121_3 hx121_4 hx121_5 hx121_6 hx121_7 hx121_8 hx121_9 hHeld ⊢
        refine pure_ (i := 0) (N := some 13) (v := ?_) (a' := ?_) #[true, false, false, false, false, false, false, false, false, false, false, false, false, false, false, false, false, false, false, false, false, false, false, false, false] rfl rfl (any_of HT_.out (by kernel_rfl)) (fun _ _ _ h => h) (Or.inl ⟨by rfl, ?_⟩) ?_ ?_
        rotate_left
        ·intro w'
         go_simp
         with_reducible rfl
        rotate_left
        ·simp only [Act.put, List.setIfInBounds_toArray, List.set_cons_zero, List.set_cons_succ, i64_w, i32_w]
         rfl
        refine pure_ (i := 1) (N := some 14) (v := ?_) (a' := ?_) #[true, true, false, false, false, false, false, false, false, false, false, false, false, false, false, false, false, false, false, false, false, false, false, false, false] rfl rfl (any_of HT_.out (by kernel_rfl)) (fun _ _ _ h => h) (Or.inl ⟨by rfl, ?_⟩) ?_ ?_
        rotate_left
        ·intro w'
         go_simp
         with_reducible rfl
        rotate_left
        ·simp only [Act.put, List.setIfInBounds_toArray, List.set_cons_zero, List.set_cons_succ, i64_w, i32_w]
         rfl
        refine pure_ (i := 2) (N := some 15) (v := ?_) (a' := ?_) #[true, true, true, false, false, false, false, false, false, false, false, false, false, false, false, false, false, false, false, false, false, false, false, false, false] rfl rfl (any_of HT_.out (by kernel_rfl)) (fun _ _ _ h => h) (Or.inl ⟨by rfl, ?_⟩) ?_ ?_
        rotate_left
        ·intro w'
         go_simp
         with_reducible rfl
        rotate_left
        ·simp only [Act.put, List.setIfInBounds_toArray, List.set_cons_zero, List.set_cons_succ, i64_w, i32_w]
         rfl
        refine pure_ (i := 3) (N := some 16) (v := ?_) (a' := ?_) #[true, true, true, true, false, false, false, false, false, false, false, false, false, false, false, false, false, false, false, false, false, false, false, false, false] rfl rfl (any_of HT_.out (by kernel_rfl)) (fun _ _ _ h => h) (Or.inl ⟨by rfl, ?_⟩) ?_ ?_
        rotate_left
        ·intro w'
         go_simp
         with_reducible rfl
        rotate_left
        ·simp only [Act.put, List.setIfInBounds_toArray, List.set_cons_zero, List.set_cons_succ, i64_w, i32_w]
         rfl
        refine pure_ (i := 4) (N := some 17) (v := ?_) (a' := ?_) #[true, true, true, true, true, false, false, false, false, false, false, false, false, false, false, false, false, false, false, false, false, false, false, false, false] rfl rfl (any_of HT_.out (by kernel_rfl)) (fun _ _ _ h => h) (Or.inl ⟨by rfl, ?_⟩) ?_ ?_
        rotate_left
        ·intro w'
         go_simp
         with_reducible rfl
        rotate_left
        ·simp only [Act.put, List.setIfInBounds_toArray, List.set_cons_zero, List.set_cons_succ, i64_w, i32_w]
         rfl
        refine take_ (i := 5) (N := some 18) (v := ?_) (a' := ?_) #[true, true, true, true, true, true, false, false, false, false, false, false, false, false, false, false, false, false, false, false, false, false, false, false, false] rfl rfl (take_ofW HT_.out HW_.out (by kernel_rfl)) (fun _ _ _ h => h) (Or.inl ⟨by rfl, ?_⟩) hHeld ?_ ?_
        rotate_left
        ·rintro w' ⟨s0, s1, s2, s3, s4, s5, s6, s7, s8, s9, s10, s11, s12, s13, s14, s15, s16, s17, s18, s19, s20, s21, s22, s23, s24, s25, s26, s27, s28, s29, s30, s31, s32, s33, s34, s35, s36, s37, s38, s39, s40, s41, s42, s43, s44, s45, s46, s47, s48, s49, s50, s51⟩
         go_simp
         with_reducible rfl
        rotate_left
        ·simp only [Act.put, List.setIfInBounds_toArray, List.set_cons_zero, List.set_cons_succ, i64_w, i32_w]
         rfl
        refine pure_ (i := 6) (N := some 19) (v := ?_) (a' := ?_) #[true, true, true, true, true, true, true, false, false, false, false, false, false, false, false, false, false, false, false, false, false, false, false, false, false] rfl rfl (any_of HT_.out (by kernel_rfl)) (fun _ _ _ h => h) (Or.inl ⟨by rfl, ?_⟩) ?_ ?_
        rotate_left
        ·intro w'
         go_simp
         with_reducible rfl
        rotate_left
        ·simp only [Act.put, List.setIfInBounds_toArray, List.set_cons_zero, List.set_cons_succ, i64_w, i32_w]
         rfl
        refine pure_ (i := 7) (N := some 20) (v := ?_) (a' := ?_) #[true, true, true, true, true, true, true, true, false, false, false, false, false, false, false, false, false, false, false, false, false, false, false, false, false] rfl rfl (any_of HT_.out (by kernel_rfl)) (fun _ _ _ h => h) (Or.inl ⟨by rfl, ?_⟩) ?_ ?_
        rotate_left
        ·intro w'
         go_simp
         with_reducible rfl
        rotate_left
        ·simp only [Act.put, List.setIfInBounds_toArray, List.set_cons_zero, List.set_cons_succ, i64_w, i32_w]
         rfl
        refine pure_ (i := 8) (N := some 21) (v := ?_) (a' := ?_) #[true, true, true, true, true, true, true, true, true, false, false, false, false, false, false, false, false, false, false, false, false, false, false, false, false] rfl rfl (any_of HT_.out (by kernel_rfl)) (fun _ _ _ h => h) (Or.inl ⟨by rfl, ?_⟩) ?_ ?_
        rotate_left
        ·intro w'
         go_simp
         with_reducible rfl
        rotate_left
        ·simp only [Act.put, List.setIfInBounds_toArray, List.set_cons_zero, List.set_cons_succ, i64_w, i32_w]
         rfl
        refine pure_ (i := 9) (N := some 22) (v := ?_) (a' := ?_) #[true, true, true, true, true, true, true, true, true, true, false, false, false, false, false, false, false, false, false, false, false, false, false, false, false] rfl rfl (any_of HT_.out (by kernel_rfl)) (fun _ _ _ h => h) (Or.inl ⟨by rfl, ?_⟩) ?_ ?_
        rotate_left
        ·intro w'
         go_simp
         with_reducible rfl
        rotate_left
        ·simp only [Act.put, List.setIfInBounds_toArray, List.set_cons_zero, List.set_cons_succ, i64_w, i32_w]
         rfl
        refine pure_ (i := 10) (N := some 23) (v := ?_) (a' := ?_) #[true, true, true, true, true, true, true, true, true, true, true, false, false, false, false, false, false, false, false, false, false, false, false, false, false] rfl rfl (any_of HT_.out (by kernel_rfl)) (fun _ _ _ h => h) (Or.inl ⟨by rfl, ?_⟩) ?_ ?_
        rotate_left
        ·intro w'
         go_simp
         with_reducible rfl
        rotate_left
        ·simp only [Act.put, List.setIfInBounds_toArray, List.set_cons_zero, List.set_cons_succ, i64_w, i32_w]
         rfl
        refine take_ (i := 11) (N := some 24) (v := ?_) (a' := ?_) #[true, true, true, true, true, true, true, true, true, true, true, true, false, false, false, false, false, false, false, false, false, false, false, false, false] rfl rfl (take_ofW HT_.out HW_.out (by kernel_rfl)) (fun _ _ _ h => h) (Or.inl ⟨by rfl, ?_⟩) hHeld ?_ ?_
        rotate_left
        ·rintro w' ⟨s0, s1, s2, s3, s4, s5, s6, s7, s8, s9, s10, s11, s12, s13, s14, s15, s16, s17, s18, s19, s20, s21, s22, s23, s24, s25, s26, s27, s28, s29, s30, s31, s32, s33, s34, s35, s36, s37, s38, s39, s40, s41, s42, s43, s44, s45, s46, s47, s48, s49, s50, s51⟩
         go_simp
         with_reducible rfl
        rotate_left
        ·simp only [Act.put, List.setIfInBounds_toArray, List.set_cons_zero, List.set_cons_succ, i64_w, i32_w]
         rfl
        refine take_ (i := 12) (N := some 25) (v := ?_) (a' := ?_) #[true, true, true, true, true, true, true, true, true, true, true, true, true, false, false, false, false, false, false, false, false, false, false, false, false] rfl rfl (take_ofW HT_.out HW_.out (by kernel_rfl)) (fun _ _ _ h => h) (Or.inl ⟨by rfl, ?_⟩) hHeld ?_ ?_
        rotate_left
        ·rintro w' ⟨s0, s1, s2, s3, s4, s5, s6, s7, s8, s9, s10, s11, s12, s13, s14, s15, s16, s17, s18, s19, s20, s21, s22, s23, s24, s25, s26, s27, s28, s29, s30, s31, s32, s33, s34, s35, s36, s37, s38, s39, s40, s41, s42, s43, s44, s45, s46, s47, s48, s49, s50, s51⟩
         go_simp
         with_reducible rfl
        rotate_left
        ·simp only [Act.put, List.setIfInBounds_toArray, List.set_cons_zero, List.set_cons_succ, i64_w, i32_w]
         rfl
        refine one_ (i := 13) (N := some 26) #[true, true, true, true, true, true, true, true, true, true, true, true, true, true, false, false, false, false, false, false, false, false, false, false, false] rfl rfl (one_of HT_.out (by kernel_rfl)) (by decide) (fun K hK => ?_)
        refine goes_ Try.func20 (by kernel_rfl) rfl #[.agg #[.int .i64 ((rd_T31 l0 x6_1).f0), .int .i64 ((rd_T31 l0 x6_1).f1), .int .i64 ((rd_T31 l0 x6_1).f2), .int .i64 ((rd_T31 l0 x6_1).f3), .int .i64 ((rd_T31 l0 x6_1).f4), .int .i64 ((rd_T31 l0 x6_1).f5.f0), .int .u64 ((rd_T31 l0 x6_1).f5.f1), .int .u64 ((rd_T31 l0 x6_1).f5.f2), .int .i64 ((rd_T31 l0 x6_1).f5.f3), .int .i64 ((rd_T31 l0 x6_1).f6.f0), .bool ((rd_T31 l0 x6_1).f6.f1), .int .u64 ((rd_T31 l0 x6_1).f6.f2), .slice A118_12 ((rd_T31 l0 x6_1).f6.f3).length c118_12], .agg #[.int .i64 a1_0, .int .i64 a1_1, .int .i64 a1_2, .int .i64 a1_3, .int .i64 a1_4, .int .i64 a1_5, .int .u64 a1_6, .int .u64 a1_7, .int .i64 a1_8, .int .i64 a1_9, .bool a1_10, .int .u64 a1_11, .slice A1_12 l1_12.length c1_12]] (by rfl) rfl rfl (by (try simp only [List.map_toArray, List.map_cons, List.map_nil]); first | done | rfl | (simp only [List.length_drop, List.length_take]; rfl)) ?_
        with_reducible refine (corrieref19_Before.calls ((rd_T31 l0 x6_1).f0) ((rd_T31 l0 x6_1).f1) ((rd_T31 l0 x6_1).f2) ((rd_T31 l0 x6_1).f3) ((rd_T31 l0 x6_1).f4) ((rd_T31 l0 x6_1).f5.f0) ((rd_T31 l0 x6_1).f5.f1) ((rd_T31 l0 x6_1).f5.f2) ((rd_T31 l0 x6_1).f5.f3) ((rd_T31 l0 x6_1).f6.f0) ((rd_T31 l0 x6_1).f6.f1) ((rd_T31 l0 x6_1).f6.f2) _ _ ((rd_T31 l0 x6_1).f6.f3) a1_0 a1_1 a1_2 a1_3 a1_4 a1_5 a1_6 a1_7 a1_8 a1_9 a1_10 a1_11 _ _ l1_12 false _ ?side1 ?side2 ?side3 ?side4 A7.out).mono ?_
        (case side1 => repeat (first | exact (Kd.C_below HR119_12.out HB.out) | (with_reducible refine Kd.C_alloc ?_ _) | (with_reducible refine Kd.C_drewN ?_ _) | (with_reducible refine Kd.C_drew ?_)))
        (case side2 => exact HC119_12.out)
        (case side3 => repeat (first | exact (Kd.C_below HR1_12.out HB.out) | (with_reducible refine Kd.C_alloc ?_ _) | (with_reducible refine Kd.C_drewN ?_ _) | (with_reducible refine Kd.C_drew ?_)))
        (case side4 => exact HC1_12.out)
        rintro e w17 ⟨rfl, hb⟩
        refine ⟨_, rfl, ?_⟩
        have n0_ := Aside0.mk (blk_below (g := gb117) (o := .cells #[.int .i64 a1_0, .int .i64 a1_1, .int .i64 a1_2, .int .i64 a1_3, .int .i64 a1_4, .int .i64 a1_5, .int .u64 a1_6, .int .u64 a1_7, .int .i64 a1_8, .int .i64 a1_9, .bool a1_10, .int .u64 a1_11, .slice A1_12 l1_12.length c1_12] 31 (0, 0)) (by (with_reducible repeat (first | refine blk_drewN ?_ _ | refine blk_drew ?_ | refine blk_alloc ?_ _)); exact BK117.out) hb)
        have n1_ := Aside0.mk (below_step (by repeat (first | (with_reducible first | exact HB.out | apply below_alloc | apply pw_below_drewN | apply below_drew1 | refine below_set ?_ GE117.out) | exact HB.out)) hb)
        clear BK117
        clear HB
        have BK117 := n0_
        have HB := n1_
        clear n0_ n1_
        (try clear hb)
        (try clear hb2)
        (try clear hk)
        (try clear hi)
        refine hK.out _ _ ⟨(blk_cell BK117.out 0).trans rfl, (blk_cell BK117.out 1).trans rfl, (blk_cell BK117.out 2).trans rfl, (blk_cell BK117.out 3).trans rfl, (blk_cell BK117.out 4).trans rfl, (blk_cell BK117.out 5).trans rfl, (blk_cell BK117.out 6).trans rfl, (blk_cell BK117.out 7).trans rfl, (blk_cell BK117.out 8).trans rfl, (blk_cell BK117.out 9).trans rfl, (blk_cell BK117.out 10).trans rfl, (blk_cell BK117.out 11).trans rfl, (blk_cell BK117.out 12).trans rfl, ((HB.out.cell (World.block_lt_of_cell? w _ hw118_0)).trans hw118_0), ((HB.out.cell (World.block_lt_of_cell? w _ hw118_1)).trans hw118_1), ((HB.out.cell (World.block_lt_of_cell? w _ hw118_2)).trans hw118_2), ((HB.out.cell (World.block_lt_of_cell? w _ hw118_3)).trans hw118_3), ((HB.out.cell (World.block_lt_of_cell? w _ hw118_4)).trans hw118_4), ((HB.out.cell (World.block_lt_of_cell? w _ hw118_5)).trans hw118_5), ((HB.out.cell (World.block_lt_of_cell? w _ hw118_6)).trans hw118_6), ((HB.out.cell (World.block_lt_of_cell? w _ hw118_7)).trans hw118_7), ((HB.out.cell (World.block_lt_of_cell? w _ hw118_8)).trans hw118_8), ((HB.out.cell (World.block_lt_of_cell? w _ hw118_9)).trans hw118_9), ((HB.out.cell (World.block_lt_of_cell? w _ hw118_10)).trans hw118_10), ((HB.out.cell (World.block_lt_of_cell? w _ hw118_11)).trans hw118_11), ((HB.out.cell (World.block_lt_of_cell? w _ hw118_12)).trans hw118_12), ((HB.out.cell (World.block_lt_of_cell? w _ hw119_0)).trans hw119_0), ((HB.out.cell (World.block_lt_of_cell? w _ hw119_1)).trans hw119_1), ((HB.out.cell (World.block_lt_of_cell? w _ hw119_2)).trans hw119_2), ((HB.out.cell (World.block_lt_of_cell? w _ hw119_3)).trans hw119_3), ((HB.out.cell (World.block_lt_of_cell? w _ hw119_4)).trans hw119_4), ((HB.out.cell (World.block_lt_of_cell? w _ hw119_5)).trans hw119_5), ((HB.out.cell (World.block_lt_of_cell? w _ hw119_6)).trans hw119_6), ((HB.out.cell (World.block_lt_of_cell? w _ hw119_7)).trans hw119_7), ((HB.out.cell (World.block_lt_of_cell? w _ hw119_8)).trans hw119_8), ((HB.out.cell (World.block_lt_of_cell? w _ hw119_9)).trans hw119_9), ((HB.out.cell (World.block_lt_of_cell? w _ hw119_10)).trans hw119_10), ((HB.out.cell (World.block_lt_of_cell? w _ hw119_11)).trans hw119_11), ((HB.out.cell (World.block_lt_of_cell? w _ hw119_12)).trans hw119_12), ((HB.out.cell (World.block_lt_of_cell? w _ hw121_0)).trans hw121_0), ((HB.out.cell (World.block_lt_of_cell? w _ hw121_1)).trans hw121_1), ((HB.out.cell (World.block_lt_of_cell? w _ hw121_2)).trans hw121_2), ((HB.out.cell (World.block_lt_of_cell? w _ hw121_3)).trans hw121_3), ((HB.out.cell (World.block_lt_of_cell? w _ hw121_4)).trans hw121_4), ((HB.out.cell (World.block_lt_of_cell? w _ hw121_5)).trans hw121_5), ((HB.out.cell (World.block_lt_of_cell? w _ hw121_6)).trans hw121_6), ((HB.out.cell (World.block_lt_of_cell? w _ hw121_7)).trans hw121_7), ((HB.out.cell (World.block_lt_of_cell? w _ hw121_8)).trans hw121_8), ((HB.out.cell (World.block_lt_of_cell? w _ hw121_9)).trans hw121_9), ((HB.out.cell (World.block_lt_of_cell? w _ hw121_10)).trans hw121_10), ((HB.out.cell (World.block_lt_of_cell? w _ hw121_11)).trans hw121_11), ((HB.out.cell (World.block_lt_of_cell? w _ hw121_12)).trans hw121_12)⟩ (fun hHeld => ?_)
        clear hK K
        refine norm_ (a' := ?_) ?_ ?_
        rotate_left
        ·show Act.put _ (some 26) _ = _
         simp only [Act.put, List.setIfInBounds_toArray, List.set_cons_zero, List.set_cons_succ, i64_w, i32_w]
         rfl
        refine pure_ (i := 14) (N := some 27) (v := ?_) (a' := ?_) #[true, true, true, true, true, true, true, true, true, true, true, true, true, true, true, false, false, false, false, false, false, false, false, false, false] rfl rfl (any_of HT_.out (by kernel_rfl)) (fun _ _ _ h => h) (Or.inl ⟨by rfl, ?_⟩) ?_ ?_
        rotate_left
        ·intro w'
         go_simp
         with_reducible rfl
        rotate_left
        ·simp only [Act.put, List.setIfInBounds_toArray, List.set_cons_zero, List.set_cons_succ, i64_w, i32_w]
         rfl
        refine pure_ (i := 15) (N := some 28) (v := ?_) (a' := ?_) #[true, true, true, true, true, true, true, true, true, true, true, true, true, true, true, true, false, false, false, false, false, false, false, false, false] rfl rfl (any_of HT_.out (by kernel_rfl)) (fun _ _ _ h => h) (Or.inl ⟨by rfl, ?_⟩) ?_ ?_
        rotate_left
        ·intro w'
         go_simp
         with_reducible rfl
        rotate_left
        ·simp only [Act.put, List.setIfInBounds_toArray, List.set_cons_zero, List.set_cons_succ, i64_w, i32_w]
         rfl
        refine pure_ (i := 16) (N := some 29) (v := ?_) (a' := ?_) #[true, true, true, true, true, true, true, true, true, true, true, true, true, true, true, true, true, false, false, false, false, false, false, false, false] rfl rfl (any_of HT_.out (by kernel_rfl)) (fun _ _ _ h => h) (Or.inl ⟨by rfl, ?_⟩) ?_ ?_
        rotate_left
        ·intro w'
         go_simp
         with_reducible rfl
        rotate_left
        ·simp only [Act.put, List.setIfInBounds_toArray, List.set_cons_zero, List.set_cons_succ, i64_w, i32_w]
         rfl
        refine pure_ (i := 18) (N := some 31) (v := ?_) (a' := ?_) #[true, true, true, true, true, true, true, true, true, true, true, true, true, true, true, true, true, false, true, false, false, false, false, false, false] rfl rfl (any_of HT_.out (by kernel_rfl)) (fun _ _ _ h => h) (Or.inl ⟨by rfl, ?_⟩) ?_ ?_
        rotate_left
        ·intro w'
         go_simp
         with_reducible rfl
        rotate_left
        ·simp only [Act.put, List.setIfInBounds_toArray, List.set_cons_zero, List.set_cons_succ, i64_w, i32_w]
         rfl
        refine pure_ (i := 19) (N := some 32) (v := ?_) (a' := ?_) #[true, true, true, true, true, true, true, true, true, true, true, true, true, true, true, true, true, false, true, true, false, false, false, false, false] rfl rfl (any_of HT_.out (by kernel_rfl)) (fun _ _ _ h => h) (Or.inl ⟨by rfl, ?_⟩) ?_ ?_
        rotate_left
        ·intro w'
         go_simp
         with_reducible rfl
        rotate_left
        ·simp only [Act.put, List.setIfInBounds_toArray, List.set_cons_zero, List.set_cons_succ, i64_w, i32_w]
         rfl
        refine pure_ (i := 20) (N := some 33) (v := ?_) (a' := ?_) #[true, true, true, true, true, true, true, true, true, true, true, true, true, true, true, true, true, false, true, true, true, false, false, false, false] rfl rfl (any_of HT_.out (by kernel_rfl)) (fun _ _ _ h => h) (Or.inl ⟨by rfl, ?_⟩) ?_ ?_
        rotate_left
        ·intro w'
         go_simp
         with_reducible rfl
        rotate_left
        ·simp only [Act.put, List.setIfInBounds_toArray, List.set_cons_zero, List.set_cons_succ, i64_w, i32_w]
         rfl
        refine take_ (i := 17) (N := some 30) (v := ?_) (a' := ?_) #[true, true, true, true, true, true, true, true, true, true, true, true, true, true, true, true, true, true, true, true, true, false, false, false, false] rfl rfl (take_ofW HT_.out HW_.out (by kernel_rfl)) (fun _ _ _ h => h) (Or.inl ⟨by rfl, ?_⟩) hHeld ?_ ?_
        rotate_left
        ·rintro w' ⟨s0, s1, s2, s3, s4, s5, s6, s7, s8, s9, s10, s11, s12, s13, s14, s15, s16, s17, s18, s19, s20, s21, s22, s23, s24, s25, s26, s27, s28, s29, s30, s31, s32, s33, s34, s35, s36, s37, s38, s39, s40, s41, s42, s43, s44, s45, s46, s47, s48, s49, s50, s51⟩
         go_simp
         with_reducible rfl
        rotate_left
        ·simp only [Act.put, List.setIfInBounds_toArray, List.set_cons_zero, List.set_cons_succ, i64_w, i32_w]
         rfl
        refine take_ (i := 21) (N := some 34) (v := ?_) (a' := ?_) #[true, true, true, true, true, true, true, true, true, true, true, true, true, true, true, true, true, true, true, true, true, true, false, false, false] rfl rfl (take_ofW HT_.out HW_.out (by kernel_rfl)) (fun _ _ _ h => h) (Or.inl ⟨by rfl, ?_⟩) hHeld ?_ ?_
        rotate_left
        ·rintro w' ⟨s0, s1, s2, s3, s4, s5, s6, s7, s8, s9, s10, s11, s12, s13, s14, s15, s16, s17, s18, s19, s20, s21, s22, s23, s24, s25, s26, s27, s28, s29, s30, s31, s32, s33, s34, s35, s36, s37, s38, s39, s40, s41, s42, s43, s44, s45, s46, s47, s48, s49, s50, s51⟩
         go_simp
         with_reducible rfl
        rotate_left
        ·simp only [Act.put, List.setIfInBounds_toArray, List.set_cons_zero, List.set_cons_succ, i64_w, i32_w]
         rfl
        refine one_ (i := 22) (N := some 35) #[true, true, true, true, true, true, true, true, true, true, true, true, true, true, true, true, true, true, true, true, true, true, true, false, false] rfl rfl (one_of HT_.out (by kernel_rfl)) (by decide) (fun K hK => ?_)
        refine goes_ Try.func20 (by kernel_rfl) rfl #[.agg #[.int .i64 a1_0, .int .i64 a1_1, .int .i64 a1_2, .int .i64 a1_3, .int .i64 a1_4, .int .i64 a1_5, .int .u64 a1_6, .int .u64 a1_7, .int .i64 a1_8, .int .i64 a1_9, .bool a1_10, .int .u64 a1_11, .slice A1_12 l1_12.length c1_12], .agg #[.int .i64 ((rd_T31 l0 x6_1).f0), .int .i64 ((rd_T31 l0 x6_1).f1), .int .i64 ((rd_T31 l0 x6_1).f2), .int .i64 ((rd_T31 l0 x6_1).f3), .int .i64 ((rd_T31 l0 x6_1).f4), .int .i64 ((rd_T31 l0 x6_1).f5.f0), .int .u64 ((rd_T31 l0 x6_1).f5.f1), .int .u64 ((rd_T31 l0 x6_1).f5.f2), .int .i64 ((rd_T31 l0 x6_1).f5.f3), .int .i64 ((rd_T31 l0 x6_1).f6.f0), .bool ((rd_T31 l0 x6_1).f6.f1), .int .u64 ((rd_T31 l0 x6_1).f6.f2), .slice A118_12 ((rd_T31 l0 x6_1).f6.f3).length c118_12]] (by rfl) rfl rfl (by (try simp only [List.map_toArray, List.map_cons, List.map_nil]); first | done | rfl | (simp only [List.length_drop, List.length_take]; rfl)) ?_
        with_reducible refine (corrieref19_Before.calls a1_0 a1_1 a1_2 a1_3 a1_4 a1_5 a1_6 a1_7 a1_8 a1_9 a1_10 a1_11 _ _ l1_12 ((rd_T31 l0 x6_1).f0) ((rd_T31 l0 x6_1).f1) ((rd_T31 l0 x6_1).f2) ((rd_T31 l0 x6_1).f3) ((rd_T31 l0 x6_1).f4) ((rd_T31 l0 x6_1).f5.f0) ((rd_T31 l0 x6_1).f5.f1) ((rd_T31 l0 x6_1).f5.f2) ((rd_T31 l0 x6_1).f5.f3) ((rd_T31 l0 x6_1).f6.f0) ((rd_T31 l0 x6_1).f6.f1) ((rd_T31 l0 x6_1).f6.f2) _ _ ((rd_T31 l0 x6_1).f6.f3) false _ ?side1 ?side2 ?side3 ?side4 A11.out).mono ?_
        (case side1 => repeat (first | exact (Kd.C_below HR1_12.out HB.out) | (with_reducible refine Kd.C_alloc ?_ _) | (with_reducible refine Kd.C_drewN ?_ _) | (with_reducible refine Kd.C_drew ?_)))
        (case side2 => exact HC1_12.out)
        (case side3 => repeat (first | exact (Kd.C_below HR121_12.out HB.out) | (with_reducible refine Kd.C_alloc ?_ _) | (with_reducible refine Kd.C_drewN ?_ _) | (with_reducible refine Kd.C_drew ?_)))
        (case side4 => exact HC121_12.out)
        rintro e w18 ⟨rfl, hb⟩
        refine ⟨_, rfl, ?_⟩
        have n0_ := Aside0.mk (blk_below (g := gb117) (o := .cells #[.int .i64 a1_0, .int .i64 a1_1, .int .i64 a1_2, .int .i64 a1_3, .int .i64 a1_4, .int .i64 a1_5, .int .u64 a1_6, .int .u64 a1_7, .int .i64 a1_8, .int .i64 a1_9, .bool a1_10, .int .u64 a1_11, .slice A1_12 l1_12.length c1_12] 31 (0, 0)) (by (with_reducible repeat (first | refine blk_drewN ?_ _ | refine blk_drew ?_ | refine blk_alloc ?_ _)); exact BK117.out) hb)
        have n1_ := Aside0.mk (below_step (by repeat (first | (with_reducible first | exact HB.out | apply below_alloc | apply pw_below_drewN | apply below_drew1 | refine below_set ?_ GE117.out) | exact HB.out)) hb)
        clear BK117
        clear HB
        have BK117 := n0_
        have HB := n1_
        clear n0_ n1_
        (try clear hb)
        (try clear hb2)
        (try clear hk)
        (try clear hi)
        refine hK.out _ _ ⟨(blk_cell BK117.out 0).trans rfl, (blk_cell BK117.out 1).trans rfl, (blk_cell BK117.out 2).trans rfl, (blk_cell BK117.out 3).trans rfl, (blk_cell BK117.out 4).trans rfl, (blk_cell BK117.out 5).trans rfl, (blk_cell BK117.out 6).trans rfl, (blk_cell BK117.out 7).trans rfl, (blk_cell BK117.out 8).trans rfl, (blk_cell BK117.out 9).trans rfl, (blk_cell BK117.out 10).trans rfl, (blk_cell BK117.out 11).trans rfl, (blk_cell BK117.out 12).trans rfl, ((HB.out.cell (World.block_lt_of_cell? w _ hw118_0)).trans hw118_0), ((HB.out.cell (World.block_lt_of_cell? w _ hw118_1)).trans hw118_1), ((HB.out.cell (World.block_lt_of_cell? w _ hw118_2)).trans hw118_2), ((HB.out.cell (World.block_lt_of_cell? w _ hw118_3)).trans hw118_3), ((HB.out.cell (World.block_lt_of_cell? w _ hw118_4)).trans hw118_4), ((HB.out.cell (World.block_lt_of_cell? w _ hw118_5)).trans hw118_5), ((HB.out.cell (World.block_lt_of_cell? w _ hw118_6)).trans hw118_6), ((HB.out.cell (World.block_lt_of_cell? w _ hw118_7)).trans hw118_7), ((HB.out.cell (World.block_lt_of_cell? w _ hw118_8)).trans hw118_8), ((HB.out.cell (World.block_lt_of_cell? w _ hw118_9)).trans hw118_9), ((HB.out.cell (World.block_lt_of_cell? w _ hw118_10)).trans hw118_10), ((HB.out.cell (World.block_lt_of_cell? w _ hw118_11)).trans hw118_11), ((HB.out.cell (World.block_lt_of_cell? w _ hw118_12)).trans hw118_12), ((HB.out.cell (World.block_lt_of_cell? w _ hw119_0)).trans hw119_0), ((HB.out.cell (World.block_lt_of_cell? w _ hw119_1)).trans hw119_1), ((HB.out.cell (World.block_lt_of_cell? w _ hw119_2)).trans hw119_2), ((HB.out.cell (World.block_lt_of_cell? w _ hw119_3)).trans hw119_3), ((HB.out.cell (World.block_lt_of_cell? w _ hw119_4)).trans hw119_4), ((HB.out.cell (World.block_lt_of_cell? w _ hw119_5)).trans hw119_5), ((HB.out.cell (World.block_lt_of_cell? w _ hw119_6)).trans hw119_6), ((HB.out.cell (World.block_lt_of_cell? w _ hw119_7)).trans hw119_7), ((HB.out.cell (World.block_lt_of_cell? w _ hw119_8)).trans hw119_8), ((HB.out.cell (World.block_lt_of_cell? w _ hw119_9)).trans hw119_9), ((HB.out.cell (World.block_lt_of_cell? w _ hw119_10)).trans hw119_10), ((HB.out.cell (World.block_lt_of_cell? w _ hw119_11)).trans hw119_11), ((HB.out.cell (World.block_lt_of_cell? w _ hw119_12)).trans hw119_12), ((HB.out.cell (World.block_lt_of_cell? w _ hw121_0)).trans hw121_0), ((HB.out.cell (World.block_lt_of_cell? w _ hw121_1)).trans hw121_1), ((HB.out.cell (World.block_lt_of_cell? w _ hw121_2)).trans hw121_2), ((HB.out.cell (World.block_lt_of_cell? w _ hw121_3)).trans hw121_3), ((HB.out.cell (World.block_lt_of_cell? w _ hw121_4)).trans hw121_4), ((HB.out.cell (World.block_lt_of_cell? w _ hw121_5)).trans hw121_5), ((HB.out.cell (World.block_lt_of_cell? w _ hw121_6)).trans hw121_6), ((HB.out.cell (World.block_lt_of_cell? w _ hw121_7)).trans hw121_7), ((HB.out.cell (World.block_lt_of_cell? w _ hw121_8)).trans hw121_8), ((HB.out.cell (World.block_lt_of_cell? w _ hw121_9)).trans hw121_9), ((HB.out.cell (World.block_lt_of_cell? w _ hw121_10)).trans hw121_10), ((HB.out.cell (World.block_lt_of_cell? w _ hw121_11)).trans hw121_11), ((HB.out.cell (World.block_lt_of_cell? w _ hw121_12)).trans hw121_12)⟩ (fun hHeld => ?_)
        clear hK K
        refine norm_ (a' := ?_) ?_ ?_
        rotate_left
        ·show Act.put _ (some 35) _ = _
         simp only [Act.put, List.setIfInBounds_toArray, List.set_cons_zero, List.set_cons_succ, i64_w, i32_w]
         rfl
        refine pure_ (i := 23) (N := some 36) (v := ?_) (a' := ?_) #[true, true, true, true, true, true, true, true, true, true, true, true, true, true, true, true, true, true, true, true, true, true, true, true, false] rfl rfl (any_of HT_.out (by kernel_rfl)) (fun _ _ _ h => h) (Or.inl ⟨by rfl, ?_⟩) ?_ ?_
        rotate_left
        ·intro w'
         go_simp
         with_reducible rfl
        rotate_left
        ·simp only [Act.put, List.setIfInBounds_toArray, List.set_cons_zero, List.set_cons_succ, i64_w, i32_w]
         rfl
        refine pure_ (i := 24) (N := some 37) (v := ?_) (a' := ?_) #[true, true, true, true, true, true, true, true, true, true, true, true, true, true, true, true, true, true, true, true, true, true, true, true, true] rfl rfl (any_of HT_.out (by kernel_rfl)) (fun _ _ _ h => h) (Or.inl ⟨by rfl, ?_⟩) ?_ ?_
        rotate_left
        ·intro w'
         go_simp
         with_reducible rfl
        rotate_left
        ·simp only [Act.put, List.setIfInBounds_toArray, List.set_cons_zero, List.set_cons_succ, i64_w, i32_w]
         rfl
        refine done_ (done_of HT_.out (by kernel_rfl)) ?_
        try go_wp2
        go_roundg k1
        case measure => have := HK1.out; omega
        case rel => exact ⟨(wrap64 (x5_1 + 1)), (wrap64 (x6_1 + 1)), (by first | rfl | (simp; done) | (simp [*]; done)), (by first | rfl | (simp; done) | (simp [*]; done)), H', ⟨by have := HK1.out; omega⟩, ⟨by (with_reducible repeat (first | refine blk_drewN ?_ _ | refine blk_drew ?_ | refine blk_alloc ?_ _)); exact BK117.out⟩, ⟨by repeat (first | (with_reducible first | exact HB.out | apply below_alloc | apply pw_below_drewN | apply below_drew1 | refine below_set ?_ GE117.out) | exact HB.out)⟩⟩
     ·rw [if_neg c6] at H
      have c6b0 : (((rd_T31 l0 x6_1).f5.f0) == 1) = false := beq_eq_false_iff_ne.mpr c6
      have c6b1 : (((rd_T31 l0 x6_1).f5.f0) != 1) = true := bne_iff_ne.mpr c6
      have H' := Aside0.mk H
      clear H
      try go_wp2
      have n0_ := Aside0.mk (blk_drew BK117.out)
      have n1_ := Aside0.mk (below_drew1 HB.out)
      clear BK117
      clear HB
      have BK117 := n0_
      have HB := n1_
      clear n0_ n1_
      have p118 : 0 ≤ (x6_1 : Int) := of_decide_eq_true (by first | (with_reducible assumption) | assumption)
      have q118 : x6_1 < (l0.length : Int) := of_decide_eq_true (by first | (with_reducible assumption) | assumption)
      obtain ⟨ad118, A118_12, c118_12, e118, hx118_0, hx118_1, hx118_2, hx118_3, hx118_4, hx118_5, hx118_6, hx118_7, hx118_8, hx118_9, hx118_10, hx118_11, hx118_12, hl118_12, hi118_12⟩ := at_T31 HR0.out x6_1 p118 q118
      have hw118_12 := hx118_12
      have hw118_11 := hx118_11
      have hw118_10 := hx118_10
      have hw118_9 := hx118_9
      have hw118_8 := hx118_8
      have hw118_7 := hx118_7
      have hw118_6 := hx118_6
      have hw118_5 := hx118_5
      have hw118_4 := hx118_4
      have hw118_3 := hx118_3
      have hw118_2 := hx118_2
      have hw118_1 := hx118_1
      have hw118_0 := hx118_0
      cases e118
      replace hx118_0 := (HB.out.cell (World.block_lt_of_cell? w _ hx118_0)).trans hx118_0
      replace hx118_1 := (HB.out.cell (World.block_lt_of_cell? w _ hx118_1)).trans hx118_1
      replace hx118_2 := (HB.out.cell (World.block_lt_of_cell? w _ hx118_2)).trans hx118_2
      replace hx118_3 := (HB.out.cell (World.block_lt_of_cell? w _ hx118_3)).trans hx118_3
      replace hx118_4 := (HB.out.cell (World.block_lt_of_cell? w _ hx118_4)).trans hx118_4
      replace hx118_5 := (HB.out.cell (World.block_lt_of_cell? w _ hx118_5)).trans hx118_5
      replace hx118_6 := (HB.out.cell (World.block_lt_of_cell? w _ hx118_6)).trans hx118_6
      replace hx118_7 := (HB.out.cell (World.block_lt_of_cell? w _ hx118_7)).trans hx118_7
      replace hx118_8 := (HB.out.cell (World.block_lt_of_cell? w _ hx118_8)).trans hx118_8
      replace hx118_9 := (HB.out.cell (World.block_lt_of_cell? w _ hx118_9)).trans hx118_9
      replace hx118_10 := (HB.out.cell (World.block_lt_of_cell? w _ hx118_10)).trans hx118_10
      replace hx118_11 := (HB.out.cell (World.block_lt_of_cell? w _ hx118_11)).trans hx118_11
      replace hx118_12 := (HB.out.cell (World.block_lt_of_cell? w _ hx118_12)).trans hx118_12
      have HR118_12 := Aside0.mk hi118_12
      have HC118_12 := Aside0.mk hl118_12
      clear hi118_12 hl118_12
      replace p118 := eq_true p118
      replace q118 := eq_true q118
      refine start_ (n := 25) (S := fun w' => w'.cell? (ad118.add ((x6_1).toNat * 13)) = some (.int .i64 ((rd_T31 l0 x6_1).f0)) ∧ w'.cell? ⟨(ad118.add ((x6_1).toNat * 13)).block, (ad118.add ((x6_1).toNat * 13)).off + 1, none⟩ = some (.int .i64 ((rd_T31 l0 x6_1).f1)) ∧ w'.cell? ⟨(ad118.add ((x6_1).toNat * 13)).block, (ad118.add ((x6_1).toNat * 13)).off + 2, none⟩ = some (.int .i64 ((rd_T31 l0 x6_1).f2)) ∧ w'.cell? ⟨(ad118.add ((x6_1).toNat * 13)).block, (ad118.add ((x6_1).toNat * 13)).off + 3, none⟩ = some (.int .i64 ((rd_T31 l0 x6_1).f3)) ∧ w'.cell? ⟨(ad118.add ((x6_1).toNat * 13)).block, (ad118.add ((x6_1).toNat * 13)).off + 4, none⟩ = some (.int .i64 ((rd_T31 l0 x6_1).f4)) ∧ w'.cell? ⟨(ad118.add ((x6_1).toNat * 13)).block, (ad118.add ((x6_1).toNat * 13)).off + 5, none⟩ = some (.int .i64 ((rd_T31 l0 x6_1).f5.f0)) ∧ w'.cell? ⟨(ad118.add ((x6_1).toNat * 13)).block, (ad118.add ((x6_1).toNat * 13)).off + 6, none⟩ = some (.int .u64 ((rd_T31 l0 x6_1).f5.f1)) ∧ w'.cell? ⟨(ad118.add ((x6_1).toNat * 13)).block, (ad118.add ((x6_1).toNat * 13)).off + 7, none⟩ = some (.int .u64 ((rd_T31 l0 x6_1).f5.f2)) ∧ w'.cell? ⟨(ad118.add ((x6_1).toNat * 13)).block, (ad118.add ((x6_1).toNat * 13)).off + 8, none⟩ = some (.int .i64 ((rd_T31 l0 x6_1).f5.f3)) ∧ w'.cell? ⟨(ad118.add ((x6_1).toNat * 13)).block, (ad118.add ((x6_1).toNat * 13)).off + 9, none⟩ = some (.int .i64 ((rd_T31 l0 x6_1).f6.f0)) ∧ w'.cell? ⟨(ad118.add ((x6_1).toNat * 13)).block, (ad118.add ((x6_1).toNat * 13)).off + 10, none⟩ = some (.bool ((rd_T31 l0 x6_1).f6.f1)) ∧ w'.cell? ⟨(ad118.add ((x6_1).toNat * 13)).block, (ad118.add ((x6_1).toNat * 13)).off + 11, none⟩ = some (.int .u64 ((rd_T31 l0 x6_1).f6.f2)) ∧ w'.cell? ⟨(ad118.add ((x6_1).toNat * 13)).block, (ad118.add ((x6_1).toNat * 13)).off + 12, none⟩ = some (.slice A118_12 ((rd_T31 l0 x6_1).f6.f3).length c118_12)) (ds := []) #[false, false, false, false, false, false, false, false, false, false, false, false, false, false, false, false, false, false, false, false, false, false, false, false, false] (by kernel_rfl) rfl rfl ⟨((HB.out.cell (World.block_lt_of_cell? w _ hw118_0)).trans hw118_0), ((HB.out.cell (World.block_lt_of_cell? w _ hw118_1)).trans hw118_1), ((HB.out.cell (World.block_lt_of_cell? w _ hw118_2)).trans hw118_2), ((HB.out.cell (World.block_lt_of_cell? w _ hw118_3)).trans hw118_3), ((HB.out.cell (World.block_lt_of_cell? w _ hw118_4)).trans hw118_4), ((HB.out.cell (World.block_lt_of_cell? w _ hw118_5)).trans hw118_5), ((HB.out.cell (World.block_lt_of_cell? w _ hw118_6)).trans hw118_6), ((HB.out.cell (World.block_lt_of_cell? w _ hw118_7)).trans hw118_7), ((HB.out.cell (World.block_lt_of_cell? w _ hw118_8)).trans hw118_8), ((HB.out.cell (World.block_lt_of_cell? w _ hw118_9)).trans hw118_9), ((HB.out.cell (World.block_lt_of_cell? w _ hw118_10)).trans hw118_10), ((HB.out.cell (World.block_lt_of_cell? w _ hw118_11)).trans hw118_11), ((HB.out.cell (World.block_lt_of_cell? w _ hw118_12)).trans hw118_12)⟩ (fun hHeld => ?_); refine with_tabW corrieref19_Inserts.tab5 corrieref19_Inserts.bits5 (fun HT_ HW_ => ?_)
      generalize wr.drew = w19 at BK117 HB HR118_12 hx118_0 hx118_1 hx118_10 hx118_11 hx118_12 hx118_2 hx118_3 hx118_4 hx118_5 hx118_6 hx118_7 hx118_8 hx118_9 hHeld ⊢
      refine pure_ (i := 0) (N := some 13) (v := ?_) (a' := ?_) #[true, false, false, false, false, false, false, false, false, false, false, false, false, false, false, false, false, false, false, false, false, false, false, false, false] rfl rfl (any_of HT_.out (by kernel_rfl)) (fun _ _ _ h => h) (Or.inl ⟨by rfl, ?_⟩) ?_ ?_
      rotate_left
      ·intro w'
       go_simp
       with_reducible rfl
      rotate_left
      ·simp only [Act.put, List.setIfInBounds_toArray, List.set_cons_zero, List.set_cons_succ, i64_w, i32_w]
       rfl
      refine pure_ (i := 1) (N := some 14) (v := ?_) (a' := ?_) #[true, true, false, false, false, false, false, false, false, false, false, false, false, false, false, false, false, false, false, false, false, false, false, false, false] rfl rfl (any_of HT_.out (by kernel_rfl)) (fun _ _ _ h => h) (Or.inl ⟨by rfl, ?_⟩) ?_ ?_
      rotate_left
      ·intro w'
       go_simp
       with_reducible rfl
      rotate_left
      ·simp only [Act.put, List.setIfInBounds_toArray, List.set_cons_zero, List.set_cons_succ, i64_w, i32_w]
       rfl
      refine pure_ (i := 2) (N := some 15) (v := ?_) (a' := ?_) #[true, true, true, false, false, false, false, false, false, false, false, false, false, false, false, false, false, false, false, false, false, false, false, false, false] rfl rfl (any_of HT_.out (by kernel_rfl)) (fun _ _ _ h => h) (Or.inl ⟨by rfl, ?_⟩) ?_ ?_
      rotate_left
      ·intro w'
       go_simp
       with_reducible rfl
      rotate_left
      ·simp only [Act.put, List.setIfInBounds_toArray, List.set_cons_zero, List.set_cons_succ, i64_w, i32_w]
       rfl
      refine pure_ (i := 3) (N := some 16) (v := ?_) (a' := ?_) #[true, true, true, true, false, false, false, false, false, false, false, false, false, false, false, false, false, false, false, false, false, false, false, false, false] rfl rfl (any_of HT_.out (by kernel_rfl)) (fun _ _ _ h => h) (Or.inl ⟨by rfl, ?_⟩) ?_ ?_
      rotate_left
      ·intro w'
       go_simp
       with_reducible rfl
      rotate_left
      ·simp only [Act.put, List.setIfInBounds_toArray, List.set_cons_zero, List.set_cons_succ, i64_w, i32_w]
       rfl
      refine pure_ (i := 4) (N := some 17) (v := ?_) (a' := ?_) #[true, true, true, true, true, false, false, false, false, false, false, false, false, false, false, false, false, false, false, false, false, false, false, false, false] rfl rfl (any_of HT_.out (by kernel_rfl)) (fun _ _ _ h => h) (Or.inl ⟨by rfl, ?_⟩) ?_ ?_
      rotate_left
      ·intro w'
       go_simp
       with_reducible rfl
      rotate_left
      ·simp only [Act.put, List.setIfInBounds_toArray, List.set_cons_zero, List.set_cons_succ, i64_w, i32_w]
       rfl
      refine take_ (i := 5) (N := some 18) (v := ?_) (a' := ?_) #[true, true, true, true, true, true, false, false, false, false, false, false, false, false, false, false, false, false, false, false, false, false, false, false, false] rfl rfl (take_ofW HT_.out HW_.out (by kernel_rfl)) (fun _ _ _ h => h) (Or.inl ⟨by rfl, ?_⟩) hHeld ?_ ?_
      rotate_left
      ·rintro w' ⟨s0, s1, s2, s3, s4, s5, s6, s7, s8, s9, s10, s11, s12⟩
       go_simp
       with_reducible rfl
      rotate_left
      ·simp only [Act.put, List.setIfInBounds_toArray, List.set_cons_zero, List.set_cons_succ, i64_w, i32_w]
       rfl
      refine pure_ (i := 6) (N := some 19) (v := ?_) (a' := ?_) #[true, true, true, true, true, true, true, false, false, false, false, false, false, false, false, false, false, false, false, false, false, false, false, false, false] rfl rfl (any_of HT_.out (by kernel_rfl)) (fun _ _ _ h => h) (Or.inl ⟨by rfl, ?_⟩) ?_ ?_
      rotate_left
      ·intro w'
       go_simp
       with_reducible rfl
      rotate_left
      ·simp only [Act.put, List.setIfInBounds_toArray, List.set_cons_zero, List.set_cons_succ, i64_w, i32_w]
       rfl
      refine pure_ (i := 7) (N := some 20) (v := ?_) (a' := ?_) #[true, true, true, true, true, true, true, true, false, false, false, false, false, false, false, false, false, false, false, false, false, false, false, false, false] rfl rfl (any_of HT_.out (by kernel_rfl)) (fun _ _ _ h => h) (Or.inl ⟨by rfl, ?_⟩) ?_ ?_
      rotate_left
      ·intro w'
       go_simp
       with_reducible rfl
      rotate_left
      ·simp only [Act.put, List.setIfInBounds_toArray, List.set_cons_zero, List.set_cons_succ, i64_w, i32_w]
       rfl
      refine pure_ (i := 8) (N := some 21) (v := undef) (a' := ?_) #[true, true, true, true, true, true, true, true, true, false, false, false, false, false, false, false, false, false, false, false, false, false, false, false, false] rfl rfl (any_of HT_.out (by kernel_rfl)) (fun _ _ _ h => h) (Or.inr ⟨by rfl, rfl⟩) ?_ ?_
      rotate_left
      ·simp only [Act.put, List.setIfInBounds_toArray, List.set_cons_zero, List.set_cons_succ, i64_w, i32_w]
       rfl
      refine pure_ (i := 9) (N := some 22) (v := undef) (a' := ?_) #[true, true, true, true, true, true, true, true, true, true, false, false, false, false, false, false, false, false, false, false, false, false, false, false, false] rfl rfl (any_of HT_.out (by kernel_rfl)) (fun _ _ _ h => h) (Or.inr ⟨by rfl, rfl⟩) ?_ ?_
      rotate_left
      ·simp only [Act.put, List.setIfInBounds_toArray, List.set_cons_zero, List.set_cons_succ, i64_w, i32_w]
       rfl
      refine pure_ (i := 10) (N := some 23) (v := undef) (a' := ?_) #[true, true, true, true, true, true, true, true, true, true, true, false, false, false, false, false, false, false, false, false, false, false, false, false, false] rfl rfl (any_of HT_.out (by kernel_rfl)) (fun _ _ _ h => h) (Or.inr ⟨by rfl, rfl⟩) ?_ ?_
      rotate_left
      ·simp only [Act.put, List.setIfInBounds_toArray, List.set_cons_zero, List.set_cons_succ, i64_w, i32_w]
       rfl
      refine pure_ (i := 11) (N := some 24) (v := undef) (a' := ?_) #[true, true, true, true, true, true, true, true, true, true, true, true, false, false, false, false, false, false, false, false, false, false, false, false, false] rfl rfl (any_of HT_.out (by kernel_rfl)) (fun _ _ _ h => h) (Or.inr ⟨by rfl, rfl⟩) ?_ ?_
      rotate_left
      ·simp only [Act.put, List.setIfInBounds_toArray, List.set_cons_zero, List.set_cons_succ, i64_w, i32_w]
       rfl
      refine pure_ (i := 12) (N := some 25) (v := undef) (a' := ?_) #[true, true, true, true, true, true, true, true, true, true, true, true, true, false, false, false, false, false, false, false, false, false, false, false, false] rfl rfl (any_of HT_.out (by kernel_rfl)) (fun _ _ _ h => h) (Or.inr ⟨by rfl, rfl⟩) ?_ ?_
      rotate_left
      ·simp only [Act.put, List.setIfInBounds_toArray, List.set_cons_zero, List.set_cons_succ, i64_w, i32_w]
       rfl
      refine pure_ (i := 13) (N := some 26) (v := undef) (a' := ?_) #[true, true, true, true, true, true, true, true, true, true, true, true, true, true, false, false, false, false, false, false, false, false, false, false, false] rfl rfl (any_of HT_.out (by kernel_rfl)) (fun _ _ _ h => h) (Or.inr ⟨by rfl, rfl⟩) ?_ ?_
      rotate_left
      ·simp only [Act.put, List.setIfInBounds_toArray, List.set_cons_zero, List.set_cons_succ, i64_w, i32_w]
       rfl
      refine pure_ (i := 14) (N := some 27) (v := undef) (a' := ?_) #[true, true, true, true, true, true, true, true, true, true, true, true, true, true, true, false, false, false, false, false, false, false, false, false, false] rfl rfl (any_of HT_.out (by kernel_rfl)) (fun _ _ _ h => h) (Or.inr ⟨by rfl, rfl⟩) ?_ ?_
      rotate_left
      ·simp only [Act.put, List.setIfInBounds_toArray, List.set_cons_zero, List.set_cons_succ, i64_w, i32_w]
       rfl
      refine pure_ (i := 15) (N := some 28) (v := ?_) (a' := ?_) #[true, true, true, true, true, true, true, true, true, true, true, true, true, true, true, true, false, false, false, false, false, false, false, false, false] rfl rfl (any_of HT_.out (by kernel_rfl)) (fun _ _ _ h => h) (Or.inl ⟨by rfl, ?_⟩) ?_ ?_
      rotate_left
      ·intro w'
       go_simp
       with_reducible rfl
      rotate_left
      ·simp only [Act.put, List.setIfInBounds_toArray, List.set_cons_zero, List.set_cons_succ, i64_w, i32_w]
       rfl
      refine pure_ (i := 16) (N := some 29) (v := ?_) (a' := ?_) #[true, true, true, true, true, true, true, true, true, true, true, true, true, true, true, true, true, false, false, false, false, false, false, false, false] rfl rfl (any_of HT_.out (by kernel_rfl)) (fun _ _ _ h => h) (Or.inl ⟨by rfl, ?_⟩) ?_ ?_
      rotate_left
      ·intro w'
       go_simp
       with_reducible rfl
      rotate_left
      ·simp only [Act.put, List.setIfInBounds_toArray, List.set_cons_zero, List.set_cons_succ, i64_w, i32_w]
       rfl
      refine pure_ (i := 17) (N := some 30) (v := undef) (a' := ?_) #[true, true, true, true, true, true, true, true, true, true, true, true, true, true, true, true, true, true, false, false, false, false, false, false, false] rfl rfl (any_of HT_.out (by kernel_rfl)) (fun _ _ _ h => h) (Or.inr ⟨by rfl, rfl⟩) ?_ ?_
      rotate_left
      ·simp only [Act.put, List.setIfInBounds_toArray, List.set_cons_zero, List.set_cons_succ, i64_w, i32_w]
       rfl
      refine pure_ (i := 18) (N := some 31) (v := undef) (a' := ?_) #[true, true, true, true, true, true, true, true, true, true, true, true, true, true, true, true, true, true, true, false, false, false, false, false, false] rfl rfl (any_of HT_.out (by kernel_rfl)) (fun _ _ _ h => h) (Or.inr ⟨by rfl, rfl⟩) ?_ ?_
      rotate_left
      ·simp only [Act.put, List.setIfInBounds_toArray, List.set_cons_zero, List.set_cons_succ, i64_w, i32_w]
       rfl
      refine pure_ (i := 19) (N := some 32) (v := undef) (a' := ?_) #[true, true, true, true, true, true, true, true, true, true, true, true, true, true, true, true, true, true, true, true, false, false, false, false, false] rfl rfl (any_of HT_.out (by kernel_rfl)) (fun _ _ _ h => h) (Or.inr ⟨by rfl, rfl⟩) ?_ ?_
      rotate_left
      ·simp only [Act.put, List.setIfInBounds_toArray, List.set_cons_zero, List.set_cons_succ, i64_w, i32_w]
       rfl
      refine pure_ (i := 20) (N := some 33) (v := undef) (a' := ?_) #[true, true, true, true, true, true, true, true, true, true, true, true, true, true, true, true, true, true, true, true, true, false, false, false, false] rfl rfl (any_of HT_.out (by kernel_rfl)) (fun _ _ _ h => h) (Or.inr ⟨by rfl, rfl⟩) ?_ ?_
      rotate_left
      ·simp only [Act.put, List.setIfInBounds_toArray, List.set_cons_zero, List.set_cons_succ, i64_w, i32_w]
       rfl
      refine pure_ (i := 21) (N := some 34) (v := undef) (a' := ?_) #[true, true, true, true, true, true, true, true, true, true, true, true, true, true, true, true, true, true, true, true, true, true, false, false, false] rfl rfl (any_of HT_.out (by kernel_rfl)) (fun _ _ _ h => h) (Or.inr ⟨by rfl, rfl⟩) ?_ ?_
      rotate_left
      ·simp only [Act.put, List.setIfInBounds_toArray, List.set_cons_zero, List.set_cons_succ, i64_w, i32_w]
       rfl
      refine pure_ (i := 22) (N := some 35) (v := undef) (a' := ?_) #[true, true, true, true, true, true, true, true, true, true, true, true, true, true, true, true, true, true, true, true, true, true, true, false, false] rfl rfl (any_of HT_.out (by kernel_rfl)) (fun _ _ _ h => h) (Or.inr ⟨by rfl, rfl⟩) ?_ ?_
      rotate_left
      ·simp only [Act.put, List.setIfInBounds_toArray, List.set_cons_zero, List.set_cons_succ, i64_w, i32_w]
       rfl
      refine pure_ (i := 23) (N := some 36) (v := undef) (a' := ?_) #[true, true, true, true, true, true, true, true, true, true, true, true, true, true, true, true, true, true, true, true, true, true, true, true, false] rfl rfl (any_of HT_.out (by kernel_rfl)) (fun _ _ _ h => h) (Or.inr ⟨by rfl, rfl⟩) ?_ ?_
      rotate_left
      ·simp only [Act.put, List.setIfInBounds_toArray, List.set_cons_zero, List.set_cons_succ, i64_w, i32_w]
       rfl
      refine pure_ (i := 24) (N := some 37) (v := ?_) (a' := ?_) #[true, true, true, true, true, true, true, true, true, true, true, true, true, true, true, true, true, true, true, true, true, true, true, true, true] rfl rfl (any_of HT_.out (by kernel_rfl)) (fun _ _ _ h => h) (Or.inl ⟨by rfl, ?_⟩) ?_ ?_
      rotate_left
      ·intro w'
       go_simp
       with_reducible rfl
      rotate_left
      ·simp only [Act.put, List.setIfInBounds_toArray, List.set_cons_zero, List.set_cons_succ, i64_w, i32_w]
       rfl
      refine done_ (done_of HT_.out (by kernel_rfl)) ?_
      try go_wp2
      go_roundg k1
      case measure => have := HK1.out; omega
      case rel => exact ⟨(x5_1), (wrap64 (x6_1 + 1)), (by first | rfl | (simp; done) | (simp [*]; done)), (by first | rfl | (simp; done) | (simp [*]; done)), H', ⟨by have := HK1.out; omega⟩, ⟨by (with_reducible repeat (first | refine blk_drewN ?_ _ | refine blk_drew ?_ | refine blk_alloc ?_ _)); exact BK117.out⟩, ⟨by repeat (first | (with_reducible first | exact HB.out | apply below_alloc | apply pw_below_drewN | apply below_drew1 | refine below_set ?_ GE117.out) | exact HB.out)⟩⟩
    ·rw [if_neg c5] at H
     exact absurd H (by simp)
   ·rw [if_neg c4] at H
    have c4b0 : decide (x6_1 < (l0.length : Int)) = false := decide_eq_false c4
    clear c4
    obtain rfl := Option.some.inj H
    go_wp2
    go_ret
    exact ⟨by first | rfl | (simp [errW_none, errW_some] <;> rfl) | (simp [*, errW_none, errW_some] <;> rfl), by repeat (first | (with_reducible first | exact HB.out | apply below_alloc | apply pw_below_drewN | apply below_drew1 | refine below_set ?_ GE117.out) | exact HB.out)⟩

end Go.Proofs.Ytpcmoclohepdiad.PHistoryTells
