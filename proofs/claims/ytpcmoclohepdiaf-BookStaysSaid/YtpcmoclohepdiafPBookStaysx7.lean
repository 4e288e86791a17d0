-- Written by a program of this session: a variant of the print that takes proofs by hand (wip/tools/mkprint.py)
import Derived.Test.YtpcmoclohepdiafPBookStaysx0
import Derived.Test.YtpcmoclohepdiafPBookStaysx4
import Derived.Test.YtpcmoclohepdiafPBookStaysx5
import Derived.Test.YtpcmoclohepdiafPBookStaysx6
namespace Go.Proofs.Ytpcmoclohepdiaf.PBookStays
open Go.RowKit Go.Proofs.YtpcmoclohepdiafW.PrintWords Go.Proofs.YtpcmoclohepdiafW.PrintLast
set_option linter.unusedVariables false
set_option linter.unusedSimpArgs false

/-! ### corrieref07_find: function 29 -/
def corrieref07_find.l0 : Nat → Int → Int → Int → Int → Int → Int → Int → List Int → List Int → List Int → List (S60) → List (S62) → Option (Int)
 | 0, _, _, _, _, _, _, _, _, _, _, _, _ => none
 | k + 1, x1, x5, x130000, x130001, x130002, x130003, x130004, x130005, x130006, x130007, x130008, x130009 => if x5 < (x130008.length : Int) then (if 0 ≤ x5 then (if ((rd_T60 x130008 x5).f0) = x1 then (some x5) else (corrieref07_find.l0 k x1 (wrap64 (x5 + 1)) x130000 x130001 x130002 x130003 x130004 x130005 x130006 x130007 x130008 x130009)) else (none)) else (some (-1))
def corrieref07_find.f (k : Nat) (a0_0 : Int) (a0_1 : Int) (a0_2 : Int) (a0_3 : Int) (a0_4 : Int) (l0_5 : List Int) (l0_6 : List Int) (l0_7 : List Int) (l0_8 : List (S60)) (l0_9 : List (S62)) (a1 : Int) : Option (Int) := corrieref07_find.l0 k a1 0 a0_0 a0_1 a0_2 a0_3 a0_4 l0_5 l0_6 l0_7 l0_8 l0_9
theorem corrieref07_find.mono_l : ∀ k, (∀ y0 y1 y2 y3 y4 y5 y6 y7 y8 y9 y10 y11, LeO (corrieref07_find.l0 k y0 y1 y2 y3 y4 y5 y6 y7 y8 y9 y10 y11) (corrieref07_find.l0 (k + 1) y0 y1 y2 y3 y4 y5 y6 y7 y8 y9 y10 y11))
 | 0 => fun _ _ _ _ _ _ _ _ _ _ _ _ r h => by simp [corrieref07_find.l0] at h
 | k + 1 => by
  have ih0 := corrieref07_find.mono_l k
  ·intro y0 y1 y2 y3 y4 y5 y6 y7 y8 y9 y10 y11
   unfold corrieref07_find.l0
   repeat' first
   | (with_reducible exact ih0 _ _ _ _ _ _ _ _ _ _ _ _)
   | (with_reducible exact LeO.refl _)
   | (with_reducible exact LeO.none _)
   | (with_reducible refine LeO.ite ?_ ?_)
   | (with_reducible refine LeO.bind ?_ (fun _ => ?_))
   | exact ih0 _ _ _ _ _ _ _ _ _ _ _ _
   | exact LeO.none _
   | refine LeO.ite ?_ ?_
   | refine LeO.bind ?_ (fun _ => ?_)
theorem corrieref07_find.mono : ∀ a0 a1 a2 a3 a4 a5 a6 a7 a8 a9 a10 k, LeO (corrieref07_find.f k a0 a1 a2 a3 a4 a5 a6 a7 a8 a9 a10) (corrieref07_find.f (k + 1) a0 a1 a2 a3 a4 a5 a6 a7 a8 a9 a10) := by
 intro a0 a1 a2 a3 a4 a5 a6 a7 a8 a9 a10 k
 have ih0 := corrieref07_find.mono_l k
 unfold corrieref07_find.f
 repeat' first
   | (with_reducible exact ih0 _ _ _ _ _ _ _ _ _ _ _ _)
   | (with_reducible exact LeO.refl _)
   | (with_reducible exact LeO.none _)
   | (with_reducible refine LeO.ite ?_ ?_)
   | (with_reducible refine LeO.bind ?_ (fun _ => ?_))
   | exact ih0 _ _ _ _ _ _ _ _ _ _ _ _
   | exact LeO.none _
   | refine LeO.ite ?_ ?_
   | refine LeO.bind ?_ (fun _ => ?_)
set_option maxHeartbeats 8000000 in
set_option maxRecDepth 100000 in
theorem corrieref07_find.calls (k : Nat) (a0_0 : Int) (a0_1 : Int) (a0_2 : Int) (a0_3 : Int) (a0_4 : Int) (A0_5 : Option Addr) (c0_5 : Nat) (l0_5 : List Int) (A0_6 : Option Addr) (c0_6 : Nat) (l0_6 : List Int) (A0_7 : Option Addr) (c0_7 : Nat) (l0_7 : List Int) (A0_8 : Option Addr) (c0_8 : Nat) (l0_8 : List (S60)) (A0_9 : Option Addr) (c0_9 : Nat) (l0_9 : List (S62)) (a1 : Int) (r : Int) (w : World) (hr0_5 : Kd.C (Kd.int .i64) w A0_5 l0_5.length l0_5) (hc0_5 : l0_5.length ≤ c0_5) (hr0_6 : Kd.C (Kd.int .i64) w A0_6 l0_6.length l0_6) (hc0_6 : l0_6.length ≤ c0_6) (hr0_7 : Kd.C (Kd.int .i64) w A0_7 l0_7.length l0_7) (hc0_7 : l0_7.length ≤ c0_7) (hr0_8 : Kd.C k60 w A0_8 l0_8.length l0_8) (hc0_8 : l0_8.length ≤ c0_8) (hr0_9 : Kd.C k62 w A0_9 l0_9.length l0_9) (hc0_9 : l0_9.length ≤ c0_9) (h : corrieref07_find.f k a0_0 a0_1 a0_2 a0_3 a0_4 l0_5 l0_6 l0_7 l0_8 l0_9 a1 = some r) :
  Calls Try.prog 29 #[.agg #[.int .i64 a0_0, .int .i64 a0_1, .int .i64 a0_2, .int .i64 a0_3, .int .i64 a0_4, .slice A0_5 l0_5.length c0_5, .slice A0_6 l0_6.length c0_6, .slice A0_7 l0_7.length c0_7, .slice A0_8 l0_8.length c0_8, .slice A0_9 l0_9.length c0_9], .int .i64 a1] w fun e w' => e = .returned (.int .i64 r) ∧ Below w.heap.size w w' := by
 have hu32 := Try.underlying32
 have HR0_5 := Aside0.mk hr0_5
 have HC0_5 := Aside0.mk hc0_5
 clear hr0_5 hc0_5
 have HR0_6 := Aside0.mk hr0_6
 have HC0_6 := Aside0.mk hc0_6
 clear hr0_6 hc0_6
 have HR0_7 := Aside0.mk hr0_7
 have HC0_7 := Aside0.mk hc0_7
 clear hr0_7 hc0_7
 have HR0_8 := Aside0.mk hr0_8
 have HC0_8 := Aside0.mk hc0_8
 clear hr0_8 hc0_8
 have HR0_9 := Aside0.mk hr0_9
 have HC0_9 := Aside0.mk hc0_9
 clear hr0_9 hc0_9
 have HB := Aside0.mk (Below.refl w.heap.size w)
 have H : (corrieref07_find.l0 k a1 0 a0_0 a0_1 a0_2 a0_3 a0_4 l0_5 l0_6 l0_7 l0_8 l0_9) = some r := h
 clear h
 have H' := Aside0.mk H
 clear H
 go_enter Try.func29, Try.ntmps29
 go_wp2_with (first | ((with_reducible refine gate_dst (N := 2) rfl ?_); refine box_event ?hg (N := 2) ?hd (cs := #[.int .i64 a0_0, .int .i64 a0_1, .int .i64 a0_2, .int .i64 a0_3, .int .i64 a0_4, .slice A0_5 l0_5.length c0_5, .slice A0_6 l0_6.length c0_6, .slice A0_7 l0_7.length c0_7, .slice A0_8 l0_8.length c0_8, .slice A0_9 l0_9.length c0_9]) (t := 32) ?hr ?_; (case hd => rfl); (case hg => rfl); (case hr => first | (go_simp; done) | (go_simp; rfl)); intro gb129 hg w3 hbox hb; have n0_ := Aside0.mk (below_step (by repeat (first | (with_reducible first | exact HB.out | apply below_alloc | apply pw_below_drewN | apply below_drew1) | exact HB.out)) hb); have n1_ := Aside0.mk (hbox); have n2_ := Aside0.mk ((by rw [hg]; exact (below_size (by repeat (first | (with_reducible first | exact HB.out | apply below_alloc | apply pw_below_drewN | apply below_drew1) | exact HB.out))) : w.heap.size ≤ gb129)); have n3_ := Aside0.mk ((by rw [hg]; exact (below_size (by repeat (first | (with_reducible first | exact HB.out | apply below_alloc | apply pw_below_drewN | apply below_drew1) | exact HB.out))) : w.heap.size ≤ gb129)); clear HB; have HB := n0_; have BK129 := n1_; have GW129 := n2_; have GE129 := n3_; clear n0_ n1_ n2_ n3_; clear hb hbox hg))
 go_loopg [5] k (fun kq v5 w' => ∃ (x5_1 : Int), v5 = .int .i64 x5_1 ∧ Aside0 (corrieref07_find.l0 kq a1 x5_1 a0_0 a0_1 a0_2 a0_3 a0_4 l0_5 l0_6 l0_7 l0_8 l0_9 = some r) ∧ Aside0 (kq ≤ k) ∧ Aside0 (w'.heap[gb129]? = some (.cells #[.int .i64 a0_0, .int .i64 a0_1, .int .i64 a0_2, .int .i64 a0_3, .int .i64 a0_4, (.slice A0_5 l0_5.length c0_5), (.slice A0_6 l0_6.length c0_6), (.slice A0_7 l0_7.length c0_7), (.slice A0_8 l0_8.length c0_8), (.slice A0_9 l0_9.length c0_9)] 32 (0, 0))) ∧ Aside0 (Below w.heap.size w w'))
 case atStart => exact ⟨(0), (by first | rfl | (simp; done) | (simp [*]; done)), H', ⟨Nat.le_refl _⟩, ⟨by (with_reducible repeat (first | refine blk_drewN ?_ _ | refine blk_drew ?_ | refine blk_alloc ?_ _)); exact BK129.out⟩, ⟨by repeat (first | (with_reducible first | exact HB.out | apply below_alloc | apply pw_below_drewN | apply below_drew1 | refine below_set ?_ GE129.out) | exact HB.out)⟩⟩
 case round =>
  clear H'
  try clear c2
  try clear p2
  obtain ⟨x5_1, rfl, HA, HK1, BK129, HB⟩ := hrel
  cases gk with
  | zero => exact absurd HA.out (by simp [corrieref07_find.l0])
  | succ k1 =>
   have H := HA.out
   clear HA
   simp only [corrieref07_find.l0] at H
   by_cases c4 : x5_1 < (l0_8.length : Int)
   ·rw [if_pos c4] at H
    have c4b0 : decide (x5_1 < (l0_8.length : Int)) = true := decide_eq_true c4
    clear c4
    by_cases c5 : 0 ≤ x5_1
    ·rw [if_pos c5] at H
     have c5b0 : decide (0 ≤ x5_1) = true := decide_eq_true c5
     clear c5
     by_cases c6 : ((rd_T60 l0_8 x5_1).f0) = a1
     ·rw [if_pos c6] at H
      have c6b0 : (((rd_T60 l0_8 x5_1).f0) == a1) = true := beq_iff_eq.mpr c6
      have c6b1 : (((rd_T60 l0_8 x5_1).f0) != a1) = false := bne_eq_false_iff_eq.mpr c6
      clear c6
      obtain rfl := Option.some.inj H
      have hcz7_0 : wr.cell? ⟨gb129, 0, none⟩ = some (.int .i64 a0_0) := (blk_cell BK129.out 0).trans rfl
      have hcz7_1 : wr.cell? ⟨gb129, 1, none⟩ = some (.int .i64 a0_1) := (blk_cell BK129.out 1).trans rfl
      have hcz7_2 : wr.cell? ⟨gb129, 2, none⟩ = some (.int .i64 a0_2) := (blk_cell BK129.out 2).trans rfl
      have hcz7_3 : wr.cell? ⟨gb129, 3, none⟩ = some (.int .i64 a0_3) := (blk_cell BK129.out 3).trans rfl
      have hcz7_4 : wr.cell? ⟨gb129, 4, none⟩ = some (.int .i64 a0_4) := (blk_cell BK129.out 4).trans rfl
      have hcz7_5 : wr.cell? ⟨gb129, 5, none⟩ = some (.slice A0_5 l0_5.length c0_5) := (blk_cell BK129.out 5).trans rfl
      have hcz7_6 : wr.cell? ⟨gb129, 6, none⟩ = some (.slice A0_6 l0_6.length c0_6) := (blk_cell BK129.out 6).trans rfl
      have hcz7_7 : wr.cell? ⟨gb129, 7, none⟩ = some (.slice A0_7 l0_7.length c0_7) := (blk_cell BK129.out 7).trans rfl
      have hcz7_8 : wr.cell? ⟨gb129, 8, none⟩ = some (.slice A0_8 l0_8.length c0_8) := (blk_cell BK129.out 8).trans rfl
      have hcz7_9 : wr.cell? ⟨gb129, 9, none⟩ = some (.slice A0_9 l0_9.length c0_9) := (blk_cell BK129.out 9).trans rfl
      have hfz7_0 := blk_frozen BK129.out 0
      have hfz7_1 := blk_frozen BK129.out 1
      have hfz7_2 := blk_frozen BK129.out 2
      have hfz7_3 := blk_frozen BK129.out 3
      have hfz7_4 := blk_frozen BK129.out 4
      have hfz7_5 := blk_frozen BK129.out 5
      have hfz7_6 := blk_frozen BK129.out 6
      have hfz7_7 := blk_frozen BK129.out 7
      have hfz7_8 := blk_frozen BK129.out 8
      have hfz7_9 := blk_frozen BK129.out 9
      have p130 : 0 ≤ (x5_1 : Int) := of_decide_eq_true (by first | (with_reducible assumption) | assumption)
      have q130 : x5_1 < (l0_8.length : Int) := of_decide_eq_true (by first | (with_reducible assumption) | assumption)
      obtain ⟨ad130, e130, hx130_0, hx130_1, hx130_2, hx130_3, hx130_4⟩ := at_T60 HR0_8.out x5_1 p130 q130
      cases e130
      replace hx130_0 := (HB.out.cell (World.block_lt_of_cell? w _ hx130_0)).trans hx130_0
      replace hx130_1 := (HB.out.cell (World.block_lt_of_cell? w _ hx130_1)).trans hx130_1
      replace hx130_2 := (HB.out.cell (World.block_lt_of_cell? w _ hx130_2)).trans hx130_2
      replace hx130_3 := (HB.out.cell (World.block_lt_of_cell? w _ hx130_3)).trans hx130_3
      replace hx130_4 := (HB.out.cell (World.block_lt_of_cell? w _ hx130_4)).trans hx130_4
      replace p130 := eq_true p130
      replace q130 := eq_true q130
      go_wp2
      go_ret
      exact ⟨by first | rfl | (simp [errW_none, errW_some] <;> rfl) | (simp [*, errW_none, errW_some] <;> rfl), by repeat (first | (with_reducible first | exact HB.out | apply below_alloc | apply pw_below_drewN | apply below_drew1 | refine below_set ?_ GE129.out) | exact HB.out)⟩
     ·rw [if_neg c6] at H
      have c6b0 : (((rd_T60 l0_8 x5_1).f0) == a1) = false := beq_eq_false_iff_ne.mpr c6
      have c6b1 : (((rd_T60 l0_8 x5_1).f0) != a1) = true := bne_iff_ne.mpr c6
      have H' := Aside0.mk H
      clear H
      have hcz8_0 : wr.cell? ⟨gb129, 0, none⟩ = some (.int .i64 a0_0) := (blk_cell BK129.out 0).trans rfl
      have hcz8_1 : wr.cell? ⟨gb129, 1, none⟩ = some (.int .i64 a0_1) := (blk_cell BK129.out 1).trans rfl
      have hcz8_2 : wr.cell? ⟨gb129, 2, none⟩ = some (.int .i64 a0_2) := (blk_cell BK129.out 2).trans rfl
      have hcz8_3 : wr.cell? ⟨gb129, 3, none⟩ = some (.int .i64 a0_3) := (blk_cell BK129.out 3).trans rfl
      have hcz8_4 : wr.cell? ⟨gb129, 4, none⟩ = some (.int .i64 a0_4) := (blk_cell BK129.out 4).trans rfl
      have hcz8_5 : wr.cell? ⟨gb129, 5, none⟩ = some (.slice A0_5 l0_5.length c0_5) := (blk_cell BK129.out 5).trans rfl
      have hcz8_6 : wr.cell? ⟨gb129, 6, none⟩ = some (.slice A0_6 l0_6.length c0_6) := (blk_cell BK129.out 6).trans rfl
      have hcz8_7 : wr.cell? ⟨gb129, 7, none⟩ = some (.slice A0_7 l0_7.length c0_7) := (blk_cell BK129.out 7).trans rfl
      have hcz8_8 : wr.cell? ⟨gb129, 8, none⟩ = some (.slice A0_8 l0_8.length c0_8) := (blk_cell BK129.out 8).trans rfl
      have hcz8_9 : wr.cell? ⟨gb129, 9, none⟩ = some (.slice A0_9 l0_9.length c0_9) := (blk_cell BK129.out 9).trans rfl
      have hfz8_0 := blk_frozen BK129.out 0
      have hfz8_1 := blk_frozen BK129.out 1
      have hfz8_2 := blk_frozen BK129.out 2
      have hfz8_3 := blk_frozen BK129.out 3
      have hfz8_4 := blk_frozen BK129.out 4
      have hfz8_5 := blk_frozen BK129.out 5
      have hfz8_6 := blk_frozen BK129.out 6
      have hfz8_7 := blk_frozen BK129.out 7
      have hfz8_8 := blk_frozen BK129.out 8
      have hfz8_9 := blk_frozen BK129.out 9
      have p130 : 0 ≤ (x5_1 : Int) := of_decide_eq_true (by first | (with_reducible assumption) | assumption)
      have q130 : x5_1 < (l0_8.length : Int) := of_decide_eq_true (by first | (with_reducible assumption) | assumption)
      obtain ⟨ad130, e130, hx130_0, hx130_1, hx130_2, hx130_3, hx130_4⟩ := at_T60 HR0_8.out x5_1 p130 q130
      cases e130
      replace hx130_0 := (HB.out.cell (World.block_lt_of_cell? w _ hx130_0)).trans hx130_0
      replace hx130_1 := (HB.out.cell (World.block_lt_of_cell? w _ hx130_1)).trans hx130_1
      replace hx130_2 := (HB.out.cell (World.block_lt_of_cell? w _ hx130_2)).trans hx130_2
      replace hx130_3 := (HB.out.cell (World.block_lt_of_cell? w _ hx130_3)).trans hx130_3
      replace hx130_4 := (HB.out.cell (World.block_lt_of_cell? w _ hx130_4)).trans hx130_4
      replace p130 := eq_true p130
      replace q130 := eq_true q130
      go_wp2
      go_roundg k1
      case measure => have := HK1.out; omega
      case rel => exact ⟨(wrap64 (x5_1 + 1)), (by first | rfl | (simp; done) | (simp [*]; done)), H', ⟨by have := HK1.out; omega⟩, ⟨by (with_reducible repeat (first | refine blk_drewN ?_ _ | refine blk_drew ?_ | refine blk_alloc ?_ _)); exact BK129.out⟩, ⟨by repeat (first | (with_reducible first | exact HB.out | apply below_alloc | apply pw_below_drewN | apply below_drew1 | refine below_set ?_ GE129.out) | exact HB.out)⟩⟩
    ·rw [if_neg c5] at H
     exact absurd H (by simp)
   ·rw [if_neg c4] at H
    have c4b0 : decide (x5_1 < (l0_8.length : Int)) = false := decide_eq_false c4
    clear c4
    obtain rfl := Option.some.inj H
    have hcz9_0 : wr.cell? ⟨gb129, 0, none⟩ = some (.int .i64 a0_0) := (blk_cell BK129.out 0).trans rfl
    have hcz9_1 : wr.cell? ⟨gb129, 1, none⟩ = some (.int .i64 a0_1) := (blk_cell BK129.out 1).trans rfl
    have hcz9_2 : wr.cell? ⟨gb129, 2, none⟩ = some (.int .i64 a0_2) := (blk_cell BK129.out 2).trans rfl
    have hcz9_3 : wr.cell? ⟨gb129, 3, none⟩ = some (.int .i64 a0_3) := (blk_cell BK129.out 3).trans rfl
    have hcz9_4 : wr.cell? ⟨gb129, 4, none⟩ = some (.int .i64 a0_4) := (blk_cell BK129.out 4).trans rfl
    have hcz9_5 : wr.cell? ⟨gb129, 5, none⟩ = some (.slice A0_5 l0_5.length c0_5) := (blk_cell BK129.out 5).trans rfl
    have hcz9_6 : wr.cell? ⟨gb129, 6, none⟩ = some (.slice A0_6 l0_6.length c0_6) := (blk_cell BK129.out 6).trans rfl
    have hcz9_7 : wr.cell? ⟨gb129, 7, none⟩ = some (.slice A0_7 l0_7.length c0_7) := (blk_cell BK129.out 7).trans rfl
    have hcz9_8 : wr.cell? ⟨gb129, 8, none⟩ = some (.slice A0_8 l0_8.length c0_8) := (blk_cell BK129.out 8).trans rfl
    have hcz9_9 : wr.cell? ⟨gb129, 9, none⟩ = some (.slice A0_9 l0_9.length c0_9) := (blk_cell BK129.out 9).trans rfl
    have hfz9_0 := blk_frozen BK129.out 0
    have hfz9_1 := blk_frozen BK129.out 1
    have hfz9_2 := blk_frozen BK129.out 2
    have hfz9_3 := blk_frozen BK129.out 3
    have hfz9_4 := blk_frozen BK129.out 4
    have hfz9_5 := blk_frozen BK129.out 5
    have hfz9_6 := blk_frozen BK129.out 6
    have hfz9_7 := blk_frozen BK129.out 7
    have hfz9_8 := blk_frozen BK129.out 8
    have hfz9_9 := blk_frozen BK129.out 9
    go_wp2
    go_ret
    exact ⟨by first | rfl | (simp [errW_none, errW_some] <;> rfl) | (simp [*, errW_none, errW_some] <;> rfl), by repeat (first | (with_reducible first | exact HB.out | apply below_alloc | apply pw_below_drewN | apply below_drew1 | refine below_set ?_ GE129.out) | exact HB.out)⟩

/-! ### corrieref07_is: function 30 -/
def corrieref07_is.f (a0_0 : Int) (a0_1 : Int) (a0_2 : Int) (a0_3 : Int) (a0_4 : Int) (l0_5 : List Int) (l0_6 : List Int) (l0_7 : List Int) (l0_8 : List (S60)) (l0_9 : List (S62)) (a1 : Int) : Option (Bool) := if a1 ≥ 0 then (some (decide (a1 < (l0_5.length : Int)))) else (some false)
set_option maxHeartbeats 8000000 in
set_option maxRecDepth 100000 in
theorem corrieref07_is.calls (a0_0 : Int) (a0_1 : Int) (a0_2 : Int) (a0_3 : Int) (a0_4 : Int) (A0_5 : Option Addr) (c0_5 : Nat) (l0_5 : List Int) (A0_6 : Option Addr) (c0_6 : Nat) (l0_6 : List Int) (A0_7 : Option Addr) (c0_7 : Nat) (l0_7 : List Int) (A0_8 : Option Addr) (c0_8 : Nat) (l0_8 : List (S60)) (A0_9 : Option Addr) (c0_9 : Nat) (l0_9 : List (S62)) (a1 : Int) (r : Bool) (w : World) (hr0_5 : Kd.C (Kd.int .i64) w A0_5 l0_5.length l0_5) (hc0_5 : l0_5.length ≤ c0_5) (hr0_6 : Kd.C (Kd.int .i64) w A0_6 l0_6.length l0_6) (hc0_6 : l0_6.length ≤ c0_6) (hr0_7 : Kd.C (Kd.int .i64) w A0_7 l0_7.length l0_7) (hc0_7 : l0_7.length ≤ c0_7) (hr0_8 : Kd.C k60 w A0_8 l0_8.length l0_8) (hc0_8 : l0_8.length ≤ c0_8) (hr0_9 : Kd.C k62 w A0_9 l0_9.length l0_9) (hc0_9 : l0_9.length ≤ c0_9) (h : corrieref07_is.f a0_0 a0_1 a0_2 a0_3 a0_4 l0_5 l0_6 l0_7 l0_8 l0_9 a1 = some r) :
  Calls Try.prog 30 #[.agg #[.int .i64 a0_0, .int .i64 a0_1, .int .i64 a0_2, .int .i64 a0_3, .int .i64 a0_4, .slice A0_5 l0_5.length c0_5, .slice A0_6 l0_6.length c0_6, .slice A0_7 l0_7.length c0_7, .slice A0_8 l0_8.length c0_8, .slice A0_9 l0_9.length c0_9], .int .i64 a1] w fun e w' => e = .returned (.bool r) ∧ Below w.heap.size w w' := by
 have hu32 := Try.underlying32
 have HR0_5 := Aside0.mk hr0_5
 have HC0_5 := Aside0.mk hc0_5
 clear hr0_5 hc0_5
 have HR0_6 := Aside0.mk hr0_6
 have HC0_6 := Aside0.mk hc0_6
 clear hr0_6 hc0_6
 have HR0_7 := Aside0.mk hr0_7
 have HC0_7 := Aside0.mk hc0_7
 clear hr0_7 hc0_7
 have HR0_8 := Aside0.mk hr0_8
 have HC0_8 := Aside0.mk hc0_8
 clear hr0_8 hc0_8
 have HR0_9 := Aside0.mk hr0_9
 have HC0_9 := Aside0.mk hc0_9
 clear hr0_9 hc0_9
 have HB := Aside0.mk (Below.refl w.heap.size w)
 have H : (if a1 ≥ 0 then (some (decide (a1 < (l0_5.length : Int)))) else (some false)) = some r := h
 clear h
 by_cases c3 : a1 ≥ 0
 ·rw [if_pos c3] at H
  have c3b0 : decide (0 ≤ a1) = true := decide_eq_true c3
  clear c3
  obtain rfl := Option.some.inj H
  go_enter Try.func30, Try.ntmps30
  go_wp2_with (first | ((with_reducible refine gate_dst (N := 2) rfl ?_); (try (refine gate_guard (by rfl) ?_; dsimp only)); refine box_event ?hg (N := 2) ?hd (cs := #[.int .i64 a0_0, .int .i64 a0_1, .int .i64 a0_2, .int .i64 a0_3, .int .i64 a0_4, .slice A0_5 l0_5.length c0_5, .slice A0_6 l0_6.length c0_6, .slice A0_7 l0_7.length c0_7, .slice A0_8 l0_8.length c0_8, .slice A0_9 l0_9.length c0_9]) (t := 32) ?hr ?_; (case hd => rfl); (case hg => rfl); (case hr => first | (go_simp; done) | (go_simp; rfl)); intro gb131 hg w4 hbox hb; have n0_ := Aside0.mk (below_step (by repeat (first | (with_reducible first | exact HB.out | apply below_alloc | apply pw_below_drewN | apply below_drew1) | exact HB.out)) hb); have n1_ := Aside0.mk (hbox); have n2_ := Aside0.mk ((by rw [hg]; exact (below_size (by repeat (first | (with_reducible first | exact HB.out | apply below_alloc | apply pw_below_drewN | apply below_drew1) | exact HB.out))) : w.heap.size ≤ gb131)); have n3_ := Aside0.mk ((by rw [hg]; exact (below_size (by repeat (first | (with_reducible first | exact HB.out | apply below_alloc | apply pw_below_drewN | apply below_drew1) | exact HB.out))) : w.heap.size ≤ gb131)); clear HB; have HB := n0_; have BK131 := n1_; have GW131 := n2_; have GE131 := n3_; clear n0_ n1_ n2_ n3_; clear hb hbox hg; have hcz5_0 : w4.cell? ⟨gb131, 0, none⟩ = some (.int .i64 a0_0) := (blk_cell BK131.out 0).trans rfl; have hcz5_1 : w4.cell? ⟨gb131, 1, none⟩ = some (.int .i64 a0_1) := (blk_cell BK131.out 1).trans rfl; have hcz5_2 : w4.cell? ⟨gb131, 2, none⟩ = some (.int .i64 a0_2) := (blk_cell BK131.out 2).trans rfl; have hcz5_3 : w4.cell? ⟨gb131, 3, none⟩ = some (.int .i64 a0_3) := (blk_cell BK131.out 3).trans rfl; have hcz5_4 : w4.cell? ⟨gb131, 4, none⟩ = some (.int .i64 a0_4) := (blk_cell BK131.out 4).trans rfl; have hcz5_5 : w4.cell? ⟨gb131, 5, none⟩ = some (.slice A0_5 l0_5.length c0_5) := (blk_cell BK131.out 5).trans rfl; have hcz5_6 : w4.cell? ⟨gb131, 6, none⟩ = some (.slice A0_6 l0_6.length c0_6) := (blk_cell BK131.out 6).trans rfl; have hcz5_7 : w4.cell? ⟨gb131, 7, none⟩ = some (.slice A0_7 l0_7.length c0_7) := (blk_cell BK131.out 7).trans rfl; have hcz5_8 : w4.cell? ⟨gb131, 8, none⟩ = some (.slice A0_8 l0_8.length c0_8) := (blk_cell BK131.out 8).trans rfl; have hcz5_9 : w4.cell? ⟨gb131, 9, none⟩ = some (.slice A0_9 l0_9.length c0_9) := (blk_cell BK131.out 9).trans rfl; have hfz5_0 := blk_frozen BK131.out 0; have hfz5_1 := blk_frozen BK131.out 1; have hfz5_2 := blk_frozen BK131.out 2; have hfz5_3 := blk_frozen BK131.out 3; have hfz5_4 := blk_frozen BK131.out 4; have hfz5_5 := blk_frozen BK131.out 5; have hfz5_6 := blk_frozen BK131.out 6; have hfz5_7 := blk_frozen BK131.out 7; have hfz5_8 := blk_frozen BK131.out 8; have hfz5_9 := blk_frozen BK131.out 9))
  go_ret
  exact ⟨by first | rfl | (simp [errW_none, errW_some] <;> rfl) | (simp [*, errW_none, errW_some] <;> rfl), by repeat (first | (with_reducible first | exact HB.out | apply below_alloc | apply pw_below_drewN | apply below_drew1 | refine below_set ?_ GE131.out) | exact HB.out)⟩
 ·rw [if_neg c3] at H
  have c3b0 : decide (0 ≤ a1) = false := decide_eq_false c3
  clear c3
  obtain rfl := Option.some.inj H
  go_enter Try.func30, Try.ntmps30
  go_wp2_with (first | ((with_reducible refine gate_dst (N := 2) rfl ?_); (try (refine gate_guard (by rfl) ?_; dsimp only)); refine box_event ?hg (N := 2) ?hd (cs := #[.int .i64 a0_0, .int .i64 a0_1, .int .i64 a0_2, .int .i64 a0_3, .int .i64 a0_4, .slice A0_5 l0_5.length c0_5, .slice A0_6 l0_6.length c0_6, .slice A0_7 l0_7.length c0_7, .slice A0_8 l0_8.length c0_8, .slice A0_9 l0_9.length c0_9]) (t := 32) ?hr ?_; (case hd => rfl); (case hg => rfl); (case hr => first | (go_simp; done) | (go_simp; rfl)); intro gb131 hg w6 hbox hb; have n0_ := Aside0.mk (below_step (by repeat (first | (with_reducible first | exact HB.out | apply below_alloc | apply pw_below_drewN | apply below_drew1) | exact HB.out)) hb); have n1_ := Aside0.mk (hbox); have n2_ := Aside0.mk ((by rw [hg]; exact (below_size (by repeat (first | (with_reducible first | exact HB.out | apply below_alloc | apply pw_below_drewN | apply below_drew1) | exact HB.out))) : w.heap.size ≤ gb131)); have n3_ := Aside0.mk ((by rw [hg]; exact (below_size (by repeat (first | (with_reducible first | exact HB.out | apply below_alloc | apply pw_below_drewN | apply below_drew1) | exact HB.out))) : w.heap.size ≤ gb131)); clear HB; have HB := n0_; have BK131 := n1_; have GW131 := n2_; have GE131 := n3_; clear n0_ n1_ n2_ n3_; clear hb hbox hg))
  go_ret
  exact ⟨by first | rfl | (simp [errW_none, errW_some] <;> rfl) | (simp [*, errW_none, errW_some] <;> rfl), by repeat (first | (with_reducible first | exact HB.out | apply below_alloc | apply pw_below_drewN | apply below_drew1 | refine below_set ?_ GE131.out) | exact HB.out)⟩

/-! ### corrieref05_in: function 49 -/
def corrieref05_in.f (k : Nat) (a0_0 : Int) (a0_1 : Int) (a0_2 : Int) (a0_3 : Int) (a0_4 : Int) (a1 : Int) (a2 : Int) : Option (Bool) := (corrieref04_May.f k a0_0 a0_1 a0_2 a0_3 a0_4).bind fun t133 => (if t133 = 0 then (if a1 ≥ 0 then (some (decide (a1 < a2))) else (some false)) else (some false))
theorem corrieref05_in.mono : ∀ a0 a1 a2 a3 a4 a5 a6 k, LeO (corrieref05_in.f k a0 a1 a2 a3 a4 a5 a6) (corrieref05_in.f (k + 1) a0 a1 a2 a3 a4 a5 a6) := by
 intro a0 a1 a2 a3 a4 a5 a6 k
 unfold corrieref05_in.f
 repeat' first
   | (with_reducible exact corrieref04_May.mono _ _ _ _ _ _)
   | (with_reducible exact LeO.refl _)
   | (with_reducible exact LeO.none _)
   | (with_reducible refine LeO.ite ?_ ?_)
   | (with_reducible refine LeO.bind ?_ (fun _ => ?_))
   | exact corrieref04_May.mono _ _ _ _ _ _
   | exact LeO.none _
   | refine LeO.ite ?_ ?_
   | refine LeO.bind ?_ (fun _ => ?_)
set_option maxHeartbeats 8000000 in
set_option maxRecDepth 100000 in
theorem corrieref05_in.calls (k : Nat) (a0_0 : Int) (a0_1 : Int) (a0_2 : Int) (a0_3 : Int) (a0_4 : Int) (a1 : Int) (a2 : Int) (r : Bool) (w : World) (h : corrieref05_in.f k a0_0 a0_1 a0_2 a0_3 a0_4 a1 a2 = some r) :
  Calls Try.prog 49 #[.agg #[.int .i64 a0_0, .int .i64 a0_1, .int .i64 a0_2, .int .i64 a0_3, .int .i64 a0_4], .int .i64 a1, .int .i64 a2] w fun e w' => e = .returned (.bool r) ∧ Below w.heap.size w w' := by
 have hu23 := Try.underlying23
 have HB := Aside0.mk (Below.refl w.heap.size w)
 have H : ((corrieref04_May.f k a0_0 a0_1 a0_2 a0_3 a0_4).bind fun t133 => (if t133 = 0 then (if a1 ≥ 0 then (some (decide (a1 < a2))) else (some false)) else (some false))) = some r := h
 clear h
 replace H := Option.bind_eq_some_iff.mp H
 obtain ⟨t133, A40, H⟩ := H
 replace H : (if t133 = 0 then (if a1 ≥ 0 then (some (decide (a1 < a2))) else (some false)) else (some false)) = some r := H
 have A4 := Aside0.mk A40
 clear A40
 by_cases c5 : t133 = 0
 ·rw [if_pos c5] at H
  have c5b0 : (t133 == 0) = true := beq_iff_eq.mpr c5
  have c5b1 : (t133 != 0) = false := bne_eq_false_iff_eq.mpr c5
  clear c5
  by_cases c6 : a1 ≥ 0
  ·rw [if_pos c6] at H
   have c6b0 : decide (0 ≤ a1) = true := decide_eq_true c6
   clear c6
   obtain rfl := Option.some.inj H
   go_enter Try.func49, Try.ntmps49
   go_wp2_with (first | ((with_reducible refine gate_dst (N := 3) rfl ?_); refine box_event ?hg (N := 3) ?hd (cs := #[.int .i64 a0_0, .int .i64 a0_1, .int .i64 a0_2, .int .i64 a0_3, .int .i64 a0_4]) (t := 23) ?hr ?_; (case hd => rfl); (case hg => rfl); (case hr => first | (go_simp; done) | (go_simp; rfl)); intro gb132 hg w7 hbox hb; have n0_ := Aside0.mk (below_step (by repeat (first | (with_reducible first | exact HB.out | apply below_alloc | apply pw_below_drewN | apply below_drew1) | exact HB.out)) hb); have n1_ := Aside0.mk (hbox); have n2_ := Aside0.mk ((by rw [hg]; exact (below_size (by repeat (first | (with_reducible first | exact HB.out | apply below_alloc | apply pw_below_drewN | apply below_drew1) | exact HB.out))) : w.heap.size ≤ gb132)); have n3_ := Aside0.mk ((by rw [hg]; exact (below_size (by repeat (first | (with_reducible first | exact HB.out | apply below_alloc | apply pw_below_drewN | apply below_drew1) | exact HB.out))) : w.heap.size ≤ gb132)); clear HB; have HB := n0_; have BK132 := n1_; have GW132 := n2_; have GE132 := n3_; clear n0_ n1_ n2_ n3_; clear hb hbox hg; have hcz8_0 : w7.cell? ⟨gb132, 0, none⟩ = some (.int .i64 a0_0) := (blk_cell BK132.out 0).trans rfl; have hcz8_1 : w7.cell? ⟨gb132, 1, none⟩ = some (.int .i64 a0_1) := (blk_cell BK132.out 1).trans rfl; have hcz8_2 : w7.cell? ⟨gb132, 2, none⟩ = some (.int .i64 a0_2) := (blk_cell BK132.out 2).trans rfl; have hcz8_3 : w7.cell? ⟨gb132, 3, none⟩ = some (.int .i64 a0_3) := (blk_cell BK132.out 3).trans rfl; have hcz8_4 : w7.cell? ⟨gb132, 4, none⟩ = some (.int .i64 a0_4) := (blk_cell BK132.out 4).trans rfl; have hfz8_0 := blk_frozen BK132.out 0; have hfz8_1 := blk_frozen BK132.out 1; have hfz8_2 := blk_frozen BK132.out 2; have hfz8_3 := blk_frozen BK132.out 3; have hfz8_4 := blk_frozen BK132.out 4) | ((with_reducible refine gate_callee (f := 27) rfl ?_); refine goesL_ (some 8) rfl rfl Try.func27 (by kernel_rfl) rfl #[.agg #[.int .i64 a0_0, .int .i64 a0_1, .int .i64 a0_2, .int .i64 a0_3, .int .i64 a0_4]] rfl (by (try simp only [List.map_toArray, List.map_cons, List.map_nil]); first | done | rfl | (simp only [List.length_drop, List.length_take]; rfl)) ?_; (with_reducible refine (corrieref04_May.calls k a0_0 a0_1 a0_2 a0_3 a0_4 t133 _ A4.out).mono ?_); rintro e w9 ⟨rfl, hb⟩; refine ⟨_, rfl, ?_⟩; have n0_ := Aside0.mk (blk_below (g := gb132) (o := .cells #[.int .i64 a0_0, .int .i64 a0_1, .int .i64 a0_2, .int .i64 a0_3, .int .i64 a0_4] 23 (0, 0)) (by (with_reducible repeat (first | refine blk_drewN ?_ _ | refine blk_drew ?_ | refine blk_alloc ?_ _)); exact BK132.out) hb); have n1_ := Aside0.mk (below_step (by repeat (first | (with_reducible first | exact HB.out | apply below_alloc | apply pw_below_drewN | apply below_drew1 | refine below_set ?_ GE132.out) | exact HB.out)) hb); clear BK132; clear HB; have BK132 := n0_; have HB := n1_; clear n0_ n1_; (try clear hb); (try clear hb2); (try clear hk); (try clear hi)))
   go_ret
   exact ⟨by first | rfl | (simp [errW_none, errW_some] <;> rfl) | (simp [*, errW_none, errW_some] <;> rfl), by repeat (first | (with_reducible first | exact HB.out | apply below_alloc | apply pw_below_drewN | apply below_drew1 | refine below_set ?_ GE132.out) | exact HB.out)⟩
  ·rw [if_neg c6] at H
   have c6b0 : decide (0 ≤ a1) = false := decide_eq_false c6
   clear c6
   obtain rfl := Option.some.inj H
   go_enter Try.func49, Try.ntmps49
   go_wp2_with (first | ((with_reducible refine gate_dst (N := 3) rfl ?_); refine box_event ?hg (N := 3) ?hd (cs := #[.int .i64 a0_0, .int .i64 a0_1, .int .i64 a0_2, .int .i64 a0_3, .int .i64 a0_4]) (t := 23) ?hr ?_; (case hd => rfl); (case hg => rfl); (case hr => first | (go_simp; done) | (go_simp; rfl)); intro gb132 hg w10 hbox hb; have n0_ := Aside0.mk (below_step (by repeat (first | (with_reducible first | exact HB.out | apply below_alloc | apply pw_below_drewN | apply below_drew1) | exact HB.out)) hb); have n1_ := Aside0.mk (hbox); have n2_ := Aside0.mk ((by rw [hg]; exact (below_size (by repeat (first | (with_reducible first | exact HB.out | apply below_alloc | apply pw_below_drewN | apply below_drew1) | exact HB.out))) : w.heap.size ≤ gb132)); have n3_ := Aside0.mk ((by rw [hg]; exact (below_size (by repeat (first | (with_reducible first | exact HB.out | apply below_alloc | apply pw_below_drewN | apply below_drew1) | exact HB.out))) : w.heap.size ≤ gb132)); clear HB; have HB := n0_; have BK132 := n1_; have GW132 := n2_; have GE132 := n3_; clear n0_ n1_ n2_ n3_; clear hb hbox hg; have hcz11_0 : w10.cell? ⟨gb132, 0, none⟩ = some (.int .i64 a0_0) := (blk_cell BK132.out 0).trans rfl; have hcz11_1 : w10.cell? ⟨gb132, 1, none⟩ = some (.int .i64 a0_1) := (blk_cell BK132.out 1).trans rfl; have hcz11_2 : w10.cell? ⟨gb132, 2, none⟩ = some (.int .i64 a0_2) := (blk_cell BK132.out 2).trans rfl; have hcz11_3 : w10.cell? ⟨gb132, 3, none⟩ = some (.int .i64 a0_3) := (blk_cell BK132.out 3).trans rfl; have hcz11_4 : w10.cell? ⟨gb132, 4, none⟩ = some (.int .i64 a0_4) := (blk_cell BK132.out 4).trans rfl; have hfz11_0 := blk_frozen BK132.out 0; have hfz11_1 := blk_frozen BK132.out 1; have hfz11_2 := blk_frozen BK132.out 2; have hfz11_3 := blk_frozen BK132.out 3; have hfz11_4 := blk_frozen BK132.out 4) | ((with_reducible refine gate_callee (f := 27) rfl ?_); refine goesL_ (some 8) rfl rfl Try.func27 (by kernel_rfl) rfl #[.agg #[.int .i64 a0_0, .int .i64 a0_1, .int .i64 a0_2, .int .i64 a0_3, .int .i64 a0_4]] rfl (by (try simp only [List.map_toArray, List.map_cons, List.map_nil]); first | done | rfl | (simp only [List.length_drop, List.length_take]; rfl)) ?_; (with_reducible refine (corrieref04_May.calls k a0_0 a0_1 a0_2 a0_3 a0_4 t133 _ A4.out).mono ?_); rintro e w12 ⟨rfl, hb⟩; refine ⟨_, rfl, ?_⟩; have n0_ := Aside0.mk (blk_below (g := gb132) (o := .cells #[.int .i64 a0_0, .int .i64 a0_1, .int .i64 a0_2, .int .i64 a0_3, .int .i64 a0_4] 23 (0, 0)) (by (with_reducible repeat (first | refine blk_drewN ?_ _ | refine blk_drew ?_ | refine blk_alloc ?_ _)); exact BK132.out) hb); have n1_ := Aside0.mk (below_step (by repeat (first | (with_reducible first | exact HB.out | apply below_alloc | apply pw_below_drewN | apply below_drew1 | refine below_set ?_ GE132.out) | exact HB.out)) hb); clear BK132; clear HB; have BK132 := n0_; have HB := n1_; clear n0_ n1_; (try clear hb); (try clear hb2); (try clear hk); (try clear hi)))
   go_ret
   exact ⟨by first | rfl | (simp [errW_none, errW_some] <;> rfl) | (simp [*, errW_none, errW_some] <;> rfl), by repeat (first | (with_reducible first | exact HB.out | apply below_alloc | apply pw_below_drewN | apply below_drew1 | refine below_set ?_ GE132.out) | exact HB.out)⟩
 ·rw [if_neg c5] at H
  have c5b0 : (t133 == 0) = false := beq_eq_false_iff_ne.mpr c5
  have c5b1 : (t133 != 0) = true := bne_iff_ne.mpr c5
  obtain rfl := Option.some.inj H
  go_enter Try.func49, Try.ntmps49
  go_wp2_with (first | ((with_reducible refine gate_dst (N := 3) rfl ?_); refine box_event ?hg (N := 3) ?hd (cs := #[.int .i64 a0_0, .int .i64 a0_1, .int .i64 a0_2, .int .i64 a0_3, .int .i64 a0_4]) (t := 23) ?hr ?_; (case hd => rfl); (case hg => rfl); (case hr => first | (go_simp; done) | (go_simp; rfl)); intro gb132 hg w13 hbox hb; have n0_ := Aside0.mk (below_step (by repeat (first | (with_reducible first | exact HB.out | apply below_alloc | apply pw_below_drewN | apply below_drew1) | exact HB.out)) hb); have n1_ := Aside0.mk (hbox); have n2_ := Aside0.mk ((by rw [hg]; exact (below_size (by repeat (first | (with_reducible first | exact HB.out | apply below_alloc | apply pw_below_drewN | apply below_drew1) | exact HB.out))) : w.heap.size ≤ gb132)); have n3_ := Aside0.mk ((by rw [hg]; exact (below_size (by repeat (first | (with_reducible first | exact HB.out | apply below_alloc | apply pw_below_drewN | apply below_drew1) | exact HB.out))) : w.heap.size ≤ gb132)); clear HB; have HB := n0_; have BK132 := n1_; have GW132 := n2_; have GE132 := n3_; clear n0_ n1_ n2_ n3_; clear hb hbox hg; have hcz14_0 : w13.cell? ⟨gb132, 0, none⟩ = some (.int .i64 a0_0) := (blk_cell BK132.out 0).trans rfl; have hcz14_1 : w13.cell? ⟨gb132, 1, none⟩ = some (.int .i64 a0_1) := (blk_cell BK132.out 1).trans rfl; have hcz14_2 : w13.cell? ⟨gb132, 2, none⟩ = some (.int .i64 a0_2) := (blk_cell BK132.out 2).trans rfl; have hcz14_3 : w13.cell? ⟨gb132, 3, none⟩ = some (.int .i64 a0_3) := (blk_cell BK132.out 3).trans rfl; have hcz14_4 : w13.cell? ⟨gb132, 4, none⟩ = some (.int .i64 a0_4) := (blk_cell BK132.out 4).trans rfl; have hfz14_0 := blk_frozen BK132.out 0; have hfz14_1 := blk_frozen BK132.out 1; have hfz14_2 := blk_frozen BK132.out 2; have hfz14_3 := blk_frozen BK132.out 3; have hfz14_4 := blk_frozen BK132.out 4) | ((with_reducible refine gate_callee (f := 27) rfl ?_); refine goesL_ (some 8) rfl rfl Try.func27 (by kernel_rfl) rfl #[.agg #[.int .i64 a0_0, .int .i64 a0_1, .int .i64 a0_2, .int .i64 a0_3, .int .i64 a0_4]] rfl (by (try simp only [List.map_toArray, List.map_cons, List.map_nil]); first | done | rfl | (simp only [List.length_drop, List.length_take]; rfl)) ?_; (with_reducible refine (corrieref04_May.calls k a0_0 a0_1 a0_2 a0_3 a0_4 t133 _ A4.out).mono ?_); rintro e w15 ⟨rfl, hb⟩; refine ⟨_, rfl, ?_⟩; have n0_ := Aside0.mk (blk_below (g := gb132) (o := .cells #[.int .i64 a0_0, .int .i64 a0_1, .int .i64 a0_2, .int .i64 a0_3, .int .i64 a0_4] 23 (0, 0)) (by (with_reducible repeat (first | refine blk_drewN ?_ _ | refine blk_drew ?_ | refine blk_alloc ?_ _)); exact BK132.out) hb); have n1_ := Aside0.mk (below_step (by repeat (first | (with_reducible first | exact HB.out | apply below_alloc | apply pw_below_drewN | apply below_drew1 | refine below_set ?_ GE132.out) | exact HB.out)) hb); clear BK132; clear HB; have BK132 := n0_; have HB := n1_; clear n0_ n1_; (try clear hb); (try clear hb2); (try clear hk); (try clear hi)))
  go_ret
  exact ⟨by first | rfl | (simp [errW_none, errW_some] <;> rfl) | (simp [*, errW_none, errW_some] <;> rfl), by repeat (first | (with_reducible first | exact HB.out | apply below_alloc | apply pw_below_drewN | apply below_drew1 | refine below_set ?_ GE132.out) | exact HB.out)⟩

/-! ### corrieref05_Node: function 42 -/
def corrieref05_Node.f (k : Nat) (a0_0 : Int) (a0_1 : Int) (a0_2 : Int) (a0_3 : Int) (a0_4 : Int) (a1 : Int) (a2 : Int) : Option (Int) := (corrieref05_in.f k a0_0 a0_1 a0_2 a0_3 a0_4 a1 a0_0).bind fun t135 => (if t135 = true then ((corrieref05_in.f k a0_0 a0_1 a0_2 a0_3 a0_4 a2 (wrap64 (2 * a0_4))).bind fun t136 => (if t136 = true then (some (wrap64 ((wrap64 ((wrap64 (1 + a0_1)) + (wrap64 ((wrap64 (2 * a1)) * a0_4)))) + a2))) else (some (-1)))) else (some (-1)))
theorem corrieref05_Node.mono : ∀ a0 a1 a2 a3 a4 a5 a6 k, LeO (corrieref05_Node.f k a0 a1 a2 a3 a4 a5 a6) (corrieref05_Node.f (k + 1) a0 a1 a2 a3 a4 a5 a6) := by
 intro a0 a1 a2 a3 a4 a5 a6 k
 unfold corrieref05_Node.f
 repeat' first
   | (with_reducible exact corrieref05_in.mono _ _ _ _ _ _ _ _)
   | (with_reducible exact LeO.refl _)
   | (with_reducible exact LeO.none _)
   | (with_reducible refine LeO.ite ?_ ?_)
   | (with_reducible refine LeO.bind ?_ (fun _ => ?_))
   | exact corrieref05_in.mono _ _ _ _ _ _ _ _
   | exact LeO.none _
   | refine LeO.ite ?_ ?_
   | refine LeO.bind ?_ (fun _ => ?_)
set_option maxHeartbeats 8000000 in
set_option maxRecDepth 100000 in
theorem corrieref05_Node.calls (k : Nat) (a0_0 : Int) (a0_1 : Int) (a0_2 : Int) (a0_3 : Int) (a0_4 : Int) (a1 : Int) (a2 : Int) (r : Int) (w : World) (h : corrieref05_Node.f k a0_0 a0_1 a0_2 a0_3 a0_4 a1 a2 = some r) :
  Calls Try.prog 42 #[.agg #[.int .i64 a0_0, .int .i64 a0_1, .int .i64 a0_2, .int .i64 a0_3, .int .i64 a0_4], .int .i64 a1, .int .i64 a2] w fun e w' => e = .returned (.int .i64 r) ∧ Below w.heap.size w w' := by
 have hu23 := Try.underlying23
 have HB := Aside0.mk (Below.refl w.heap.size w)
 have H : ((corrieref05_in.f k a0_0 a0_1 a0_2 a0_3 a0_4 a1 a0_0).bind fun t135 => (if t135 = true then ((corrieref05_in.f k a0_0 a0_1 a0_2 a0_3 a0_4 a2 (wrap64 (2 * a0_4))).bind fun t136 => (if t136 = true then (some (wrap64 ((wrap64 ((wrap64 (1 + a0_1)) + (wrap64 ((wrap64 (2 * a1)) * a0_4)))) + a2))) else (some (-1)))) else (some (-1)))) = some r := h
 clear h
 replace H := Option.bind_eq_some_iff.mp H
 obtain ⟨t135, A40, H⟩ := H
 replace H : (if t135 = true then ((corrieref05_in.f k a0_0 a0_1 a0_2 a0_3 a0_4 a2 (wrap64 (2 * a0_4))).bind fun t136 => (if t136 = true then (some (wrap64 ((wrap64 ((wrap64 (1 + a0_1)) + (wrap64 ((wrap64 (2 * a1)) * a0_4)))) + a2))) else (some (-1)))) else (some (-1))) = some r := H
 have A4 := Aside0.mk A40
 clear A40
 by_cases c5 : t135 = true
 ·subst c5
  have H1 : ((corrieref05_in.f k a0_0 a0_1 a0_2 a0_3 a0_4 a2 (wrap64 (2 * a0_4))).bind fun t136 => (if t136 = true then (some (wrap64 ((wrap64 ((wrap64 (1 + a0_1)) + (wrap64 ((wrap64 (2 * a1)) * a0_4)))) + a2))) else (some (-1)))) = some r := by rw [if_pos rfl] at H; exact H
  clear H
  have H := H1
  clear H1
  replace H := Option.bind_eq_some_iff.mp H
  obtain ⟨t136, A60, H⟩ := H
  replace H : (if t136 = true then (some (wrap64 ((wrap64 ((wrap64 (1 + a0_1)) + (wrap64 ((wrap64 (2 * a1)) * a0_4)))) + a2))) else (some (-1))) = some r := H
  have A6 := Aside0.mk A60
  clear A60
  by_cases c7 : t136 = true
  ·subst c7
   have H1 : (some (wrap64 ((wrap64 ((wrap64 (1 + a0_1)) + (wrap64 ((wrap64 (2 * a1)) * a0_4)))) + a2))) = some r := by rw [if_pos rfl] at H; exact H
   clear H
   have H := H1
   clear H1
   obtain rfl := Option.some.inj H
   go_enter Try.func42, Try.ntmps42
   go_wp2_with (first | ((with_reducible refine gate_dst (N := 3) rfl ?_); refine box_event ?hg (N := 3) ?hd (cs := #[.int .i64 a0_0, .int .i64 a0_1, .int .i64 a0_2, .int .i64 a0_3, .int .i64 a0_4]) (t := 23) ?hr ?_; (case hd => rfl); (case hg => rfl); (case hr => first | (go_simp; done) | (go_simp; rfl)); intro gb134 hg w8 hbox hb; have n0_ := Aside0.mk (below_step (by repeat (first | (with_reducible first | exact HB.out | apply below_alloc | apply pw_below_drewN | apply below_drew1) | exact HB.out)) hb); have n1_ := Aside0.mk (hbox); have n2_ := Aside0.mk ((by rw [hg]; exact (below_size (by repeat (first | (with_reducible first | exact HB.out | apply below_alloc | apply pw_below_drewN | apply below_drew1) | exact HB.out))) : w.heap.size ≤ gb134)); have n3_ := Aside0.mk ((by rw [hg]; exact (below_size (by repeat (first | (with_reducible first | exact HB.out | apply below_alloc | apply pw_below_drewN | apply below_drew1) | exact HB.out))) : w.heap.size ≤ gb134)); clear HB; have HB := n0_; have BK134 := n1_; have GW134 := n2_; have GE134 := n3_; clear n0_ n1_ n2_ n3_; clear hb hbox hg; have hcz9_0 : w8.cell? ⟨gb134, 0, none⟩ = some (.int .i64 a0_0) := (blk_cell BK134.out 0).trans rfl; have hcz9_1 : w8.cell? ⟨gb134, 1, none⟩ = some (.int .i64 a0_1) := (blk_cell BK134.out 1).trans rfl; have hcz9_2 : w8.cell? ⟨gb134, 2, none⟩ = some (.int .i64 a0_2) := (blk_cell BK134.out 2).trans rfl; have hcz9_3 : w8.cell? ⟨gb134, 3, none⟩ = some (.int .i64 a0_3) := (blk_cell BK134.out 3).trans rfl; have hcz9_4 : w8.cell? ⟨gb134, 4, none⟩ = some (.int .i64 a0_4) := (blk_cell BK134.out 4).trans rfl; have hfz9_0 := blk_frozen BK134.out 0; have hfz9_1 := blk_frozen BK134.out 1; have hfz9_2 := blk_frozen BK134.out 2; have hfz9_3 := blk_frozen BK134.out 3; have hfz9_4 := blk_frozen BK134.out 4) | ((with_reducible refine gate_callee (f := 49) rfl ?_); refine goesL_ (some 11) rfl rfl Try.func49 (by kernel_rfl) rfl #[.agg #[.int .i64 a0_0, .int .i64 a0_1, .int .i64 a0_2, .int .i64 a0_3, .int .i64 a0_4], .int .i64 a1, .int .i64 a0_0] rfl (by (try simp only [List.map_toArray, List.map_cons, List.map_nil]); first | done | rfl | (simp only [List.length_drop, List.length_take]; rfl)) ?_; (with_reducible refine (corrieref05_in.calls k a0_0 a0_1 a0_2 a0_3 a0_4 a1 a0_0 true _ A4.out).mono ?_); rintro e w10 ⟨rfl, hb⟩; refine ⟨_, rfl, ?_⟩; have n0_ := Aside0.mk (blk_below (g := gb134) (o := .cells #[.int .i64 a0_0, .int .i64 a0_1, .int .i64 a0_2, .int .i64 a0_3, .int .i64 a0_4] 23 (0, 0)) (by (with_reducible repeat (first | refine blk_drewN ?_ _ | refine blk_drew ?_ | refine blk_alloc ?_ _)); exact BK134.out) hb); have n1_ := Aside0.mk (below_step (by repeat (first | (with_reducible first | exact HB.out | apply below_alloc | apply pw_below_drewN | apply below_drew1 | refine below_set ?_ GE134.out) | exact HB.out)) hb); clear BK134; clear HB; have BK134 := n0_; have HB := n1_; clear n0_ n1_; (try clear hb); (try clear hb2); (try clear hk); (try clear hi); have hcz11_0 : w10.cell? ⟨gb134, 0, none⟩ = some (.int .i64 a0_0) := (blk_cell BK134.out 0).trans rfl; have hcz11_1 : w10.cell? ⟨gb134, 1, none⟩ = some (.int .i64 a0_1) := (blk_cell BK134.out 1).trans rfl; have hcz11_2 : w10.cell? ⟨gb134, 2, none⟩ = some (.int .i64 a0_2) := (blk_cell BK134.out 2).trans rfl; have hcz11_3 : w10.cell? ⟨gb134, 3, none⟩ = some (.int .i64 a0_3) := (blk_cell BK134.out 3).trans rfl; have hcz11_4 : w10.cell? ⟨gb134, 4, none⟩ = some (.int .i64 a0_4) := (blk_cell BK134.out 4).trans rfl; have hfz11_0 := blk_frozen BK134.out 0; have hfz11_1 := blk_frozen BK134.out 1; have hfz11_2 := blk_frozen BK134.out 2; have hfz11_3 := blk_frozen BK134.out 3; have hfz11_4 := blk_frozen BK134.out 4) | (go_at_call 49; (with_reducible refine (corrieref05_in.calls k a0_0 a0_1 a0_2 a0_3 a0_4 a2 (wrap64 (2 * a0_4)) true _ A6.out).mono ?_); rintro e w12 ⟨rfl, hb⟩; have n0_ := Aside0.mk (blk_below (g := gb134) (o := .cells #[.int .i64 a0_0, .int .i64 a0_1, .int .i64 a0_2, .int .i64 a0_3, .int .i64 a0_4] 23 (0, 0)) (by (with_reducible repeat (first | refine blk_drewN ?_ _ | refine blk_drew ?_ | refine blk_alloc ?_ _)); exact BK134.out) hb); have n1_ := Aside0.mk (below_step (by repeat (first | (with_reducible first | exact HB.out | apply below_alloc | apply pw_below_drewN | apply below_drew1 | refine below_set ?_ GE134.out) | exact HB.out)) hb); clear BK134; clear HB; have BK134 := n0_; have HB := n1_; clear n0_ n1_; (try clear hb); (try clear hb2); (try clear hk); (try clear hi); have hcz13_0 : w12.cell? ⟨gb134, 0, none⟩ = some (.int .i64 a0_0) := (blk_cell BK134.out 0).trans rfl; have hcz13_1 : w12.cell? ⟨gb134, 1, none⟩ = some (.int .i64 a0_1) := (blk_cell BK134.out 1).trans rfl; have hcz13_2 : w12.cell? ⟨gb134, 2, none⟩ = some (.int .i64 a0_2) := (blk_cell BK134.out 2).trans rfl; have hcz13_3 : w12.cell? ⟨gb134, 3, none⟩ = some (.int .i64 a0_3) := (blk_cell BK134.out 3).trans rfl; have hcz13_4 : w12.cell? ⟨gb134, 4, none⟩ = some (.int .i64 a0_4) := (blk_cell BK134.out 4).trans rfl; have hfz13_0 := blk_frozen BK134.out 0; have hfz13_1 := blk_frozen BK134.out 1; have hfz13_2 := blk_frozen BK134.out 2; have hfz13_3 := blk_frozen BK134.out 3; have hfz13_4 := blk_frozen BK134.out 4))
   go_ret
   exact ⟨by first | rfl | (simp [errW_none, errW_some] <;> rfl) | (simp [*, errW_none, errW_some] <;> rfl), by repeat (first | (with_reducible first | exact HB.out | apply below_alloc | apply pw_below_drewN | apply below_drew1 | refine below_set ?_ GE134.out) | exact HB.out)⟩
  ·replace c7 := Bool.eq_false_iff.mpr c7
   subst c7
   have H1 : (some (-1)) = some r := by rw [if_neg (show ¬ (false = true) by decide)] at H; exact H
   clear H
   have H := H1
   clear H1
   obtain rfl := Option.some.inj H
   go_enter Try.func42, Try.ntmps42
   go_wp2_with (first | ((with_reducible refine gate_dst (N := 3) rfl ?_); refine box_event ?hg (N := 3) ?hd (cs := #[.int .i64 a0_0, .int .i64 a0_1, .int .i64 a0_2, .int .i64 a0_3, .int .i64 a0_4]) (t := 23) ?hr ?_; (case hd => rfl); (case hg => rfl); (case hr => first | (go_simp; done) | (go_simp; rfl)); intro gb134 hg w14 hbox hb; have n0_ := Aside0.mk (below_step (by repeat (first | (with_reducible first | exact HB.out | apply below_alloc | apply pw_below_drewN | apply below_drew1) | exact HB.out)) hb); have n1_ := Aside0.mk (hbox); have n2_ := Aside0.mk ((by rw [hg]; exact (below_size (by repeat (first | (with_reducible first | exact HB.out | apply below_alloc | apply pw_below_drewN | apply below_drew1) | exact HB.out))) : w.heap.size ≤ gb134)); have n3_ := Aside0.mk ((by rw [hg]; exact (below_size (by repeat (first | (with_reducible first | exact HB.out | apply below_alloc | apply pw_below_drewN | apply below_drew1) | exact HB.out))) : w.heap.size ≤ gb134)); clear HB; have HB := n0_; have BK134 := n1_; have GW134 := n2_; have GE134 := n3_; clear n0_ n1_ n2_ n3_; clear hb hbox hg; have hcz15_0 : w14.cell? ⟨gb134, 0, none⟩ = some (.int .i64 a0_0) := (blk_cell BK134.out 0).trans rfl; have hcz15_1 : w14.cell? ⟨gb134, 1, none⟩ = some (.int .i64 a0_1) := (blk_cell BK134.out 1).trans rfl; have hcz15_2 : w14.cell? ⟨gb134, 2, none⟩ = some (.int .i64 a0_2) := (blk_cell BK134.out 2).trans rfl; have hcz15_3 : w14.cell? ⟨gb134, 3, none⟩ = some (.int .i64 a0_3) := (blk_cell BK134.out 3).trans rfl; have hcz15_4 : w14.cell? ⟨gb134, 4, none⟩ = some (.int .i64 a0_4) := (blk_cell BK134.out 4).trans rfl; have hfz15_0 := blk_frozen BK134.out 0; have hfz15_1 := blk_frozen BK134.out 1; have hfz15_2 := blk_frozen BK134.out 2; have hfz15_3 := blk_frozen BK134.out 3; have hfz15_4 := blk_frozen BK134.out 4) | ((with_reducible refine gate_callee (f := 49) rfl ?_); refine goesL_ (some 11) rfl rfl Try.func49 (by kernel_rfl) rfl #[.agg #[.int .i64 a0_0, .int .i64 a0_1, .int .i64 a0_2, .int .i64 a0_3, .int .i64 a0_4], .int .i64 a1, .int .i64 a0_0] rfl (by (try simp only [List.map_toArray, List.map_cons, List.map_nil]); first | done | rfl | (simp only [List.length_drop, List.length_take]; rfl)) ?_; (with_reducible refine (corrieref05_in.calls k a0_0 a0_1 a0_2 a0_3 a0_4 a1 a0_0 true _ A4.out).mono ?_); rintro e w16 ⟨rfl, hb⟩; refine ⟨_, rfl, ?_⟩; have n0_ := Aside0.mk (blk_below (g := gb134) (o := .cells #[.int .i64 a0_0, .int .i64 a0_1, .int .i64 a0_2, .int .i64 a0_3, .int .i64 a0_4] 23 (0, 0)) (by (with_reducible repeat (first | refine blk_drewN ?_ _ | refine blk_drew ?_ | refine blk_alloc ?_ _)); exact BK134.out) hb); have n1_ := Aside0.mk (below_step (by repeat (first | (with_reducible first | exact HB.out | apply below_alloc | apply pw_below_drewN | apply below_drew1 | refine below_set ?_ GE134.out) | exact HB.out)) hb); clear BK134; clear HB; have BK134 := n0_; have HB := n1_; clear n0_ n1_; (try clear hb); (try clear hb2); (try clear hk); (try clear hi); have hcz17_0 : w16.cell? ⟨gb134, 0, none⟩ = some (.int .i64 a0_0) := (blk_cell BK134.out 0).trans rfl; have hcz17_1 : w16.cell? ⟨gb134, 1, none⟩ = some (.int .i64 a0_1) := (blk_cell BK134.out 1).trans rfl; have hcz17_2 : w16.cell? ⟨gb134, 2, none⟩ = some (.int .i64 a0_2) := (blk_cell BK134.out 2).trans rfl; have hcz17_3 : w16.cell? ⟨gb134, 3, none⟩ = some (.int .i64 a0_3) := (blk_cell BK134.out 3).trans rfl; have hcz17_4 : w16.cell? ⟨gb134, 4, none⟩ = some (.int .i64 a0_4) := (blk_cell BK134.out 4).trans rfl; have hfz17_0 := blk_frozen BK134.out 0; have hfz17_1 := blk_frozen BK134.out 1; have hfz17_2 := blk_frozen BK134.out 2; have hfz17_3 := blk_frozen BK134.out 3; have hfz17_4 := blk_frozen BK134.out 4) | (go_at_call 49; (with_reducible refine (corrieref05_in.calls k a0_0 a0_1 a0_2 a0_3 a0_4 a2 (wrap64 (2 * a0_4)) false _ A6.out).mono ?_); rintro e w18 ⟨rfl, hb⟩; have n0_ := Aside0.mk (blk_below (g := gb134) (o := .cells #[.int .i64 a0_0, .int .i64 a0_1, .int .i64 a0_2, .int .i64 a0_3, .int .i64 a0_4] 23 (0, 0)) (by (with_reducible repeat (first | refine blk_drewN ?_ _ | refine blk_drew ?_ | refine blk_alloc ?_ _)); exact BK134.out) hb); have n1_ := Aside0.mk (below_step (by repeat (first | (with_reducible first | exact HB.out | apply below_alloc | apply pw_below_drewN | apply below_drew1 | refine below_set ?_ GE134.out) | exact HB.out)) hb); clear BK134; clear HB; have BK134 := n0_; have HB := n1_; clear n0_ n1_; (try clear hb); (try clear hb2); (try clear hk); (try clear hi)))
   go_ret
   exact ⟨by first | rfl | (simp [errW_none, errW_some] <;> rfl) | (simp [*, errW_none, errW_some] <;> rfl), by repeat (first | (with_reducible first | exact HB.out | apply below_alloc | apply pw_below_drewN | apply below_drew1 | refine below_set ?_ GE134.out) | exact HB.out)⟩
 ·replace c5 := Bool.eq_false_iff.mpr c5
  subst c5
  have H1 : (some (-1)) = some r := by rw [if_neg (show ¬ (false = true) by decide)] at H; exact H
  clear H
  have H := H1
  clear H1
  obtain rfl := Option.some.inj H
  go_enter Try.func42, Try.ntmps42
  go_wp2_with (first | ((with_reducible refine gate_dst (N := 3) rfl ?_); refine box_event ?hg (N := 3) ?hd (cs := #[.int .i64 a0_0, .int .i64 a0_1, .int .i64 a0_2, .int .i64 a0_3, .int .i64 a0_4]) (t := 23) ?hr ?_; (case hd => rfl); (case hg => rfl); (case hr => first | (go_simp; done) | (go_simp; rfl)); intro gb134 hg w19 hbox hb; have n0_ := Aside0.mk (below_step (by repeat (first | (with_reducible first | exact HB.out | apply below_alloc | apply pw_below_drewN | apply below_drew1) | exact HB.out)) hb); have n1_ := Aside0.mk (hbox); have n2_ := Aside0.mk ((by rw [hg]; exact (below_size (by repeat (first | (with_reducible first | exact HB.out | apply below_alloc | apply pw_below_drewN | apply below_drew1) | exact HB.out))) : w.heap.size ≤ gb134)); have n3_ := Aside0.mk ((by rw [hg]; exact (below_size (by repeat (first | (with_reducible first | exact HB.out | apply below_alloc | apply pw_below_drewN | apply below_drew1) | exact HB.out))) : w.heap.size ≤ gb134)); clear HB; have HB := n0_; have BK134 := n1_; have GW134 := n2_; have GE134 := n3_; clear n0_ n1_ n2_ n3_; clear hb hbox hg; have hcz20_0 : w19.cell? ⟨gb134, 0, none⟩ = some (.int .i64 a0_0) := (blk_cell BK134.out 0).trans rfl; have hcz20_1 : w19.cell? ⟨gb134, 1, none⟩ = some (.int .i64 a0_1) := (blk_cell BK134.out 1).trans rfl; have hcz20_2 : w19.cell? ⟨gb134, 2, none⟩ = some (.int .i64 a0_2) := (blk_cell BK134.out 2).trans rfl; have hcz20_3 : w19.cell? ⟨gb134, 3, none⟩ = some (.int .i64 a0_3) := (blk_cell BK134.out 3).trans rfl; have hcz20_4 : w19.cell? ⟨gb134, 4, none⟩ = some (.int .i64 a0_4) := (blk_cell BK134.out 4).trans rfl; have hfz20_0 := blk_frozen BK134.out 0; have hfz20_1 := blk_frozen BK134.out 1; have hfz20_2 := blk_frozen BK134.out 2; have hfz20_3 := blk_frozen BK134.out 3; have hfz20_4 := blk_frozen BK134.out 4) | ((with_reducible refine gate_callee (f := 49) rfl ?_); refine goesL_ (some 11) rfl rfl Try.func49 (by kernel_rfl) rfl #[.agg #[.int .i64 a0_0, .int .i64 a0_1, .int .i64 a0_2, .int .i64 a0_3, .int .i64 a0_4], .int .i64 a1, .int .i64 a0_0] rfl (by (try simp only [List.map_toArray, List.map_cons, List.map_nil]); first | done | rfl | (simp only [List.length_drop, List.length_take]; rfl)) ?_; (with_reducible refine (corrieref05_in.calls k a0_0 a0_1 a0_2 a0_3 a0_4 a1 a0_0 false _ A4.out).mono ?_); rintro e w21 ⟨rfl, hb⟩; refine ⟨_, rfl, ?_⟩; have n0_ := Aside0.mk (blk_below (g := gb134) (o := .cells #[.int .i64 a0_0, .int .i64 a0_1, .int .i64 a0_2, .int .i64 a0_3, .int .i64 a0_4] 23 (0, 0)) (by (with_reducible repeat (first | refine blk_drewN ?_ _ | refine blk_drew ?_ | refine blk_alloc ?_ _)); exact BK134.out) hb); have n1_ := Aside0.mk (below_step (by repeat (first | (with_reducible first | exact HB.out | apply below_alloc | apply pw_below_drewN | apply below_drew1 | refine below_set ?_ GE134.out) | exact HB.out)) hb); clear BK134; clear HB; have BK134 := n0_; have HB := n1_; clear n0_ n1_; (try clear hb); (try clear hb2); (try clear hk); (try clear hi)))
  go_ret
  exact ⟨by first | rfl | (simp [errW_none, errW_some] <;> rfl) | (simp [*, errW_none, errW_some] <;> rfl), by repeat (first | (with_reducible first | exact HB.out | apply below_alloc | apply pw_below_drewN | apply below_drew1 | refine below_set ?_ GE134.out) | exact HB.out)⟩

/-! ### corrieref07_more: function 43 -/
def corrieref07_more.f (l0 : List Int) (a1 : Int) : Option (List Int) := (some (([] : List Int) : List Int)).bind fun y137 => (if y137.length + l0.length < 17592186044416 then ((some (y137 ++ l0 : List Int)).bind fun y140 => (if 0 ≤ a1 then (if a1 < (y140.length : Int) then (some (y140.set (a1 : Int).toNat (wrap64 ((rd y140 a1) + 1)))) else (none)) else (none))) else (none))
set_option maxHeartbeats 8000000 in
set_option maxRecDepth 100000 in
theorem corrieref07_more.calls (A0 : Option Addr) (c0 : Nat) (l0 : List Int) (a1 : Int) (r : List Int) (w : World) (hr0 : Kd.C (Kd.int .i64) w A0 l0.length l0) (hc0 : l0.length ≤ c0) (h : corrieref07_more.f l0 a1 = some r) :
  Calls Try.prog 43 #[.slice A0 l0.length c0, .int .i64 a1] w fun e w' => ∃ v0_ : Value, e = .returned (v0_) ∧ Kd.R (Kd.int .i64) 3 w' w.heap.size (fun _ => True) v0_ r ∧ Below w.heap.size w w' := by
 have HR0 := Aside0.mk hr0
 have HC0 := Aside0.mk hc0
 clear hr0 hc0
 have HB := Aside0.mk (Below.refl w.heap.size w)
 have H : ((some (([] : List Int) : List Int)).bind fun y137 => (if y137.length + l0.length < 17592186044416 then ((some (y137 ++ l0 : List Int)).bind fun y140 => (if 0 ≤ a1 then (if a1 < (y140.length : Int) then (some (y140.set (a1 : Int).toNat (wrap64 ((rd y140 a1) + 1)))) else (none)) else (none))) else (none))) = some r := h
 clear h
 obtain ⟨y137, hy137⟩ : ∃ y_ : List Int, y_ = (([] : List Int)) := ⟨_, rfl⟩
 replace H : (if y137.length + l0.length < 17592186044416 then ((some (y137 ++ l0 : List Int)).bind fun y140 => (if 0 ≤ a1 then (if a1 < (y140.length : Int) then (some (y140.set (a1 : Int).toNat (wrap64 ((rd y140 a1) + 1)))) else (none)) else (none))) else (none)) = some r := by first | (rw [hy137]; with_reducible exact H) | (have H2_ := (Option.bind_some _ _).symm.trans H; rw [hy137]; with_reducible exact H2_) | (have H2_ := (Option.bind_some _ _).symm.trans H; with_reducible exact H2_) | with_reducible exact H | (rw [hy137]; exact H) | exact H
 have Ny137 := Aside0.mk hy137
 clear hy137
 by_cases c3 : y137.length + l0.length < 17592186044416
 ·rw [if_pos c3] at H
  have LMc3 := Aside0.mk c3
  clear c3
  obtain ⟨y140, hy140⟩ : ∃ y_ : List Int, y_ = (y137 ++ l0) := ⟨_, rfl⟩
  replace H : (if 0 ≤ a1 then (if a1 < (y140.length : Int) then (some (y140.set (a1 : Int).toNat (wrap64 ((rd y140 a1) + 1)))) else (none)) else (none)) = some r := by first | (rw [hy140]; with_reducible exact H) | (have H2_ := (Option.bind_some _ _).symm.trans H; rw [hy140]; with_reducible exact H2_) | (have H2_ := (Option.bind_some _ _).symm.trans H; with_reducible exact H2_) | with_reducible exact H | (rw [hy140]; exact H) | exact H
  have Ny140 := Aside0.mk hy140
  clear hy140
  by_cases c4 : 0 ≤ a1
  ·rw [if_pos c4] at H
   have c4b0 : decide (0 ≤ a1) = true := decide_eq_true c4
   clear c4
   by_cases c5 : a1 < (y140.length : Int)
   ·rw [if_pos c5] at H
    have c5b0 : decide (a1 < (y140.length : Int)) = true := decide_eq_true c5
    clear c5
    obtain ⟨y144, hy144⟩ : ∃ y_ : List Int, y_ = (y140.set (a1 : Int).toNat (wrap64 ((rd y140 a1) + 1))) := ⟨_, rfl⟩
    replace H : (some y144) = some r := by first | (rw [hy144]; with_reducible exact H) | (have H2_ := (Option.bind_some _ _).symm.trans H; rw [hy144]; with_reducible exact H2_) | (have H2_ := (Option.bind_some _ _).symm.trans H; with_reducible exact H2_) | with_reducible exact H | (rw [hy144]; exact H) | exact H
    have Ny144 := Aside0.mk hy144
    clear hy144
    obtain rfl := Option.some.inj H
    go_enter Try.func43, Try.ntmps43
    go_wp2_with (first | ((with_reducible refine gate_dst (N := 6) rfl ?_); refine Kd.R_lit (Kd.int .i64) _ 3 ?hg (N := 6) ?hd (xs := ([] : List Int)) (inner := []) (ok := fun _ => True) (okp := fun _ => True) ?hr ?hp (fun _ hk => hk) trivial (Below.refl _ _) (Nat.le_refl _) (by simp) ?_; (case hd => rfl); (case hg => rfl); (case hr => first | (go_simp; done) | (go_simp; rfl)); (case hp => exact (Reps.none _ _)); intro v138 w7 ho8 hb hg_ hnew_; clear hg_ hnew_; (first | rw [← Ny137.out] at ho8 | (simp only [Int.reduceToNat] at ho8; rw [← Ny137.out] at ho8)); have n0_ := Aside0.mk (Kd.R_lower ho8 (below_size (by repeat (first | (with_reducible first | exact HB.out | apply below_alloc | apply pw_below_drewN | apply below_drew1) | exact HB.out)))); have n1_ := Aside0.mk (below_step (by repeat (first | (with_reducible first | exact HB.out | apply below_alloc | apply pw_below_drewN | apply below_drew1) | exact HB.out)) hb); clear HB; have HO139 := n0_; have HB := n1_; clear n0_ n1_; clear hb ho8) | ((with_reducible refine gate_builtin (b := .append) (xs := #[.tmp 6, .tmp 7]) rfl ?_); at_builtin; refine Kd.R_append_rows (Kd.int .i64) (w0 := w) w.heap.size rfl (.tmp 6) (.tmp 7) 28 3 (.int .i64 0) 8 rfl Try.underlying28 info3 rfl (by decide) (by omega) v138 y137 l0 _ _ _ (fun _ => True) (fun _ => False) rfl rfl ?aO ?aR (fun _ _ h => h) (fun _ h => h.elim) ?aF ?aB ?aS ?aL ?_; (case aR => repeat (first | exact (Kd.C_below HR0.out HB.out) | (with_reducible refine Kd.C_alloc ?_ _) | (with_reducible refine Kd.C_drewN ?_ _) | (with_reducible refine Kd.C_drew ?_))); (case aB => exact (by repeat (first | (with_reducible first | exact HB.out | apply below_alloc | apply pw_below_drewN | apply below_drew1) | exact HB.out))); (case aF => exact (fun _ _ => trivial)); (case aO => exact (by (with_reducible repeat (first | apply Kd.R_alloc | apply Kd.R_drewN | apply Kd.R_drew)); exact HO139.out)); (case aS => exact (below_size (by repeat (first | (with_reducible first | exact HB.out | apply below_alloc | apply pw_below_drewN | apply below_drew1) | exact HB.out)))); (case aL => have := LMc3.out; omega); intro v141 w9 ho hb hg hat; rw [← Ny140.out] at ho; have n0_ := Aside0.mk (hb); have n1_ := Aside0.mk (ho); clear HB; clear HO139; have HB := n0_; have HO142 := n1_; clear n0_ n1_; clear ho hb hg hat; obtain ⟨Ao10, co10, eo10⟩ := Kd.R_slice HO142.out; subst eo10; have p143 : 0 ≤ (a1 : Int) := of_decide_eq_true (by first | (with_reducible assumption) | assumption); have q143 : a1 < (y140.length : Int) := of_decide_eq_true (by first | (with_reducible assumption) | assumption); obtain ⟨ad143, e143, hx143_0⟩ := Kd.at_int (Kd.R_reads' HO142.out).2.2 a1 p143 q143; cases e143; replace p143 := eq_true p143; replace q143 := eq_true q143; have p6 : 0 ≤ (a1 : Int) := of_decide_eq_true (by first | (with_reducible assumption) | assumption); have q6 : (a1 : Int) < ((y140.length : Int) : Int) := of_decide_eq_true (by first | (with_reducible assumption) | assumption); obtain ⟨go6, co6, eo6, gb6, gl6, cl6, HG6⟩ := Kd.R_form HO142.out (by omega); (first | cases eo6 | (injection eo6 with ea_ en_ ec_; (first | subst ea_ | (injection ea_ with ea_; subst ea_)); subst ec_; clear en_)); have GB6 := Aside0.mk gb6; have GG6 := Aside0.mk HG6; clear gb6 gl6 HG6; (first | simp only [add_plain] at hx143_0 | skip); obtain ⟨hx6_0, hf6_0⟩ := Kd.R_celln 0 HO142.out (a1 : Int) p6 q6; replace p6 := eq_true p6; replace q6 := eq_true q6; obtain ⟨hy11_, hz11_⟩ := Kd.R_celln 0 HO142.out (a1 : Int) (of_decide_eq_true (by first | (with_reducible assumption) | assumption)) (of_decide_eq_true (by first | (with_reducible assumption) | assumption)); have HP11 := Kd.R_putg HO142.out (a1 : Int) (wrap64 ((rd y140 a1) + 1))) | ((with_reducible refine gate_store (t := 3) (p := 16) rfl ?_); refine store_event (t := 3) (p := 16) (v := ?vo_w12) (w1 := (w9.setCell ⟨go6, (a1 : Int).toNat, none⟩ (.int .i64 (wrap64 ((rd y140 a1) + 1))))) ?hg ?ho ?hn ?hr ?_; (case ho => rfl); (case hg => rfl); (case hn => rfl); (case hr => first | (go_simp; done) | (go_simp; rfl)); intro w12 hw; have hg : w9.grownBy w12 (some go6) := (by rw [hw]; exact HP11.2); have hp_ : Kd.R (Kd.int .i64) 3 w12 w.heap.size (fun _ => True) (.slice (some ⟨go6, 0, none⟩) y140.length co10) y144 := (by rw [hw, Ny144.out]; exact HP11.1); clear HP11; have n0_ := Aside0.mk (hp_); have n1_ := Aside0.mk ((by rw [hw]; exact below_set (HB.out) GB6.out : Below w.heap.size w w12)); clear HO142; clear HB; have HO142 := n0_; have HB := n1_; clear n0_ n1_; clear hg hw hp_))
    go_ret
    exact ⟨_, by first | rfl | (simp [errW_none, errW_some] <;> rfl) | (simp [*, errW_none, errW_some] <;> rfl), by (with_reducible repeat (first | apply Kd.R_alloc | apply Kd.R_drewN | apply Kd.R_drew)); exact HO142.out, by repeat (first | (with_reducible first | exact HB.out | apply below_alloc | apply pw_below_drewN | apply below_drew1) | exact HB.out)⟩
   ·rw [if_neg c5] at H
    exact absurd H (by simp)
  ·rw [if_neg c4] at H
   exact absurd H (by simp)
 ·rw [if_neg c3] at H
  exact absurd H (by simp)

/-! ### corrieref07_Make: function 36 (by hand) -/
theorem bkinfo62 : (Try.prog.info? 62).map (fun i => (i.zero, i.size, i.bytes)) = some (some (.agg #[.int .i64 0, .int .i64 0]), 2, 16) := by kernel_rfl
theorem in_eq (k : Nat) (t b i f c n top : Int) : corrieref05_in.f (k + 1) t b i f c n top = some (decide (Ok t b i f c ∧ 0 ≤ n ∧ n < top)) := by
 unfold corrieref05_in.f
 rw [rmay_eq]
 simp only [Option.bind_some]
 by_cases h : Ok t b i f c
 ·simp only [if_pos h, if_true]
  by_cases g : n ≥ 0
  ·rw [if_pos g]; congr 1; rw [Bool.eq_iff_iff]; simp [h]; omega
  ·rw [if_neg g]; congr 1; symm; rw [decide_eq_false_iff_not]; intro hh; omega
 ·simp only [if_neg h]
  rw [if_neg (by decide)]; congr 1; symm; rw [decide_eq_false_iff_not]; intro hh; exact h hh.1
theorem rnode_eq (k : Nat) (t b i f c s n : Int) : corrieref05_Node.f (k + 1) t b i f c s n = some (if Ok t b i f c ∧ (0 ≤ s ∧ s < t) ∧ 0 ≤ n ∧ n < 2 * c then 1 + b + 2 * (s * c) + n else -1) := by
 unfold corrieref05_Node.f
 simp only [Option.bind_some, in_eq]
 by_cases h : Ok t b i f c
 ·have hb := bnds h
  simp only [h, true_and, decide_eq_true_eq]
  rw [wrap64_eq (n := 2 * c) (by omega) (by omega)]
  by_cases g : 0 ≤ s ∧ s < t
  ·rw [if_pos g]
   by_cases g2 : 0 ≤ n ∧ n < 2 * c
   ·have hs := sc_le (s := s) (t := t) (c := c) (by omega) (by omega) (by omega) (by omega) (by omega)
    have e : 2 * s * c = 2 * (s * c) := Int.mul_assoc 2 s c
    rw [if_pos g2, if_pos ⟨g, g2⟩, wrap64_eq (n := 1 + b) (by omega) (by omega), wrap64_eq (n := 2 * s) (by omega) (by omega), e, wrap64_eq (n := 2 * (s * c)) (by omega) (by omega), wrap64_eq (n := 1 + b + 2 * (s * c)) (by omega) (by omega), wrap64_eq (by omega) (by omega)]
   ·rw [if_neg g2, if_neg (fun hh => g2 hh.2)]
  ·rw [if_neg g, if_neg (fun hh => g hh.1)]
 ·simp only [h, false_and, if_false, decide_false, Bool.false_eq_true]
theorem cast1 (i : Nat) (h : i < 4000000) : wrap64 ((i : Int) + 1) = ((i + 1 : Nat) : Int) := by
 rw [wrap64_eq (by omega) (by omega)]
 omega
theorem rdO (l : List S60) (i : Nat) (h : i < l.length) : rd_T60 l (i : Int) = l[i] := by
 unfold rd_T60
 simp [List.getD, h]
theorem rdN (l : List S62) (i : Nat) (h : i < l.length) : rd_T62 l (i : Int) = l[i] := by
 unfold rd_T62
 simp [List.getD, h]
theorem find_ev (c : S23) (l5 l6 l7 : List Int) (l : List S60) (l9 : List S62) (n : Int) (hl : l.length ≤ 1000000) : ∀ (d i k : Nat), l.length - i = d → i ≤ l.length → d < k →
  ∃ j : Int, corrieref07_find.l0 k n (i : Int) c.f0 c.f1 c.f2 c.f3 c.f4 l5 l6 l7 l l9 = some j ∧ ((j = -1 ∧ fOp (l.drop i) n = none) ∨ ∃ (q : Nat) (hq : q < l.length), j = (q : Int) ∧ fOp (l.drop i) n = some (l[q]).f1) := by
 intro d
 induction d with
 | zero =>
  intro i k hd hi hk
  obtain ⟨k, rfl⟩ : ∃ q, k = q + 1 := ⟨k - 1, by omega⟩
  simp only [corrieref07_find.l0]
  rw [if_neg (by omega), List.drop_eq_nil_of_le (by omega)]
  exact ⟨-1, rfl, .inl ⟨rfl, rfl⟩⟩
 | succ d ih =>
  intro i k hd hi hk
  obtain ⟨k, rfl⟩ : ∃ q, k = q + 1 := ⟨k - 1, by omega⟩
  simp only [corrieref07_find.l0]
  rw [if_pos (by omega), if_pos (by omega), rdO l i (by omega), cast1 i (by omega), List.drop_eq_getElem_cons (show i < l.length by omega)]
  by_cases e : (l[i]'(by omega)).f0 = n
  ·rw [if_pos e]
   refine ⟨(i : Int), rfl, .inr ⟨i, by omega, rfl, ?_⟩⟩
   unfold fOp
   rw [List.find?_cons, show ((l[i]'(by omega)).f0 == n) = true from beq_iff_eq.2 e]
   rfl
  ·rw [if_neg e]
   obtain ⟨j, h1, h2⟩ := ih (i + 1) k (by omega) (by omega) (by omega)
   refine ⟨j, h1, ?_⟩
   have hf : fOp ((l[i]'(by omega)) :: l.drop (i + 1)) n = fOp (l.drop (i + 1)) n := by
    unfold fOp
    rw [List.find?_cons, show ((l[i]'(by omega)).f0 == n) = false from beq_eq_false_iff_ne.2 e]
   rw [hf]
   exact h2
theorem find_f (c : S23) (l5 l6 l7 : List Int) (l : List S60) (l9 : List S62) (n : Int) (hl : l.length ≤ 1000000) :
  ∃ j : Int, corrieref07_find.f (l.length + 1) c.f0 c.f1 c.f2 c.f3 c.f4 l5 l6 l7 l l9 n = some j ∧ ((j = -1 ∧ fOp l n = none) ∨ ∃ (q : Nat) (hq : q < l.length), j = (q : Int) ∧ fOp l n = some (l[q]).f1) :=
 find_ev c l5 l6 l7 l l9 n hl l.length 0 (l.length + 1) (by omega) (by omega) (by omega)
theorem is_f (b : RB) (n : Int) : corrieref07_is.f b.c.f0 b.c.f1 b.c.f2 b.c.f3 b.c.f4 b.calls b.ins b.made b.ops b.nodes n = some (decide (0 ≤ n ∧ n < (b.calls.length : Int))) := by
 unfold corrieref07_is.f
 by_cases c : n ≥ 0
 ·rw [if_pos c]
  congr 1
  rw [Bool.eq_iff_iff]
  simp
  omega
 ·rw [if_neg c]
  congr 1
  symm
  rw [decide_eq_false_iff_not]
  omega
theorem r_is (b : RB) (r : RA) (n : Int) (W : World) (h : RAt W b r) :
  Calls Try.prog 30 #[.agg #[.int .i64 b.c.f0, .int .i64 b.c.f1, .int .i64 b.c.f2, .int .i64 b.c.f3, .int .i64 b.c.f4, .slice r.a5 b.calls.length r.c5, .slice r.a6 b.ins.length r.c6, .slice r.a7 b.made.length r.c7, .slice r.a8 b.ops.length r.c8, .slice r.a9 b.nodes.length r.c9], .int .i64 n] W fun e w' => e = .returned (.bool (decide (0 ≤ n ∧ n < (b.calls.length : Int)))) ∧ Below W.heap.size W w' :=
 corrieref07_is.calls b.c.f0 b.c.f1 b.c.f2 b.c.f3 b.c.f4 r.a5 r.c5 b.calls r.a6 r.c6 b.ins r.a7 r.c7 b.made r.a8 r.c8 b.ops r.a9 r.c9 b.nodes n (decide (0 ≤ n ∧ n < (b.calls.length : Int))) W h.h5 h.l5 h.h6 h.l6 h.h7 h.l7 h.h8 h.l8 h.h9 h.l9 (is_f b n)
theorem r_find (b : RB) (r : RA) (n : Int) (hl : b.ops.length ≤ 1000000) (W : World) (h : RAt W b r) :
  ∃ j : Int, (Calls Try.prog 29 #[.agg #[.int .i64 b.c.f0, .int .i64 b.c.f1, .int .i64 b.c.f2, .int .i64 b.c.f3, .int .i64 b.c.f4, .slice r.a5 b.calls.length r.c5, .slice r.a6 b.ins.length r.c6, .slice r.a7 b.made.length r.c7, .slice r.a8 b.ops.length r.c8, .slice r.a9 b.nodes.length r.c9], .int .i64 n] W fun e w' => e = .returned (.int .i64 j) ∧ Below W.heap.size W w') ∧ (j < 0 ↔ fOp b.ops n = none) := by
 obtain ⟨j, h1, h2⟩ := find_f b.c b.calls b.ins b.made b.ops b.nodes n hl
 refine ⟨j, corrieref07_find.calls (b.ops.length + 1) b.c.f0 b.c.f1 b.c.f2 b.c.f3 b.c.f4 r.a5 r.c5 b.calls r.a6 r.c6 b.ins r.a7 r.c7 b.made r.a8 r.c8 b.ops r.a9 r.c9 b.nodes n j W h.h5 h.l5 h.h6 h.l6 h.h7 h.l7 h.h8 h.l8 h.h9 h.l9 h1, ?_⟩
 rcases h2 with ⟨rfl, h3⟩ | ⟨q, hq, rfl, h3⟩
 ·rw [h3]; simp
 ·rw [h3]; simp
theorem r_more (A : Option Addr) (c : Nat) (l : List Int) (i : Nat) (hi : i < l.length) (hl : l.length ≤ 1000) (v : Int) (hvH : l.getD i 0 = v) (hb : 0 ≤ v ∧ v ≤ 100000) (W : World) (h : Kd.C (Kd.int .i64) W A l.length l) (hc : l.length ≤ c) :
  Calls Try.prog 43 #[.slice A l.length c, .int .i64 (i : Int)] W fun e w' => ∃ A1 c1, e = .returned (.slice A1 l.length c1) ∧ Kd.R (Kd.int .i64) 3 w' W.heap.size (fun _ => True) (.slice A1 l.length c1) (l.set i (v + 1)) ∧ Below W.heap.size W w' := by
 refine (corrieref07_more.calls A c l (i : Int) (l.set i (v + 1)) W h hc ?_).mono (fun e w' hh => ?_)
 ·unfold corrieref07_more.f
  simp only [Option.bind_some, List.nil_append, List.length_nil]
  rw [if_pos (by omega), if_pos (by omega), if_pos (by omega), Int.toNat_natCast]
  have e1 : rd l (i : Int) = v := by rw [← hvH]; rfl
  rw [e1, wrap64_eq (by omega) (by omega)]
 ·obtain ⟨v0, rfl, hR, hbl⟩ := hh
  obtain ⟨A1, c1, rfl⟩ := Kd.R_slice hR
  rw [List.length_set] at hR ⊢
  exact ⟨A1, c1, rfl, hR, hbl⟩
theorem grown_none {w w1 : World} (h : w.grownBy w1 none) : Below w.heap.size w w1 := ⟨h.os, h.tape, h.output, h.size, fun k hk => h.block k hk (by simp)⟩
theorem far10 {W : World} {g k : Nat} {o : Obj} {v0 v1 v2 v3 v4 v5 v6 v7 v8 v9 : Value} (h : W.heap[k]? = some o) (hne : k ≠ g) : ((((((((((W.setCell ⟨g, 0, none⟩ v0).setCell ⟨g, 1, none⟩ v1).setCell ⟨g, 2, none⟩ v2).setCell ⟨g, 3, none⟩ v3).setCell ⟨g, 4, none⟩ v4).setCell ⟨g, 5, none⟩ v5).setCell ⟨g, 6, none⟩ v6).setCell ⟨g, 7, none⟩ v7).setCell ⟨g, 8, none⟩ v8).setCell ⟨g, 9, none⟩ v9).heap[k]? = some o := (cel_far (cel_far (cel_far (cel_far (cel_far (cel_far (cel_far (cel_far (cel_far (cel_far h hne v0) hne v1) hne v2) hne v3) hne v4) hne v5) hne v6) hne v7) hne v8) hne v9)
theorem R_C {α : Type} {d : Kd α} {e base n c : Nat} {A : Option Addr} {ok : Nat → Prop} {W : World} {xs : List α} (h : d.R e W base ok (.slice A n c) xs) (hn : n = xs.length) : d.C W A xs.length xs ∧ xs.length ≤ c := by
 subst hn
 obtain ⟨A', c', he, hl, hC⟩ := Kd.R_reads h
 injection he with h1 _ h2
 subst h1 h2
 exact ⟨hC, hl⟩
theorem int_at {W : World} {A : Option Addr} {l : List Int} (h : Kd.C (Kd.int .i64) W A l.length l) (i : Nat) (hi : i < l.length) {v : Int} (hvH : l.getD i 0 = v) : ∃ ad, A = some ad ∧ W.cell? (ad.add i) = some (.int .i64 v) := by
 obtain ⟨ad, e, h2⟩ := Kd.at_int h (i : Int) (by omega) (by omega)
 refine ⟨ad, e, ?_⟩
 have e2 : rd l (i : Int) = v := by rw [← hvH]; rfl
 rw [e2] at h2
 simpa using h2
theorem k62_any {W W1 : World} {x : S62} {cs : List Value} (h : k62.K W x cs) : k62.K W1 x cs := by obtain rfl := k62_open h; exact k62_mk _ x
theorem k60_any {W W1 : World} {x : S60} {cs : List Value} (h : k60.K W x cs) : k60.K W1 x cs := by obtain rfl := k60_open h; exact k60_mk _ x
theorem k62_KM (W : World) (base : Nat) (x : S62) (cs : List Value) (h : k62.K W x cs) : k62.M W base (fun _ => False) x cs := by obtain rfl := k62_open h; exact k62_mkM _ _ _ x
theorem k60_KM (W : World) (base : Nat) (x : S60) (cs : List Value) (h : k60.K W x cs) : k60.M W base (fun _ => False) x cs := by obtain rfl := k60_open h; exact k60_mkM _ _ _ x
set_option maxHeartbeats 8000000 in
set_option maxRecDepth 100000 in
theorem r_Make_none_is (b : RB) (a5 a6 a7 a8 a9 : Option Addr) (c5 c6 c7 c8 c9 : Nat) (k : Int) (i : Int) (hi : i < 0 ∨ (b.calls.length : Int) ≤ i) (hol : b.ops.length ≤ 1000000) (w : World) (h : RAt w b ⟨a5, a6, a7, a8, a9, c5, c6, c7, c8, c9⟩) :
  Calls Try.prog 36 #[.agg #[.int .i64 b.c.f0, .int .i64 b.c.f1, .int .i64 b.c.f2, .int .i64 b.c.f3, .int .i64 b.c.f4, .slice a5 b.calls.length c5, .slice a6 b.ins.length c6, .slice a7 b.made.length c7, .slice a8 b.ops.length c8, .slice a9 b.nodes.length c9], .int .i64 i, .int .i64 k] w fun e w' => ∃ r' : RA, e = .returned (.tuple #[.agg #[.int .i64 b.c.f0, .int .i64 b.c.f1, .int .i64 b.c.f2, .int .i64 b.c.f3, .int .i64 b.c.f4, .slice r'.a5 (b).calls.length r'.c5, .slice r'.a6 (b).ins.length r'.c6, .slice r'.a7 (b).made.length r'.c7, .slice r'.a8 (b).ops.length r'.c8, .slice r'.a9 (b).nodes.length r'.c9], .int .i64 0, .int .i64 1]) ∧ RAt w' (b) r' ∧ Below w.heap.size w w' := by
 have HR := Aside0.mk h
 have HR0 := Aside0.mk h
 have HB := Aside0.mk (Below.refl w.heap.size w)
 have hisb : (decide (0 ≤ i ∧ i < (b.calls.length : Int))) = false := decide_eq_false (by omega)
 clear hi
 have HIS := Aside0.mk (fun (W : World) (h : RAt W b ⟨a5, a6, a7, a8, a9, c5, c6, c7, c8, c9⟩) => r_is b ⟨a5, a6, a7, a8, a9, c5, c6, c7, c8, c9⟩ i W h)
 rw [hisb] at HIS
 clear hisb
 have HOL := Aside0.mk hol
 clear h hol
 go_enter Try.func36, Try.ntmps36
 go_wp2_with (first | ((with_reducible refine gate_dst (N := 3) rfl ?_); refine box_event ?hg (N := 3) ?hd (cs := #[.int .i64 b.c.f0, .int .i64 b.c.f1, .int .i64 b.c.f2, .int .i64 b.c.f3, .int .i64 b.c.f4, .slice a5 b.calls.length c5, .slice a6 b.ins.length c6, .slice a7 b.made.length c7, .slice a8 b.ops.length c8, .slice a9 b.nodes.length c9]) (t := 32) ?hr ?_; (case hd => rfl); (case hg => rfl); (case hr => first | (go_simp; done) | (go_simp; rfl)); intro g3 hg w3 hbox hbk; have B3 := Aside0.mk hbox; have HGB3 := Aside0.mk (show w.heap.size ≤ g3 from by rw [hg]; exact HB.out.size); have n_HR := Aside0.mk (HR.out.below hbk); have n_HB := Aside0.mk (below_step HB.out hbk); clear HR HB; have HR := n_HR; have HB := n_HB; clear n_HR n_HB; clear hbk hbox hg) | ((with_reducible refine gate_dst (N := 6) rfl ?_); refine box_event ?hg (N := 6) ?hd (cs := #[.int .i64 0, .int .i64 0, .int .i64 0, .int .i64 0, .int .i64 0, .slice none 0 0, .slice none 0 0, .slice none 0 0, .slice none 0 0, .slice none 0 0]) (t := 32) ?hr ?_; (case hd => rfl); (case hg => rfl); (case hr => first | (go_simp; done) | (go_simp; rfl)); intro g6 hg w6 hbox hbk; have B6 := Aside0.mk hbox; have HNE := Aside0.mk (show g3 ≠ g6 from by rw [hg]; exact Nat.ne_of_lt (blk_lt B3.out)); have HGB6 := Aside0.mk (show w.heap.size ≤ g6 from by rw [hg]; exact HB.out.size); have n_B3 := Aside0.mk (blk_below B3.out hbk); have n_HR := Aside0.mk (HR.out.below hbk); have n_HB := Aside0.mk (below_step HB.out hbk); clear B3 HR HB; have B3 := n_B3; have HR := n_HR; have HB := n_HB; clear n_B3 n_HR n_HB; obtain ⟨c3_0, c3_1, c3_2, c3_3, c3_4, c3_5, c3_6, c3_7, c3_8, c3_9⟩ := blkc10 B3.out; obtain ⟨c6_0, c6_1, c6_2, c6_3, c6_4, c6_5, c6_6, c6_7, c6_8, c6_9⟩ := blkc10 B6.out; obtain ⟨f6_0, f6_1, f6_2, f6_3, f6_4, f6_5, f6_6, f6_7, f6_8, f6_9⟩ := blkf10 B6.out; obtain ⟨f3_0, f3_1, f3_2, f3_3, f3_4, f3_5, f3_6, f3_7, f3_8, f3_9⟩ := blkf10 B3.out; clear hbk hbox hg) | (go_at_call 30; (with_reducible refine (HIS.out _ HR.out).mono ?_); rintro e w7 ⟨rfl, hbk⟩; have n_B3 := Aside0.mk (blk_below B3.out hbk); have n_B6 := Aside0.mk (blk_below B6.out hbk); have n_HR := Aside0.mk (HR.out.below hbk); have n_HB := Aside0.mk (below_step HB.out hbk); clear B3 B6 HR HB; have B3 := n_B3; have B6 := n_B6; have HR := n_HR; have HB := n_HB; clear n_B3 n_B6 n_HR n_HB; clear c3_0 c3_1 c3_2 c3_3 c3_4 c3_5 c3_6 c3_7 c3_8 c3_9; clear c6_0 c6_1 c6_2 c6_3 c6_4 c6_5 c6_6 c6_7 c6_8 c6_9; clear f6_0 f6_1 f6_2 f6_3 f6_4 f6_5 f6_6 f6_7 f6_8 f6_9; clear f3_0 f3_1 f3_2 f3_3 f3_4 f3_5 f3_6 f3_7 f3_8 f3_9; obtain ⟨c3_0, c3_1, c3_2, c3_3, c3_4, c3_5, c3_6, c3_7, c3_8, c3_9⟩ := blkc10 B3.out; obtain ⟨c6_0, c6_1, c6_2, c6_3, c6_4, c6_5, c6_6, c6_7, c6_8, c6_9⟩ := blkc10 B6.out; obtain ⟨f6_0, f6_1, f6_2, f6_3, f6_4, f6_5, f6_6, f6_7, f6_8, f6_9⟩ := blkf10 B6.out; obtain ⟨f3_0, f3_1, f3_2, f3_3, f3_4, f3_5, f3_6, f3_7, f3_8, f3_9⟩ := blkf10 B3.out; clear hbk))
 refine bodyPost_ret (results_ctt rfl _ _ g6 32 #[.int .i64 b.c.f0, .int .i64 b.c.f1, .int .i64 b.c.f2, .int .i64 b.c.f3, .int .i64 b.c.f4, .slice a5 b.calls.length c5, .slice a6 b.ins.length c6, .slice a7 b.made.length c7, .slice a8 b.ops.length c8, .slice a9 b.nodes.length c9] (0, 0) _ rfl (put10 B6.out) Try.underlying32 rfl (by kernel_rfl)) rfl ?_
 exact ⟨⟨a5, a6, a7, a8, a9, c5, c6, c7, c8, c9⟩, rfl, HR0.out.below (bel10 HB.out HGB6.out), bel10 HB.out HGB6.out⟩
set_option maxHeartbeats 8000000 in
set_option maxRecDepth 100000 in
theorem r_Make_none (b : RB) (a5 a6 a7 a8 a9 : Option Addr) (c5 c6 c7 c8 c9 : Nat) (k : Int) (i : Nat) (hi : i < b.calls.length) (hr : fOp b.ops k = none) (hol : b.ops.length ≤ 1000000) (w : World) (h : RAt w b ⟨a5, a6, a7, a8, a9, c5, c6, c7, c8, c9⟩) :
  Calls Try.prog 36 #[.agg #[.int .i64 b.c.f0, .int .i64 b.c.f1, .int .i64 b.c.f2, .int .i64 b.c.f3, .int .i64 b.c.f4, .slice a5 b.calls.length c5, .slice a6 b.ins.length c6, .slice a7 b.made.length c7, .slice a8 b.ops.length c8, .slice a9 b.nodes.length c9], .int .i64 (i : Int), .int .i64 k] w fun e w' => ∃ r' : RA, e = .returned (.tuple #[.agg #[.int .i64 b.c.f0, .int .i64 b.c.f1, .int .i64 b.c.f2, .int .i64 b.c.f3, .int .i64 b.c.f4, .slice r'.a5 (b).calls.length r'.c5, .slice r'.a6 (b).ins.length r'.c6, .slice r'.a7 (b).made.length r'.c7, .slice r'.a8 (b).ops.length r'.c8, .slice r'.a9 (b).nodes.length r'.c9], .int .i64 0, .int .i64 1]) ∧ RAt w' (b) r' ∧ Below w.heap.size w w' := by
 have HR := Aside0.mk h
 have HR0 := Aside0.mk h
 have HB := Aside0.mk (Below.refl w.heap.size w)
 have hisb : (decide (0 ≤ (i : Int) ∧ (i : Int) < (b.calls.length : Int))) = true := decide_eq_true (by omega)
 have HI := Aside0.mk hi
 have HIS := Aside0.mk (fun (W : World) (h : RAt W b ⟨a5, a6, a7, a8, a9, c5, c6, c7, c8, c9⟩) => r_is b ⟨a5, a6, a7, a8, a9, c5, c6, c7, c8, c9⟩ i W h)
 rw [hisb] at HIS
 clear hisb
 have HFI := Aside0.mk (fun (W : World) (h : RAt W b ⟨a5, a6, a7, a8, a9, c5, c6, c7, c8, c9⟩) => show ∃ j : Int, (Calls Try.prog 29 #[.agg #[.int .i64 b.c.f0, .int .i64 b.c.f1, .int .i64 b.c.f2, .int .i64 b.c.f3, .int .i64 b.c.f4, .slice a5 b.calls.length c5, .slice a6 b.ins.length c6, .slice a7 b.made.length c7, .slice a8 b.ops.length c8, .slice a9 b.nodes.length c9], .int .i64 k] W fun e w' => e = .returned (.int .i64 j) ∧ Below W.heap.size W w') ∧ (j < 0 ↔ fOp b.ops k = none) from r_find b ⟨a5, a6, a7, a8, a9, c5, c6, c7, c8, c9⟩ k hol W h)
 clear hi
 have HOL := Aside0.mk hol
 clear h hol
 have HFO := Aside0.mk hr
 clear hr
 go_enter Try.func36, Try.ntmps36
 go_wp2_with (first | ((with_reducible refine gate_dst (N := 3) rfl ?_); refine box_event ?hg (N := 3) ?hd (cs := #[.int .i64 b.c.f0, .int .i64 b.c.f1, .int .i64 b.c.f2, .int .i64 b.c.f3, .int .i64 b.c.f4, .slice a5 b.calls.length c5, .slice a6 b.ins.length c6, .slice a7 b.made.length c7, .slice a8 b.ops.length c8, .slice a9 b.nodes.length c9]) (t := 32) ?hr ?_; (case hd => rfl); (case hg => rfl); (case hr => first | (go_simp; done) | (go_simp; rfl)); intro g3 hg w3 hbox hbk; have B3 := Aside0.mk hbox; have HGB3 := Aside0.mk (show w.heap.size ≤ g3 from by rw [hg]; exact HB.out.size); have n_HR := Aside0.mk (HR.out.below hbk); have n_HB := Aside0.mk (below_step HB.out hbk); clear HR HB; have HR := n_HR; have HB := n_HB; clear n_HR n_HB; clear hbk hbox hg) | ((with_reducible refine gate_dst (N := 6) rfl ?_); refine box_event ?hg (N := 6) ?hd (cs := #[.int .i64 0, .int .i64 0, .int .i64 0, .int .i64 0, .int .i64 0, .slice none 0 0, .slice none 0 0, .slice none 0 0, .slice none 0 0, .slice none 0 0]) (t := 32) ?hr ?_; (case hd => rfl); (case hg => rfl); (case hr => first | (go_simp; done) | (go_simp; rfl)); intro g6 hg w6 hbox hbk; have B6 := Aside0.mk hbox; have HNE := Aside0.mk (show g3 ≠ g6 from by rw [hg]; exact Nat.ne_of_lt (blk_lt B3.out)); have HGB6 := Aside0.mk (show w.heap.size ≤ g6 from by rw [hg]; exact HB.out.size); have n_B3 := Aside0.mk (blk_below B3.out hbk); have n_HR := Aside0.mk (HR.out.below hbk); have n_HB := Aside0.mk (below_step HB.out hbk); clear B3 HR HB; have B3 := n_B3; have HR := n_HR; have HB := n_HB; clear n_B3 n_HR n_HB; obtain ⟨c3_0, c3_1, c3_2, c3_3, c3_4, c3_5, c3_6, c3_7, c3_8, c3_9⟩ := blkc10 B3.out; obtain ⟨c6_0, c6_1, c6_2, c6_3, c6_4, c6_5, c6_6, c6_7, c6_8, c6_9⟩ := blkc10 B6.out; obtain ⟨f6_0, f6_1, f6_2, f6_3, f6_4, f6_5, f6_6, f6_7, f6_8, f6_9⟩ := blkf10 B6.out; obtain ⟨f3_0, f3_1, f3_2, f3_3, f3_4, f3_5, f3_6, f3_7, f3_8, f3_9⟩ := blkf10 B3.out; clear hbk hbox hg) | (go_at_call 30; (with_reducible refine (HIS.out _ HR.out).mono ?_); rintro e w7 ⟨rfl, hbk⟩; have n_B3 := Aside0.mk (blk_below B3.out hbk); have n_B6 := Aside0.mk (blk_below B6.out hbk); have n_HR := Aside0.mk (HR.out.below hbk); have n_HB := Aside0.mk (below_step HB.out hbk); clear B3 B6 HR HB; have B3 := n_B3; have B6 := n_B6; have HR := n_HR; have HB := n_HB; clear n_B3 n_B6 n_HR n_HB; clear c3_0 c3_1 c3_2 c3_3 c3_4 c3_5 c3_6 c3_7 c3_8 c3_9; clear c6_0 c6_1 c6_2 c6_3 c6_4 c6_5 c6_6 c6_7 c6_8 c6_9; clear f6_0 f6_1 f6_2 f6_3 f6_4 f6_5 f6_6 f6_7 f6_8 f6_9; clear f3_0 f3_1 f3_2 f3_3 f3_4 f3_5 f3_6 f3_7 f3_8 f3_9; obtain ⟨c3_0, c3_1, c3_2, c3_3, c3_4, c3_5, c3_6, c3_7, c3_8, c3_9⟩ := blkc10 B3.out; obtain ⟨c6_0, c6_1, c6_2, c6_3, c6_4, c6_5, c6_6, c6_7, c6_8, c6_9⟩ := blkc10 B6.out; obtain ⟨f6_0, f6_1, f6_2, f6_3, f6_4, f6_5, f6_6, f6_7, f6_8, f6_9⟩ := blkf10 B6.out; obtain ⟨f3_0, f3_1, f3_2, f3_3, f3_4, f3_5, f3_6, f3_7, f3_8, f3_9⟩ := blkf10 B3.out; clear hbk) | (go_at_call 29; obtain ⟨j, hj1, hj2⟩ := HFI.out _ HR.out; have HJ := Aside0.mk hj2; clear hj2; (with_reducible refine hj1.mono ?_); clear hj1; rintro e w8 ⟨rfl, hbk⟩; have hjb : decide (j < 0) = true := decide_eq_true (HJ.out.2 HFO.out); have n_B3 := Aside0.mk (blk_below B3.out hbk); have n_B6 := Aside0.mk (blk_below B6.out hbk); have n_HR := Aside0.mk (HR.out.below hbk); have n_HB := Aside0.mk (below_step HB.out hbk); clear B3 B6 HR HB; have B3 := n_B3; have B6 := n_B6; have HR := n_HR; have HB := n_HB; clear n_B3 n_B6 n_HR n_HB; clear c3_0 c3_1 c3_2 c3_3 c3_4 c3_5 c3_6 c3_7 c3_8 c3_9; clear c6_0 c6_1 c6_2 c6_3 c6_4 c6_5 c6_6 c6_7 c6_8 c6_9; clear f6_0 f6_1 f6_2 f6_3 f6_4 f6_5 f6_6 f6_7 f6_8 f6_9; clear f3_0 f3_1 f3_2 f3_3 f3_4 f3_5 f3_6 f3_7 f3_8 f3_9; obtain ⟨c3_0, c3_1, c3_2, c3_3, c3_4, c3_5, c3_6, c3_7, c3_8, c3_9⟩ := blkc10 B3.out; obtain ⟨c6_0, c6_1, c6_2, c6_3, c6_4, c6_5, c6_6, c6_7, c6_8, c6_9⟩ := blkc10 B6.out; obtain ⟨f6_0, f6_1, f6_2, f6_3, f6_4, f6_5, f6_6, f6_7, f6_8, f6_9⟩ := blkf10 B6.out; obtain ⟨f3_0, f3_1, f3_2, f3_3, f3_4, f3_5, f3_6, f3_7, f3_8, f3_9⟩ := blkf10 B3.out; clear hbk))
 refine bodyPost_ret (results_ctt rfl _ _ g6 32 #[.int .i64 b.c.f0, .int .i64 b.c.f1, .int .i64 b.c.f2, .int .i64 b.c.f3, .int .i64 b.c.f4, .slice a5 b.calls.length c5, .slice a6 b.ins.length c6, .slice a7 b.made.length c7, .slice a8 b.ops.length c8, .slice a9 b.nodes.length c9] (0, 0) _ rfl (put10 B6.out) Try.underlying32 rfl (by kernel_rfl)) rfl ?_
 exact ⟨⟨a5, a6, a7, a8, a9, c5, c6, c7, c8, c9⟩, rfl, HR0.out.below (bel10 HB.out HGB6.out), bel10 HB.out HGB6.out⟩
set_option maxHeartbeats 8000000 in
set_option maxRecDepth 100000 in
theorem r_Make_full (b : RB) (a5 a6 a7 a8 a9 : Option Addr) (c5 c6 c7 c8 c9 : Nat) (k : Int) (i : Nat) (hi : i < b.calls.length) (hm : b.made.length = b.calls.length) (x : S38) (hr : fOp b.ops k = some x) (mm : Int) (hmm : b.made.getD i 0 = mm) (hC0 : 0 ≤ b.c.f4) (hC1 : b.c.f4 ≤ 1000) (hc : mm = 2 * b.c.f4) (hol : b.ops.length ≤ 1000000) (w : World) (h : RAt w b ⟨a5, a6, a7, a8, a9, c5, c6, c7, c8, c9⟩) :
  Calls Try.prog 36 #[.agg #[.int .i64 b.c.f0, .int .i64 b.c.f1, .int .i64 b.c.f2, .int .i64 b.c.f3, .int .i64 b.c.f4, .slice a5 b.calls.length c5, .slice a6 b.ins.length c6, .slice a7 b.made.length c7, .slice a8 b.ops.length c8, .slice a9 b.nodes.length c9], .int .i64 (i : Int), .int .i64 k] w fun e w' => ∃ r' : RA, e = .returned (.tuple #[.agg #[.int .i64 b.c.f0, .int .i64 b.c.f1, .int .i64 b.c.f2, .int .i64 b.c.f3, .int .i64 b.c.f4, .slice r'.a5 (b).calls.length r'.c5, .slice r'.a6 (b).ins.length r'.c6, .slice r'.a7 (b).made.length r'.c7, .slice r'.a8 (b).ops.length r'.c8, .slice r'.a9 (b).nodes.length r'.c9], .int .i64 0, .int .i64 3]) ∧ RAt w' (b) r' ∧ Below w.heap.size w w' := by
 have HR := Aside0.mk h
 have HR0 := Aside0.mk h
 have HB := Aside0.mk (Below.refl w.heap.size w)
 have hisb : (decide (0 ≤ (i : Int) ∧ (i : Int) < (b.calls.length : Int))) = true := decide_eq_true (by omega)
 have HI := Aside0.mk hi
 have HIS := Aside0.mk (fun (W : World) (h : RAt W b ⟨a5, a6, a7, a8, a9, c5, c6, c7, c8, c9⟩) => r_is b ⟨a5, a6, a7, a8, a9, c5, c6, c7, c8, c9⟩ i W h)
 rw [hisb] at HIS
 clear hisb
 have HFI := Aside0.mk (fun (W : World) (h : RAt W b ⟨a5, a6, a7, a8, a9, c5, c6, c7, c8, c9⟩) => show ∃ j : Int, (Calls Try.prog 29 #[.agg #[.int .i64 b.c.f0, .int .i64 b.c.f1, .int .i64 b.c.f2, .int .i64 b.c.f3, .int .i64 b.c.f4, .slice a5 b.calls.length c5, .slice a6 b.ins.length c6, .slice a7 b.made.length c7, .slice a8 b.ops.length c8, .slice a9 b.nodes.length c9], .int .i64 k] W fun e w' => e = .returned (.int .i64 j) ∧ Below W.heap.size W w') ∧ (j < 0 ↔ fOp b.ops k = none) from r_find b ⟨a5, a6, a7, a8, a9, c5, c6, c7, c8, c9⟩ k hol W h)
 clear hi
 have HMM := Aside0.mk hmm
 have HML := Aside0.mk hm
 clear hmm hm
 have hcb : (mm == 2 * b.c.f4) = true := beq_iff_eq.2 hc
 clear hc
 have HOL := Aside0.mk hol
 clear h hol
 have HFO := Aside0.mk hr
 clear hr
 go_enter Try.func36, Try.ntmps36
 go_upto_region 3 with (first | ((with_reducible refine gate_dst (N := 3) rfl ?_); refine box_event ?hg (N := 3) ?hd (cs := #[.int .i64 b.c.f0, .int .i64 b.c.f1, .int .i64 b.c.f2, .int .i64 b.c.f3, .int .i64 b.c.f4, .slice a5 b.calls.length c5, .slice a6 b.ins.length c6, .slice a7 b.made.length c7, .slice a8 b.ops.length c8, .slice a9 b.nodes.length c9]) (t := 32) ?hr ?_; (case hd => rfl); (case hg => rfl); (case hr => first | (go_simp; done) | (go_simp; rfl)); intro g3 hg w3 hbox hbk; have B3 := Aside0.mk hbox; have HGB3 := Aside0.mk (show w.heap.size ≤ g3 from by rw [hg]; exact HB.out.size); have n_HR := Aside0.mk (HR.out.below hbk); have n_HB := Aside0.mk (below_step HB.out hbk); clear HR HB; have HR := n_HR; have HB := n_HB; clear n_HR n_HB; clear hbk hbox hg) | ((with_reducible refine gate_dst (N := 6) rfl ?_); refine box_event ?hg (N := 6) ?hd (cs := #[.int .i64 0, .int .i64 0, .int .i64 0, .int .i64 0, .int .i64 0, .slice none 0 0, .slice none 0 0, .slice none 0 0, .slice none 0 0, .slice none 0 0]) (t := 32) ?hr ?_; (case hd => rfl); (case hg => rfl); (case hr => first | (go_simp; done) | (go_simp; rfl)); intro g6 hg w6 hbox hbk; have B6 := Aside0.mk hbox; have HNE := Aside0.mk (show g3 ≠ g6 from by rw [hg]; exact Nat.ne_of_lt (blk_lt B3.out)); have HGB6 := Aside0.mk (show w.heap.size ≤ g6 from by rw [hg]; exact HB.out.size); have n_B3 := Aside0.mk (blk_below B3.out hbk); have n_HR := Aside0.mk (HR.out.below hbk); have n_HB := Aside0.mk (below_step HB.out hbk); clear B3 HR HB; have B3 := n_B3; have HR := n_HR; have HB := n_HB; clear n_B3 n_HR n_HB; obtain ⟨c3_0, c3_1, c3_2, c3_3, c3_4, c3_5, c3_6, c3_7, c3_8, c3_9⟩ := blkc10 B3.out; obtain ⟨c6_0, c6_1, c6_2, c6_3, c6_4, c6_5, c6_6, c6_7, c6_8, c6_9⟩ := blkc10 B6.out; obtain ⟨f6_0, f6_1, f6_2, f6_3, f6_4, f6_5, f6_6, f6_7, f6_8, f6_9⟩ := blkf10 B6.out; obtain ⟨f3_0, f3_1, f3_2, f3_3, f3_4, f3_5, f3_6, f3_7, f3_8, f3_9⟩ := blkf10 B3.out; clear hbk hbox hg) | (go_at_call 30; (with_reducible refine (HIS.out _ HR.out).mono ?_); rintro e w7 ⟨rfl, hbk⟩; have n_B3 := Aside0.mk (blk_below B3.out hbk); have n_B6 := Aside0.mk (blk_below B6.out hbk); have n_HR := Aside0.mk (HR.out.below hbk); have n_HB := Aside0.mk (below_step HB.out hbk); clear B3 B6 HR HB; have B3 := n_B3; have B6 := n_B6; have HR := n_HR; have HB := n_HB; clear n_B3 n_B6 n_HR n_HB; clear c3_0 c3_1 c3_2 c3_3 c3_4 c3_5 c3_6 c3_7 c3_8 c3_9; clear c6_0 c6_1 c6_2 c6_3 c6_4 c6_5 c6_6 c6_7 c6_8 c6_9; clear f6_0 f6_1 f6_2 f6_3 f6_4 f6_5 f6_6 f6_7 f6_8 f6_9; clear f3_0 f3_1 f3_2 f3_3 f3_4 f3_5 f3_6 f3_7 f3_8 f3_9; obtain ⟨c3_0, c3_1, c3_2, c3_3, c3_4, c3_5, c3_6, c3_7, c3_8, c3_9⟩ := blkc10 B3.out; obtain ⟨c6_0, c6_1, c6_2, c6_3, c6_4, c6_5, c6_6, c6_7, c6_8, c6_9⟩ := blkc10 B6.out; obtain ⟨f6_0, f6_1, f6_2, f6_3, f6_4, f6_5, f6_6, f6_7, f6_8, f6_9⟩ := blkf10 B6.out; obtain ⟨f3_0, f3_1, f3_2, f3_3, f3_4, f3_5, f3_6, f3_7, f3_8, f3_9⟩ := blkf10 B3.out; clear hbk) | (go_at_call 29; obtain ⟨j, hj1, hj2⟩ := HFI.out _ HR.out; have HJ := Aside0.mk hj2; clear hj2; (with_reducible refine hj1.mono ?_); clear hj1; rintro e w8 ⟨rfl, hbk⟩; have hjb : decide (j < 0) = false := decide_eq_false (fun h => by have := HJ.out.1 h; rw [HFO.out] at this; cases this); have n_B3 := Aside0.mk (blk_below B3.out hbk); have n_B6 := Aside0.mk (blk_below B6.out hbk); have n_HR := Aside0.mk (HR.out.below hbk); have n_HB := Aside0.mk (below_step HB.out hbk); clear B3 B6 HR HB; have B3 := n_B3; have B6 := n_B6; have HR := n_HR; have HB := n_HB; clear n_B3 n_B6 n_HR n_HB; clear c3_0 c3_1 c3_2 c3_3 c3_4 c3_5 c3_6 c3_7 c3_8 c3_9; clear c6_0 c6_1 c6_2 c6_3 c6_4 c6_5 c6_6 c6_7 c6_8 c6_9; clear f6_0 f6_1 f6_2 f6_3 f6_4 f6_5 f6_6 f6_7 f6_8 f6_9; clear f3_0 f3_1 f3_2 f3_3 f3_4 f3_5 f3_6 f3_7 f3_8 f3_9; obtain ⟨c3_0, c3_1, c3_2, c3_3, c3_4, c3_5, c3_6, c3_7, c3_8, c3_9⟩ := blkc10 B3.out; obtain ⟨c6_0, c6_1, c6_2, c6_3, c6_4, c6_5, c6_6, c6_7, c6_8, c6_9⟩ := blkc10 B6.out; obtain ⟨f6_0, f6_1, f6_2, f6_3, f6_4, f6_5, f6_6, f6_7, f6_8, f6_9⟩ := blkf10 B6.out; obtain ⟨f3_0, f3_1, f3_2, f3_3, f3_4, f3_5, f3_6, f3_7, f3_8, f3_9⟩ := blkf10 B3.out; clear hbk))
 obtain ⟨ad, e7, hx⟩ := int_at HR.out.h7 i (by have := HI.out; have := HML.out; omega) HMM.out
 dsimp only at e7
 subst e7
 have hi1 : (i : Int) < (b.made.length : Int) := by have := HI.out; have := HML.out; omega
 go_wp2_with (fail)
 refine bodyPost_ret (results_ctt rfl _ _ g6 32 #[.int .i64 b.c.f0, .int .i64 b.c.f1, .int .i64 b.c.f2, .int .i64 b.c.f3, .int .i64 b.c.f4, .slice a5 b.calls.length c5, .slice a6 b.ins.length c6, .slice (some ad) b.made.length c7, .slice a8 b.ops.length c8, .slice a9 b.nodes.length c9] (0, 0) _ rfl (put10 B6.out) Try.underlying32 rfl (by kernel_rfl)) rfl ?_
 exact ⟨⟨a5, a6, (some ad), a8, a9, c5, c6, c7, c8, c9⟩, rfl, HR0.out.below (bel10 HB.out HGB6.out), bel10 HB.out HGB6.out⟩
set_option maxHeartbeats 8000000 in
set_option maxRecDepth 100000 in
theorem r_Make_ok (b : RB) (a5 a6 a7 a8 a9 : Option Addr) (c5 c6 c7 c8 c9 : Nat) (k : Int) (i : Nat) (hi : i < b.calls.length) (hm : b.made.length = b.calls.length) (x : S38) (hr : fOp b.ops k = some x) (mm : Int) (hmm : b.made.getD i 0 = mm) (hC0 : 0 ≤ b.c.f4) (hC1 : b.c.f4 ≤ 1000) (hc : ¬ mm = 2 * b.c.f4) (hb0 : 0 ≤ mm) (hb1 : mm ≤ 3000) (h8 : b.calls.length ≤ 8) (nd : Int) (hop : ∀ W, Calls Try.prog 42 #[.agg #[.int .i64 b.c.f0, .int .i64 b.c.f1, .int .i64 b.c.f2, .int .i64 b.c.f3, .int .i64 b.c.f4], .int .i64 (i : Int), .int .i64 mm] W (fun e w' => e = .returned (.int .i64 nd) ∧ Below W.heap.size W w')) (hs : b.nodes.length ≤ 1000000) (hol : b.ops.length ≤ 1000000) (w : World) (h : RAt w b ⟨a5, a6, a7, a8, a9, c5, c6, c7, c8, c9⟩) :
  Calls Try.prog 36 #[.agg #[.int .i64 b.c.f0, .int .i64 b.c.f1, .int .i64 b.c.f2, .int .i64 b.c.f3, .int .i64 b.c.f4, .slice a5 b.calls.length c5, .slice a6 b.ins.length c6, .slice a7 b.made.length c7, .slice a8 b.ops.length c8, .slice a9 b.nodes.length c9], .int .i64 (i : Int), .int .i64 k] w fun e w' => ∃ r' : RA, e = .returned (.tuple #[.agg #[.int .i64 b.c.f0, .int .i64 b.c.f1, .int .i64 b.c.f2, .int .i64 b.c.f3, .int .i64 b.c.f4, .slice r'.a5 ((b.mades i).addNode nd k).calls.length r'.c5, .slice r'.a6 ((b.mades i).addNode nd k).ins.length r'.c6, .slice r'.a7 ((b.mades i).addNode nd k).made.length r'.c7, .slice r'.a8 ((b.mades i).addNode nd k).ops.length r'.c8, .slice r'.a9 ((b.mades i).addNode nd k).nodes.length r'.c9], .int .i64 nd, .int .i64 0]) ∧ RAt w' ((b.mades i).addNode nd k) r' ∧ Below w.heap.size w w' := by
 have HR := Aside0.mk h
 have HR0 := Aside0.mk h
 have HB := Aside0.mk (Below.refl w.heap.size w)
 have hisb : (decide (0 ≤ (i : Int) ∧ (i : Int) < (b.calls.length : Int))) = true := decide_eq_true (by omega)
 have HI := Aside0.mk hi
 have HIS := Aside0.mk (fun (W : World) (h : RAt W b ⟨a5, a6, a7, a8, a9, c5, c6, c7, c8, c9⟩) => r_is b ⟨a5, a6, a7, a8, a9, c5, c6, c7, c8, c9⟩ i W h)
 rw [hisb] at HIS
 clear hisb
 have HFI := Aside0.mk (fun (W : World) (h : RAt W b ⟨a5, a6, a7, a8, a9, c5, c6, c7, c8, c9⟩) => show ∃ j : Int, (Calls Try.prog 29 #[.agg #[.int .i64 b.c.f0, .int .i64 b.c.f1, .int .i64 b.c.f2, .int .i64 b.c.f3, .int .i64 b.c.f4, .slice a5 b.calls.length c5, .slice a6 b.ins.length c6, .slice a7 b.made.length c7, .slice a8 b.ops.length c8, .slice a9 b.nodes.length c9], .int .i64 k] W fun e w' => e = .returned (.int .i64 j) ∧ Below W.heap.size W w') ∧ (j < 0 ↔ fOp b.ops k = none) from r_find b ⟨a5, a6, a7, a8, a9, c5, c6, c7, c8, c9⟩ k hol W h)
 clear hi
 have HMM := Aside0.mk hmm
 have HML := Aside0.mk hm
 clear hmm hm
 have hcb : (mm == 2 * b.c.f4) = false := beq_eq_false_iff_ne.2 hc
 have HOP := Aside0.mk hop
 have HS := Aside0.mk hs
 have H8 := Aside0.mk h8
 clear hc hop hs h8
 have HOL := Aside0.mk hol
 clear h hol
 have HFO := Aside0.mk hr
 clear hr
 go_enter Try.func36, Try.ntmps36
 go_upto_region 3 with (first | ((with_reducible refine gate_dst (N := 3) rfl ?_); refine box_event ?hg (N := 3) ?hd (cs := #[.int .i64 b.c.f0, .int .i64 b.c.f1, .int .i64 b.c.f2, .int .i64 b.c.f3, .int .i64 b.c.f4, .slice a5 b.calls.length c5, .slice a6 b.ins.length c6, .slice a7 b.made.length c7, .slice a8 b.ops.length c8, .slice a9 b.nodes.length c9]) (t := 32) ?hr ?_; (case hd => rfl); (case hg => rfl); (case hr => first | (go_simp; done) | (go_simp; rfl)); intro g3 hg w3 hbox hbk; have B3 := Aside0.mk hbox; have HGB3 := Aside0.mk (show w.heap.size ≤ g3 from by rw [hg]; exact HB.out.size); have n_HR := Aside0.mk (HR.out.below hbk); have n_HB := Aside0.mk (below_step HB.out hbk); clear HR HB; have HR := n_HR; have HB := n_HB; clear n_HR n_HB; clear hbk hbox hg) | ((with_reducible refine gate_dst (N := 6) rfl ?_); refine box_event ?hg (N := 6) ?hd (cs := #[.int .i64 0, .int .i64 0, .int .i64 0, .int .i64 0, .int .i64 0, .slice none 0 0, .slice none 0 0, .slice none 0 0, .slice none 0 0, .slice none 0 0]) (t := 32) ?hr ?_; (case hd => rfl); (case hg => rfl); (case hr => first | (go_simp; done) | (go_simp; rfl)); intro g6 hg w6 hbox hbk; have B6 := Aside0.mk hbox; have HNE := Aside0.mk (show g3 ≠ g6 from by rw [hg]; exact Nat.ne_of_lt (blk_lt B3.out)); have HGB6 := Aside0.mk (show w.heap.size ≤ g6 from by rw [hg]; exact HB.out.size); have n_B3 := Aside0.mk (blk_below B3.out hbk); have n_HR := Aside0.mk (HR.out.below hbk); have n_HB := Aside0.mk (below_step HB.out hbk); clear B3 HR HB; have B3 := n_B3; have HR := n_HR; have HB := n_HB; clear n_B3 n_HR n_HB; obtain ⟨c3_0, c3_1, c3_2, c3_3, c3_4, c3_5, c3_6, c3_7, c3_8, c3_9⟩ := blkc10 B3.out; obtain ⟨c6_0, c6_1, c6_2, c6_3, c6_4, c6_5, c6_6, c6_7, c6_8, c6_9⟩ := blkc10 B6.out; obtain ⟨f6_0, f6_1, f6_2, f6_3, f6_4, f6_5, f6_6, f6_7, f6_8, f6_9⟩ := blkf10 B6.out; obtain ⟨f3_0, f3_1, f3_2, f3_3, f3_4, f3_5, f3_6, f3_7, f3_8, f3_9⟩ := blkf10 B3.out; clear hbk hbox hg) | (go_at_call 30; (with_reducible refine (HIS.out _ HR.out).mono ?_); rintro e w7 ⟨rfl, hbk⟩; have n_B3 := Aside0.mk (blk_below B3.out hbk); have n_B6 := Aside0.mk (blk_below B6.out hbk); have n_HR := Aside0.mk (HR.out.below hbk); have n_HB := Aside0.mk (below_step HB.out hbk); clear B3 B6 HR HB; have B3 := n_B3; have B6 := n_B6; have HR := n_HR; have HB := n_HB; clear n_B3 n_B6 n_HR n_HB; clear c3_0 c3_1 c3_2 c3_3 c3_4 c3_5 c3_6 c3_7 c3_8 c3_9; clear c6_0 c6_1 c6_2 c6_3 c6_4 c6_5 c6_6 c6_7 c6_8 c6_9; clear f6_0 f6_1 f6_2 f6_3 f6_4 f6_5 f6_6 f6_7 f6_8 f6_9; clear f3_0 f3_1 f3_2 f3_3 f3_4 f3_5 f3_6 f3_7 f3_8 f3_9; obtain ⟨c3_0, c3_1, c3_2, c3_3, c3_4, c3_5, c3_6, c3_7, c3_8, c3_9⟩ := blkc10 B3.out; obtain ⟨c6_0, c6_1, c6_2, c6_3, c6_4, c6_5, c6_6, c6_7, c6_8, c6_9⟩ := blkc10 B6.out; obtain ⟨f6_0, f6_1, f6_2, f6_3, f6_4, f6_5, f6_6, f6_7, f6_8, f6_9⟩ := blkf10 B6.out; obtain ⟨f3_0, f3_1, f3_2, f3_3, f3_4, f3_5, f3_6, f3_7, f3_8, f3_9⟩ := blkf10 B3.out; clear hbk) | (go_at_call 29; obtain ⟨j, hj1, hj2⟩ := HFI.out _ HR.out; have HJ := Aside0.mk hj2; clear hj2; (with_reducible refine hj1.mono ?_); clear hj1; rintro e w8 ⟨rfl, hbk⟩; have hjb : decide (j < 0) = false := decide_eq_false (fun h => by have := HJ.out.1 h; rw [HFO.out] at this; cases this); have n_B3 := Aside0.mk (blk_below B3.out hbk); have n_B6 := Aside0.mk (blk_below B6.out hbk); have n_HR := Aside0.mk (HR.out.below hbk); have n_HB := Aside0.mk (below_step HB.out hbk); clear B3 B6 HR HB; have B3 := n_B3; have B6 := n_B6; have HR := n_HR; have HB := n_HB; clear n_B3 n_B6 n_HR n_HB; clear c3_0 c3_1 c3_2 c3_3 c3_4 c3_5 c3_6 c3_7 c3_8 c3_9; clear c6_0 c6_1 c6_2 c6_3 c6_4 c6_5 c6_6 c6_7 c6_8 c6_9; clear f6_0 f6_1 f6_2 f6_3 f6_4 f6_5 f6_6 f6_7 f6_8 f6_9; clear f3_0 f3_1 f3_2 f3_3 f3_4 f3_5 f3_6 f3_7 f3_8 f3_9; obtain ⟨c3_0, c3_1, c3_2, c3_3, c3_4, c3_5, c3_6, c3_7, c3_8, c3_9⟩ := blkc10 B3.out; obtain ⟨c6_0, c6_1, c6_2, c6_3, c6_4, c6_5, c6_6, c6_7, c6_8, c6_9⟩ := blkc10 B6.out; obtain ⟨f6_0, f6_1, f6_2, f6_3, f6_4, f6_5, f6_6, f6_7, f6_8, f6_9⟩ := blkf10 B6.out; obtain ⟨f3_0, f3_1, f3_2, f3_3, f3_4, f3_5, f3_6, f3_7, f3_8, f3_9⟩ := blkf10 B3.out; clear hbk))
 obtain ⟨ad, e7, hx⟩ := int_at HR.out.h7 i (by have := HI.out; have := HML.out; omega) HMM.out
 dsimp only at e7
 subst e7
 have hi1 : (i : Int) < (b.made.length : Int) := by have := HI.out; have := HML.out; omega
 go_upto_region 6 with (fail)
 clear hi1 hx
 go_upto_region 8 with (first | (go_at_call 42; (with_reducible refine (HOP.out _).mono ?_); rintro e w9 ⟨rfl, hbk⟩; have n_B3 := Aside0.mk (blk_below B3.out hbk); have n_B6 := Aside0.mk (blk_below B6.out hbk); have n_HR := Aside0.mk (HR.out.below hbk); have n_HB := Aside0.mk (below_step HB.out hbk); clear B3 B6 HR HB; have B3 := n_B3; have B6 := n_B6; have HR := n_HR; have HB := n_HB; clear n_B3 n_B6 n_HR n_HB; clear c3_0 c3_1 c3_2 c3_3 c3_4 c3_5 c3_6 c3_7 c3_8 c3_9; clear c6_0 c6_1 c6_2 c6_3 c6_4 c6_5 c6_6 c6_7 c6_8 c6_9; clear f6_0 f6_1 f6_2 f6_3 f6_4 f6_5 f6_6 f6_7 f6_8 f6_9; clear f3_0 f3_1 f3_2 f3_3 f3_4 f3_5 f3_6 f3_7 f3_8 f3_9; obtain ⟨c3_0, c3_1, c3_2, c3_3, c3_4, c3_5, c3_6, c3_7, c3_8, c3_9⟩ := blkc10 B3.out; obtain ⟨c6_0, c6_1, c6_2, c6_3, c6_4, c6_5, c6_6, c6_7, c6_8, c6_9⟩ := blkc10 B6.out; obtain ⟨f6_0, f6_1, f6_2, f6_3, f6_4, f6_5, f6_6, f6_7, f6_8, f6_9⟩ := blkf10 B6.out; obtain ⟨f3_0, f3_1, f3_2, f3_3, f3_4, f3_5, f3_6, f3_7, f3_8, f3_9⟩ := blkf10 B3.out; clear hbk) | (go_at_call 43; (with_reducible refine (r_more (some ad) c7 b.made i (by have := HI.out; have := HML.out; omega) (by have := H8.out; have := HML.out; omega) mm HMM.out (by omega) _ HR.out.h7 HR.out.l7).mono ?_); rintro e w10 ⟨A1, c1, rfl, hM, hbk⟩; have HM := Aside0.mk hM; have n_B3 := Aside0.mk (blk_below B3.out hbk); have n_B6 := Aside0.mk (blk_below B6.out hbk); have n_HR := Aside0.mk (HR.out.below hbk); have n_HB := Aside0.mk (below_step HB.out hbk); clear B3 B6 HR HB; have B3 := n_B3; have B6 := n_B6; have HR := n_HR; have HB := n_HB; clear n_B3 n_B6 n_HR n_HB; clear c3_0 c3_1 c3_2 c3_3 c3_4 c3_5 c3_6 c3_7 c3_8 c3_9; clear c6_0 c6_1 c6_2 c6_3 c6_4 c6_5 c6_6 c6_7 c6_8 c6_9; clear f6_0 f6_1 f6_2 f6_3 f6_4 f6_5 f6_6 f6_7 f6_8 f6_9; clear f3_0 f3_1 f3_2 f3_3 f3_4 f3_5 f3_6 f3_7 f3_8 f3_9; obtain ⟨c3_0, c3_1, c3_2, c3_3, c3_4, c3_5, c3_6, c3_7, c3_8, c3_9⟩ := blkc10 B3.out; obtain ⟨c6_0, c6_1, c6_2, c6_3, c6_4, c6_5, c6_6, c6_7, c6_8, c6_9⟩ := blkc10 B6.out; obtain ⟨f6_0, f6_1, f6_2, f6_3, f6_4, f6_5, f6_6, f6_7, f6_8, f6_9⟩ := blkf10 B6.out; obtain ⟨f3_0, f3_1, f3_2, f3_3, f3_4, f3_5, f3_6, f3_7, f3_8, f3_9⟩ := blkf10 B3.out; clear hbk hM))
 clear c3_0 c3_1 c3_2 c3_3 c3_4 c3_5 c3_6 c3_7 c3_8 c3_9
 clear c6_0 c6_1 c6_2 c6_3 c6_4 c6_5 c6_6 c6_7 c6_8 c6_9
 clear f3_0 f3_1 f3_2 f3_3 f3_4 f3_5 f3_6 f3_7 f3_8 f3_9
 clear f6_0 f6_1 f6_2 f6_3 f6_4 f6_5 f6_6 f6_7 f6_8 f6_9
 obtain ⟨W8, hW8⟩ : ∃ W, w10.setCell ⟨g3, 7, none⟩ (.slice A1 b.made.length c1) = W := ⟨_, rfl⟩
 rw [hW8]
 have n_B3 := Aside0.mk (show W8.heap[g3]? = some (.cells #[.int .i64 b.c.f0, .int .i64 b.c.f1, .int .i64 b.c.f2, .int .i64 b.c.f3, .int .i64 b.c.f4, .slice a5 b.calls.length c5, .slice a6 b.ins.length c6, .slice A1 b.made.length c1, .slice a8 b.ops.length c8, .slice a9 b.nodes.length c9] 32 (0, 0)) from by rw [← hW8]; exact blk_put B3.out 7 _ rfl)
 have n_B6 := Aside0.mk (show W8.heap[g6]? = some (.cells #[.int .i64 0, .int .i64 0, .int .i64 0, .int .i64 0, .int .i64 0, .slice none 0 0, .slice none 0 0, .slice none 0 0, .slice none 0 0, .slice none 0 0] 32 (0, 0)) from by rw [← hW8]; exact cel_far B6.out (Ne.symm HNE.out) _)
 have n_HM := Aside0.mk (show ∃ base, Kd.R (Kd.int .i64) 3 W8 base (fun _ => True) (.slice A1 b.made.length c1) (b.made.set i (mm + 1)) from by rw [← hW8]; exact ⟨_, Kd.R_set HM.out B3.out (by decide) 7 _⟩)
 have n_HB := Aside0.mk (show Below w.heap.size w W8 from by rw [← hW8]; exact HB.out.setCell (p := ⟨g3, 7, none⟩) HGB3.out _)
 clear hW8 B3 B6 HM HB
 have B3 := n_B3
 have B6 := n_B6
 have HM := n_HM
 have HB := n_HB
 clear n_B3 n_B6 n_HM n_HB
 clear HR
 obtain ⟨c3_0, c3_1, c3_2, c3_3, c3_4, c3_5, c3_6, c3_7, c3_8, c3_9⟩ := blkc10 B3.out
 obtain ⟨c6_0, c6_1, c6_2, c6_3, c6_4, c6_5, c6_6, c6_7, c6_8, c6_9⟩ := blkc10 B6.out
 obtain ⟨f6_0, f6_1, f6_2, f6_3, f6_4, f6_5, f6_6, f6_7, f6_8, f6_9⟩ := blkf10 B6.out
 obtain ⟨f3_0, f3_1, f3_2, f3_3, f3_4, f3_5, f3_6, f3_7, f3_8, f3_9⟩ := blkf10 B3.out
 go_upto_region 9 with (first | ((with_reducible refine gate_dst (N := 44) rfl ?_); refine Kd.R_lit k62 w.heap.size 62 ?hg (N := 44) ?hd (w0 := w) (xs := ([] : List S62)) (inner := []) (ok := (fun k_ => w.heap.size ≤ k_)) (okp := fun _ => False) ?hr ?hp (fun _ hk => hk.elim) HB.out.size HB.out HB.out.size (by simp) ?_; (case hd => rfl); (case hg => rfl); (case hr => first | (go_simp; done) | (go_simp; rfl)); (case hp => exact (Reps.none _ _)); intro v44 w11 q1 hbb gr _; have hbk := grown_none gr; have HN := Aside0.mk q1; have n_B3 := Aside0.mk (blk_below B3.out hbk); have n_B6 := Aside0.mk (blk_below B6.out hbk); obtain ⟨bs, hm⟩ := HM.out; have n_HM := Aside0.mk (show ∃ base, Kd.R (Kd.int .i64) 3 w11 base (fun _ => True) (.slice A1 b.made.length c1) (b.made.set i (mm + 1)) from ⟨bs, Kd.R_below hm hbk⟩); have n_HB := Aside0.mk hbb; clear B3 B6 HM HB hm q1 hbb gr hbk; have B3 := n_B3; have B6 := n_B6; have HM := n_HM; have HB := n_HB; clear n_B3 n_B6 n_HM n_HB; clear c3_0 c3_1 c3_2 c3_3 c3_4 c3_5 c3_6 c3_7 c3_8 c3_9; clear c6_0 c6_1 c6_2 c6_3 c6_4 c6_5 c6_6 c6_7 c6_8 c6_9; clear f6_0 f6_1 f6_2 f6_3 f6_4 f6_5 f6_6 f6_7 f6_8 f6_9; clear f3_0 f3_1 f3_2 f3_3 f3_4 f3_5 f3_6 f3_7 f3_8 f3_9; obtain ⟨c3_0, c3_1, c3_2, c3_3, c3_4, c3_5, c3_6, c3_7, c3_8, c3_9⟩ := blkc10 B3.out; obtain ⟨c6_0, c6_1, c6_2, c6_3, c6_4, c6_5, c6_6, c6_7, c6_8, c6_9⟩ := blkc10 B6.out; obtain ⟨f6_0, f6_1, f6_2, f6_3, f6_4, f6_5, f6_6, f6_7, f6_8, f6_9⟩ := blkf10 B6.out; obtain ⟨f3_0, f3_1, f3_2, f3_3, f3_4, f3_5, f3_6, f3_7, f3_8, f3_9⟩ := blkf10 B3.out; skip) | (at_builtin; refine Kd.R_append_rows k62 (w0 := w) w.heap.size rfl (.tmp 44) (.tmp 46) 30 62 (.agg #[.int .i64 0, .int .i64 0]) 16 rfl Try.underlying30 bkinfo62 rfl (by decide) (by decide) v44 [] b.nodes a9 b.nodes.length c9 (fun k_ => w.heap.size ≤ k_) (fun _ => False) rfl rfl HN.out (show ReadsRow (k62.K w11) k62.sz w11 a9 b.nodes.length b.nodes from Kd.C_below HR0.out.h9 HB.out) (fun x_ cs_ h_ => k62_KM w11 w.heap.size x_ cs_ h_) (fun _ h_ => h_.elim) (fun k_ hk => Nat.le_trans HB.out.size hk) HB.out HB.out.size (by have := HS.out; simp; omega) ?_; intro v47 w12 q1 hbb gr _; have HN2 := Aside0.mk (show Kd.R k62 62 w12 w.heap.size (fun k_ => w.heap.size ≤ k_) v47 b.nodes from q1); have n_B3 := Aside0.mk ((gr.block g3 (by simpa using blk_lt B3.out) (Kd.R_ne HN.out B3.out (by decide))).trans B3.out); have n_B6 := Aside0.mk ((gr.block g6 (by simpa using blk_lt B6.out) (Kd.R_ne HN.out B6.out (by decide))).trans B6.out); obtain ⟨bs, hm⟩ := HM.out; have n_HM := Aside0.mk (show ∃ base, Kd.R (Kd.int .i64) 3 _ base (fun _ => True) (.slice A1 b.made.length c1) (b.made.set i (mm + 1)) from ⟨bs, Kd.R_mono (Kd.R_grown (Kd.R_apartR hm HN.out (by decide)) gr (fun k hk => hk.2)) (fun _ _ => trivial)⟩); have n_HB := Aside0.mk hbb; clear B3 B6 HM HB hm; have B3 := n_B3; have B6 := n_B6; have HM := n_HM; have HB := n_HB; clear n_B3 n_B6 n_HM n_HB; clear q1 hbb gr HN; clear c3_0 c3_1 c3_2 c3_3 c3_4 c3_5 c3_6 c3_7 c3_8 c3_9; clear c6_0 c6_1 c6_2 c6_3 c6_4 c6_5 c6_6 c6_7 c6_8 c6_9; clear f6_0 f6_1 f6_2 f6_3 f6_4 f6_5 f6_6 f6_7 f6_8 f6_9; clear f3_0 f3_1 f3_2 f3_3 f3_4 f3_5 f3_6 f3_7 f3_8 f3_9; obtain ⟨c3_0, c3_1, c3_2, c3_3, c3_4, c3_5, c3_6, c3_7, c3_8, c3_9⟩ := blkc10 B3.out; obtain ⟨c6_0, c6_1, c6_2, c6_3, c6_4, c6_5, c6_6, c6_7, c6_8, c6_9⟩ := blkc10 B6.out; obtain ⟨f6_0, f6_1, f6_2, f6_3, f6_4, f6_5, f6_6, f6_7, f6_8, f6_9⟩ := blkf10 B6.out; obtain ⟨f3_0, f3_1, f3_2, f3_3, f3_4, f3_5, f3_6, f3_7, f3_8, f3_9⟩ := blkf10 B3.out; skip) | (at_builtin; refine Kd.R_append k62 (w0 := w) w.heap.size rfl (.tmp 47) (.tmp 51) 30 62 (.agg #[.int .i64 0, .int .i64 0]) 16 rfl Try.underlying30 bkinfo62 rfl (by decide) (by decide) v47 b.nodes ⟨nd, k⟩ [.int .i64 nd, .int .i64 k] (fun k_ => w.heap.size ≤ k_) (fun _ => False) rfl rfl (k62_mkM _ _ _ ⟨nd, k⟩) (fun _ h_ => h_.elim) (fun k_ hk => Nat.le_trans HB.out.size hk) HN2.out HB.out HB.out.size (by have := HS.out; omega) ?_; intro v52 w13 q1 hbb gr _; obtain ⟨A52, c52, hv52⟩ := Kd.R_slice q1; rw [show (b.nodes ++ [(⟨nd, k⟩ : S62)]).length = b.nodes.length + 1 from by simp] at hv52; subst hv52; have HN3 := Aside0.mk q1; have n_B3 := Aside0.mk ((gr.block g3 (by simpa using blk_lt B3.out) (Kd.R_ne HN2.out B3.out (by decide))).trans B3.out); have n_B6 := Aside0.mk ((gr.block g6 (by simpa using blk_lt B6.out) (Kd.R_ne HN2.out B6.out (by decide))).trans B6.out); obtain ⟨bs, hm⟩ := HM.out; have n_HM := Aside0.mk (show ∃ base, Kd.R (Kd.int .i64) 3 _ base (fun _ => True) (.slice A1 b.made.length c1) (b.made.set i (mm + 1)) from ⟨bs, Kd.R_mono (Kd.R_grown (Kd.R_apartR hm HN2.out (by decide)) gr (fun k hk => hk.2)) (fun _ _ => trivial)⟩); have n_HB := Aside0.mk hbb; clear B3 B6 HM HB hm; have B3 := n_B3; have B6 := n_B6; have HM := n_HM; have HB := n_HB; clear n_B3 n_B6 n_HM n_HB; clear q1 hbb gr HN2; clear c3_0 c3_1 c3_2 c3_3 c3_4 c3_5 c3_6 c3_7 c3_8 c3_9; clear c6_0 c6_1 c6_2 c6_3 c6_4 c6_5 c6_6 c6_7 c6_8 c6_9; clear f6_0 f6_1 f6_2 f6_3 f6_4 f6_5 f6_6 f6_7 f6_8 f6_9; clear f3_0 f3_1 f3_2 f3_3 f3_4 f3_5 f3_6 f3_7 f3_8 f3_9; obtain ⟨c3_0, c3_1, c3_2, c3_3, c3_4, c3_5, c3_6, c3_7, c3_8, c3_9⟩ := blkc10 B3.out; obtain ⟨c6_0, c6_1, c6_2, c6_3, c6_4, c6_5, c6_6, c6_7, c6_8, c6_9⟩ := blkc10 B6.out; obtain ⟨f6_0, f6_1, f6_2, f6_3, f6_4, f6_5, f6_6, f6_7, f6_8, f6_9⟩ := blkf10 B6.out; obtain ⟨f3_0, f3_1, f3_2, f3_3, f3_4, f3_5, f3_6, f3_7, f3_8, f3_9⟩ := blkf10 B3.out; skip))
 clear c3_0 c3_1 c3_2 c3_3 c3_4 c3_5 c3_6 c3_7 c3_8 c3_9
 clear c6_0 c6_1 c6_2 c6_3 c6_4 c6_5 c6_6 c6_7 c6_8 c6_9
 clear f3_0 f3_1 f3_2 f3_3 f3_4 f3_5 f3_6 f3_7 f3_8 f3_9
 clear f6_0 f6_1 f6_2 f6_3 f6_4 f6_5 f6_6 f6_7 f6_8 f6_9
 obtain ⟨W9, hW9⟩ : ∃ W, w13.setCell ⟨g3, 9, none⟩ (.slice A52 (b.nodes.length + 1) c52) = W := ⟨_, rfl⟩
 rw [hW9]
 have n_B3 := Aside0.mk (show W9.heap[g3]? = some (.cells #[.int .i64 b.c.f0, .int .i64 b.c.f1, .int .i64 b.c.f2, .int .i64 b.c.f3, .int .i64 b.c.f4, .slice a5 b.calls.length c5, .slice a6 b.ins.length c6, .slice A1 b.made.length c1, .slice a8 b.ops.length c8, .slice A52 (b.nodes.length + 1) c52] 32 (0, 0)) from by rw [← hW9]; exact blk_put B3.out 9 _ rfl)
 have n_B6 := Aside0.mk (show W9.heap[g6]? = some (.cells #[.int .i64 0, .int .i64 0, .int .i64 0, .int .i64 0, .int .i64 0, .slice none 0 0, .slice none 0 0, .slice none 0 0, .slice none 0 0, .slice none 0 0] 32 (0, 0)) from by rw [← hW9]; exact cel_far B6.out (Ne.symm HNE.out) _)
 have n_HM := Aside0.mk (show ∃ base, Kd.R (Kd.int .i64) 3 W9 base (fun _ => True) (.slice A1 b.made.length c1) (b.made.set i (mm + 1)) from by rw [← hW9]; exact (HM.out.elim fun bs hm => ⟨bs, Kd.R_set hm B3.out (by decide) 9 _⟩))
 have n_HN3 := Aside0.mk (show Kd.R k62 62 W9 w.heap.size (fun k_ => w.heap.size ≤ k_) (.slice A52 (b.nodes.length + 1) c52) (b.nodes ++ [(⟨nd, k⟩ : S62)]) from by rw [← hW9]; exact Kd.R_set HN3.out B3.out (by decide) 9 _)
 have n_HB := Aside0.mk (show Below w.heap.size w W9 from by rw [← hW9]; exact HB.out.setCell (p := ⟨g3, 9, none⟩) HGB3.out _)
 clear hW9 B3 B6 HM HN3 HB
 have B3 := n_B3
 have B6 := n_B6
 have HM := n_HM
 have HN3 := n_HN3
 have HB := n_HB
 clear n_B3 n_B6 n_HM n_HN3 n_HB
 obtain ⟨c3_0, c3_1, c3_2, c3_3, c3_4, c3_5, c3_6, c3_7, c3_8, c3_9⟩ := blkc10 B3.out
 obtain ⟨c6_0, c6_1, c6_2, c6_3, c6_4, c6_5, c6_6, c6_7, c6_8, c6_9⟩ := blkc10 B6.out
 obtain ⟨f6_0, f6_1, f6_2, f6_3, f6_4, f6_5, f6_6, f6_7, f6_8, f6_9⟩ := blkf10 B6.out
 obtain ⟨f3_0, f3_1, f3_2, f3_3, f3_4, f3_5, f3_6, f3_7, f3_8, f3_9⟩ := blkf10 B3.out
 go_wp2
 obtain ⟨bs, hm⟩ := HM.out
 have hmm := HMM.out
 subst hmm
 refine bodyPost_ret (results_ctt rfl _ _ g6 32 #[.int .i64 b.c.f0, .int .i64 b.c.f1, .int .i64 b.c.f2, .int .i64 b.c.f3, .int .i64 b.c.f4, .slice a5 b.calls.length c5, .slice a6 b.ins.length c6, .slice A1 b.made.length c1, .slice a8 b.ops.length c8, .slice A52 (b.nodes.length + 1) c52] (0, 0) _ rfl (put10 B6.out) Try.underlying32 rfl (by kernel_rfl)) rfl ?_
 refine ⟨⟨a5, a6, A1, a8, A52, c5, c6, c1, c8, c52⟩, ?_, ?_, bel10 HB.out HGB6.out⟩
 ·simp [RB.mades, RB.addNode]
 ·exact ⟨HR0.out.m5.below (bel10 HB.out HGB6.out), HR0.out.m6.below (bel10 HB.out HGB6.out), MR.of (R_set10 hm B6.out (by decide)), HR0.out.m8.below (bel10 HB.out HGB6.out), MR.of (R_set10 HN3.out B6.out (by decide))⟩


/-! ### corrieref05_Op: function 44 -/
def corrieref05_Op.f (k : Nat) (a0_0 : Int) (a0_1 : Int) (a0_2 : Int) (a0_3 : Int) (a0_4 : Int) (a1 : Int) (a2 : Int) : Option (Int) := (corrieref05_in.f k a0_0 a0_1 a0_2 a0_3 a0_4 a1 a0_0).bind fun t146 => (if t146 = true then ((corrieref05_in.f k a0_0 a0_1 a0_2 a0_3 a0_4 a2 a0_4).bind fun t147 => (if t147 = true then (some (wrap64 ((wrap64 (a1 * a0_4)) + a2))) else (some (-1)))) else (some (-1)))
theorem corrieref05_Op.mono : ∀ a0 a1 a2 a3 a4 a5 a6 k, LeO (corrieref05_Op.f k a0 a1 a2 a3 a4 a5 a6) (corrieref05_Op.f (k + 1) a0 a1 a2 a3 a4 a5 a6) := by
 intro a0 a1 a2 a3 a4 a5 a6 k
 unfold corrieref05_Op.f
 repeat' first
   | (with_reducible exact corrieref05_in.mono _ _ _ _ _ _ _ _)
   | (with_reducible exact LeO.refl _)
   | (with_reducible exact LeO.none _)
   | (with_reducible refine LeO.ite ?_ ?_)
   | (with_reducible refine LeO.bind ?_ (fun _ => ?_))
   | exact corrieref05_in.mono _ _ _ _ _ _ _ _
   | exact LeO.none _
   | refine LeO.ite ?_ ?_
   | refine LeO.bind ?_ (fun _ => ?_)
set_option maxHeartbeats 8000000 in
set_option maxRecDepth 100000 in
theorem corrieref05_Op.calls (k : Nat) (a0_0 : Int) (a0_1 : Int) (a0_2 : Int) (a0_3 : Int) (a0_4 : Int) (a1 : Int) (a2 : Int) (r : Int) (w : World) (h : corrieref05_Op.f k a0_0 a0_1 a0_2 a0_3 a0_4 a1 a2 = some r) :
  Calls Try.prog 44 #[.agg #[.int .i64 a0_0, .int .i64 a0_1, .int .i64 a0_2, .int .i64 a0_3, .int .i64 a0_4], .int .i64 a1, .int .i64 a2] w fun e w' => e = .returned (.int .i64 r) ∧ Below w.heap.size w w' := by
 have hu23 := Try.underlying23
 have HB := Aside0.mk (Below.refl w.heap.size w)
 have H : ((corrieref05_in.f k a0_0 a0_1 a0_2 a0_3 a0_4 a1 a0_0).bind fun t146 => (if t146 = true then ((corrieref05_in.f k a0_0 a0_1 a0_2 a0_3 a0_4 a2 a0_4).bind fun t147 => (if t147 = true then (some (wrap64 ((wrap64 (a1 * a0_4)) + a2))) else (some (-1)))) else (some (-1)))) = some r := h
 clear h
 replace H := Option.bind_eq_some_iff.mp H
 obtain ⟨t146, A40, H⟩ := H
 replace H : (if t146 = true then ((corrieref05_in.f k a0_0 a0_1 a0_2 a0_3 a0_4 a2 a0_4).bind fun t147 => (if t147 = true then (some (wrap64 ((wrap64 (a1 * a0_4)) + a2))) else (some (-1)))) else (some (-1))) = some r := H
 have A4 := Aside0.mk A40
 clear A40
 by_cases c5 : t146 = true
 ·subst c5
  have H1 : ((corrieref05_in.f k a0_0 a0_1 a0_2 a0_3 a0_4 a2 a0_4).bind fun t147 => (if t147 = true then (some (wrap64 ((wrap64 (a1 * a0_4)) + a2))) else (some (-1)))) = some r := by rw [if_pos rfl] at H; exact H
  clear H
  have H := H1
  clear H1
  replace H := Option.bind_eq_some_iff.mp H
  obtain ⟨t147, A60, H⟩ := H
  replace H : (if t147 = true then (some (wrap64 ((wrap64 (a1 * a0_4)) + a2))) else (some (-1))) = some r := H
  have A6 := Aside0.mk A60
  clear A60
  by_cases c7 : t147 = true
  ·subst c7
   have H1 : (some (wrap64 ((wrap64 (a1 * a0_4)) + a2))) = some r := by rw [if_pos rfl] at H; exact H
   clear H
   have H := H1
   clear H1
   obtain rfl := Option.some.inj H
   go_enter Try.func44, Try.ntmps44
   go_wp2_with (first | ((with_reducible refine gate_dst (N := 3) rfl ?_); refine box_event ?hg (N := 3) ?hd (cs := #[.int .i64 a0_0, .int .i64 a0_1, .int .i64 a0_2, .int .i64 a0_3, .int .i64 a0_4]) (t := 23) ?hr ?_; (case hd => rfl); (case hg => rfl); (case hr => first | (go_simp; done) | (go_simp; rfl)); intro gb145 hg w8 hbox hb; have n0_ := Aside0.mk (below_step (by repeat (first | (with_reducible first | exact HB.out | apply below_alloc | apply pw_below_drewN | apply below_drew1) | exact HB.out)) hb); have n1_ := Aside0.mk (hbox); have n2_ := Aside0.mk ((by rw [hg]; exact (below_size (by repeat (first | (with_reducible first | exact HB.out | apply below_alloc | apply pw_below_drewN | apply below_drew1) | exact HB.out))) : w.heap.size ≤ gb145)); have n3_ := Aside0.mk ((by rw [hg]; exact (below_size (by repeat (first | (with_reducible first | exact HB.out | apply below_alloc | apply pw_below_drewN | apply below_drew1) | exact HB.out))) : w.heap.size ≤ gb145)); clear HB; have HB := n0_; have BK145 := n1_; have GW145 := n2_; have GE145 := n3_; clear n0_ n1_ n2_ n3_; clear hb hbox hg; have hcz9_0 : w8.cell? ⟨gb145, 0, none⟩ = some (.int .i64 a0_0) := (blk_cell BK145.out 0).trans rfl; have hcz9_1 : w8.cell? ⟨gb145, 1, none⟩ = some (.int .i64 a0_1) := (blk_cell BK145.out 1).trans rfl; have hcz9_2 : w8.cell? ⟨gb145, 2, none⟩ = some (.int .i64 a0_2) := (blk_cell BK145.out 2).trans rfl; have hcz9_3 : w8.cell? ⟨gb145, 3, none⟩ = some (.int .i64 a0_3) := (blk_cell BK145.out 3).trans rfl; have hcz9_4 : w8.cell? ⟨gb145, 4, none⟩ = some (.int .i64 a0_4) := (blk_cell BK145.out 4).trans rfl; have hfz9_0 := blk_frozen BK145.out 0; have hfz9_1 := blk_frozen BK145.out 1; have hfz9_2 := blk_frozen BK145.out 2; have hfz9_3 := blk_frozen BK145.out 3; have hfz9_4 := blk_frozen BK145.out 4) | ((with_reducible refine gate_callee (f := 49) rfl ?_); refine goesL_ (some 11) rfl rfl Try.func49 (by kernel_rfl) rfl #[.agg #[.int .i64 a0_0, .int .i64 a0_1, .int .i64 a0_2, .int .i64 a0_3, .int .i64 a0_4], .int .i64 a1, .int .i64 a0_0] rfl (by (try simp only [List.map_toArray, List.map_cons, List.map_nil]); first | done | rfl | (simp only [List.length_drop, List.length_take]; rfl)) ?_; (with_reducible refine (corrieref05_in.calls k a0_0 a0_1 a0_2 a0_3 a0_4 a1 a0_0 true _ A4.out).mono ?_); rintro e w10 ⟨rfl, hb⟩; refine ⟨_, rfl, ?_⟩; have n0_ := Aside0.mk (blk_below (g := gb145) (o := .cells #[.int .i64 a0_0, .int .i64 a0_1, .int .i64 a0_2, .int .i64 a0_3, .int .i64 a0_4] 23 (0, 0)) (by (with_reducible repeat (first | refine blk_drewN ?_ _ | refine blk_drew ?_ | refine blk_alloc ?_ _)); exact BK145.out) hb); have n1_ := Aside0.mk (below_step (by repeat (first | (with_reducible first | exact HB.out | apply below_alloc | apply pw_below_drewN | apply below_drew1 | refine below_set ?_ GE145.out) | exact HB.out)) hb); clear BK145; clear HB; have BK145 := n0_; have HB := n1_; clear n0_ n1_; (try clear hb); (try clear hb2); (try clear hk); (try clear hi); have hcz11_0 : w10.cell? ⟨gb145, 0, none⟩ = some (.int .i64 a0_0) := (blk_cell BK145.out 0).trans rfl; have hcz11_1 : w10.cell? ⟨gb145, 1, none⟩ = some (.int .i64 a0_1) := (blk_cell BK145.out 1).trans rfl; have hcz11_2 : w10.cell? ⟨gb145, 2, none⟩ = some (.int .i64 a0_2) := (blk_cell BK145.out 2).trans rfl; have hcz11_3 : w10.cell? ⟨gb145, 3, none⟩ = some (.int .i64 a0_3) := (blk_cell BK145.out 3).trans rfl; have hcz11_4 : w10.cell? ⟨gb145, 4, none⟩ = some (.int .i64 a0_4) := (blk_cell BK145.out 4).trans rfl; have hfz11_0 := blk_frozen BK145.out 0; have hfz11_1 := blk_frozen BK145.out 1; have hfz11_2 := blk_frozen BK145.out 2; have hfz11_3 := blk_frozen BK145.out 3; have hfz11_4 := blk_frozen BK145.out 4) | (go_at_call 49; (with_reducible refine (corrieref05_in.calls k a0_0 a0_1 a0_2 a0_3 a0_4 a2 a0_4 true _ A6.out).mono ?_); rintro e w12 ⟨rfl, hb⟩; have n0_ := Aside0.mk (blk_below (g := gb145) (o := .cells #[.int .i64 a0_0, .int .i64 a0_1, .int .i64 a0_2, .int .i64 a0_3, .int .i64 a0_4] 23 (0, 0)) (by (with_reducible repeat (first | refine blk_drewN ?_ _ | refine blk_drew ?_ | refine blk_alloc ?_ _)); exact BK145.out) hb); have n1_ := Aside0.mk (below_step (by repeat (first | (with_reducible first | exact HB.out | apply below_alloc | apply pw_below_drewN | apply below_drew1 | refine below_set ?_ GE145.out) | exact HB.out)) hb); clear BK145; clear HB; have BK145 := n0_; have HB := n1_; clear n0_ n1_; (try clear hb); (try clear hb2); (try clear hk); (try clear hi); have hcz13_0 : w12.cell? ⟨gb145, 0, none⟩ = some (.int .i64 a0_0) := (blk_cell BK145.out 0).trans rfl; have hcz13_1 : w12.cell? ⟨gb145, 1, none⟩ = some (.int .i64 a0_1) := (blk_cell BK145.out 1).trans rfl; have hcz13_2 : w12.cell? ⟨gb145, 2, none⟩ = some (.int .i64 a0_2) := (blk_cell BK145.out 2).trans rfl; have hcz13_3 : w12.cell? ⟨gb145, 3, none⟩ = some (.int .i64 a0_3) := (blk_cell BK145.out 3).trans rfl; have hcz13_4 : w12.cell? ⟨gb145, 4, none⟩ = some (.int .i64 a0_4) := (blk_cell BK145.out 4).trans rfl; have hfz13_0 := blk_frozen BK145.out 0; have hfz13_1 := blk_frozen BK145.out 1; have hfz13_2 := blk_frozen BK145.out 2; have hfz13_3 := blk_frozen BK145.out 3; have hfz13_4 := blk_frozen BK145.out 4))
   go_ret
   exact ⟨by first | rfl | (simp [errW_none, errW_some] <;> rfl) | (simp [*, errW_none, errW_some] <;> rfl), by repeat (first | (with_reducible first | exact HB.out | apply below_alloc | apply pw_below_drewN | apply below_drew1 | refine below_set ?_ GE145.out) | exact HB.out)⟩
  ·replace c7 := Bool.eq_false_iff.mpr c7
   subst c7
   have H1 : (some (-1)) = some r := by rw [if_neg (show ¬ (false = true) by decide)] at H; exact H
   clear H
   have H := H1
   clear H1
   obtain rfl := Option.some.inj H
   go_enter Try.func44, Try.ntmps44
   go_wp2_with (first | ((with_reducible refine gate_dst (N := 3) rfl ?_); refine box_event ?hg (N := 3) ?hd (cs := #[.int .i64 a0_0, .int .i64 a0_1, .int .i64 a0_2, .int .i64 a0_3, .int .i64 a0_4]) (t := 23) ?hr ?_; (case hd => rfl); (case hg => rfl); (case hr => first | (go_simp; done) | (go_simp; rfl)); intro gb145 hg w14 hbox hb; have n0_ := Aside0.mk (below_step (by repeat (first | (with_reducible first | exact HB.out | apply below_alloc | apply pw_below_drewN | apply below_drew1) | exact HB.out)) hb); have n1_ := Aside0.mk (hbox); have n2_ := Aside0.mk ((by rw [hg]; exact (below_size (by repeat (first | (with_reducible first | exact HB.out | apply below_alloc | apply pw_below_drewN | apply below_drew1) | exact HB.out))) : w.heap.size ≤ gb145)); have n3_ := Aside0.mk ((by rw [hg]; exact (below_size (by repeat (first | (with_reducible first | exact HB.out | apply below_alloc | apply pw_below_drewN | apply below_drew1) | exact HB.out))) : w.heap.size ≤ gb145)); clear HB; have HB := n0_; have BK145 := n1_; have GW145 := n2_; have GE145 := n3_; clear n0_ n1_ n2_ n3_; clear hb hbox hg; have hcz15_0 : w14.cell? ⟨gb145, 0, none⟩ = some (.int .i64 a0_0) := (blk_cell BK145.out 0).trans rfl; have hcz15_1 : w14.cell? ⟨gb145, 1, none⟩ = some (.int .i64 a0_1) := (blk_cell BK145.out 1).trans rfl; have hcz15_2 : w14.cell? ⟨gb145, 2, none⟩ = some (.int .i64 a0_2) := (blk_cell BK145.out 2).trans rfl; have hcz15_3 : w14.cell? ⟨gb145, 3, none⟩ = some (.int .i64 a0_3) := (blk_cell BK145.out 3).trans rfl; have hcz15_4 : w14.cell? ⟨gb145, 4, none⟩ = some (.int .i64 a0_4) := (blk_cell BK145.out 4).trans rfl; have hfz15_0 := blk_frozen BK145.out 0; have hfz15_1 := blk_frozen BK145.out 1; have hfz15_2 := blk_frozen BK145.out 2; have hfz15_3 := blk_frozen BK145.out 3; have hfz15_4 := blk_frozen BK145.out 4) | ((with_reducible refine gate_callee (f := 49) rfl ?_); refine goesL_ (some 11) rfl rfl Try.func49 (by kernel_rfl) rfl #[.agg #[.int .i64 a0_0, .int .i64 a0_1, .int .i64 a0_2, .int .i64 a0_3, .int .i64 a0_4], .int .i64 a1, .int .i64 a0_0] rfl (by (try simp only [List.map_toArray, List.map_cons, List.map_nil]); first | done | rfl | (simp only [List.length_drop, List.length_take]; rfl)) ?_; (with_reducible refine (corrieref05_in.calls k a0_0 a0_1 a0_2 a0_3 a0_4 a1 a0_0 true _ A4.out).mono ?_); rintro e w16 ⟨rfl, hb⟩; refine ⟨_, rfl, ?_⟩; have n0_ := Aside0.mk (blk_below (g := gb145) (o := .cells #[.int .i64 a0_0, .int .i64 a0_1, .int .i64 a0_2, .int .i64 a0_3, .int .i64 a0_4] 23 (0, 0)) (by (with_reducible repeat (first | refine blk_drewN ?_ _ | refine blk_drew ?_ | refine blk_alloc ?_ _)); exact BK145.out) hb); have n1_ := Aside0.mk (below_step (by repeat (first | (with_reducible first | exact HB.out | apply below_alloc | apply pw_below_drewN | apply below_drew1 | refine below_set ?_ GE145.out) | exact HB.out)) hb); clear BK145; clear HB; have BK145 := n0_; have HB := n1_; clear n0_ n1_; (try clear hb); (try clear hb2); (try clear hk); (try clear hi); have hcz17_0 : w16.cell? ⟨gb145, 0, none⟩ = some (.int .i64 a0_0) := (blk_cell BK145.out 0).trans rfl; have hcz17_1 : w16.cell? ⟨gb145, 1, none⟩ = some (.int .i64 a0_1) := (blk_cell BK145.out 1).trans rfl; have hcz17_2 : w16.cell? ⟨gb145, 2, none⟩ = some (.int .i64 a0_2) := (blk_cell BK145.out 2).trans rfl; have hcz17_3 : w16.cell? ⟨gb145, 3, none⟩ = some (.int .i64 a0_3) := (blk_cell BK145.out 3).trans rfl; have hcz17_4 : w16.cell? ⟨gb145, 4, none⟩ = some (.int .i64 a0_4) := (blk_cell BK145.out 4).trans rfl; have hfz17_0 := blk_frozen BK145.out 0; have hfz17_1 := blk_frozen BK145.out 1; have hfz17_2 := blk_frozen BK145.out 2; have hfz17_3 := blk_frozen BK145.out 3; have hfz17_4 := blk_frozen BK145.out 4) | (go_at_call 49; (with_reducible refine (corrieref05_in.calls k a0_0 a0_1 a0_2 a0_3 a0_4 a2 a0_4 false _ A6.out).mono ?_); rintro e w18 ⟨rfl, hb⟩; have n0_ := Aside0.mk (blk_below (g := gb145) (o := .cells #[.int .i64 a0_0, .int .i64 a0_1, .int .i64 a0_2, .int .i64 a0_3, .int .i64 a0_4] 23 (0, 0)) (by (with_reducible repeat (first | refine blk_drewN ?_ _ | refine blk_drew ?_ | refine blk_alloc ?_ _)); exact BK145.out) hb); have n1_ := Aside0.mk (below_step (by repeat (first | (with_reducible first | exact HB.out | apply below_alloc | apply pw_below_drewN | apply below_drew1 | refine below_set ?_ GE145.out) | exact HB.out)) hb); clear BK145; clear HB; have BK145 := n0_; have HB := n1_; clear n0_ n1_; (try clear hb); (try clear hb2); (try clear hk); (try clear hi)))
   go_ret
   exact ⟨by first | rfl | (simp [errW_none, errW_some] <;> rfl) | (simp [*, errW_none, errW_some] <;> rfl), by repeat (first | (with_reducible first | exact HB.out | apply below_alloc | apply pw_below_drewN | apply below_drew1 | refine below_set ?_ GE145.out) | exact HB.out)⟩
 ·replace c5 := Bool.eq_false_iff.mpr c5
  subst c5
  have H1 : (some (-1)) = some r := by rw [if_neg (show ¬ (false = true) by decide)] at H; exact H
  clear H
  have H := H1
  clear H1
  obtain rfl := Option.some.inj H
  go_enter Try.func44, Try.ntmps44
  go_wp2_with (first | ((with_reducible refine gate_dst (N := 3) rfl ?_); refine box_event ?hg (N := 3) ?hd (cs := #[.int .i64 a0_0, .int .i64 a0_1, .int .i64 a0_2, .int .i64 a0_3, .int .i64 a0_4]) (t := 23) ?hr ?_; (case hd => rfl); (case hg => rfl); (case hr => first | (go_simp; done) | (go_simp; rfl)); intro gb145 hg w19 hbox hb; have n0_ := Aside0.mk (below_step (by repeat (first | (with_reducible first | exact HB.out | apply below_alloc | apply pw_below_drewN | apply below_drew1) | exact HB.out)) hb); have n1_ := Aside0.mk (hbox); have n2_ := Aside0.mk ((by rw [hg]; exact (below_size (by repeat (first | (with_reducible first | exact HB.out | apply below_alloc | apply pw_below_drewN | apply below_drew1) | exact HB.out))) : w.heap.size ≤ gb145)); have n3_ := Aside0.mk ((by rw [hg]; exact (below_size (by repeat (first | (with_reducible first | exact HB.out | apply below_alloc | apply pw_below_drewN | apply below_drew1) | exact HB.out))) : w.heap.size ≤ gb145)); clear HB; have HB := n0_; have BK145 := n1_; have GW145 := n2_; have GE145 := n3_; clear n0_ n1_ n2_ n3_; clear hb hbox hg; have hcz20_0 : w19.cell? ⟨gb145, 0, none⟩ = some (.int .i64 a0_0) := (blk_cell BK145.out 0).trans rfl; have hcz20_1 : w19.cell? ⟨gb145, 1, none⟩ = some (.int .i64 a0_1) := (blk_cell BK145.out 1).trans rfl; have hcz20_2 : w19.cell? ⟨gb145, 2, none⟩ = some (.int .i64 a0_2) := (blk_cell BK145.out 2).trans rfl; have hcz20_3 : w19.cell? ⟨gb145, 3, none⟩ = some (.int .i64 a0_3) := (blk_cell BK145.out 3).trans rfl; have hcz20_4 : w19.cell? ⟨gb145, 4, none⟩ = some (.int .i64 a0_4) := (blk_cell BK145.out 4).trans rfl; have hfz20_0 := blk_frozen BK145.out 0; have hfz20_1 := blk_frozen BK145.out 1; have hfz20_2 := blk_frozen BK145.out 2; have hfz20_3 := blk_frozen BK145.out 3; have hfz20_4 := blk_frozen BK145.out 4) | ((with_reducible refine gate_callee (f := 49) rfl ?_); refine goesL_ (some 11) rfl rfl Try.func49 (by kernel_rfl) rfl #[.agg #[.int .i64 a0_0, .int .i64 a0_1, .int .i64 a0_2, .int .i64 a0_3, .int .i64 a0_4], .int .i64 a1, .int .i64 a0_0] rfl (by (try simp only [List.map_toArray, List.map_cons, List.map_nil]); first | done | rfl | (simp only [List.length_drop, List.length_take]; rfl)) ?_; (with_reducible refine (corrieref05_in.calls k a0_0 a0_1 a0_2 a0_3 a0_4 a1 a0_0 false _ A4.out).mono ?_); rintro e w21 ⟨rfl, hb⟩; refine ⟨_, rfl, ?_⟩; have n0_ := Aside0.mk (blk_below (g := gb145) (o := .cells #[.int .i64 a0_0, .int .i64 a0_1, .int .i64 a0_2, .int .i64 a0_3, .int .i64 a0_4] 23 (0, 0)) (by (with_reducible repeat (first | refine blk_drewN ?_ _ | refine blk_drew ?_ | refine blk_alloc ?_ _)); exact BK145.out) hb); have n1_ := Aside0.mk (below_step (by repeat (first | (with_reducible first | exact HB.out | apply below_alloc | apply pw_below_drewN | apply below_drew1 | refine below_set ?_ GE145.out) | exact HB.out)) hb); clear BK145; clear HB; have BK145 := n0_; have HB := n1_; clear n0_ n1_; (try clear hb); (try clear hb2); (try clear hk); (try clear hi)))
  go_ret
  exact ⟨by first | rfl | (simp [errW_none, errW_some] <;> rfl) | (simp [*, errW_none, errW_some] <;> rfl), by repeat (first | (with_reducible first | exact HB.out | apply below_alloc | apply pw_below_drewN | apply below_drew1 | refine below_set ?_ GE145.out) | exact HB.out)⟩

end Go.Proofs.Ytpcmoclohepdiaf.PBookStays
