-- Written by a program of this session: a variant of the print that takes proofs by hand (wip/tools/mkprint.py)
import Derived.Test.YtpcmoclohepdiabPBoundOfx0
import Derived.Test.YtpcmoclohepdiabPBoundOfx6
namespace Go.Proofs.Ytpcmoclohepdiab.PBoundOf
open Go.RowKit Go.Proofs.YtpcmoclohepdiabW.PrintWords Go.Proofs.YtpcmoclohepdiabW.PrintLast Go.Proofs.YtpcmoclohepdiabW.PrintMore
attribute [local go_sem] max2_int min2_int max_two min_two max_three min_three max_four min_four   -- for this text's walks alone
set_option linter.unusedVariables false
set_option linter.unusedSimpArgs false

/-! ### corrieref19_Inserts: function 27 -/
def corrieref19_Inserts.l0 : Nat → List (S38) → Int → Int → Int → Int → Int → Int → Int → Int → Int → Int → Int → Int → Bool → Int → List (S137) → Option (Int)
  | 0, _, _, _, _, _, _, _, _, _, _, _, _, _, _, _, _ => none
  | k + 1, x0, x5, x6, x126000, x126001, x126002, x126003, x126004, x126005, x126006, x126007, x126008, x126009, x126010, x126011, x126012 => if x6 < (x0.length : Int) then (if 0 ≤ x6 then (if ((rd_T38 x0 x6).f5.f0) = 1 then ((corrieref19_Before.f ((rd_T38 x0 x6).f0) ((rd_T38 x0 x6).f1) ((rd_T38 x0 x6).f2) ((rd_T38 x0 x6).f3) ((rd_T38 x0 x6).f4) ((rd_T38 x0 x6).f5.f0) ((rd_T38 x0 x6).f5.f1) ((rd_T38 x0 x6).f5.f2) ((rd_T38 x0 x6).f5.f3) ((rd_T38 x0 x6).f6.f0) ((rd_T38 x0 x6).f6.f1) ((rd_T38 x0 x6).f6.f2) ((rd_T38 x0 x6).f6.f3) x126000 x126001 x126002 x126003 x126004 x126005 x126006 x126007 x126008 x126009 x126010 x126011 x126012).bind fun t128 => (if t128 = true then (corrieref19_Inserts.l0 k x0 x5 (wrap64 (x6 + 1)) x126000 x126001 x126002 x126003 x126004 x126005 x126006 x126007 x126008 x126009 x126010 x126011 x126012) else ((corrieref19_Before.f x126000 x126001 x126002 x126003 x126004 x126005 x126006 x126007 x126008 x126009 x126010 x126011 x126012 ((rd_T38 x0 x6).f0) ((rd_T38 x0 x6).f1) ((rd_T38 x0 x6).f2) ((rd_T38 x0 x6).f3) ((rd_T38 x0 x6).f4) ((rd_T38 x0 x6).f5.f0) ((rd_T38 x0 x6).f5.f1) ((rd_T38 x0 x6).f5.f2) ((rd_T38 x0 x6).f5.f3) ((rd_T38 x0 x6).f6.f0) ((rd_T38 x0 x6).f6.f1) ((rd_T38 x0 x6).f6.f2) ((rd_T38 x0 x6).f6.f3)).bind fun t130 => (if t130 = true then (corrieref19_Inserts.l0 k x0 x5 (wrap64 (x6 + 1)) x126000 x126001 x126002 x126003 x126004 x126005 x126006 x126007 x126008 x126009 x126010 x126011 x126012) else (corrieref19_Inserts.l0 k x0 (wrap64 (x5 + 1)) (wrap64 (x6 + 1)) x126000 x126001 x126002 x126003 x126004 x126005 x126006 x126007 x126008 x126009 x126010 x126011 x126012))))) else (corrieref19_Inserts.l0 k x0 x5 (wrap64 (x6 + 1)) x126000 x126001 x126002 x126003 x126004 x126005 x126006 x126007 x126008 x126009 x126010 x126011 x126012)) else (none)) else (some x5)
def corrieref19_Inserts.f (k : Nat) (l0 : List (S38)) (a1_0 : Int) (a1_1 : Int) (a1_2 : Int) (a1_3 : Int) (a1_4 : Int) (a1_5 : Int) (a1_6 : Int) (a1_7 : Int) (a1_8 : Int) (a1_9 : Int) (a1_10 : Bool) (a1_11 : Int) (l1_12 : List (S137)) : Option (Int) := corrieref19_Inserts.l0 k l0 0 0 a1_0 a1_1 a1_2 a1_3 a1_4 a1_5 a1_6 a1_7 a1_8 a1_9 a1_10 a1_11 l1_12
theorem corrieref19_Inserts.mono_l : ∀ k, (∀ y0 y1 y2 y3 y4 y5 y6 y7 y8 y9 y10 y11 y12 y13 y14 y15, LeO (corrieref19_Inserts.l0 k y0 y1 y2 y3 y4 y5 y6 y7 y8 y9 y10 y11 y12 y13 y14 y15) (corrieref19_Inserts.l0 (k + 1) y0 y1 y2 y3 y4 y5 y6 y7 y8 y9 y10 y11 y12 y13 y14 y15))
  | 0 => fun _ _ _ _ _ _ _ _ _ _ _ _ _ _ _ _ r h => by simp [corrieref19_Inserts.l0] at h
  | k + 1 => by
    have ih0 := corrieref19_Inserts.mono_l k
    · intro y0 y1 y2 y3 y4 y5 y6 y7 y8 y9 y10 y11 y12 y13 y14 y15
      unfold corrieref19_Inserts.l0
      repeat' first
      | (with_reducible exact ih0 _ _ _ _ _ _ _ _ _ _ _ _ _ _ _ _)
      | (with_reducible exact LeO.refl _)
      | (with_reducible exact LeO.none _)
      | (with_reducible refine LeO.ite ?_ ?_)
      | (with_reducible refine LeO.bind ?_ (fun _ => ?_))
      | exact ih0 _ _ _ _ _ _ _ _ _ _ _ _ _ _ _ _
      | exact LeO.none _
      | refine LeO.ite ?_ ?_
      | refine LeO.bind ?_ (fun _ => ?_)
theorem corrieref19_Inserts.mono : ∀ a0 a1 a2 a3 a4 a5 a6 a7 a8 a9 a10 a11 a12 a13 k, LeO (corrieref19_Inserts.f k a0 a1 a2 a3 a4 a5 a6 a7 a8 a9 a10 a11 a12 a13) (corrieref19_Inserts.f (k + 1) a0 a1 a2 a3 a4 a5 a6 a7 a8 a9 a10 a11 a12 a13) := by
  intro a0 a1 a2 a3 a4 a5 a6 a7 a8 a9 a10 a11 a12 a13 k
  have ih0 := corrieref19_Inserts.mono_l k
  unfold corrieref19_Inserts.f
  repeat' first
      | (with_reducible exact ih0 _ _ _ _ _ _ _ _ _ _ _ _ _ _ _ _)
      | (with_reducible exact LeO.refl _)
      | (with_reducible exact LeO.none _)
      | (with_reducible refine LeO.ite ?_ ?_)
      | (with_reducible refine LeO.bind ?_ (fun _ => ?_))
      | exact ih0 _ _ _ _ _ _ _ _ _ _ _ _ _ _ _ _
      | exact LeO.none _
      | refine LeO.ite ?_ ?_
      | refine LeO.bind ?_ (fun _ => ?_)
def corrieref19_Inserts.T5 : Bool × List (List Nat × List Nat) := (true, [([], []), ([], []), ([0, 1], [0, 1]), ([2], [2]), ([3], [3]), ([4], [4]), ([5], [5]), ([6], [6]), ([7], [7]), ([7], [7]), ([8, 9, 7], [7, 8, 9]), ([10, 7], [7, 10]), ([7], [7]), ([11, 12, 7, 7], [7, 11, 12]), ([13, 7], [7, 13]), ([7, 14], [7, 14]), ([15, 13], [15]), ([16], [16]), ([16], [16]), ([16], [16]), ([18, 19, 16], [16, 18, 19]), ([20, 16], [16, 20]), ([17, 21, 16, 16], [16, 17, 21]), ([22, 16], [16, 22]), ([16, 23], [16, 23])])
def corrieref19_Inserts.B5 : List Nat := [0, 0, 3, 7, 15, 31, 63, 127, 255, 255, 1023, 2047, 255, 8191, 16383, 32767, 65535, 131071, 131071, 131071, 917503, 1966079, 4194303, 8388607, 16777215]
theorem corrieref19_Inserts.tab5 : rtab .any (opsOf Try.f27 5) = corrieref19_Inserts.T5 := by kernel_rfl
theorem corrieref19_Inserts.bits5 : waitsOk corrieref19_Inserts.T5.2 corrieref19_Inserts.B5 = true := by kernel_rfl
set_option maxHeartbeats 8000000 in
set_option maxRecDepth 100000 in
theorem corrieref19_Inserts.calls (k : Nat) (A0 : Option Addr) (c0 : Nat) (l0 : List (S38)) (a1_0 : Int) (a1_1 : Int) (a1_2 : Int) (a1_3 : Int) (a1_4 : Int) (a1_5 : Int) (a1_6 : Int) (a1_7 : Int) (a1_8 : Int) (a1_9 : Int) (a1_10 : Bool) (a1_11 : Int) (A1_12 : Option Addr) (c1_12 : Nat) (l1_12 : List (S137)) (r : Int) (w : World) (hr0 : Kd.C k38 w A0 l0.length l0) (hc0 : l0.length ≤ c0) (hr1_12 : Kd.C k137 w A1_12 l1_12.length l1_12) (hc1_12 : l1_12.length ≤ c1_12) (h : corrieref19_Inserts.f k l0 a1_0 a1_1 a1_2 a1_3 a1_4 a1_5 a1_6 a1_7 a1_8 a1_9 a1_10 a1_11 l1_12 = some r) :
    Calls Try.prog 27 #[.slice A0 l0.length c0, .agg #[.int .i64 a1_0, .int .i64 a1_1, .int .i64 a1_2, .int .i64 a1_3, .int .i64 a1_4, .int .i64 a1_5, .int .u64 a1_6, .int .u64 a1_7, .int .i64 a1_8, .int .i64 a1_9, .bool a1_10, .int .u64 a1_11, .slice A1_12 l1_12.length c1_12]] w fun e w' => e = .returned (.int .i64 r) ∧ Below w.heap.size w w' := by
  have hu38 := Try.underlying38
  have HR0 := Aside0.mk hr0
  have HC0 := Aside0.mk hc0
  clear hr0 hc0
  have HR1_12 := Aside0.mk hr1_12
  have HC1_12 := Aside0.mk hc1_12
  clear hr1_12 hc1_12
  have HB := Aside0.mk (Below.refl w.heap.size w)
  have H : (corrieref19_Inserts.l0 k l0 0 0 a1_0 a1_1 a1_2 a1_3 a1_4 a1_5 a1_6 a1_7 a1_8 a1_9 a1_10 a1_11 l1_12) = some r := h
  clear h
  have H' := Aside0.mk H
  clear H
  go_enter Try.func27, Try.ntmps27
  go_wp2_with (first | ((with_reducible refine gate_dst (N := 3) rfl ?_); refine box_event ?hg (N := 3) ?hd (cs := #[.int .i64 a1_0, .int .i64 a1_1, .int .i64 a1_2, .int .i64 a1_3, .int .i64 a1_4, .int .i64 a1_5, .int .u64 a1_6, .int .u64 a1_7, .int .i64 a1_8, .int .i64 a1_9, .bool a1_10, .int .u64 a1_11, .slice A1_12 l1_12.length c1_12]) (t := 38) ?hr ?_; (case hd => rfl); (case hg => rfl); (case hr => first | (go_simp; done) | (go_simp; rfl)); intro gb125 hg w3 hbox hb; have n0_ := Aside0.mk (below_step (by repeat (first | (with_reducible first | exact HB.out | apply below_alloc | apply pw_below_drewN | apply below_drew1) | exact HB.out)) hb); have n1_ := Aside0.mk (hbox); have n2_ := Aside0.mk ((by rw [hg]; exact (below_size (by repeat (first | (with_reducible first | exact HB.out | apply below_alloc | apply pw_below_drewN | apply below_drew1) | exact HB.out))) : w.heap.size ≤ gb125)); have n3_ := Aside0.mk ((by rw [hg]; exact (below_size (by repeat (first | (with_reducible first | exact HB.out | apply below_alloc | apply pw_below_drewN | apply below_drew1) | exact HB.out))) : w.heap.size ≤ gb125)); clear HB; have HB := n0_; have BK125 := n1_; have GW125 := n2_; have GE125 := n3_; clear n0_ n1_ n2_ n3_; clear hb hbox hg))
  go_loopg [5, 6] k (fun kq v5 v6 w' => ∃ (x5_1 : Int) (x6_1 : Int), v5 = .int .i64 x5_1 ∧ v6 = .int .i64 x6_1 ∧ Aside0 (corrieref19_Inserts.l0 kq l0 x5_1 x6_1 a1_0 a1_1 a1_2 a1_3 a1_4 a1_5 a1_6 a1_7 a1_8 a1_9 a1_10 a1_11 l1_12 = some r) ∧ Aside0 (kq ≤ k) ∧ Aside0 (w'.heap[gb125]? = some (.cells #[.int .i64 a1_0, .int .i64 a1_1, .int .i64 a1_2, .int .i64 a1_3, .int .i64 a1_4, .int .i64 a1_5, .int .u64 a1_6, .int .u64 a1_7, .int .i64 a1_8, .int .i64 a1_9, .bool a1_10, .int .u64 a1_11, (.slice A1_12 l1_12.length c1_12)] 38 (0, 0))) ∧ Aside0 (Below w.heap.size w w'))
  case atStart => exact ⟨(0), (0), (by first | rfl | (simp; done) | (simp [*]; done)), (by first | rfl | (simp; done) | (simp [*]; done)), H', ⟨Nat.le_refl _⟩, ⟨by (with_reducible repeat (first | refine blk_drewN ?_ _ | refine blk_drew ?_ | refine blk_alloc ?_ _)); exact BK125.out⟩, ⟨by repeat (first | (with_reducible first | exact HB.out | apply below_alloc | apply pw_below_drewN | apply below_drew1 | refine below_set ?_ GE125.out) | exact HB.out)⟩⟩
  case round =>
    clear H'
    try clear c1
    try clear c2
    try clear p2
    obtain ⟨x5_1, x6_1, rfl, rfl, HA, HK1, BK125, HB⟩ := hrel
    cases gk with
    | zero => exact absurd HA.out (by simp [corrieref19_Inserts.l0])
    | succ k1 =>
      have H := HA.out
      clear HA
      simp only [corrieref19_Inserts.l0] at H
      by_cases c4 : x6_1 < (l0.length : Int)
      · rw [if_pos c4] at H
        have c4b0 : decide (x6_1 < (l0.length : Int)) = true := decide_eq_true c4
        clear c4
        by_cases c5 : 0 ≤ x6_1
        · rw [if_pos c5] at H
          have c5b0 : decide (0 ≤ x6_1) = true := decide_eq_true c5
          clear c5
          by_cases c6 : ((rd_T38 l0 x6_1).f5.f0) = 1
          · rw [if_pos c6] at H
            have c6b0 : (((rd_T38 l0 x6_1).f5.f0) == 1) = true := beq_iff_eq.mpr c6
            have c6b1 : (((rd_T38 l0 x6_1).f5.f0) != 1) = false := bne_eq_false_iff_eq.mpr c6
            clear c6
            replace H := Option.bind_eq_some_iff.mp H
            obtain ⟨t128, A70, H⟩ := H
            replace H : (if t128 = true then (corrieref19_Inserts.l0 k1 l0 x5_1 (wrap64 (x6_1 + 1)) a1_0 a1_1 a1_2 a1_3 a1_4 a1_5 a1_6 a1_7 a1_8 a1_9 a1_10 a1_11 l1_12) else ((corrieref19_Before.f a1_0 a1_1 a1_2 a1_3 a1_4 a1_5 a1_6 a1_7 a1_8 a1_9 a1_10 a1_11 l1_12 ((rd_T38 l0 x6_1).f0) ((rd_T38 l0 x6_1).f1) ((rd_T38 l0 x6_1).f2) ((rd_T38 l0 x6_1).f3) ((rd_T38 l0 x6_1).f4) ((rd_T38 l0 x6_1).f5.f0) ((rd_T38 l0 x6_1).f5.f1) ((rd_T38 l0 x6_1).f5.f2) ((rd_T38 l0 x6_1).f5.f3) ((rd_T38 l0 x6_1).f6.f0) ((rd_T38 l0 x6_1).f6.f1) ((rd_T38 l0 x6_1).f6.f2) ((rd_T38 l0 x6_1).f6.f3)).bind fun t130 => (if t130 = true then (corrieref19_Inserts.l0 k1 l0 x5_1 (wrap64 (x6_1 + 1)) a1_0 a1_1 a1_2 a1_3 a1_4 a1_5 a1_6 a1_7 a1_8 a1_9 a1_10 a1_11 l1_12) else (corrieref19_Inserts.l0 k1 l0 (wrap64 (x5_1 + 1)) (wrap64 (x6_1 + 1)) a1_0 a1_1 a1_2 a1_3 a1_4 a1_5 a1_6 a1_7 a1_8 a1_9 a1_10 a1_11 l1_12)))) = some r := H
            have A7 := Aside0.mk A70
            clear A70
            by_cases c8 : t128 = true
            · subst c8
              have H1 : (corrieref19_Inserts.l0 k1 l0 x5_1 (wrap64 (x6_1 + 1)) a1_0 a1_1 a1_2 a1_3 a1_4 a1_5 a1_6 a1_7 a1_8 a1_9 a1_10 a1_11 l1_12) = some r := by rw [if_pos rfl] at H; exact H
              clear H
              have H := H1
              clear H1
              have H' := Aside0.mk H
              clear H
              try go_wp2
              have n0_ := Aside0.mk (blk_drew BK125.out)
              have n1_ := Aside0.mk (below_drew1 HB.out)
              clear BK125
              clear HB
              have BK125 := n0_
              have HB := n1_
              clear n0_ n1_
              have p126 : 0 ≤ (x6_1 : Int) := of_decide_eq_true (by first | (with_reducible assumption) | assumption)
              have q126 : x6_1 < (l0.length : Int) := of_decide_eq_true (by first | (with_reducible assumption) | assumption)
              obtain ⟨ad126, A126_12, c126_12, e126, hx126_0, hx126_1, hx126_2, hx126_3, hx126_4, hx126_5, hx126_6, hx126_7, hx126_8, hx126_9, hx126_10, hx126_11, hx126_12, hl126_12, hi126_12⟩ := at_T38 HR0.out x6_1 p126 q126
              have hw126_12 := hx126_12
              have hw126_11 := hx126_11
              have hw126_10 := hx126_10
              have hw126_9 := hx126_9
              have hw126_8 := hx126_8
              have hw126_7 := hx126_7
              have hw126_6 := hx126_6
              have hw126_5 := hx126_5
              have hw126_4 := hx126_4
              have hw126_3 := hx126_3
              have hw126_2 := hx126_2
              have hw126_1 := hx126_1
              have hw126_0 := hx126_0
              cases e126
              replace hx126_0 := (HB.out.cell (World.block_lt_of_cell? w _ hx126_0)).trans hx126_0
              replace hx126_1 := (HB.out.cell (World.block_lt_of_cell? w _ hx126_1)).trans hx126_1
              replace hx126_2 := (HB.out.cell (World.block_lt_of_cell? w _ hx126_2)).trans hx126_2
              replace hx126_3 := (HB.out.cell (World.block_lt_of_cell? w _ hx126_3)).trans hx126_3
              replace hx126_4 := (HB.out.cell (World.block_lt_of_cell? w _ hx126_4)).trans hx126_4
              replace hx126_5 := (HB.out.cell (World.block_lt_of_cell? w _ hx126_5)).trans hx126_5
              replace hx126_6 := (HB.out.cell (World.block_lt_of_cell? w _ hx126_6)).trans hx126_6
              replace hx126_7 := (HB.out.cell (World.block_lt_of_cell? w _ hx126_7)).trans hx126_7
              replace hx126_8 := (HB.out.cell (World.block_lt_of_cell? w _ hx126_8)).trans hx126_8
              replace hx126_9 := (HB.out.cell (World.block_lt_of_cell? w _ hx126_9)).trans hx126_9
              replace hx126_10 := (HB.out.cell (World.block_lt_of_cell? w _ hx126_10)).trans hx126_10
              replace hx126_11 := (HB.out.cell (World.block_lt_of_cell? w _ hx126_11)).trans hx126_11
              replace hx126_12 := (HB.out.cell (World.block_lt_of_cell? w _ hx126_12)).trans hx126_12
              have HR126_12 := Aside0.mk hi126_12
              have HC126_12 := Aside0.mk hl126_12
              clear hi126_12 hl126_12
              replace p126 := eq_true p126
              replace q126 := eq_true q126
              have p127 : 0 ≤ (x6_1 : Int) := of_decide_eq_true (by first | (with_reducible assumption) | assumption)
              have q127 : x6_1 < (l0.length : Int) := of_decide_eq_true (by first | (with_reducible assumption) | assumption)
              obtain ⟨ad127, A127_12, c127_12, e127, hx127_0, hx127_1, hx127_2, hx127_3, hx127_4, hx127_5, hx127_6, hx127_7, hx127_8, hx127_9, hx127_10, hx127_11, hx127_12, hl127_12, hi127_12⟩ := at_T38 HR0.out x6_1 p127 q127
              have hw127_12 := hx127_12
              have hw127_11 := hx127_11
              have hw127_10 := hx127_10
              have hw127_9 := hx127_9
              have hw127_8 := hx127_8
              have hw127_7 := hx127_7
              have hw127_6 := hx127_6
              have hw127_5 := hx127_5
              have hw127_4 := hx127_4
              have hw127_3 := hx127_3
              have hw127_2 := hx127_2
              have hw127_1 := hx127_1
              have hw127_0 := hx127_0
              obtain rfl : ad126 = ad127 := (by injection e127)
              replace hx127_0 := (HB.out.cell (World.block_lt_of_cell? w _ hx127_0)).trans hx127_0
              replace hx127_1 := (HB.out.cell (World.block_lt_of_cell? w _ hx127_1)).trans hx127_1
              replace hx127_2 := (HB.out.cell (World.block_lt_of_cell? w _ hx127_2)).trans hx127_2
              replace hx127_3 := (HB.out.cell (World.block_lt_of_cell? w _ hx127_3)).trans hx127_3
              replace hx127_4 := (HB.out.cell (World.block_lt_of_cell? w _ hx127_4)).trans hx127_4
              replace hx127_5 := (HB.out.cell (World.block_lt_of_cell? w _ hx127_5)).trans hx127_5
              replace hx127_6 := (HB.out.cell (World.block_lt_of_cell? w _ hx127_6)).trans hx127_6
              replace hx127_7 := (HB.out.cell (World.block_lt_of_cell? w _ hx127_7)).trans hx127_7
              replace hx127_8 := (HB.out.cell (World.block_lt_of_cell? w _ hx127_8)).trans hx127_8
              replace hx127_9 := (HB.out.cell (World.block_lt_of_cell? w _ hx127_9)).trans hx127_9
              replace hx127_10 := (HB.out.cell (World.block_lt_of_cell? w _ hx127_10)).trans hx127_10
              replace hx127_11 := (HB.out.cell (World.block_lt_of_cell? w _ hx127_11)).trans hx127_11
              replace hx127_12 := (HB.out.cell (World.block_lt_of_cell? w _ hx127_12)).trans hx127_12
              have HR127_12 := Aside0.mk hi127_12
              have HC127_12 := Aside0.mk hl127_12
              clear hi127_12 hl127_12
              replace p127 := eq_true p127
              replace q127 := eq_true q127
              have ea_ := Option.some.inj (hx126_12.symm.trans hx127_12)
              injection ea_ with ea_ en_ ec_
              subst ea_
              subst ec_
              clear en_
              refine start_ (n := 25) (S := fun w' => w'.cell? ⟨gb125, 0, none⟩ = some (.int .i64 a1_0) ∧ w'.cell? ⟨gb125, 1, none⟩ = some (.int .i64 a1_1) ∧ w'.cell? ⟨gb125, 2, none⟩ = some (.int .i64 a1_2) ∧ w'.cell? ⟨gb125, 3, none⟩ = some (.int .i64 a1_3) ∧ w'.cell? ⟨gb125, 4, none⟩ = some (.int .i64 a1_4) ∧ w'.cell? ⟨gb125, 5, none⟩ = some (.int .i64 a1_5) ∧ w'.cell? ⟨gb125, 6, none⟩ = some (.int .u64 a1_6) ∧ w'.cell? ⟨gb125, 7, none⟩ = some (.int .u64 a1_7) ∧ w'.cell? ⟨gb125, 8, none⟩ = some (.int .i64 a1_8) ∧ w'.cell? ⟨gb125, 9, none⟩ = some (.int .i64 a1_9) ∧ w'.cell? ⟨gb125, 10, none⟩ = some (.bool a1_10) ∧ w'.cell? ⟨gb125, 11, none⟩ = some (.int .u64 a1_11) ∧ w'.cell? ⟨gb125, 12, none⟩ = some (.slice A1_12 l1_12.length c1_12) ∧ w'.cell? (ad126.add ((x6_1).toNat * 13)) = some (.int .i64 ((rd_T38 l0 x6_1).f0)) ∧ w'.cell? ⟨(ad126.add ((x6_1).toNat * 13)).block, (ad126.add ((x6_1).toNat * 13)).off + 1, none⟩ = some (.int .i64 ((rd_T38 l0 x6_1).f1)) ∧ w'.cell? ⟨(ad126.add ((x6_1).toNat * 13)).block, (ad126.add ((x6_1).toNat * 13)).off + 2, none⟩ = some (.int .i64 ((rd_T38 l0 x6_1).f2)) ∧ w'.cell? ⟨(ad126.add ((x6_1).toNat * 13)).block, (ad126.add ((x6_1).toNat * 13)).off + 3, none⟩ = some (.int .i64 ((rd_T38 l0 x6_1).f3)) ∧ w'.cell? ⟨(ad126.add ((x6_1).toNat * 13)).block, (ad126.add ((x6_1).toNat * 13)).off + 4, none⟩ = some (.int .i64 ((rd_T38 l0 x6_1).f4)) ∧ w'.cell? ⟨(ad126.add ((x6_1).toNat * 13)).block, (ad126.add ((x6_1).toNat * 13)).off + 5, none⟩ = some (.int .i64 ((rd_T38 l0 x6_1).f5.f0)) ∧ w'.cell? ⟨(ad126.add ((x6_1).toNat * 13)).block, (ad126.add ((x6_1).toNat * 13)).off + 6, none⟩ = some (.int .u64 ((rd_T38 l0 x6_1).f5.f1)) ∧ w'.cell? ⟨(ad126.add ((x6_1).toNat * 13)).block, (ad126.add ((x6_1).toNat * 13)).off + 7, none⟩ = some (.int .u64 ((rd_T38 l0 x6_1).f5.f2)) ∧ w'.cell? ⟨(ad126.add ((x6_1).toNat * 13)).block, (ad126.add ((x6_1).toNat * 13)).off + 8, none⟩ = some (.int .i64 ((rd_T38 l0 x6_1).f5.f3)) ∧ w'.cell? ⟨(ad126.add ((x6_1).toNat * 13)).block, (ad126.add ((x6_1).toNat * 13)).off + 9, none⟩ = some (.int .i64 ((rd_T38 l0 x6_1).f6.f0)) ∧ w'.cell? ⟨(ad126.add ((x6_1).toNat * 13)).block, (ad126.add ((x6_1).toNat * 13)).off + 10, none⟩ = some (.bool ((rd_T38 l0 x6_1).f6.f1)) ∧ w'.cell? ⟨(ad126.add ((x6_1).toNat * 13)).block, (ad126.add ((x6_1).toNat * 13)).off + 11, none⟩ = some (.int .u64 ((rd_T38 l0 x6_1).f6.f2)) ∧ w'.cell? ⟨(ad126.add ((x6_1).toNat * 13)).block, (ad126.add ((x6_1).toNat * 13)).off + 12, none⟩ = some (.slice A126_12 ((rd_T38 l0 x6_1).f6.f3).length c126_12) ∧ w'.cell? (ad126.add ((x6_1).toNat * 13)) = some (.int .i64 ((rd_T38 l0 x6_1).f0)) ∧ w'.cell? ⟨(ad126.add ((x6_1).toNat * 13)).block, (ad126.add ((x6_1).toNat * 13)).off + 1, none⟩ = some (.int .i64 ((rd_T38 l0 x6_1).f1)) ∧ w'.cell? ⟨(ad126.add ((x6_1).toNat * 13)).block, (ad126.add ((x6_1).toNat * 13)).off + 2, none⟩ = some (.int .i64 ((rd_T38 l0 x6_1).f2)) ∧ w'.cell? ⟨(ad126.add ((x6_1).toNat * 13)).block, (ad126.add ((x6_1).toNat * 13)).off + 3, none⟩ = some (.int .i64 ((rd_T38 l0 x6_1).f3)) ∧ w'.cell? ⟨(ad126.add ((x6_1).toNat * 13)).block, (ad126.add ((x6_1).toNat * 13)).off + 4, none⟩ = some (.int .i64 ((rd_T38 l0 x6_1).f4)) ∧ w'.cell? ⟨(ad126.add ((x6_1).toNat * 13)).block, (ad126.add ((x6_1).toNat * 13)).off + 5, none⟩ = some (.int .i64 ((rd_T38 l0 x6_1).f5.f0)) ∧ w'.cell? ⟨(ad126.add ((x6_1).toNat * 13)).block, (ad126.add ((x6_1).toNat * 13)).off + 6, none⟩ = some (.int .u64 ((rd_T38 l0 x6_1).f5.f1)) ∧ w'.cell? ⟨(ad126.add ((x6_1).toNat * 13)).block, (ad126.add ((x6_1).toNat * 13)).off + 7, none⟩ = some (.int .u64 ((rd_T38 l0 x6_1).f5.f2)) ∧ w'.cell? ⟨(ad126.add ((x6_1).toNat * 13)).block, (ad126.add ((x6_1).toNat * 13)).off + 8, none⟩ = some (.int .i64 ((rd_T38 l0 x6_1).f5.f3)) ∧ w'.cell? ⟨(ad126.add ((x6_1).toNat * 13)).block, (ad126.add ((x6_1).toNat * 13)).off + 9, none⟩ = some (.int .i64 ((rd_T38 l0 x6_1).f6.f0)) ∧ w'.cell? ⟨(ad126.add ((x6_1).toNat * 13)).block, (ad126.add ((x6_1).toNat * 13)).off + 10, none⟩ = some (.bool ((rd_T38 l0 x6_1).f6.f1)) ∧ w'.cell? ⟨(ad126.add ((x6_1).toNat * 13)).block, (ad126.add ((x6_1).toNat * 13)).off + 11, none⟩ = some (.int .u64 ((rd_T38 l0 x6_1).f6.f2)) ∧ w'.cell? ⟨(ad126.add ((x6_1).toNat * 13)).block, (ad126.add ((x6_1).toNat * 13)).off + 12, none⟩ = some (.slice A126_12 ((rd_T38 l0 x6_1).f6.f3).length c126_12)) (ds := []) #[false, false, false, false, false, false, false, false, false, false, false, false, false, false, false, false, false, false, false, false, false, false, false, false, false] (by kernel_rfl) rfl rfl ⟨(blk_cell BK125.out 0).trans rfl, (blk_cell BK125.out 1).trans rfl, (blk_cell BK125.out 2).trans rfl, (blk_cell BK125.out 3).trans rfl, (blk_cell BK125.out 4).trans rfl, (blk_cell BK125.out 5).trans rfl, (blk_cell BK125.out 6).trans rfl, (blk_cell BK125.out 7).trans rfl, (blk_cell BK125.out 8).trans rfl, (blk_cell BK125.out 9).trans rfl, (blk_cell BK125.out 10).trans rfl, (blk_cell BK125.out 11).trans rfl, (blk_cell BK125.out 12).trans rfl, ((HB.out.cell (World.block_lt_of_cell? w _ hw126_0)).trans hw126_0), ((HB.out.cell (World.block_lt_of_cell? w _ hw126_1)).trans hw126_1), ((HB.out.cell (World.block_lt_of_cell? w _ hw126_2)).trans hw126_2), ((HB.out.cell (World.block_lt_of_cell? w _ hw126_3)).trans hw126_3), ((HB.out.cell (World.block_lt_of_cell? w _ hw126_4)).trans hw126_4), ((HB.out.cell (World.block_lt_of_cell? w _ hw126_5)).trans hw126_5), ((HB.out.cell (World.block_lt_of_cell? w _ hw126_6)).trans hw126_6), ((HB.out.cell (World.block_lt_of_cell? w _ hw126_7)).trans hw126_7), ((HB.out.cell (World.block_lt_of_cell? w _ hw126_8)).trans hw126_8), ((HB.out.cell (World.block_lt_of_cell? w _ hw126_9)).trans hw126_9), ((HB.out.cell (World.block_lt_of_cell? w _ hw126_10)).trans hw126_10), ((HB.out.cell (World.block_lt_of_cell? w _ hw126_11)).trans hw126_11), ((HB.out.cell (World.block_lt_of_cell? w _ hw126_12)).trans hw126_12), ((HB.out.cell (World.block_lt_of_cell? w _ hw127_0)).trans hw127_0), ((HB.out.cell (World.block_lt_of_cell? w _ hw127_1)).trans hw127_1), ((HB.out.cell (World.block_lt_of_cell? w _ hw127_2)).trans hw127_2), ((HB.out.cell (World.block_lt_of_cell? w _ hw127_3)).trans hw127_3), ((HB.out.cell (World.block_lt_of_cell? w _ hw127_4)).trans hw127_4), ((HB.out.cell (World.block_lt_of_cell? w _ hw127_5)).trans hw127_5), ((HB.out.cell (World.block_lt_of_cell? w _ hw127_6)).trans hw127_6), ((HB.out.cell (World.block_lt_of_cell? w _ hw127_7)).trans hw127_7), ((HB.out.cell (World.block_lt_of_cell? w _ hw127_8)).trans hw127_8), ((HB.out.cell (World.block_lt_of_cell? w _ hw127_9)).trans hw127_9), ((HB.out.cell (World.block_lt_of_cell? w _ hw127_10)).trans hw127_10), ((HB.out.cell (World.block_lt_of_cell? w _ hw127_11)).trans hw127_11), ((HB.out.cell (World.block_lt_of_cell? w _ hw127_12)).trans hw127_12)⟩ (fun hHeld => ?_); refine with_tabW corrieref19_Inserts.tab5 corrieref19_Inserts.bits5 (fun HT_ HW_ => ?_)
              generalize wr.drew = w9 at BK125 HB HR126_12 HR127_12 hx126_0 hx126_1 hx126_10 hx126_11 hx126_12 hx126_2 hx126_3 hx126_4 hx126_5 hx126_6 hx126_7 hx126_8 hx126_9 hx127_0 hx127_1 hx127_10 hx127_11 hx127_12 hx127_2 hx127_3 hx127_4 hx127_5 hx127_6 hx127_7 hx127_8 hx127_9 hHeld ⊢
              refine pure_ (i := 0) (N := some 13) (v := ?_) (a' := ?_) #[true, false, false, false, false, false, false, false, false, false, false, false, false, false, false, false, false, false, false, false, false, false, false, false, false] rfl rfl (any_of HT_.out (by kernel_rfl)) (fun _ _ _ h => h) (Or.inl ⟨by rfl, ?_⟩) ?_ ?_
              rotate_left
              · intro w'
                go_simp
                with_reducible rfl
              rotate_left
              · simp only [Act.put, List.setIfInBounds_toArray, List.set_cons_zero, List.set_cons_succ, i64_w, i32_w]
                rfl
              refine pure_ (i := 1) (N := some 14) (v := ?_) (a' := ?_) #[true, true, false, false, false, false, false, false, false, false, false, false, false, false, false, false, false, false, false, false, false, false, false, false, false] rfl rfl (any_of HT_.out (by kernel_rfl)) (fun _ _ _ h => h) (Or.inl ⟨by rfl, ?_⟩) ?_ ?_
              rotate_left
              · intro w'
                go_simp
                with_reducible rfl
              rotate_left
              · simp only [Act.put, List.setIfInBounds_toArray, List.set_cons_zero, List.set_cons_succ, i64_w, i32_w]
                rfl
              refine pure_ (i := 2) (N := some 15) (v := ?_) (a' := ?_) #[true, true, true, false, false, false, false, false, false, false, false, false, false, false, false, false, false, false, false, false, false, false, false, false, false] rfl rfl (any_of HT_.out (by kernel_rfl)) (fun _ _ _ h => h) (Or.inl ⟨by rfl, ?_⟩) ?_ ?_
              rotate_left
              · intro w'
                go_simp
                with_reducible rfl
              rotate_left
              · simp only [Act.put, List.setIfInBounds_toArray, List.set_cons_zero, List.set_cons_succ, i64_w, i32_w]
                rfl
              refine pure_ (i := 3) (N := some 16) (v := ?_) (a' := ?_) #[true, true, true, true, false, false, false, false, false, false, false, false, false, false, false, false, false, false, false, false, false, false, false, false, false] rfl rfl (any_of HT_.out (by kernel_rfl)) (fun _ _ _ h => h) (Or.inl ⟨by rfl, ?_⟩) ?_ ?_
              rotate_left
              · intro w'
                go_simp
                with_reducible rfl
              rotate_left
              · simp only [Act.put, List.setIfInBounds_toArray, List.set_cons_zero, List.set_cons_succ, i64_w, i32_w]
                rfl
              refine pure_ (i := 4) (N := some 17) (v := ?_) (a' := ?_) #[true, true, true, true, true, false, false, false, false, false, false, false, false, false, false, false, false, false, false, false, false, false, false, false, false] rfl rfl (any_of HT_.out (by kernel_rfl)) (fun _ _ _ h => h) (Or.inl ⟨by rfl, ?_⟩) ?_ ?_
              rotate_left
              · intro w'
                go_simp
                with_reducible rfl
              rotate_left
              · simp only [Act.put, List.setIfInBounds_toArray, List.set_cons_zero, List.set_cons_succ, i64_w, i32_w]
                rfl
              refine take_ (i := 5) (N := some 18) (v := ?_) (a' := ?_) #[true, true, true, true, true, true, false, false, false, false, false, false, false, false, false, false, false, false, false, false, false, false, false, false, false] rfl rfl (take_ofW HT_.out HW_.out (by kernel_rfl)) (fun _ _ _ h => h) (Or.inl ⟨by rfl, ?_⟩) hHeld ?_ ?_
              rotate_left
              · rintro w' ⟨s0, s1, s2, s3, s4, s5, s6, s7, s8, s9, s10, s11, s12, s13, s14, s15, s16, s17, s18, s19, s20, s21, s22, s23, s24, s25, s26, s27, s28, s29, s30, s31, s32, s33, s34, s35, s36, s37, s38⟩
                go_simp
                with_reducible rfl
              rotate_left
              · simp only [Act.put, List.setIfInBounds_toArray, List.set_cons_zero, List.set_cons_succ, i64_w, i32_w]
                rfl
              refine pure_ (i := 6) (N := some 19) (v := ?_) (a' := ?_) #[true, true, true, true, true, true, true, false, false, false, false, false, false, false, false, false, false, false, false, false, false, false, false, false, false] rfl rfl (any_of HT_.out (by kernel_rfl)) (fun _ _ _ h => h) (Or.inl ⟨by rfl, ?_⟩) ?_ ?_
              rotate_left
              · intro w'
                go_simp
                with_reducible rfl
              rotate_left
              · simp only [Act.put, List.setIfInBounds_toArray, List.set_cons_zero, List.set_cons_succ, i64_w, i32_w]
                rfl
              refine pure_ (i := 7) (N := some 20) (v := ?_) (a' := ?_) #[true, true, true, true, true, true, true, true, false, false, false, false, false, false, false, false, false, false, false, false, false, false, false, false, false] rfl rfl (any_of HT_.out (by kernel_rfl)) (fun _ _ _ h => h) (Or.inl ⟨by rfl, ?_⟩) ?_ ?_
              rotate_left
              · intro w'
                go_simp
                with_reducible rfl
              rotate_left
              · simp only [Act.put, List.setIfInBounds_toArray, List.set_cons_zero, List.set_cons_succ, i64_w, i32_w]
                rfl
              refine pure_ (i := 8) (N := some 21) (v := ?_) (a' := ?_) #[true, true, true, true, true, true, true, true, true, false, false, false, false, false, false, false, false, false, false, false, false, false, false, false, false] rfl rfl (any_of HT_.out (by kernel_rfl)) (fun _ _ _ h => h) (Or.inl ⟨by rfl, ?_⟩) ?_ ?_
              rotate_left
              · intro w'
                go_simp
                with_reducible rfl
              rotate_left
              · simp only [Act.put, List.setIfInBounds_toArray, List.set_cons_zero, List.set_cons_succ, i64_w, i32_w]
                rfl
              refine pure_ (i := 9) (N := some 22) (v := ?_) (a' := ?_) #[true, true, true, true, true, true, true, true, true, true, false, false, false, false, false, false, false, false, false, false, false, false, false, false, false] rfl rfl (any_of HT_.out (by kernel_rfl)) (fun _ _ _ h => h) (Or.inl ⟨by rfl, ?_⟩) ?_ ?_
              rotate_left
              · intro w'
                go_simp
                with_reducible rfl
              rotate_left
              · simp only [Act.put, List.setIfInBounds_toArray, List.set_cons_zero, List.set_cons_succ, i64_w, i32_w]
                rfl
              refine pure_ (i := 10) (N := some 23) (v := ?_) (a' := ?_) #[true, true, true, true, true, true, true, true, true, true, true, false, false, false, false, false, false, false, false, false, false, false, false, false, false] rfl rfl (any_of HT_.out (by kernel_rfl)) (fun _ _ _ h => h) (Or.inl ⟨by rfl, ?_⟩) ?_ ?_
              rotate_left
              · intro w'
                go_simp
                with_reducible rfl
              rotate_left
              · simp only [Act.put, List.setIfInBounds_toArray, List.set_cons_zero, List.set_cons_succ, i64_w, i32_w]
                rfl
              refine take_ (i := 11) (N := some 24) (v := ?_) (a' := ?_) #[true, true, true, true, true, true, true, true, true, true, true, true, false, false, false, false, false, false, false, false, false, false, false, false, false] rfl rfl (take_ofW HT_.out HW_.out (by kernel_rfl)) (fun _ _ _ h => h) (Or.inl ⟨by rfl, ?_⟩) hHeld ?_ ?_
              rotate_left
              · rintro w' ⟨s0, s1, s2, s3, s4, s5, s6, s7, s8, s9, s10, s11, s12, s13, s14, s15, s16, s17, s18, s19, s20, s21, s22, s23, s24, s25, s26, s27, s28, s29, s30, s31, s32, s33, s34, s35, s36, s37, s38⟩
                go_simp
                with_reducible rfl
              rotate_left
              · simp only [Act.put, List.setIfInBounds_toArray, List.set_cons_zero, List.set_cons_succ, i64_w, i32_w]
                rfl
              refine take_ (i := 12) (N := some 25) (v := ?_) (a' := ?_) #[true, true, true, true, true, true, true, true, true, true, true, true, true, false, false, false, false, false, false, false, false, false, false, false, false] rfl rfl (take_ofW HT_.out HW_.out (by kernel_rfl)) (fun _ _ _ h => h) (Or.inl ⟨by rfl, ?_⟩) hHeld ?_ ?_
              rotate_left
              · rintro w' ⟨s0, s1, s2, s3, s4, s5, s6, s7, s8, s9, s10, s11, s12, s13, s14, s15, s16, s17, s18, s19, s20, s21, s22, s23, s24, s25, s26, s27, s28, s29, s30, s31, s32, s33, s34, s35, s36, s37, s38⟩
                go_simp
                with_reducible rfl
              rotate_left
              · simp only [Act.put, List.setIfInBounds_toArray, List.set_cons_zero, List.set_cons_succ, i64_w, i32_w]
                rfl
              refine one_ (i := 13) (N := some 26) #[true, true, true, true, true, true, true, true, true, true, true, true, true, true, false, false, false, false, false, false, false, false, false, false, false] rfl rfl (one_of HT_.out (by kernel_rfl)) (by decide) (fun K hK => ?_)
              refine goes_ Try.func36 (by kernel_rfl) rfl #[.agg #[.int .i64 ((rd_T38 l0 x6_1).f0), .int .i64 ((rd_T38 l0 x6_1).f1), .int .i64 ((rd_T38 l0 x6_1).f2), .int .i64 ((rd_T38 l0 x6_1).f3), .int .i64 ((rd_T38 l0 x6_1).f4), .int .i64 ((rd_T38 l0 x6_1).f5.f0), .int .u64 ((rd_T38 l0 x6_1).f5.f1), .int .u64 ((rd_T38 l0 x6_1).f5.f2), .int .i64 ((rd_T38 l0 x6_1).f5.f3), .int .i64 ((rd_T38 l0 x6_1).f6.f0), .bool ((rd_T38 l0 x6_1).f6.f1), .int .u64 ((rd_T38 l0 x6_1).f6.f2), .slice A126_12 ((rd_T38 l0 x6_1).f6.f3).length c126_12], .agg #[.int .i64 a1_0, .int .i64 a1_1, .int .i64 a1_2, .int .i64 a1_3, .int .i64 a1_4, .int .i64 a1_5, .int .u64 a1_6, .int .u64 a1_7, .int .i64 a1_8, .int .i64 a1_9, .bool a1_10, .int .u64 a1_11, .slice A1_12 l1_12.length c1_12]] (by rfl) rfl rfl (by (try simp only [List.map_toArray, List.map_cons, List.map_nil]); first | done | rfl | (simp only [List.length_drop, List.length_take]; rfl)) ?_
              with_reducible refine (corrieref19_Before.calls ((rd_T38 l0 x6_1).f0) ((rd_T38 l0 x6_1).f1) ((rd_T38 l0 x6_1).f2) ((rd_T38 l0 x6_1).f3) ((rd_T38 l0 x6_1).f4) ((rd_T38 l0 x6_1).f5.f0) ((rd_T38 l0 x6_1).f5.f1) ((rd_T38 l0 x6_1).f5.f2) ((rd_T38 l0 x6_1).f5.f3) ((rd_T38 l0 x6_1).f6.f0) ((rd_T38 l0 x6_1).f6.f1) ((rd_T38 l0 x6_1).f6.f2) _ _ ((rd_T38 l0 x6_1).f6.f3) a1_0 a1_1 a1_2 a1_3 a1_4 a1_5 a1_6 a1_7 a1_8 a1_9 a1_10 a1_11 _ _ l1_12 true _ ?side1 ?side2 ?side3 ?side4 A7.out).mono ?_
              (case side1 => repeat (first | exact (Kd.C_below HR127_12.out HB.out) | (with_reducible refine Kd.C_alloc ?_ _) | (with_reducible refine Kd.C_drewN ?_ _) | (with_reducible refine Kd.C_drew ?_)))
              (case side2 => exact HC127_12.out)
              (case side3 => repeat (first | exact (Kd.C_below HR1_12.out HB.out) | (with_reducible refine Kd.C_alloc ?_ _) | (with_reducible refine Kd.C_drewN ?_ _) | (with_reducible refine Kd.C_drew ?_)))
              (case side4 => exact HC1_12.out)
              rintro e w10 ⟨rfl, hb⟩
              refine ⟨_, rfl, ?_⟩
              have n0_ := Aside0.mk (blk_below (g := gb125) (o := .cells #[.int .i64 a1_0, .int .i64 a1_1, .int .i64 a1_2, .int .i64 a1_3, .int .i64 a1_4, .int .i64 a1_5, .int .u64 a1_6, .int .u64 a1_7, .int .i64 a1_8, .int .i64 a1_9, .bool a1_10, .int .u64 a1_11, .slice A1_12 l1_12.length c1_12] 38 (0, 0)) (by (with_reducible repeat (first | refine blk_drewN ?_ _ | refine blk_drew ?_ | refine blk_alloc ?_ _)); exact BK125.out) hb)
              have n1_ := Aside0.mk (below_step (by repeat (first | (with_reducible first | exact HB.out | apply below_alloc | apply pw_below_drewN | apply below_drew1 | refine below_set ?_ GE125.out) | exact HB.out)) hb)
              clear BK125
              clear HB
              have BK125 := n0_
              have HB := n1_
              clear n0_ n1_
              (try clear hb)
              (try clear hb2)
              (try clear hk)
              (try clear hi)
              refine hK.out _ _ ⟨(blk_cell BK125.out 0).trans rfl, (blk_cell BK125.out 1).trans rfl, (blk_cell BK125.out 2).trans rfl, (blk_cell BK125.out 3).trans rfl, (blk_cell BK125.out 4).trans rfl, (blk_cell BK125.out 5).trans rfl, (blk_cell BK125.out 6).trans rfl, (blk_cell BK125.out 7).trans rfl, (blk_cell BK125.out 8).trans rfl, (blk_cell BK125.out 9).trans rfl, (blk_cell BK125.out 10).trans rfl, (blk_cell BK125.out 11).trans rfl, (blk_cell BK125.out 12).trans rfl, ((HB.out.cell (World.block_lt_of_cell? w _ hw126_0)).trans hw126_0), ((HB.out.cell (World.block_lt_of_cell? w _ hw126_1)).trans hw126_1), ((HB.out.cell (World.block_lt_of_cell? w _ hw126_2)).trans hw126_2), ((HB.out.cell (World.block_lt_of_cell? w _ hw126_3)).trans hw126_3), ((HB.out.cell (World.block_lt_of_cell? w _ hw126_4)).trans hw126_4), ((HB.out.cell (World.block_lt_of_cell? w _ hw126_5)).trans hw126_5), ((HB.out.cell (World.block_lt_of_cell? w _ hw126_6)).trans hw126_6), ((HB.out.cell (World.block_lt_of_cell? w _ hw126_7)).trans hw126_7), ((HB.out.cell (World.block_lt_of_cell? w _ hw126_8)).trans hw126_8), ((HB.out.cell (World.block_lt_of_cell? w _ hw126_9)).trans hw126_9), ((HB.out.cell (World.block_lt_of_cell? w _ hw126_10)).trans hw126_10), ((HB.out.cell (World.block_lt_of_cell? w _ hw126_11)).trans hw126_11), ((HB.out.cell (World.block_lt_of_cell? w _ hw126_12)).trans hw126_12), ((HB.out.cell (World.block_lt_of_cell? w _ hw127_0)).trans hw127_0), ((HB.out.cell (World.block_lt_of_cell? w _ hw127_1)).trans hw127_1), ((HB.out.cell (World.block_lt_of_cell? w _ hw127_2)).trans hw127_2), ((HB.out.cell (World.block_lt_of_cell? w _ hw127_3)).trans hw127_3), ((HB.out.cell (World.block_lt_of_cell? w _ hw127_4)).trans hw127_4), ((HB.out.cell (World.block_lt_of_cell? w _ hw127_5)).trans hw127_5), ((HB.out.cell (World.block_lt_of_cell? w _ hw127_6)).trans hw127_6), ((HB.out.cell (World.block_lt_of_cell? w _ hw127_7)).trans hw127_7), ((HB.out.cell (World.block_lt_of_cell? w _ hw127_8)).trans hw127_8), ((HB.out.cell (World.block_lt_of_cell? w _ hw127_9)).trans hw127_9), ((HB.out.cell (World.block_lt_of_cell? w _ hw127_10)).trans hw127_10), ((HB.out.cell (World.block_lt_of_cell? w _ hw127_11)).trans hw127_11), ((HB.out.cell (World.block_lt_of_cell? w _ hw127_12)).trans hw127_12)⟩ (fun hHeld => ?_)
              clear hK K
              refine norm_ (a' := ?_) ?_ ?_
              rotate_left
              · show Act.put _ (some 26) _ = _
                simp only [Act.put, List.setIfInBounds_toArray, List.set_cons_zero, List.set_cons_succ, i64_w, i32_w]
                rfl
              refine pure_ (i := 14) (N := some 27) (v := ?_) (a' := ?_) #[true, true, true, true, true, true, true, true, true, true, true, true, true, true, true, false, false, false, false, false, false, false, false, false, false] rfl rfl (any_of HT_.out (by kernel_rfl)) (fun _ _ _ h => h) (Or.inl ⟨by rfl, ?_⟩) ?_ ?_
              rotate_left
              · intro w'
                go_simp
                with_reducible rfl
              rotate_left
              · simp only [Act.put, List.setIfInBounds_toArray, List.set_cons_zero, List.set_cons_succ, i64_w, i32_w]
                rfl
              refine pure_ (i := 15) (N := some 28) (v := ?_) (a' := ?_) #[true, true, true, true, true, true, true, true, true, true, true, true, true, true, true, true, false, false, false, false, false, false, false, false, false] rfl rfl (any_of HT_.out (by kernel_rfl)) (fun _ _ _ h => h) (Or.inl ⟨by rfl, ?_⟩) ?_ ?_
              rotate_left
              · intro w'
                go_simp
                with_reducible rfl
              rotate_left
              · simp only [Act.put, List.setIfInBounds_toArray, List.set_cons_zero, List.set_cons_succ, i64_w, i32_w]
                rfl
              refine pure_ (i := 16) (N := some 29) (v := ?_) (a' := ?_) #[true, true, true, true, true, true, true, true, true, true, true, true, true, true, true, true, true, false, false, false, false, false, false, false, false] rfl rfl (any_of HT_.out (by kernel_rfl)) (fun _ _ _ h => h) (Or.inl ⟨by rfl, ?_⟩) ?_ ?_
              rotate_left
              · intro w'
                go_simp
                with_reducible rfl
              rotate_left
              · simp only [Act.put, List.setIfInBounds_toArray, List.set_cons_zero, List.set_cons_succ, i64_w, i32_w]
                rfl
              refine pure_ (i := 17) (N := some 30) (v := undef) (a' := ?_) #[true, true, true, true, true, true, true, true, true, true, true, true, true, true, true, true, true, true, false, false, false, false, false, false, false] rfl rfl (any_of HT_.out (by kernel_rfl)) (fun _ _ _ h => h) (Or.inr ⟨by rfl, rfl⟩) ?_ ?_
              rotate_left
              · simp only [Act.put, List.setIfInBounds_toArray, List.set_cons_zero, List.set_cons_succ, i64_w, i32_w]
                rfl
              refine pure_ (i := 18) (N := some 31) (v := undef) (a' := ?_) #[true, true, true, true, true, true, true, true, true, true, true, true, true, true, true, true, true, true, true, false, false, false, false, false, false] rfl rfl (any_of HT_.out (by kernel_rfl)) (fun _ _ _ h => h) (Or.inr ⟨by rfl, rfl⟩) ?_ ?_
              rotate_left
              · simp only [Act.put, List.setIfInBounds_toArray, List.set_cons_zero, List.set_cons_succ, i64_w, i32_w]
                rfl
              refine pure_ (i := 19) (N := some 32) (v := undef) (a' := ?_) #[true, true, true, true, true, true, true, true, true, true, true, true, true, true, true, true, true, true, true, true, false, false, false, false, false] rfl rfl (any_of HT_.out (by kernel_rfl)) (fun _ _ _ h => h) (Or.inr ⟨by rfl, rfl⟩) ?_ ?_
              rotate_left
              · simp only [Act.put, List.setIfInBounds_toArray, List.set_cons_zero, List.set_cons_succ, i64_w, i32_w]
                rfl
              refine pure_ (i := 20) (N := some 33) (v := undef) (a' := ?_) #[true, true, true, true, true, true, true, true, true, true, true, true, true, true, true, true, true, true, true, true, true, false, false, false, false] rfl rfl (any_of HT_.out (by kernel_rfl)) (fun _ _ _ h => h) (Or.inr ⟨by rfl, rfl⟩) ?_ ?_
              rotate_left
              · simp only [Act.put, List.setIfInBounds_toArray, List.set_cons_zero, List.set_cons_succ, i64_w, i32_w]
                rfl
              refine pure_ (i := 21) (N := some 34) (v := undef) (a' := ?_) #[true, true, true, true, true, true, true, true, true, true, true, true, true, true, true, true, true, true, true, true, true, true, false, false, false] rfl rfl (any_of HT_.out (by kernel_rfl)) (fun _ _ _ h => h) (Or.inr ⟨by rfl, rfl⟩) ?_ ?_
              rotate_left
              · simp only [Act.put, List.setIfInBounds_toArray, List.set_cons_zero, List.set_cons_succ, i64_w, i32_w]
                rfl
              refine pure_ (i := 22) (N := some 35) (v := undef) (a' := ?_) #[true, true, true, true, true, true, true, true, true, true, true, true, true, true, true, true, true, true, true, true, true, true, true, false, false] rfl rfl (any_of HT_.out (by kernel_rfl)) (fun _ _ _ h => h) (Or.inr ⟨by rfl, rfl⟩) ?_ ?_
              rotate_left
              · simp only [Act.put, List.setIfInBounds_toArray, List.set_cons_zero, List.set_cons_succ, i64_w, i32_w]
                rfl
              refine pure_ (i := 23) (N := some 36) (v := undef) (a' := ?_) #[true, true, true, true, true, true, true, true, true, true, true, true, true, true, true, true, true, true, true, true, true, true, true, true, false] rfl rfl (any_of HT_.out (by kernel_rfl)) (fun _ _ _ h => h) (Or.inr ⟨by rfl, rfl⟩) ?_ ?_
              rotate_left
              · simp only [Act.put, List.setIfInBounds_toArray, List.set_cons_zero, List.set_cons_succ, i64_w, i32_w]
                rfl
              refine pure_ (i := 24) (N := some 37) (v := ?_) (a' := ?_) #[true, true, true, true, true, true, true, true, true, true, true, true, true, true, true, true, true, true, true, true, true, true, true, true, true] rfl rfl (any_of HT_.out (by kernel_rfl)) (fun _ _ _ h => h) (Or.inl ⟨by rfl, ?_⟩) ?_ ?_
              rotate_left
              · intro w'
                go_simp
                with_reducible rfl
              rotate_left
              · simp only [Act.put, List.setIfInBounds_toArray, List.set_cons_zero, List.set_cons_succ, i64_w, i32_w]
                rfl
              refine done_ (done_of HT_.out (by kernel_rfl)) ?_
              try go_wp2
              go_roundg k1
              case measure => have := HK1.out; omega
              case rel => exact ⟨(x5_1), (wrap64 (x6_1 + 1)), (by first | rfl | (simp; done) | (simp [*]; done)), (by first | rfl | (simp; done) | (simp [*]; done)), H', ⟨by have := HK1.out; omega⟩, ⟨by (with_reducible repeat (first | refine blk_drewN ?_ _ | refine blk_drew ?_ | refine blk_alloc ?_ _)); exact BK125.out⟩, ⟨by repeat (first | (with_reducible first | exact HB.out | apply below_alloc | apply pw_below_drewN | apply below_drew1 | refine below_set ?_ GE125.out) | exact HB.out)⟩⟩
            · replace c8 := Bool.eq_false_iff.mpr c8
              subst c8
              have H1 : ((corrieref19_Before.f a1_0 a1_1 a1_2 a1_3 a1_4 a1_5 a1_6 a1_7 a1_8 a1_9 a1_10 a1_11 l1_12 ((rd_T38 l0 x6_1).f0) ((rd_T38 l0 x6_1).f1) ((rd_T38 l0 x6_1).f2) ((rd_T38 l0 x6_1).f3) ((rd_T38 l0 x6_1).f4) ((rd_T38 l0 x6_1).f5.f0) ((rd_T38 l0 x6_1).f5.f1) ((rd_T38 l0 x6_1).f5.f2) ((rd_T38 l0 x6_1).f5.f3) ((rd_T38 l0 x6_1).f6.f0) ((rd_T38 l0 x6_1).f6.f1) ((rd_T38 l0 x6_1).f6.f2) ((rd_T38 l0 x6_1).f6.f3)).bind fun t130 => (if t130 = true then (corrieref19_Inserts.l0 k1 l0 x5_1 (wrap64 (x6_1 + 1)) a1_0 a1_1 a1_2 a1_3 a1_4 a1_5 a1_6 a1_7 a1_8 a1_9 a1_10 a1_11 l1_12) else (corrieref19_Inserts.l0 k1 l0 (wrap64 (x5_1 + 1)) (wrap64 (x6_1 + 1)) a1_0 a1_1 a1_2 a1_3 a1_4 a1_5 a1_6 a1_7 a1_8 a1_9 a1_10 a1_11 l1_12))) = some r := by rw [if_neg (show ¬ (false = true) by decide)] at H; exact H
              clear H
              have H := H1
              clear H1
              replace H := Option.bind_eq_some_iff.mp H
              obtain ⟨t130, A110, H⟩ := H
              replace H : (if t130 = true then (corrieref19_Inserts.l0 k1 l0 x5_1 (wrap64 (x6_1 + 1)) a1_0 a1_1 a1_2 a1_3 a1_4 a1_5 a1_6 a1_7 a1_8 a1_9 a1_10 a1_11 l1_12) else (corrieref19_Inserts.l0 k1 l0 (wrap64 (x5_1 + 1)) (wrap64 (x6_1 + 1)) a1_0 a1_1 a1_2 a1_3 a1_4 a1_5 a1_6 a1_7 a1_8 a1_9 a1_10 a1_11 l1_12)) = some r := H
              have A11 := Aside0.mk A110
              clear A110
              by_cases c12 : t130 = true
              · subst c12
                have H1 : (corrieref19_Inserts.l0 k1 l0 x5_1 (wrap64 (x6_1 + 1)) a1_0 a1_1 a1_2 a1_3 a1_4 a1_5 a1_6 a1_7 a1_8 a1_9 a1_10 a1_11 l1_12) = some r := by rw [if_pos rfl] at H; exact H
                clear H
                have H := H1
                clear H1
                have H' := Aside0.mk H
                clear H
                try go_wp2
                have n0_ := Aside0.mk (blk_drew BK125.out)
                have n1_ := Aside0.mk (below_drew1 HB.out)
                clear BK125
                clear HB
                have BK125 := n0_
                have HB := n1_
                clear n0_ n1_
                have p126 : 0 ≤ (x6_1 : Int) := of_decide_eq_true (by first | (with_reducible assumption) | assumption)
                have q126 : x6_1 < (l0.length : Int) := of_decide_eq_true (by first | (with_reducible assumption) | assumption)
                obtain ⟨ad126, A126_12, c126_12, e126, hx126_0, hx126_1, hx126_2, hx126_3, hx126_4, hx126_5, hx126_6, hx126_7, hx126_8, hx126_9, hx126_10, hx126_11, hx126_12, hl126_12, hi126_12⟩ := at_T38 HR0.out x6_1 p126 q126
                have hw126_12 := hx126_12
                have hw126_11 := hx126_11
                have hw126_10 := hx126_10
                have hw126_9 := hx126_9
                have hw126_8 := hx126_8
                have hw126_7 := hx126_7
                have hw126_6 := hx126_6
                have hw126_5 := hx126_5
                have hw126_4 := hx126_4
                have hw126_3 := hx126_3
                have hw126_2 := hx126_2
                have hw126_1 := hx126_1
                have hw126_0 := hx126_0
                cases e126
                replace hx126_0 := (HB.out.cell (World.block_lt_of_cell? w _ hx126_0)).trans hx126_0
                replace hx126_1 := (HB.out.cell (World.block_lt_of_cell? w _ hx126_1)).trans hx126_1
                replace hx126_2 := (HB.out.cell (World.block_lt_of_cell? w _ hx126_2)).trans hx126_2
                replace hx126_3 := (HB.out.cell (World.block_lt_of_cell? w _ hx126_3)).trans hx126_3
                replace hx126_4 := (HB.out.cell (World.block_lt_of_cell? w _ hx126_4)).trans hx126_4
                replace hx126_5 := (HB.out.cell (World.block_lt_of_cell? w _ hx126_5)).trans hx126_5
                replace hx126_6 := (HB.out.cell (World.block_lt_of_cell? w _ hx126_6)).trans hx126_6
                replace hx126_7 := (HB.out.cell (World.block_lt_of_cell? w _ hx126_7)).trans hx126_7
                replace hx126_8 := (HB.out.cell (World.block_lt_of_cell? w _ hx126_8)).trans hx126_8
                replace hx126_9 := (HB.out.cell (World.block_lt_of_cell? w _ hx126_9)).trans hx126_9
                replace hx126_10 := (HB.out.cell (World.block_lt_of_cell? w _ hx126_10)).trans hx126_10
                replace hx126_11 := (HB.out.cell (World.block_lt_of_cell? w _ hx126_11)).trans hx126_11
                replace hx126_12 := (HB.out.cell (World.block_lt_of_cell? w _ hx126_12)).trans hx126_12
                have HR126_12 := Aside0.mk hi126_12
                have HC126_12 := Aside0.mk hl126_12
                clear hi126_12 hl126_12
                replace p126 := eq_true p126
                replace q126 := eq_true q126
                have p127 : 0 ≤ (x6_1 : Int) := of_decide_eq_true (by first | (with_reducible assumption) | assumption)
                have q127 : x6_1 < (l0.length : Int) := of_decide_eq_true (by first | (with_reducible assumption) | assumption)
                obtain ⟨ad127, A127_12, c127_12, e127, hx127_0, hx127_1, hx127_2, hx127_3, hx127_4, hx127_5, hx127_6, hx127_7, hx127_8, hx127_9, hx127_10, hx127_11, hx127_12, hl127_12, hi127_12⟩ := at_T38 HR0.out x6_1 p127 q127
                have hw127_12 := hx127_12
                have hw127_11 := hx127_11
                have hw127_10 := hx127_10
                have hw127_9 := hx127_9
                have hw127_8 := hx127_8
                have hw127_7 := hx127_7
                have hw127_6 := hx127_6
                have hw127_5 := hx127_5
                have hw127_4 := hx127_4
                have hw127_3 := hx127_3
                have hw127_2 := hx127_2
                have hw127_1 := hx127_1
                have hw127_0 := hx127_0
                obtain rfl : ad126 = ad127 := (by injection e127)
                replace hx127_0 := (HB.out.cell (World.block_lt_of_cell? w _ hx127_0)).trans hx127_0
                replace hx127_1 := (HB.out.cell (World.block_lt_of_cell? w _ hx127_1)).trans hx127_1
                replace hx127_2 := (HB.out.cell (World.block_lt_of_cell? w _ hx127_2)).trans hx127_2
                replace hx127_3 := (HB.out.cell (World.block_lt_of_cell? w _ hx127_3)).trans hx127_3
                replace hx127_4 := (HB.out.cell (World.block_lt_of_cell? w _ hx127_4)).trans hx127_4
                replace hx127_5 := (HB.out.cell (World.block_lt_of_cell? w _ hx127_5)).trans hx127_5
                replace hx127_6 := (HB.out.cell (World.block_lt_of_cell? w _ hx127_6)).trans hx127_6
                replace hx127_7 := (HB.out.cell (World.block_lt_of_cell? w _ hx127_7)).trans hx127_7
                replace hx127_8 := (HB.out.cell (World.block_lt_of_cell? w _ hx127_8)).trans hx127_8
                replace hx127_9 := (HB.out.cell (World.block_lt_of_cell? w _ hx127_9)).trans hx127_9
                replace hx127_10 := (HB.out.cell (World.block_lt_of_cell? w _ hx127_10)).trans hx127_10
                replace hx127_11 := (HB.out.cell (World.block_lt_of_cell? w _ hx127_11)).trans hx127_11
                replace hx127_12 := (HB.out.cell (World.block_lt_of_cell? w _ hx127_12)).trans hx127_12
                have HR127_12 := Aside0.mk hi127_12
                have HC127_12 := Aside0.mk hl127_12
                clear hi127_12 hl127_12
                replace p127 := eq_true p127
                replace q127 := eq_true q127
                have ea_ := Option.some.inj (hx126_12.symm.trans hx127_12)
                injection ea_ with ea_ en_ ec_
                subst ea_
                subst ec_
                clear en_
                have p129 : 0 ≤ (x6_1 : Int) := of_decide_eq_true (by first | (with_reducible assumption) | assumption)
                have q129 : x6_1 < (l0.length : Int) := of_decide_eq_true (by first | (with_reducible assumption) | assumption)
                obtain ⟨ad129, A129_12, c129_12, e129, hx129_0, hx129_1, hx129_2, hx129_3, hx129_4, hx129_5, hx129_6, hx129_7, hx129_8, hx129_9, hx129_10, hx129_11, hx129_12, hl129_12, hi129_12⟩ := at_T38 HR0.out x6_1 p129 q129
                have hw129_12 := hx129_12
                have hw129_11 := hx129_11
                have hw129_10 := hx129_10
                have hw129_9 := hx129_9
                have hw129_8 := hx129_8
                have hw129_7 := hx129_7
                have hw129_6 := hx129_6
                have hw129_5 := hx129_5
                have hw129_4 := hx129_4
                have hw129_3 := hx129_3
                have hw129_2 := hx129_2
                have hw129_1 := hx129_1
                have hw129_0 := hx129_0
                obtain rfl : ad126 = ad129 := (by injection e129)
                obtain ⟨rfl, rfl⟩ : A126_12 = A129_12 ∧ c126_12 = c129_12 := by first | (have hh := Option.some.inj (hw126_12.symm.trans hx129_12); injection hh with ha hb hc; exact ⟨ha, hc⟩) | (have hh := Option.some.inj (hx126_12.symm.trans hx129_12); injection hh with ha hb hc; exact ⟨ha, hc⟩)
                replace hx129_0 := (HB.out.cell (World.block_lt_of_cell? w _ hx129_0)).trans hx129_0
                replace hx129_1 := (HB.out.cell (World.block_lt_of_cell? w _ hx129_1)).trans hx129_1
                replace hx129_2 := (HB.out.cell (World.block_lt_of_cell? w _ hx129_2)).trans hx129_2
                replace hx129_3 := (HB.out.cell (World.block_lt_of_cell? w _ hx129_3)).trans hx129_3
                replace hx129_4 := (HB.out.cell (World.block_lt_of_cell? w _ hx129_4)).trans hx129_4
                replace hx129_5 := (HB.out.cell (World.block_lt_of_cell? w _ hx129_5)).trans hx129_5
                replace hx129_6 := (HB.out.cell (World.block_lt_of_cell? w _ hx129_6)).trans hx129_6
                replace hx129_7 := (HB.out.cell (World.block_lt_of_cell? w _ hx129_7)).trans hx129_7
                replace hx129_8 := (HB.out.cell (World.block_lt_of_cell? w _ hx129_8)).trans hx129_8
                replace hx129_9 := (HB.out.cell (World.block_lt_of_cell? w _ hx129_9)).trans hx129_9
                replace hx129_10 := (HB.out.cell (World.block_lt_of_cell? w _ hx129_10)).trans hx129_10
                replace hx129_11 := (HB.out.cell (World.block_lt_of_cell? w _ hx129_11)).trans hx129_11
                replace hx129_12 := (HB.out.cell (World.block_lt_of_cell? w _ hx129_12)).trans hx129_12
                have HR129_12 := Aside0.mk hi129_12
                have HC129_12 := Aside0.mk hl129_12
                clear hi129_12 hl129_12
                replace p129 := eq_true p129
                replace q129 := eq_true q129
                refine start_ (n := 25) (S := fun w' => w'.cell? ⟨gb125, 0, none⟩ = some (.int .i64 a1_0) ∧ w'.cell? ⟨gb125, 1, none⟩ = some (.int .i64 a1_1) ∧ w'.cell? ⟨gb125, 2, none⟩ = some (.int .i64 a1_2) ∧ w'.cell? ⟨gb125, 3, none⟩ = some (.int .i64 a1_3) ∧ w'.cell? ⟨gb125, 4, none⟩ = some (.int .i64 a1_4) ∧ w'.cell? ⟨gb125, 5, none⟩ = some (.int .i64 a1_5) ∧ w'.cell? ⟨gb125, 6, none⟩ = some (.int .u64 a1_6) ∧ w'.cell? ⟨gb125, 7, none⟩ = some (.int .u64 a1_7) ∧ w'.cell? ⟨gb125, 8, none⟩ = some (.int .i64 a1_8) ∧ w'.cell? ⟨gb125, 9, none⟩ = some (.int .i64 a1_9) ∧ w'.cell? ⟨gb125, 10, none⟩ = some (.bool a1_10) ∧ w'.cell? ⟨gb125, 11, none⟩ = some (.int .u64 a1_11) ∧ w'.cell? ⟨gb125, 12, none⟩ = some (.slice A1_12 l1_12.length c1_12) ∧ w'.cell? (ad126.add ((x6_1).toNat * 13)) = some (.int .i64 ((rd_T38 l0 x6_1).f0)) ∧ w'.cell? ⟨(ad126.add ((x6_1).toNat * 13)).block, (ad126.add ((x6_1).toNat * 13)).off + 1, none⟩ = some (.int .i64 ((rd_T38 l0 x6_1).f1)) ∧ w'.cell? ⟨(ad126.add ((x6_1).toNat * 13)).block, (ad126.add ((x6_1).toNat * 13)).off + 2, none⟩ = some (.int .i64 ((rd_T38 l0 x6_1).f2)) ∧ w'.cell? ⟨(ad126.add ((x6_1).toNat * 13)).block, (ad126.add ((x6_1).toNat * 13)).off + 3, none⟩ = some (.int .i64 ((rd_T38 l0 x6_1).f3)) ∧ w'.cell? ⟨(ad126.add ((x6_1).toNat * 13)).block, (ad126.add ((x6_1).toNat * 13)).off + 4, none⟩ = some (.int .i64 ((rd_T38 l0 x6_1).f4)) ∧ w'.cell? ⟨(ad126.add ((x6_1).toNat * 13)).block, (ad126.add ((x6_1).toNat * 13)).off + 5, none⟩ = some (.int .i64 ((rd_T38 l0 x6_1).f5.f0)) ∧ w'.cell? ⟨(ad126.add ((x6_1).toNat * 13)).block, (ad126.add ((x6_1).toNat * 13)).off + 6, none⟩ = some (.int .u64 ((rd_T38 l0 x6_1).f5.f1)) ∧ w'.cell? ⟨(ad126.add ((x6_1).toNat * 13)).block, (ad126.add ((x6_1).toNat * 13)).off + 7, none⟩ = some (.int .u64 ((rd_T38 l0 x6_1).f5.f2)) ∧ w'.cell? ⟨(ad126.add ((x6_1).toNat * 13)).block, (ad126.add ((x6_1).toNat * 13)).off + 8, none⟩ = some (.int .i64 ((rd_T38 l0 x6_1).f5.f3)) ∧ w'.cell? ⟨(ad126.add ((x6_1).toNat * 13)).block, (ad126.add ((x6_1).toNat * 13)).off + 9, none⟩ = some (.int .i64 ((rd_T38 l0 x6_1).f6.f0)) ∧ w'.cell? ⟨(ad126.add ((x6_1).toNat * 13)).block, (ad126.add ((x6_1).toNat * 13)).off + 10, none⟩ = some (.bool ((rd_T38 l0 x6_1).f6.f1)) ∧ w'.cell? ⟨(ad126.add ((x6_1).toNat * 13)).block, (ad126.add ((x6_1).toNat * 13)).off + 11, none⟩ = some (.int .u64 ((rd_T38 l0 x6_1).f6.f2)) ∧ w'.cell? ⟨(ad126.add ((x6_1).toNat * 13)).block, (ad126.add ((x6_1).toNat * 13)).off + 12, none⟩ = some (.slice A126_12 ((rd_T38 l0 x6_1).f6.f3).length c126_12) ∧ w'.cell? (ad126.add ((x6_1).toNat * 13)) = some (.int .i64 ((rd_T38 l0 x6_1).f0)) ∧ w'.cell? ⟨(ad126.add ((x6_1).toNat * 13)).block, (ad126.add ((x6_1).toNat * 13)).off + 1, none⟩ = some (.int .i64 ((rd_T38 l0 x6_1).f1)) ∧ w'.cell? ⟨(ad126.add ((x6_1).toNat * 13)).block, (ad126.add ((x6_1).toNat * 13)).off + 2, none⟩ = some (.int .i64 ((rd_T38 l0 x6_1).f2)) ∧ w'.cell? ⟨(ad126.add ((x6_1).toNat * 13)).block, (ad126.add ((x6_1).toNat * 13)).off + 3, none⟩ = some (.int .i64 ((rd_T38 l0 x6_1).f3)) ∧ w'.cell? ⟨(ad126.add ((x6_1).toNat * 13)).block, (ad126.add ((x6_1).toNat * 13)).off + 4, none⟩ = some (.int .i64 ((rd_T38 l0 x6_1).f4)) ∧ w'.cell? ⟨(ad126.add ((x6_1).toNat * 13)).block, (ad126.add ((x6_1).toNat * 13)).off + 5, none⟩ = some (.int .i64 ((rd_T38 l0 x6_1).f5.f0)) ∧ w'.cell? ⟨(ad126.add ((x6_1).toNat * 13)).block, (ad126.add ((x6_1).toNat * 13)).off + 6, none⟩ = some (.int .u64 ((rd_T38 l0 x6_1).f5.f1)) ∧ w'.cell? ⟨(ad126.add ((x6_1).toNat * 13)).block, (ad126.add ((x6_1).toNat * 13)).off + 7, none⟩ = some (.int .u64 ((rd_T38 l0 x6_1).f5.f2)) ∧ w'.cell? ⟨(ad126.add ((x6_1).toNat * 13)).block, (ad126.add ((x6_1).toNat * 13)).off + 8, none⟩ = some (.int .i64 ((rd_T38 l0 x6_1).f5.f3)) ∧ w'.cell? ⟨(ad126.add ((x6_1).toNat * 13)).block, (ad126.add ((x6_1).toNat * 13)).off + 9, none⟩ = some (.int .i64 ((rd_T38 l0 x6_1).f6.f0)) ∧ w'.cell? ⟨(ad126.add ((x6_1).toNat * 13)).block, (ad126.add ((x6_1).toNat * 13)).off + 10, none⟩ = some (.bool ((rd_T38 l0 x6_1).f6.f1)) ∧ w'.cell? ⟨(ad126.add ((x6_1).toNat * 13)).block, (ad126.add ((x6_1).toNat * 13)).off + 11, none⟩ = some (.int .u64 ((rd_T38 l0 x6_1).f6.f2)) ∧ w'.cell? ⟨(ad126.add ((x6_1).toNat * 13)).block, (ad126.add ((x6_1).toNat * 13)).off + 12, none⟩ = some (.slice A126_12 ((rd_T38 l0 x6_1).f6.f3).length c126_12) ∧ w'.cell? (ad126.add ((x6_1).toNat * 13)) = some (.int .i64 ((rd_T38 l0 x6_1).f0)) ∧ w'.cell? ⟨(ad126.add ((x6_1).toNat * 13)).block, (ad126.add ((x6_1).toNat * 13)).off + 1, none⟩ = some (.int .i64 ((rd_T38 l0 x6_1).f1)) ∧ w'.cell? ⟨(ad126.add ((x6_1).toNat * 13)).block, (ad126.add ((x6_1).toNat * 13)).off + 2, none⟩ = some (.int .i64 ((rd_T38 l0 x6_1).f2)) ∧ w'.cell? ⟨(ad126.add ((x6_1).toNat * 13)).block, (ad126.add ((x6_1).toNat * 13)).off + 3, none⟩ = some (.int .i64 ((rd_T38 l0 x6_1).f3)) ∧ w'.cell? ⟨(ad126.add ((x6_1).toNat * 13)).block, (ad126.add ((x6_1).toNat * 13)).off + 4, none⟩ = some (.int .i64 ((rd_T38 l0 x6_1).f4)) ∧ w'.cell? ⟨(ad126.add ((x6_1).toNat * 13)).block, (ad126.add ((x6_1).toNat * 13)).off + 5, none⟩ = some (.int .i64 ((rd_T38 l0 x6_1).f5.f0)) ∧ w'.cell? ⟨(ad126.add ((x6_1).toNat * 13)).block, (ad126.add ((x6_1).toNat * 13)).off + 6, none⟩ = some (.int .u64 ((rd_T38 l0 x6_1).f5.f1)) ∧ w'.cell? ⟨(ad126.add ((x6_1).toNat * 13)).block, (ad126.add ((x6_1).toNat * 13)).off + 7, none⟩ = some (.int .u64 ((rd_T38 l0 x6_1).f5.f2)) ∧ w'.cell? ⟨(ad126.add ((x6_1).toNat * 13)).block, (ad126.add ((x6_1).toNat * 13)).off + 8, none⟩ = some (.int .i64 ((rd_T38 l0 x6_1).f5.f3)) ∧ w'.cell? ⟨(ad126.add ((x6_1).toNat * 13)).block, (ad126.add ((x6_1).toNat * 13)).off + 9, none⟩ = some (.int .i64 ((rd_T38 l0 x6_1).f6.f0)) ∧ w'.cell? ⟨(ad126.add ((x6_1).toNat * 13)).block, (ad126.add ((x6_1).toNat * 13)).off + 10, none⟩ = some (.bool ((rd_T38 l0 x6_1).f6.f1)) ∧ w'.cell? ⟨(ad126.add ((x6_1).toNat * 13)).block, (ad126.add ((x6_1).toNat * 13)).off + 11, none⟩ = some (.int .u64 ((rd_T38 l0 x6_1).f6.f2)) ∧ w'.cell? ⟨(ad126.add ((x6_1).toNat * 13)).block, (ad126.add ((x6_1).toNat * 13)).off + 12, none⟩ = some (.slice A126_12 ((rd_T38 l0 x6_1).f6.f3).length c126_12)) (ds := []) #[false, false, false, false, false, false, false, false, false, false, false, false, false, false, false, false, false, false, false, false, false, false, false, false, false] (by kernel_rfl) rfl rfl ⟨(blk_cell BK125.out 0).trans rfl, (blk_cell BK125.out 1).trans rfl, (blk_cell BK125.out 2).trans rfl, (blk_cell BK125.out 3).trans rfl, (blk_cell BK125.out 4).trans rfl, (blk_cell BK125.out 5).trans rfl, (blk_cell BK125.out 6).trans rfl, (blk_cell BK125.out 7).trans rfl, (blk_cell BK125.out 8).trans rfl, (blk_cell BK125.out 9).trans rfl, (blk_cell BK125.out 10).trans rfl, (blk_cell BK125.out 11).trans rfl, (blk_cell BK125.out 12).trans rfl, ((HB.out.cell (World.block_lt_of_cell? w _ hw126_0)).trans hw126_0), ((HB.out.cell (World.block_lt_of_cell? w _ hw126_1)).trans hw126_1), ((HB.out.cell (World.block_lt_of_cell? w _ hw126_2)).trans hw126_2), ((HB.out.cell (World.block_lt_of_cell? w _ hw126_3)).trans hw126_3), ((HB.out.cell (World.block_lt_of_cell? w _ hw126_4)).trans hw126_4), ((HB.out.cell (World.block_lt_of_cell? w _ hw126_5)).trans hw126_5), ((HB.out.cell (World.block_lt_of_cell? w _ hw126_6)).trans hw126_6), ((HB.out.cell (World.block_lt_of_cell? w _ hw126_7)).trans hw126_7), ((HB.out.cell (World.block_lt_of_cell? w _ hw126_8)).trans hw126_8), ((HB.out.cell (World.block_lt_of_cell? w _ hw126_9)).trans hw126_9), ((HB.out.cell (World.block_lt_of_cell? w _ hw126_10)).trans hw126_10), ((HB.out.cell (World.block_lt_of_cell? w _ hw126_11)).trans hw126_11), ((HB.out.cell (World.block_lt_of_cell? w _ hw126_12)).trans hw126_12), ((HB.out.cell (World.block_lt_of_cell? w _ hw127_0)).trans hw127_0), ((HB.out.cell (World.block_lt_of_cell? w _ hw127_1)).trans hw127_1), ((HB.out.cell (World.block_lt_of_cell? w _ hw127_2)).trans hw127_2), ((HB.out.cell (World.block_lt_of_cell? w _ hw127_3)).trans hw127_3), ((HB.out.cell (World.block_lt_of_cell? w _ hw127_4)).trans hw127_4), ((HB.out.cell (World.block_lt_of_cell? w _ hw127_5)).trans hw127_5), ((HB.out.cell (World.block_lt_of_cell? w _ hw127_6)).trans hw127_6), ((HB.out.cell (World.block_lt_of_cell? w _ hw127_7)).trans hw127_7), ((HB.out.cell (World.block_lt_of_cell? w _ hw127_8)).trans hw127_8), ((HB.out.cell (World.block_lt_of_cell? w _ hw127_9)).trans hw127_9), ((HB.out.cell (World.block_lt_of_cell? w _ hw127_10)).trans hw127_10), ((HB.out.cell (World.block_lt_of_cell? w _ hw127_11)).trans hw127_11), ((HB.out.cell (World.block_lt_of_cell? w _ hw127_12)).trans hw127_12), ((HB.out.cell (World.block_lt_of_cell? w _ hw129_0)).trans hw129_0), ((HB.out.cell (World.block_lt_of_cell? w _ hw129_1)).trans hw129_1), ((HB.out.cell (World.block_lt_of_cell? w _ hw129_2)).trans hw129_2), ((HB.out.cell (World.block_lt_of_cell? w _ hw129_3)).trans hw129_3), ((HB.out.cell (World.block_lt_of_cell? w _ hw129_4)).trans hw129_4), ((HB.out.cell (World.block_lt_of_cell? w _ hw129_5)).trans hw129_5), ((HB.out.cell (World.block_lt_of_cell? w _ hw129_6)).trans hw129_6), ((HB.out.cell (World.block_lt_of_cell? w _ hw129_7)).trans hw129_7), ((HB.out.cell (World.block_lt_of_cell? w _ hw129_8)).trans hw129_8), ((HB.out.cell (World.block_lt_of_cell? w _ hw129_9)).trans hw129_9), ((HB.out.cell (World.block_lt_of_cell? w _ hw129_10)).trans hw129_10), ((HB.out.cell (World.block_lt_of_cell? w _ hw129_11)).trans hw129_11), ((HB.out.cell (World.block_lt_of_cell? w _ hw129_12)).trans hw129_12)⟩ (fun hHeld => ?_); refine with_tabW corrieref19_Inserts.tab5 corrieref19_Inserts.bits5 (fun HT_ HW_ => ?_)
                generalize wr.drew = w13 at BK125 HB HR126_12 HR127_12 HR129_12 hx126_0 hx126_1 hx126_10 hx126_11 hx126_12 hx126_2 hx126_3 hx126_4 hx126_5 hx126_6 hx126_7 hx126_8 hx126_9 hx127_0 hx127_1 hx127_10 hx127_11 hx127_12 hx127_2 hx127_3 hx127_4 hx127_5 hx127_6 hx127_7 hx127_8 hx127_9 hx129_0 hx129_1 hx129_10 hx129_11 hx129_12 hx129_2 hx129_3 hx129_4 hx129_5 hx129_6 hx129_7 hx129_8 hx129_9 hHeld ⊢
                refine pure_ (i := 0) (N := some 13) (v := ?_) (a' := ?_) #[true, false, false, false, false, false, false, false, false, false, false, false, false, false, false, false, false, false, false, false, false, false, false, false, false] rfl rfl (any_of HT_.out (by kernel_rfl)) (fun _ _ _ h => h) (Or.inl ⟨by rfl, ?_⟩) ?_ ?_
                rotate_left
                · intro w'
                  go_simp
                  with_reducible rfl
                rotate_left
                · simp only [Act.put, List.setIfInBounds_toArray, List.set_cons_zero, List.set_cons_succ, i64_w, i32_w]
                  rfl
                refine pure_ (i := 1) (N := some 14) (v := ?_) (a' := ?_) #[true, true, false, false, false, false, false, false, false, false, false, false, false, false, false, false, false, false, false, false, false, false, false, false, false] rfl rfl (any_of HT_.out (by kernel_rfl)) (fun _ _ _ h => h) (Or.inl ⟨by rfl, ?_⟩) ?_ ?_
                rotate_left
                · intro w'
                  go_simp
                  with_reducible rfl
                rotate_left
                · simp only [Act.put, List.setIfInBounds_toArray, List.set_cons_zero, List.set_cons_succ, i64_w, i32_w]
                  rfl
                refine pure_ (i := 2) (N := some 15) (v := ?_) (a' := ?_) #[true, true, true, false, false, false, false, false, false, false, false, false, false, false, false, false, false, false, false, false, false, false, false, false, false] rfl rfl (any_of HT_.out (by kernel_rfl)) (fun _ _ _ h => h) (Or.inl ⟨by rfl, ?_⟩) ?_ ?_
                rotate_left
                · intro w'
                  go_simp
                  with_reducible rfl
                rotate_left
                · simp only [Act.put, List.setIfInBounds_toArray, List.set_cons_zero, List.set_cons_succ, i64_w, i32_w]
                  rfl
                refine pure_ (i := 3) (N := some 16) (v := ?_) (a' := ?_) #[true, true, true, true, false, false, false, false, false, false, false, false, false, false, false, false, false, false, false, false, false, false, false, false, false] rfl rfl (any_of HT_.out (by kernel_rfl)) (fun _ _ _ h => h) (Or.inl ⟨by rfl, ?_⟩) ?_ ?_
                rotate_left
                · intro w'
                  go_simp
                  with_reducible rfl
                rotate_left
                · simp only [Act.put, List.setIfInBounds_toArray, List.set_cons_zero, List.set_cons_succ, i64_w, i32_w]
                  rfl
                refine pure_ (i := 4) (N := some 17) (v := ?_) (a' := ?_) #[true, true, true, true, true, false, false, false, false, false, false, false, false, false, false, false, false, false, false, false, false, false, false, false, false] rfl rfl (any_of HT_.out (by kernel_rfl)) (fun _ _ _ h => h) (Or.inl ⟨by rfl, ?_⟩) ?_ ?_
                rotate_left
                · intro w'
                  go_simp
                  with_reducible rfl
                rotate_left
                · simp only [Act.put, List.setIfInBounds_toArray, List.set_cons_zero, List.set_cons_succ, i64_w, i32_w]
                  rfl
                refine take_ (i := 5) (N := some 18) (v := ?_) (a' := ?_) #[true, true, true, true, true, true, false, false, false, false, false, false, false, false, false, false, false, false, false, false, false, false, false, false, false] rfl rfl (take_ofW HT_.out HW_.out (by kernel_rfl)) (fun _ _ _ h => h) (Or.inl ⟨by rfl, ?_⟩) hHeld ?_ ?_
                rotate_left
                · rintro w' ⟨s0, s1, s2, s3, s4, s5, s6, s7, s8, s9, s10, s11, s12, s13, s14, s15, s16, s17, s18, s19, s20, s21, s22, s23, s24, s25, s26, s27, s28, s29, s30, s31, s32, s33, s34, s35, s36, s37, s38, s39, s40, s41, s42, s43, s44, s45, s46, s47, s48, s49, s50, s51⟩
                  go_simp
                  with_reducible rfl
                rotate_left
                · simp only [Act.put, List.setIfInBounds_toArray, List.set_cons_zero, List.set_cons_succ, i64_w, i32_w]
                  rfl
                refine pure_ (i := 6) (N := some 19) (v := ?_) (a' := ?_) #[true, true, true, true, true, true, true, false, false, false, false, false, false, false, false, false, false, false, false, false, false, false, false, false, false] rfl rfl (any_of HT_.out (by kernel_rfl)) (fun _ _ _ h => h) (Or.inl ⟨by rfl, ?_⟩) ?_ ?_
                rotate_left
                · intro w'
                  go_simp
                  with_reducible rfl
                rotate_left
                · simp only [Act.put, List.setIfInBounds_toArray, List.set_cons_zero, List.set_cons_succ, i64_w, i32_w]
                  rfl
                refine pure_ (i := 7) (N := some 20) (v := ?_) (a' := ?_) #[true, true, true, true, true, true, true, true, false, false, false, false, false, false, false, false, false, false, false, false, false, false, false, false, false] rfl rfl (any_of HT_.out (by kernel_rfl)) (fun _ _ _ h => h) (Or.inl ⟨by rfl, ?_⟩) ?_ ?_
                rotate_left
                · intro w'
                  go_simp
                  with_reducible rfl
                rotate_left
                · simp only [Act.put, List.setIfInBounds_toArray, List.set_cons_zero, List.set_cons_succ, i64_w, i32_w]
                  rfl
                refine pure_ (i := 8) (N := some 21) (v := ?_) (a' := ?_) #[true, true, true, true, true, true, true, true, true, false, false, false, false, false, false, false, false, false, false, false, false, false, false, false, false] rfl rfl (any_of HT_.out (by kernel_rfl)) (fun _ _ _ h => h) (Or.inl ⟨by rfl, ?_⟩) ?_ ?_
                rotate_left
                · intro w'
                  go_simp
                  with_reducible rfl
                rotate_left
                · simp only [Act.put, List.setIfInBounds_toArray, List.set_cons_zero, List.set_cons_succ, i64_w, i32_w]
                  rfl
                refine pure_ (i := 9) (N := some 22) (v := ?_) (a' := ?_) #[true, true, true, true, true, true, true, true, true, true, false, false, false, false, false, false, false, false, false, false, false, false, false, false, false] rfl rfl (any_of HT_.out (by kernel_rfl)) (fun _ _ _ h => h) (Or.inl ⟨by rfl, ?_⟩) ?_ ?_
                rotate_left
                · intro w'
                  go_simp
                  with_reducible rfl
                rotate_left
                · simp only [Act.put, List.setIfInBounds_toArray, List.set_cons_zero, List.set_cons_succ, i64_w, i32_w]
                  rfl
                refine pure_ (i := 10) (N := some 23) (v := ?_) (a' := ?_) #[true, true, true, true, true, true, true, true, true, true, true, false, false, false, false, false, false, false, false, false, false, false, false, false, false] rfl rfl (any_of HT_.out (by kernel_rfl)) (fun _ _ _ h => h) (Or.inl ⟨by rfl, ?_⟩) ?_ ?_
                rotate_left
                · intro w'
                  go_simp
                  with_reducible rfl
                rotate_left
                · simp only [Act.put, List.setIfInBounds_toArray, List.set_cons_zero, List.set_cons_succ, i64_w, i32_w]
                  rfl
                refine take_ (i := 11) (N := some 24) (v := ?_) (a' := ?_) #[true, true, true, true, true, true, true, true, true, true, true, true, false, false, false, false, false, false, false, false, false, false, false, false, false] rfl rfl (take_ofW HT_.out HW_.out (by kernel_rfl)) (fun _ _ _ h => h) (Or.inl ⟨by rfl, ?_⟩) hHeld ?_ ?_
                rotate_left
                · rintro w' ⟨s0, s1, s2, s3, s4, s5, s6, s7, s8, s9, s10, s11, s12, s13, s14, s15, s16, s17, s18, s19, s20, s21, s22, s23, s24, s25, s26, s27, s28, s29, s30, s31, s32, s33, s34, s35, s36, s37, s38, s39, s40, s41, s42, s43, s44, s45, s46, s47, s48, s49, s50, s51⟩
                  go_simp
                  with_reducible rfl
                rotate_left
                · simp only [Act.put, List.setIfInBounds_toArray, List.set_cons_zero, List.set_cons_succ, i64_w, i32_w]
                  rfl
                refine take_ (i := 12) (N := some 25) (v := ?_) (a' := ?_) #[true, true, true, true, true, true, true, true, true, true, true, true, true, false, false, false, false, false, false, false, false, false, false, false, false] rfl rfl (take_ofW HT_.out HW_.out (by kernel_rfl)) (fun _ _ _ h => h) (Or.inl ⟨by rfl, ?_⟩) hHeld ?_ ?_
                rotate_left
                · rintro w' ⟨s0, s1, s2, s3, s4, s5, s6, s7, s8, s9, s10, s11, s12, s13, s14, s15, s16, s17, s18, s19, s20, s21, s22, s23, s24, s25, s26, s27, s28, s29, s30, s31, s32, s33, s34, s35, s36, s37, s38, s39, s40, s41, s42, s43, s44, s45, s46, s47, s48, s49, s50, s51⟩
                  go_simp
                  with_reducible rfl
                rotate_left
                · simp only [Act.put, List.setIfInBounds_toArray, List.set_cons_zero, List.set_cons_succ, i64_w, i32_w]
                  rfl
                refine one_ (i := 13) (N := some 26) #[true, true, true, true, true, true, true, true, true, true, true, true, true, true, false, false, false, false, false, false, false, false, false, false, false] rfl rfl (one_of HT_.out (by kernel_rfl)) (by decide) (fun K hK => ?_)
                refine goes_ Try.func36 (by kernel_rfl) rfl #[.agg #[.int .i64 ((rd_T38 l0 x6_1).f0), .int .i64 ((rd_T38 l0 x6_1).f1), .int .i64 ((rd_T38 l0 x6_1).f2), .int .i64 ((rd_T38 l0 x6_1).f3), .int .i64 ((rd_T38 l0 x6_1).f4), .int .i64 ((rd_T38 l0 x6_1).f5.f0), .int .u64 ((rd_T38 l0 x6_1).f5.f1), .int .u64 ((rd_T38 l0 x6_1).f5.f2), .int .i64 ((rd_T38 l0 x6_1).f5.f3), .int .i64 ((rd_T38 l0 x6_1).f6.f0), .bool ((rd_T38 l0 x6_1).f6.f1), .int .u64 ((rd_T38 l0 x6_1).f6.f2), .slice A126_12 ((rd_T38 l0 x6_1).f6.f3).length c126_12], .agg #[.int .i64 a1_0, .int .i64 a1_1, .int .i64 a1_2, .int .i64 a1_3, .int .i64 a1_4, .int .i64 a1_5, .int .u64 a1_6, .int .u64 a1_7, .int .i64 a1_8, .int .i64 a1_9, .bool a1_10, .int .u64 a1_11, .slice A1_12 l1_12.length c1_12]] (by rfl) rfl rfl (by (try simp only [List.map_toArray, List.map_cons, List.map_nil]); first | done | rfl | (simp only [List.length_drop, List.length_take]; rfl)) ?_
                with_reducible refine (corrieref19_Before.calls ((rd_T38 l0 x6_1).f0) ((rd_T38 l0 x6_1).f1) ((rd_T38 l0 x6_1).f2) ((rd_T38 l0 x6_1).f3) ((rd_T38 l0 x6_1).f4) ((rd_T38 l0 x6_1).f5.f0) ((rd_T38 l0 x6_1).f5.f1) ((rd_T38 l0 x6_1).f5.f2) ((rd_T38 l0 x6_1).f5.f3) ((rd_T38 l0 x6_1).f6.f0) ((rd_T38 l0 x6_1).f6.f1) ((rd_T38 l0 x6_1).f6.f2) _ _ ((rd_T38 l0 x6_1).f6.f3) a1_0 a1_1 a1_2 a1_3 a1_4 a1_5 a1_6 a1_7 a1_8 a1_9 a1_10 a1_11 _ _ l1_12 false _ ?side1 ?side2 ?side3 ?side4 A7.out).mono ?_
                (case side1 => repeat (first | exact (Kd.C_below HR127_12.out HB.out) | (with_reducible refine Kd.C_alloc ?_ _) | (with_reducible refine Kd.C_drewN ?_ _) | (with_reducible refine Kd.C_drew ?_)))
                (case side2 => exact HC127_12.out)
                (case side3 => repeat (first | exact (Kd.C_below HR1_12.out HB.out) | (with_reducible refine Kd.C_alloc ?_ _) | (with_reducible refine Kd.C_drewN ?_ _) | (with_reducible refine Kd.C_drew ?_)))
                (case side4 => exact HC1_12.out)
                rintro e w14 ⟨rfl, hb⟩
                refine ⟨_, rfl, ?_⟩
                have n0_ := Aside0.mk (blk_below (g := gb125) (o := .cells #[.int .i64 a1_0, .int .i64 a1_1, .int .i64 a1_2, .int .i64 a1_3, .int .i64 a1_4, .int .i64 a1_5, .int .u64 a1_6, .int .u64 a1_7, .int .i64 a1_8, .int .i64 a1_9, .bool a1_10, .int .u64 a1_11, .slice A1_12 l1_12.length c1_12] 38 (0, 0)) (by (with_reducible repeat (first | refine blk_drewN ?_ _ | refine blk_drew ?_ | refine blk_alloc ?_ _)); exact BK125.out) hb)
                have n1_ := Aside0.mk (below_step (by repeat (first | (with_reducible first | exact HB.out | apply below_alloc | apply pw_below_drewN | apply below_drew1 | refine below_set ?_ GE125.out) | exact HB.out)) hb)
                clear BK125
                clear HB
                have BK125 := n0_
                have HB := n1_
                clear n0_ n1_
                (try clear hb)
                (try clear hb2)
                (try clear hk)
                (try clear hi)
                refine hK.out _ _ ⟨(blk_cell BK125.out 0).trans rfl, (blk_cell BK125.out 1).trans rfl, (blk_cell BK125.out 2).trans rfl, (blk_cell BK125.out 3).trans rfl, (blk_cell BK125.out 4).trans rfl, (blk_cell BK125.out 5).trans rfl, (blk_cell BK125.out 6).trans rfl, (blk_cell BK125.out 7).trans rfl, (blk_cell BK125.out 8).trans rfl, (blk_cell BK125.out 9).trans rfl, (blk_cell BK125.out 10).trans rfl, (blk_cell BK125.out 11).trans rfl, (blk_cell BK125.out 12).trans rfl, ((HB.out.cell (World.block_lt_of_cell? w _ hw126_0)).trans hw126_0), ((HB.out.cell (World.block_lt_of_cell? w _ hw126_1)).trans hw126_1), ((HB.out.cell (World.block_lt_of_cell? w _ hw126_2)).trans hw126_2), ((HB.out.cell (World.block_lt_of_cell? w _ hw126_3)).trans hw126_3), ((HB.out.cell (World.block_lt_of_cell? w _ hw126_4)).trans hw126_4), ((HB.out.cell (World.block_lt_of_cell? w _ hw126_5)).trans hw126_5), ((HB.out.cell (World.block_lt_of_cell? w _ hw126_6)).trans hw126_6), ((HB.out.cell (World.block_lt_of_cell? w _ hw126_7)).trans hw126_7), ((HB.out.cell (World.block_lt_of_cell? w _ hw126_8)).trans hw126_8), ((HB.out.cell (World.block_lt_of_cell? w _ hw126_9)).trans hw126_9), ((HB.out.cell (World.block_lt_of_cell? w _ hw126_10)).trans hw126_10), ((HB.out.cell (World.block_lt_of_cell? w _ hw126_11)).trans hw126_11), ((HB.out.cell (World.block_lt_of_cell? w _ hw126_12)).trans hw126_12), ((HB.out.cell (World.block_lt_of_cell? w _ hw127_0)).trans hw127_0), ((HB.out.cell (World.block_lt_of_cell? w _ hw127_1)).trans hw127_1), ((HB.out.cell (World.block_lt_of_cell? w _ hw127_2)).trans hw127_2), ((HB.out.cell (World.block_lt_of_cell? w _ hw127_3)).trans hw127_3), ((HB.out.cell (World.block_lt_of_cell? w _ hw127_4)).trans hw127_4), ((HB.out.cell (World.block_lt_of_cell? w _ hw127_5)).trans hw127_5), ((HB.out.cell (World.block_lt_of_cell? w _ hw127_6)).trans hw127_6), ((HB.out.cell (World.block_lt_of_cell? w _ hw127_7)).trans hw127_7), ((HB.out.cell (World.block_lt_of_cell? w _ hw127_8)).trans hw127_8), ((HB.out.cell (World.block_lt_of_cell? w _ hw127_9)).trans hw127_9), ((HB.out.cell (World.block_lt_of_cell? w _ hw127_10)).trans hw127_10), ((HB.out.cell (World.block_lt_of_cell? w _ hw127_11)).trans hw127_11), ((HB.out.cell (World.block_lt_of_cell? w _ hw127_12)).trans hw127_12), ((HB.out.cell (World.block_lt_of_cell? w _ hw129_0)).trans hw129_0), ((HB.out.cell (World.block_lt_of_cell? w _ hw129_1)).trans hw129_1), ((HB.out.cell (World.block_lt_of_cell? w _ hw129_2)).trans hw129_2), ((HB.out.cell (World.block_lt_of_cell? w _ hw129_3)).trans hw129_3), ((HB.out.cell (World.block_lt_of_cell? w _ hw129_4)).trans hw129_4), ((HB.out.cell (World.block_lt_of_cell? w _ hw129_5)).trans hw129_5), ((HB.out.cell (World.block_lt_of_cell? w _ hw129_6)).trans hw129_6), ((HB.out.cell (World.block_lt_of_cell? w _ hw129_7)).trans hw129_7), ((HB.out.cell (World.block_lt_of_cell? w _ hw129_8)).trans hw129_8), ((HB.out.cell (World.block_lt_of_cell? w _ hw129_9)).trans hw129_9), ((HB.out.cell (World.block_lt_of_cell? w _ hw129_10)).trans hw129_10), ((HB.out.cell (World.block_lt_of_cell? w _ hw129_11)).trans hw129_11), ((HB.out.cell (World.block_lt_of_cell? w _ hw129_12)).trans hw129_12)⟩ (fun hHeld => ?_)
                clear hK K
                refine norm_ (a' := ?_) ?_ ?_
                rotate_left
                · show Act.put _ (some 26) _ = _
                  simp only [Act.put, List.setIfInBounds_toArray, List.set_cons_zero, List.set_cons_succ, i64_w, i32_w]
                  rfl
                refine pure_ (i := 14) (N := some 27) (v := ?_) (a' := ?_) #[true, true, true, true, true, true, true, true, true, true, true, true, true, true, true, false, false, false, false, false, false, false, false, false, false] rfl rfl (any_of HT_.out (by kernel_rfl)) (fun _ _ _ h => h) (Or.inl ⟨by rfl, ?_⟩) ?_ ?_
                rotate_left
                · intro w'
                  go_simp
                  with_reducible rfl
                rotate_left
                · simp only [Act.put, List.setIfInBounds_toArray, List.set_cons_zero, List.set_cons_succ, i64_w, i32_w]
                  rfl
                refine pure_ (i := 15) (N := some 28) (v := ?_) (a' := ?_) #[true, true, true, true, true, true, true, true, true, true, true, true, true, true, true, true, false, false, false, false, false, false, false, false, false] rfl rfl (any_of HT_.out (by kernel_rfl)) (fun _ _ _ h => h) (Or.inl ⟨by rfl, ?_⟩) ?_ ?_
                rotate_left
                · intro w'
                  go_simp
                  with_reducible rfl
                rotate_left
                · simp only [Act.put, List.setIfInBounds_toArray, List.set_cons_zero, List.set_cons_succ, i64_w, i32_w]
                  rfl
                refine pure_ (i := 16) (N := some 29) (v := ?_) (a' := ?_) #[true, true, true, true, true, true, true, true, true, true, true, true, true, true, true, true, true, false, false, false, false, false, false, false, false] rfl rfl (any_of HT_.out (by kernel_rfl)) (fun _ _ _ h => h) (Or.inl ⟨by rfl, ?_⟩) ?_ ?_
                rotate_left
                · intro w'
                  go_simp
                  with_reducible rfl
                rotate_left
                · simp only [Act.put, List.setIfInBounds_toArray, List.set_cons_zero, List.set_cons_succ, i64_w, i32_w]
                  rfl
                refine pure_ (i := 18) (N := some 31) (v := ?_) (a' := ?_) #[true, true, true, true, true, true, true, true, true, true, true, true, true, true, true, true, true, false, true, false, false, false, false, false, false] rfl rfl (any_of HT_.out (by kernel_rfl)) (fun _ _ _ h => h) (Or.inl ⟨by rfl, ?_⟩) ?_ ?_
                rotate_left
                · intro w'
                  go_simp
                  with_reducible rfl
                rotate_left
                · simp only [Act.put, List.setIfInBounds_toArray, List.set_cons_zero, List.set_cons_succ, i64_w, i32_w]
                  rfl
                refine pure_ (i := 19) (N := some 32) (v := ?_) (a' := ?_) #[true, true, true, true, true, true, true, true, true, true, true, true, true, true, true, true, true, false, true, true, false, false, false, false, false] rfl rfl (any_of HT_.out (by kernel_rfl)) (fun _ _ _ h => h) (Or.inl ⟨by rfl, ?_⟩) ?_ ?_
                rotate_left
                · intro w'
                  go_simp
                  with_reducible rfl
                rotate_left
                · simp only [Act.put, List.setIfInBounds_toArray, List.set_cons_zero, List.set_cons_succ, i64_w, i32_w]
                  rfl
                refine pure_ (i := 20) (N := some 33) (v := ?_) (a' := ?_) #[true, true, true, true, true, true, true, true, true, true, true, true, true, true, true, true, true, false, true, true, true, false, false, false, false] rfl rfl (any_of HT_.out (by kernel_rfl)) (fun _ _ _ h => h) (Or.inl ⟨by rfl, ?_⟩) ?_ ?_
                rotate_left
                · intro w'
                  go_simp
                  with_reducible rfl
                rotate_left
                · simp only [Act.put, List.setIfInBounds_toArray, List.set_cons_zero, List.set_cons_succ, i64_w, i32_w]
                  rfl
                refine take_ (i := 17) (N := some 30) (v := ?_) (a' := ?_) #[true, true, true, true, true, true, true, true, true, true, true, true, true, true, true, true, true, true, true, true, true, false, false, false, false] rfl rfl (take_ofW HT_.out HW_.out (by kernel_rfl)) (fun _ _ _ h => h) (Or.inl ⟨by rfl, ?_⟩) hHeld ?_ ?_
                rotate_left
                · rintro w' ⟨s0, s1, s2, s3, s4, s5, s6, s7, s8, s9, s10, s11, s12, s13, s14, s15, s16, s17, s18, s19, s20, s21, s22, s23, s24, s25, s26, s27, s28, s29, s30, s31, s32, s33, s34, s35, s36, s37, s38, s39, s40, s41, s42, s43, s44, s45, s46, s47, s48, s49, s50, s51⟩
                  go_simp
                  with_reducible rfl
                rotate_left
                · simp only [Act.put, List.setIfInBounds_toArray, List.set_cons_zero, List.set_cons_succ, i64_w, i32_w]
                  rfl
                refine take_ (i := 21) (N := some 34) (v := ?_) (a' := ?_) #[true, true, true, true, true, true, true, true, true, true, true, true, true, true, true, true, true, true, true, true, true, true, false, false, false] rfl rfl (take_ofW HT_.out HW_.out (by kernel_rfl)) (fun _ _ _ h => h) (Or.inl ⟨by rfl, ?_⟩) hHeld ?_ ?_
                rotate_left
                · rintro w' ⟨s0, s1, s2, s3, s4, s5, s6, s7, s8, s9, s10, s11, s12, s13, s14, s15, s16, s17, s18, s19, s20, s21, s22, s23, s24, s25, s26, s27, s28, s29, s30, s31, s32, s33, s34, s35, s36, s37, s38, s39, s40, s41, s42, s43, s44, s45, s46, s47, s48, s49, s50, s51⟩
                  go_simp
                  with_reducible rfl
                rotate_left
                · simp only [Act.put, List.setIfInBounds_toArray, List.set_cons_zero, List.set_cons_succ, i64_w, i32_w]
                  rfl
                refine one_ (i := 22) (N := some 35) #[true, true, true, true, true, true, true, true, true, true, true, true, true, true, true, true, true, true, true, true, true, true, true, false, false] rfl rfl (one_of HT_.out (by kernel_rfl)) (by decide) (fun K hK => ?_)
                refine goes_ Try.func36 (by kernel_rfl) rfl #[.agg #[.int .i64 a1_0, .int .i64 a1_1, .int .i64 a1_2, .int .i64 a1_3, .int .i64 a1_4, .int .i64 a1_5, .int .u64 a1_6, .int .u64 a1_7, .int .i64 a1_8, .int .i64 a1_9, .bool a1_10, .int .u64 a1_11, .slice A1_12 l1_12.length c1_12], .agg #[.int .i64 ((rd_T38 l0 x6_1).f0), .int .i64 ((rd_T38 l0 x6_1).f1), .int .i64 ((rd_T38 l0 x6_1).f2), .int .i64 ((rd_T38 l0 x6_1).f3), .int .i64 ((rd_T38 l0 x6_1).f4), .int .i64 ((rd_T38 l0 x6_1).f5.f0), .int .u64 ((rd_T38 l0 x6_1).f5.f1), .int .u64 ((rd_T38 l0 x6_1).f5.f2), .int .i64 ((rd_T38 l0 x6_1).f5.f3), .int .i64 ((rd_T38 l0 x6_1).f6.f0), .bool ((rd_T38 l0 x6_1).f6.f1), .int .u64 ((rd_T38 l0 x6_1).f6.f2), .slice A126_12 ((rd_T38 l0 x6_1).f6.f3).length c126_12]] (by rfl) rfl rfl (by (try simp only [List.map_toArray, List.map_cons, List.map_nil]); first | done | rfl | (simp only [List.length_drop, List.length_take]; rfl)) ?_
                with_reducible refine (corrieref19_Before.calls a1_0 a1_1 a1_2 a1_3 a1_4 a1_5 a1_6 a1_7 a1_8 a1_9 a1_10 a1_11 _ _ l1_12 ((rd_T38 l0 x6_1).f0) ((rd_T38 l0 x6_1).f1) ((rd_T38 l0 x6_1).f2) ((rd_T38 l0 x6_1).f3) ((rd_T38 l0 x6_1).f4) ((rd_T38 l0 x6_1).f5.f0) ((rd_T38 l0 x6_1).f5.f1) ((rd_T38 l0 x6_1).f5.f2) ((rd_T38 l0 x6_1).f5.f3) ((rd_T38 l0 x6_1).f6.f0) ((rd_T38 l0 x6_1).f6.f1) ((rd_T38 l0 x6_1).f6.f2) _ _ ((rd_T38 l0 x6_1).f6.f3) true _ ?side1 ?side2 ?side3 ?side4 A11.out).mono ?_
                (case side1 => repeat (first | exact (Kd.C_below HR1_12.out HB.out) | (with_reducible refine Kd.C_alloc ?_ _) | (with_reducible refine Kd.C_drewN ?_ _) | (with_reducible refine Kd.C_drew ?_)))
                (case side2 => exact HC1_12.out)
                (case side3 => repeat (first | exact (Kd.C_below HR129_12.out HB.out) | (with_reducible refine Kd.C_alloc ?_ _) | (with_reducible refine Kd.C_drewN ?_ _) | (with_reducible refine Kd.C_drew ?_)))
                (case side4 => exact HC129_12.out)
                rintro e w15 ⟨rfl, hb⟩
                refine ⟨_, rfl, ?_⟩
                have n0_ := Aside0.mk (blk_below (g := gb125) (o := .cells #[.int .i64 a1_0, .int .i64 a1_1, .int .i64 a1_2, .int .i64 a1_3, .int .i64 a1_4, .int .i64 a1_5, .int .u64 a1_6, .int .u64 a1_7, .int .i64 a1_8, .int .i64 a1_9, .bool a1_10, .int .u64 a1_11, .slice A1_12 l1_12.length c1_12] 38 (0, 0)) (by (with_reducible repeat (first | refine blk_drewN ?_ _ | refine blk_drew ?_ | refine blk_alloc ?_ _)); exact BK125.out) hb)
                have n1_ := Aside0.mk (below_step (by repeat (first | (with_reducible first | exact HB.out | apply below_alloc | apply pw_below_drewN | apply below_drew1 | refine below_set ?_ GE125.out) | exact HB.out)) hb)
                clear BK125
                clear HB
                have BK125 := n0_
                have HB := n1_
                clear n0_ n1_
                (try clear hb)
                (try clear hb2)
                (try clear hk)
                (try clear hi)
                refine hK.out _ _ ⟨(blk_cell BK125.out 0).trans rfl, (blk_cell BK125.out 1).trans rfl, (blk_cell BK125.out 2).trans rfl, (blk_cell BK125.out 3).trans rfl, (blk_cell BK125.out 4).trans rfl, (blk_cell BK125.out 5).trans rfl, (blk_cell BK125.out 6).trans rfl, (blk_cell BK125.out 7).trans rfl, (blk_cell BK125.out 8).trans rfl, (blk_cell BK125.out 9).trans rfl, (blk_cell BK125.out 10).trans rfl, (blk_cell BK125.out 11).trans rfl, (blk_cell BK125.out 12).trans rfl, ((HB.out.cell (World.block_lt_of_cell? w _ hw126_0)).trans hw126_0), ((HB.out.cell (World.block_lt_of_cell? w _ hw126_1)).trans hw126_1), ((HB.out.cell (World.block_lt_of_cell? w _ hw126_2)).trans hw126_2), ((HB.out.cell (World.block_lt_of_cell? w _ hw126_3)).trans hw126_3), ((HB.out.cell (World.block_lt_of_cell? w _ hw126_4)).trans hw126_4), ((HB.out.cell (World.block_lt_of_cell? w _ hw126_5)).trans hw126_5), ((HB.out.cell (World.block_lt_of_cell? w _ hw126_6)).trans hw126_6), ((HB.out.cell (World.block_lt_of_cell? w _ hw126_7)).trans hw126_7), ((HB.out.cell (World.block_lt_of_cell? w _ hw126_8)).trans hw126_8), ((HB.out.cell (World.block_lt_of_cell? w _ hw126_9)).trans hw126_9), ((HB.out.cell (World.block_lt_of_cell? w _ hw126_10)).trans hw126_10), ((HB.out.cell (World.block_lt_of_cell? w _ hw126_11)).trans hw126_11), ((HB.out.cell (World.block_lt_of_cell? w _ hw126_12)).trans hw126_12), ((HB.out.cell (World.block_lt_of_cell? w _ hw127_0)).trans hw127_0), ((HB.out.cell (World.block_lt_of_cell? w _ hw127_1)).trans hw127_1), ((HB.out.cell (World.block_lt_of_cell? w _ hw127_2)).trans hw127_2), ((HB.out.cell (World.block_lt_of_cell? w _ hw127_3)).trans hw127_3), ((HB.out.cell (World.block_lt_of_cell? w _ hw127_4)).trans hw127_4), ((HB.out.cell (World.block_lt_of_cell? w _ hw127_5)).trans hw127_5), ((HB.out.cell (World.block_lt_of_cell? w _ hw127_6)).trans hw127_6), ((HB.out.cell (World.block_lt_of_cell? w _ hw127_7)).trans hw127_7), ((HB.out.cell (World.block_lt_of_cell? w _ hw127_8)).trans hw127_8), ((HB.out.cell (World.block_lt_of_cell? w _ hw127_9)).trans hw127_9), ((HB.out.cell (World.block_lt_of_cell? w _ hw127_10)).trans hw127_10), ((HB.out.cell (World.block_lt_of_cell? w _ hw127_11)).trans hw127_11), ((HB.out.cell (World.block_lt_of_cell? w _ hw127_12)).trans hw127_12), ((HB.out.cell (World.block_lt_of_cell? w _ hw129_0)).trans hw129_0), ((HB.out.cell (World.block_lt_of_cell? w _ hw129_1)).trans hw129_1), ((HB.out.cell (World.block_lt_of_cell? w _ hw129_2)).trans hw129_2), ((HB.out.cell (World.block_lt_of_cell? w _ hw129_3)).trans hw129_3), ((HB.out.cell (World.block_lt_of_cell? w _ hw129_4)).trans hw129_4), ((HB.out.cell (World.block_lt_of_cell? w _ hw129_5)).trans hw129_5), ((HB.out.cell (World.block_lt_of_cell? w _ hw129_6)).trans hw129_6), ((HB.out.cell (World.block_lt_of_cell? w _ hw129_7)).trans hw129_7), ((HB.out.cell (World.block_lt_of_cell? w _ hw129_8)).trans hw129_8), ((HB.out.cell (World.block_lt_of_cell? w _ hw129_9)).trans hw129_9), ((HB.out.cell (World.block_lt_of_cell? w _ hw129_10)).trans hw129_10), ((HB.out.cell (World.block_lt_of_cell? w _ hw129_11)).trans hw129_11), ((HB.out.cell (World.block_lt_of_cell? w _ hw129_12)).trans hw129_12)⟩ (fun hHeld => ?_)
                clear hK K
                refine norm_ (a' := ?_) ?_ ?_
                rotate_left
                · show Act.put _ (some 35) _ = _
                  simp only [Act.put, List.setIfInBounds_toArray, List.set_cons_zero, List.set_cons_succ, i64_w, i32_w]
                  rfl
                refine pure_ (i := 23) (N := some 36) (v := ?_) (a' := ?_) #[true, true, true, true, true, true, true, true, true, true, true, true, true, true, true, true, true, true, true, true, true, true, true, true, false] rfl rfl (any_of HT_.out (by kernel_rfl)) (fun _ _ _ h => h) (Or.inl ⟨by rfl, ?_⟩) ?_ ?_
                rotate_left
                · intro w'
                  go_simp
                  with_reducible rfl
                rotate_left
                · simp only [Act.put, List.setIfInBounds_toArray, List.set_cons_zero, List.set_cons_succ, i64_w, i32_w]
                  rfl
                refine pure_ (i := 24) (N := some 37) (v := ?_) (a' := ?_) #[true, true, true, true, true, true, true, true, true, true, true, true, true, true, true, true, true, true, true, true, true, true, true, true, true] rfl rfl (any_of HT_.out (by kernel_rfl)) (fun _ _ _ h => h) (Or.inl ⟨by rfl, ?_⟩) ?_ ?_
                rotate_left
                · intro w'
                  go_simp
                  with_reducible rfl
                rotate_left
                · simp only [Act.put, List.setIfInBounds_toArray, List.set_cons_zero, List.set_cons_succ, i64_w, i32_w]
                  rfl
                refine done_ (done_of HT_.out (by kernel_rfl)) ?_
                try go_wp2
                go_roundg k1
                case measure => have := HK1.out; omega
                case rel => exact ⟨(x5_1), (wrap64 (x6_1 + 1)), (by first | rfl | (simp; done) | (simp [*]; done)), (by first | rfl | (simp; done) | (simp [*]; done)), H', ⟨by have := HK1.out; omega⟩, ⟨by (with_reducible repeat (first | refine blk_drewN ?_ _ | refine blk_drew ?_ | refine blk_alloc ?_ _)); exact BK125.out⟩, ⟨by repeat (first | (with_reducible first | exact HB.out | apply below_alloc | apply pw_below_drewN | apply below_drew1 | refine below_set ?_ GE125.out) | exact HB.out)⟩⟩
              · replace c12 := Bool.eq_false_iff.mpr c12
                subst c12
                have H1 : (corrieref19_Inserts.l0 k1 l0 (wrap64 (x5_1 + 1)) (wrap64 (x6_1 + 1)) a1_0 a1_1 a1_2 a1_3 a1_4 a1_5 a1_6 a1_7 a1_8 a1_9 a1_10 a1_11 l1_12) = some r := by rw [if_neg (show ¬ (false = true) by decide)] at H; exact H
                clear H
                have H := H1
                clear H1
                have H' := Aside0.mk H
                clear H
                try go_wp2
                have n0_ := Aside0.mk (blk_drew BK125.out)
                have n1_ := Aside0.mk (below_drew1 HB.out)
                clear BK125
                clear HB
                have BK125 := n0_
                have HB := n1_
                clear n0_ n1_
                have p126 : 0 ≤ (x6_1 : Int) := of_decide_eq_true (by first | (with_reducible assumption) | assumption)
                have q126 : x6_1 < (l0.length : Int) := of_decide_eq_true (by first | (with_reducible assumption) | assumption)
                obtain ⟨ad126, A126_12, c126_12, e126, hx126_0, hx126_1, hx126_2, hx126_3, hx126_4, hx126_5, hx126_6, hx126_7, hx126_8, hx126_9, hx126_10, hx126_11, hx126_12, hl126_12, hi126_12⟩ := at_T38 HR0.out x6_1 p126 q126
                have hw126_12 := hx126_12
                have hw126_11 := hx126_11
                have hw126_10 := hx126_10
                have hw126_9 := hx126_9
                have hw126_8 := hx126_8
                have hw126_7 := hx126_7
                have hw126_6 := hx126_6
                have hw126_5 := hx126_5
                have hw126_4 := hx126_4
                have hw126_3 := hx126_3
                have hw126_2 := hx126_2
                have hw126_1 := hx126_1
                have hw126_0 := hx126_0
                cases e126
                replace hx126_0 := (HB.out.cell (World.block_lt_of_cell? w _ hx126_0)).trans hx126_0
                replace hx126_1 := (HB.out.cell (World.block_lt_of_cell? w _ hx126_1)).trans hx126_1
                replace hx126_2 := (HB.out.cell (World.block_lt_of_cell? w _ hx126_2)).trans hx126_2
                replace hx126_3 := (HB.out.cell (World.block_lt_of_cell? w _ hx126_3)).trans hx126_3
                replace hx126_4 := (HB.out.cell (World.block_lt_of_cell? w _ hx126_4)).trans hx126_4
                replace hx126_5 := (HB.out.cell (World.block_lt_of_cell? w _ hx126_5)).trans hx126_5
                replace hx126_6 := (HB.out.cell (World.block_lt_of_cell? w _ hx126_6)).trans hx126_6
                replace hx126_7 := (HB.out.cell (World.block_lt_of_cell? w _ hx126_7)).trans hx126_7
                replace hx126_8 := (HB.out.cell (World.block_lt_of_cell? w _ hx126_8)).trans hx126_8
                replace hx126_9 := (HB.out.cell (World.block_lt_of_cell? w _ hx126_9)).trans hx126_9
                replace hx126_10 := (HB.out.cell (World.block_lt_of_cell? w _ hx126_10)).trans hx126_10
                replace hx126_11 := (HB.out.cell (World.block_lt_of_cell? w _ hx126_11)).trans hx126_11
                replace hx126_12 := (HB.out.cell (World.block_lt_of_cell? w _ hx126_12)).trans hx126_12
                have HR126_12 := Aside0.mk hi126_12
                have HC126_12 := Aside0.mk hl126_12
                clear hi126_12 hl126_12
                replace p126 := eq_true p126
                replace q126 := eq_true q126
                have p127 : 0 ≤ (x6_1 : Int) := of_decide_eq_true (by first | (with_reducible assumption) | assumption)
                have q127 : x6_1 < (l0.length : Int) := of_decide_eq_true (by first | (with_reducible assumption) | assumption)
                obtain ⟨ad127, A127_12, c127_12, e127, hx127_0, hx127_1, hx127_2, hx127_3, hx127_4, hx127_5, hx127_6, hx127_7, hx127_8, hx127_9, hx127_10, hx127_11, hx127_12, hl127_12, hi127_12⟩ := at_T38 HR0.out x6_1 p127 q127
                have hw127_12 := hx127_12
                have hw127_11 := hx127_11
                have hw127_10 := hx127_10
                have hw127_9 := hx127_9
                have hw127_8 := hx127_8
                have hw127_7 := hx127_7
                have hw127_6 := hx127_6
                have hw127_5 := hx127_5
                have hw127_4 := hx127_4
                have hw127_3 := hx127_3
                have hw127_2 := hx127_2
                have hw127_1 := hx127_1
                have hw127_0 := hx127_0
                obtain rfl : ad126 = ad127 := (by injection e127)
                replace hx127_0 := (HB.out.cell (World.block_lt_of_cell? w _ hx127_0)).trans hx127_0
                replace hx127_1 := (HB.out.cell (World.block_lt_of_cell? w _ hx127_1)).trans hx127_1
                replace hx127_2 := (HB.out.cell (World.block_lt_of_cell? w _ hx127_2)).trans hx127_2
                replace hx127_3 := (HB.out.cell (World.block_lt_of_cell? w _ hx127_3)).trans hx127_3
                replace hx127_4 := (HB.out.cell (World.block_lt_of_cell? w _ hx127_4)).trans hx127_4
                replace hx127_5 := (HB.out.cell (World.block_lt_of_cell? w _ hx127_5)).trans hx127_5
                replace hx127_6 := (HB.out.cell (World.block_lt_of_cell? w _ hx127_6)).trans hx127_6
                replace hx127_7 := (HB.out.cell (World.block_lt_of_cell? w _ hx127_7)).trans hx127_7
                replace hx127_8 := (HB.out.cell (World.block_lt_of_cell? w _ hx127_8)).trans hx127_8
                replace hx127_9 := (HB.out.cell (World.block_lt_of_cell? w _ hx127_9)).trans hx127_9
                replace hx127_10 := (HB.out.cell (World.block_lt_of_cell? w _ hx127_10)).trans hx127_10
                replace hx127_11 := (HB.out.cell (World.block_lt_of_cell? w _ hx127_11)).trans hx127_11
                replace hx127_12 := (HB.out.cell (World.block_lt_of_cell? w _ hx127_12)).trans hx127_12
                have HR127_12 := Aside0.mk hi127_12
                have HC127_12 := Aside0.mk hl127_12
                clear hi127_12 hl127_12
                replace p127 := eq_true p127
                replace q127 := eq_true q127
                have ea_ := Option.some.inj (hx126_12.symm.trans hx127_12)
                injection ea_ with ea_ en_ ec_
                subst ea_
                subst ec_
                clear en_
                have p129 : 0 ≤ (x6_1 : Int) := of_decide_eq_true (by first | (with_reducible assumption) | assumption)
                have q129 : x6_1 < (l0.length : Int) := of_decide_eq_true (by first | (with_reducible assumption) | assumption)
                obtain ⟨ad129, A129_12, c129_12, e129, hx129_0, hx129_1, hx129_2, hx129_3, hx129_4, hx129_5, hx129_6, hx129_7, hx129_8, hx129_9, hx129_10, hx129_11, hx129_12, hl129_12, hi129_12⟩ := at_T38 HR0.out x6_1 p129 q129
                have hw129_12 := hx129_12
                have hw129_11 := hx129_11
                have hw129_10 := hx129_10
                have hw129_9 := hx129_9
                have hw129_8 := hx129_8
                have hw129_7 := hx129_7
                have hw129_6 := hx129_6
                have hw129_5 := hx129_5
                have hw129_4 := hx129_4
                have hw129_3 := hx129_3
                have hw129_2 := hx129_2
                have hw129_1 := hx129_1
                have hw129_0 := hx129_0
                obtain rfl : ad126 = ad129 := (by injection e129)
                obtain ⟨rfl, rfl⟩ : A126_12 = A129_12 ∧ c126_12 = c129_12 := by first | (have hh := Option.some.inj (hw126_12.symm.trans hx129_12); injection hh with ha hb hc; exact ⟨ha, hc⟩) | (have hh := Option.some.inj (hx126_12.symm.trans hx129_12); injection hh with ha hb hc; exact ⟨ha, hc⟩)
                replace hx129_0 := (HB.out.cell (World.block_lt_of_cell? w _ hx129_0)).trans hx129_0
                replace hx129_1 := (HB.out.cell (World.block_lt_of_cell? w _ hx129_1)).trans hx129_1
                replace hx129_2 := (HB.out.cell (World.block_lt_of_cell? w _ hx129_2)).trans hx129_2
                replace hx129_3 := (HB.out.cell (World.block_lt_of_cell? w _ hx129_3)).trans hx129_3
                replace hx129_4 := (HB.out.cell (World.block_lt_of_cell? w _ hx129_4)).trans hx129_4
                replace hx129_5 := (HB.out.cell (World.block_lt_of_cell? w _ hx129_5)).trans hx129_5
                replace hx129_6 := (HB.out.cell (World.block_lt_of_cell? w _ hx129_6)).trans hx129_6
                replace hx129_7 := (HB.out.cell (World.block_lt_of_cell? w _ hx129_7)).trans hx129_7
                replace hx129_8 := (HB.out.cell (World.block_lt_of_cell? w _ hx129_8)).trans hx129_8
                replace hx129_9 := (HB.out.cell (World.block_lt_of_cell? w _ hx129_9)).trans hx129_9
                replace hx129_10 := (HB.out.cell (World.block_lt_of_cell? w _ hx129_10)).trans hx129_10
                replace hx129_11 := (HB.out.cell (World.block_lt_of_cell? w _ hx129_11)).trans hx129_11
                replace hx129_12 := (HB.out.cell (World.block_lt_of_cell? w _ hx129_12)).trans hx129_12
                have HR129_12 := Aside0.mk hi129_12
                have HC129_12 := Aside0.mk hl129_12
                clear hi129_12 hl129_12
                replace p129 := eq_true p129
                replace q129 := eq_true q129
                refine start_ (n := 25) (S := fun w' => w'.cell? ⟨gb125, 0, none⟩ = some (.int .i64 a1_0) ∧ w'.cell? ⟨gb125, 1, none⟩ = some (.int .i64 a1_1) ∧ w'.cell? ⟨gb125, 2, none⟩ = some (.int .i64 a1_2) ∧ w'.cell? ⟨gb125, 3, none⟩ = some (.int .i64 a1_3) ∧ w'.cell? ⟨gb125, 4, none⟩ = some (.int .i64 a1_4) ∧ w'.cell? ⟨gb125, 5, none⟩ = some (.int .i64 a1_5) ∧ w'.cell? ⟨gb125, 6, none⟩ = some (.int .u64 a1_6) ∧ w'.cell? ⟨gb125, 7, none⟩ = some (.int .u64 a1_7) ∧ w'.cell? ⟨gb125, 8, none⟩ = some (.int .i64 a1_8) ∧ w'.cell? ⟨gb125, 9, none⟩ = some (.int .i64 a1_9) ∧ w'.cell? ⟨gb125, 10, none⟩ = some (.bool a1_10) ∧ w'.cell? ⟨gb125, 11, none⟩ = some (.int .u64 a1_11) ∧ w'.cell? ⟨gb125, 12, none⟩ = some (.slice A1_12 l1_12.length c1_12) ∧ w'.cell? (ad126.add ((x6_1).toNat * 13)) = some (.int .i64 ((rd_T38 l0 x6_1).f0)) ∧ w'.cell? ⟨(ad126.add ((x6_1).toNat * 13)).block, (ad126.add ((x6_1).toNat * 13)).off + 1, none⟩ = some (.int .i64 ((rd_T38 l0 x6_1).f1)) ∧ w'.cell? ⟨(ad126.add ((x6_1).toNat * 13)).block, (ad126.add ((x6_1).toNat * 13)).off + 2, none⟩ = some (.int .i64 ((rd_T38 l0 x6_1).f2)) ∧ w'.cell? ⟨(ad126.add ((x6_1).toNat * 13)).block, (ad126.add ((x6_1).toNat * 13)).off + 3, none⟩ = some (.int .i64 ((rd_T38 l0 x6_1).f3)) ∧ w'.cell? ⟨(ad126.add ((x6_1).toNat * 13)).block, (ad126.add ((x6_1).toNat * 13)).off + 4, none⟩ = some (.int .i64 ((rd_T38 l0 x6_1).f4)) ∧ w'.cell? ⟨(ad126.add ((x6_1).toNat * 13)).block, (ad126.add ((x6_1).toNat * 13)).off + 5, none⟩ = some (.int .i64 ((rd_T38 l0 x6_1).f5.f0)) ∧ w'.cell? ⟨(ad126.add ((x6_1).toNat * 13)).block, (ad126.add ((x6_1).toNat * 13)).off + 6, none⟩ = some (.int .u64 ((rd_T38 l0 x6_1).f5.f1)) ∧ w'.cell? ⟨(ad126.add ((x6_1).toNat * 13)).block, (ad126.add ((x6_1).toNat * 13)).off + 7, none⟩ = some (.int .u64 ((rd_T38 l0 x6_1).f5.f2)) ∧ w'.cell? ⟨(ad126.add ((x6_1).toNat * 13)).block, (ad126.add ((x6_1).toNat * 13)).off + 8, none⟩ = some (.int .i64 ((rd_T38 l0 x6_1).f5.f3)) ∧ w'.cell? ⟨(ad126.add ((x6_1).toNat * 13)).block, (ad126.add ((x6_1).toNat * 13)).off + 9, none⟩ = some (.int .i64 ((rd_T38 l0 x6_1).f6.f0)) ∧ w'.cell? ⟨(ad126.add ((x6_1).toNat * 13)).block, (ad126.add ((x6_1).toNat * 13)).off + 10, none⟩ = some (.bool ((rd_T38 l0 x6_1).f6.f1)) ∧ w'.cell? ⟨(ad126.add ((x6_1).toNat * 13)).block, (ad126.add ((x6_1).toNat * 13)).off + 11, none⟩ = some (.int .u64 ((rd_T38 l0 x6_1).f6.f2)) ∧ w'.cell? ⟨(ad126.add ((x6_1).toNat * 13)).block, (ad126.add ((x6_1).toNat * 13)).off + 12, none⟩ = some (.slice A126_12 ((rd_T38 l0 x6_1).f6.f3).length c126_12) ∧ w'.cell? (ad126.add ((x6_1).toNat * 13)) = some (.int .i64 ((rd_T38 l0 x6_1).f0)) ∧ w'.cell? ⟨(ad126.add ((x6_1).toNat * 13)).block, (ad126.add ((x6_1).toNat * 13)).off + 1, none⟩ = some (.int .i64 ((rd_T38 l0 x6_1).f1)) ∧ w'.cell? ⟨(ad126.add ((x6_1).toNat * 13)).block, (ad126.add ((x6_1).toNat * 13)).off + 2, none⟩ = some (.int .i64 ((rd_T38 l0 x6_1).f2)) ∧ w'.cell? ⟨(ad126.add ((x6_1).toNat * 13)).block, (ad126.add ((x6_1).toNat * 13)).off + 3, none⟩ = some (.int .i64 ((rd_T38 l0 x6_1).f3)) ∧ w'.cell? ⟨(ad126.add ((x6_1).toNat * 13)).block, (ad126.add ((x6_1).toNat * 13)).off + 4, none⟩ = some (.int .i64 ((rd_T38 l0 x6_1).f4)) ∧ w'.cell? ⟨(ad126.add ((x6_1).toNat * 13)).block, (ad126.add ((x6_1).toNat * 13)).off + 5, none⟩ = some (.int .i64 ((rd_T38 l0 x6_1).f5.f0)) ∧ w'.cell? ⟨(ad126.add ((x6_1).toNat * 13)).block, (ad126.add ((x6_1).toNat * 13)).off + 6, none⟩ = some (.int .u64 ((rd_T38 l0 x6_1).f5.f1)) ∧ w'.cell? ⟨(ad126.add ((x6_1).toNat * 13)).block, (ad126.add ((x6_1).toNat * 13)).off + 7, none⟩ = some (.int .u64 ((rd_T38 l0 x6_1).f5.f2)) ∧ w'.cell? ⟨(ad126.add ((x6_1).toNat * 13)).block, (ad126.add ((x6_1).toNat * 13)).off + 8, none⟩ = some (.int .i64 ((rd_T38 l0 x6_1).f5.f3)) ∧ w'.cell? ⟨(ad126.add ((x6_1).toNat * 13)).block, (ad126.add ((x6_1).toNat * 13)).off + 9, none⟩ = some (.int .i64 ((rd_T38 l0 x6_1).f6.f0)) ∧ w'.cell? ⟨(ad126.add ((x6_1).toNat * 13)).block, (ad126.add ((x6_1).toNat * 13)).off + 10, none⟩ = some (.bool ((rd_T38 l0 x6_1).f6.f1)) ∧ w'.cell? ⟨(ad126.add ((x6_1).toNat * 13)).block, (ad126.add ((x6_1).toNat * 13)).off + 11, none⟩ = some (.int .u64 ((rd_T38 l0 x6_1).f6.f2)) ∧ w'.cell? ⟨(ad126.add ((x6_1).toNat * 13)).block, (ad126.add ((x6_1).toNat * 13)).off + 12, none⟩ = some (.slice A126_12 ((rd_T38 l0 x6_1).f6.f3).length c126_12) ∧ w'.cell? (ad126.add ((x6_1).toNat * 13)) = some (.int .i64 ((rd_T38 l0 x6_1).f0)) ∧ w'.cell? ⟨(ad126.add ((x6_1).toNat * 13)).block, (ad126.add ((x6_1).toNat * 13)).off + 1, none⟩ = some (.int .i64 ((rd_T38 l0 x6_1).f1)) ∧ w'.cell? ⟨(ad126.add ((x6_1).toNat * 13)).block, (ad126.add ((x6_1).toNat * 13)).off + 2, none⟩ = some (.int .i64 ((rd_T38 l0 x6_1).f2)) ∧ w'.cell? ⟨(ad126.add ((x6_1).toNat * 13)).block, (ad126.add ((x6_1).toNat * 13)).off + 3, none⟩ = some (.int .i64 ((rd_T38 l0 x6_1).f3)) ∧ w'.cell? ⟨(ad126.add ((x6_1).toNat * 13)).block, (ad126.add ((x6_1).toNat * 13)).off + 4, none⟩ = some (.int .i64 ((rd_T38 l0 x6_1).f4)) ∧ w'.cell? ⟨(ad126.add ((x6_1).toNat * 13)).block, (ad126.add ((x6_1).toNat * 13)).off + 5, none⟩ = some (.int .i64 ((rd_T38 l0 x6_1).f5.f0)) ∧ w'.cell? ⟨(ad126.add ((x6_1).toNat * 13)).block, (ad126.add ((x6_1).toNat * 13)).off + 6, none⟩ = some (.int .u64 ((rd_T38 l0 x6_1).f5.f1)) ∧ w'.cell? ⟨(ad126.add ((x6_1).toNat * 13)).block, (ad126.add ((x6_1).toNat * 13)).off + 7, none⟩ = some (.int .u64 ((rd_T38 l0 x6_1).f5.f2)) ∧ w'.cell? ⟨(ad126.add ((x6_1).toNat * 13)).block, (ad126.add ((x6_1).toNat * 13)).off + 8, none⟩ = some (.int .i64 ((rd_T38 l0 x6_1).f5.f3)) ∧ w'.cell? ⟨(ad126.add ((x6_1).toNat * 13)).block, (ad126.add ((x6_1).toNat * 13)).off + 9, none⟩ = some (.int .i64 ((rd_T38 l0 x6_1).f6.f0)) ∧ w'.cell? ⟨(ad126.add ((x6_1).toNat * 13)).block, (ad126.add ((x6_1).toNat * 13)).off + 10, none⟩ = some (.bool ((rd_T38 l0 x6_1).f6.f1)) ∧ w'.cell? ⟨(ad126.add ((x6_1).toNat * 13)).block, (ad126.add ((x6_1).toNat * 13)).off + 11, none⟩ = some (.int .u64 ((rd_T38 l0 x6_1).f6.f2)) ∧ w'.cell? ⟨(ad126.add ((x6_1).toNat * 13)).block, (ad126.add ((x6_1).toNat * 13)).off + 12, none⟩ = some (.slice A126_12 ((rd_T38 l0 x6_1).f6.f3).length c126_12)) (ds := []) #[false, false, false, false, false, false, false, false, false, false, false, false, false, false, false, false, false, false, false, false, false, false, false, false, false] (by kernel_rfl) rfl rfl ⟨(blk_cell BK125.out 0).trans rfl, (blk_cell BK125.out 1).trans rfl, (blk_cell BK125.out 2).trans rfl, (blk_cell BK125.out 3).trans rfl, (blk_cell BK125.out 4).trans rfl, (blk_cell BK125.out 5).trans rfl, (blk_cell BK125.out 6).trans rfl, (blk_cell BK125.out 7).trans rfl, (blk_cell BK125.out 8).trans rfl, (blk_cell BK125.out 9).trans rfl, (blk_cell BK125.out 10).trans rfl, (blk_cell BK125.out 11).trans rfl, (blk_cell BK125.out 12).trans rfl, ((HB.out.cell (World.block_lt_of_cell? w _ hw126_0)).trans hw126_0), ((HB.out.cell (World.block_lt_of_cell? w _ hw126_1)).trans hw126_1), ((HB.out.cell (World.block_lt_of_cell? w _ hw126_2)).trans hw126_2), ((HB.out.cell (World.block_lt_of_cell? w _ hw126_3)).trans hw126_3), ((HB.out.cell (World.block_lt_of_cell? w _ hw126_4)).trans hw126_4), ((HB.out.cell (World.block_lt_of_cell? w _ hw126_5)).trans hw126_5), ((HB.out.cell (World.block_lt_of_cell? w _ hw126_6)).trans hw126_6), ((HB.out.cell (World.block_lt_of_cell? w _ hw126_7)).trans hw126_7), ((HB.out.cell (World.block_lt_of_cell? w _ hw126_8)).trans hw126_8), ((HB.out.cell (World.block_lt_of_cell? w _ hw126_9)).trans hw126_9), ((HB.out.cell (World.block_lt_of_cell? w _ hw126_10)).trans hw126_10), ((HB.out.cell (World.block_lt_of_cell? w _ hw126_11)).trans hw126_11), ((HB.out.cell (World.block_lt_of_cell? w _ hw126_12)).trans hw126_12), ((HB.out.cell (World.block_lt_of_cell? w _ hw127_0)).trans hw127_0), ((HB.out.cell (World.block_lt_of_cell? w _ hw127_1)).trans hw127_1), ((HB.out.cell (World.block_lt_of_cell? w _ hw127_2)).trans hw127_2), ((HB.out.cell (World.block_lt_of_cell? w _ hw127_3)).trans hw127_3), ((HB.out.cell (World.block_lt_of_cell? w _ hw127_4)).trans hw127_4), ((HB.out.cell (World.block_lt_of_cell? w _ hw127_5)).trans hw127_5), ((HB.out.cell (World.block_lt_of_cell? w _ hw127_6)).trans hw127_6), ((HB.out.cell (World.block_lt_of_cell? w _ hw127_7)).trans hw127_7), ((HB.out.cell (World.block_lt_of_cell? w _ hw127_8)).trans hw127_8), ((HB.out.cell (World.block_lt_of_cell? w _ hw127_9)).trans hw127_9), ((HB.out.cell (World.block_lt_of_cell? w _ hw127_10)).trans hw127_10), ((HB.out.cell (World.block_lt_of_cell? w _ hw127_11)).trans hw127_11), ((HB.out.cell (World.block_lt_of_cell? w _ hw127_12)).trans hw127_12), ((HB.out.cell (World.block_lt_of_cell? w _ hw129_0)).trans hw129_0), ((HB.out.cell (World.block_lt_of_cell? w _ hw129_1)).trans hw129_1), ((HB.out.cell (World.block_lt_of_cell? w _ hw129_2)).trans hw129_2), ((HB.out.cell (World.block_lt_of_cell? w _ hw129_3)).trans hw129_3), ((HB.out.cell (World.block_lt_of_cell? w _ hw129_4)).trans hw129_4), ((HB.out.cell (World.block_lt_of_cell? w _ hw129_5)).trans hw129_5), ((HB.out.cell (World.block_lt_of_cell? w _ hw129_6)).trans hw129_6), ((HB.out.cell (World.block_lt_of_cell? w _ hw129_7)).trans hw129_7), ((HB.out.cell (World.block_lt_of_cell? w _ hw129_8)).trans hw129_8), ((HB.out.cell (World.block_lt_of_cell? w _ hw129_9)).trans hw129_9), ((HB.out.cell (World.block_lt_of_cell? w _ hw129_10)).trans hw129_10), ((HB.out.cell (World.block_lt_of_cell? w _ hw129_11)).trans hw129_11), ((HB.out.cell (World.block_lt_of_cell? w _ hw129_12)).trans hw129_12)⟩ (fun hHeld => ?_); refine with_tabW corrieref19_Inserts.tab5 corrieref19_Inserts.bits5 (fun HT_ HW_ => ?_)
                generalize wr.drew = w16 at BK125 HB HR126_12 HR127_12 HR129_12 hx126_0 hx126_1 hx126_10 hx126_11 hx126_12 hx126_2 hx126_3 hx126_4 hx126_5 hx126_6 hx126_7 hx126_8 hx126_9 hx127_0 hx127_1 hx127_10 hx127_11 hx127_12 hx127_2 hx127_3 hx127_4 hx127_5 hx127_6 hx127_7 hx127_8 hx127_9 hx129_0 hx129_1 hx129_10 hx129_11 hx129_12 hx129_2 hx129_3 hx129_4 hx129_5 hx129_6 hx129_7 hx129_8 hx129_9 hHeld ⊢
                refine pure_ (i := 0) (N := some 13) (v := ?_) (a' := ?_) #[true, false, false, false, false, false, false, false, false, false, false, false, false, false, false, false, false, false, false, false, false, false, false, false, false] rfl rfl (any_of HT_.out (by kernel_rfl)) (fun _ _ _ h => h) (Or.inl ⟨by rfl, ?_⟩) ?_ ?_
                rotate_left
                · intro w'
                  go_simp
                  with_reducible rfl
                rotate_left
                · simp only [Act.put, List.setIfInBounds_toArray, List.set_cons_zero, List.set_cons_succ, i64_w, i32_w]
                  rfl
                refine pure_ (i := 1) (N := some 14) (v := ?_) (a' := ?_) #[true, true, false, false, false, false, false, false, false, false, false, false, false, false, false, false, false, false, false, false, false, false, false, false, false] rfl rfl (any_of HT_.out (by kernel_rfl)) (fun _ _ _ h => h) (Or.inl ⟨by rfl, ?_⟩) ?_ ?_
                rotate_left
                · intro w'
                  go_simp
                  with_reducible rfl
                rotate_left
                · simp only [Act.put, List.setIfInBounds_toArray, List.set_cons_zero, List.set_cons_succ, i64_w, i32_w]
                  rfl
                refine pure_ (i := 2) (N := some 15) (v := ?_) (a' := ?_) #[true, true, true, false, false, false, false, false, false, false, false, false, false, false, false, false, false, false, false, false, false, false, false, false, false] rfl rfl (any_of HT_.out (by kernel_rfl)) (fun _ _ _ h => h) (Or.inl ⟨by rfl, ?_⟩) ?_ ?_
                rotate_left
                · intro w'
                  go_simp
                  with_reducible rfl
                rotate_left
                · simp only [Act.put, List.setIfInBounds_toArray, List.set_cons_zero, List.set_cons_succ, i64_w, i32_w]
                  rfl
                refine pure_ (i := 3) (N := some 16) (v := ?_) (a' := ?_) #[true, true, true, true, false, false, false, false, false, false, false, false, false, false, false, false, false, false, false, false, false, false, false, false, false] rfl rfl (any_of HT_.out (by kernel_rfl)) (fun _ _ _ h => h) (Or.inl ⟨by rfl, ?_⟩) ?_ ?_
                rotate_left
                · intro w'
                  go_simp
                  with_reducible rfl
                rotate_left
                · simp only [Act.put, List.setIfInBounds_toArray, List.set_cons_zero, List.set_cons_succ, i64_w, i32_w]
                  rfl
                refine pure_ (i := 4) (N := some 17) (v := ?_) (a' := ?_) #[true, true, true, true, true, false, false, false, false, false, false, false, false, false, false, false, false, false, false, false, false, false, false, false, false] rfl rfl (any_of HT_.out (by kernel_rfl)) (fun _ _ _ h => h) (Or.inl ⟨by rfl, ?_⟩) ?_ ?_
                rotate_left
                · intro w'
                  go_simp
                  with_reducible rfl
                rotate_left
                · simp only [Act.put, List.setIfInBounds_toArray, List.set_cons_zero, List.set_cons_succ, i64_w, i32_w]
                  rfl
                refine take_ (i := 5) (N := some 18) (v := ?_) (a' := ?_) #[true, true, true, true, true, true, false, false, false, false, false, false, false, false, false, false, false, false, false, false, false, false, false, false, false] rfl rfl (take_ofW HT_.out HW_.out (by kernel_rfl)) (fun _ _ _ h => h) (Or.inl ⟨by rfl, ?_⟩) hHeld ?_ ?_
                rotate_left
                · rintro w' ⟨s0, s1, s2, s3, s4, s5, s6, s7, s8, s9, s10, s11, s12, s13, s14, s15, s16, s17, s18, s19, s20, s21, s22, s23, s24, s25, s26, s27, s28, s29, s30, s31, s32, s33, s34, s35, s36, s37, s38, s39, s40, s41, s42, s43, s44, s45, s46, s47, s48, s49, s50, s51⟩
                  go_simp
                  with_reducible rfl
                rotate_left
                · simp only [Act.put, List.setIfInBounds_toArray, List.set_cons_zero, List.set_cons_succ, i64_w, i32_w]
                  rfl
                refine pure_ (i := 6) (N := some 19) (v := ?_) (a' := ?_) #[true, true, true, true, true, true, true, false, false, false, false, false, false, false, false, false, false, false, false, false, false, false, false, false, false] rfl rfl (any_of HT_.out (by kernel_rfl)) (fun _ _ _ h => h) (Or.inl ⟨by rfl, ?_⟩) ?_ ?_
                rotate_left
                · intro w'
                  go_simp
                  with_reducible rfl
                rotate_left
                · simp only [Act.put, List.setIfInBounds_toArray, List.set_cons_zero, List.set_cons_succ, i64_w, i32_w]
                  rfl
                refine pure_ (i := 7) (N := some 20) (v := ?_) (a' := ?_) #[true, true, true, true, true, true, true, true, false, false, false, false, false, false, false, false, false, false, false, false, false, false, false, false, false] rfl rfl (any_of HT_.out (by kernel_rfl)) (fun _ _ _ h => h) (Or.inl ⟨by rfl, ?_⟩) ?_ ?_
                rotate_left
                · intro w'
                  go_simp
                  with_reducible rfl
                rotate_left
                · simp only [Act.put, List.setIfInBounds_toArray, List.set_cons_zero, List.set_cons_succ, i64_w, i32_w]
                  rfl
                refine pure_ (i := 8) (N := some 21) (v := ?_) (a' := ?_) #[true, true, true, true, true, true, true, true, true, false, false, false, false, false, false, false, false, false, false, false, false, false, false, false, false] rfl rfl (any_of HT_.out (by kernel_rfl)) (fun _ _ _ h => h) (Or.inl ⟨by rfl, ?_⟩) ?_ ?_
                rotate_left
                · intro w'
                  go_simp
                  with_reducible rfl
                rotate_left
                · simp only [Act.put, List.setIfInBounds_toArray, List.set_cons_zero, List.set_cons_succ, i64_w, i32_w]
                  rfl
                refine pure_ (i := 9) (N := some 22) (v := ?_) (a' := ?_) #[true, true, true, true, true, true, true, true, true, true, false, false, false, false, false, false, false, false, false, false, false, false, false, false, false] rfl rfl (any_of HT_.out (by kernel_rfl)) (fun _ _ _ h => h) (Or.inl ⟨by rfl, ?_⟩) ?_ ?_
                rotate_left
                · intro w'
                  go_simp
                  with_reducible rfl
                rotate_left
                · simp only [Act.put, List.setIfInBounds_toArray, List.set_cons_zero, List.set_cons_succ, i64_w, i32_w]
                  rfl
                refine pure_ (i := 10) (N := some 23) (v := ?_) (a' := ?_) #[true, true, true, true, true, true, true, true, true, true, true, false, false, false, false, false, false, false, false, false, false, false, false, false, false] rfl rfl (any_of HT_.out (by kernel_rfl)) (fun _ _ _ h => h) (Or.inl ⟨by rfl, ?_⟩) ?_ ?_
                rotate_left
                · intro w'
                  go_simp
                  with_reducible rfl
                rotate_left
                · simp only [Act.put, List.setIfInBounds_toArray, List.set_cons_zero, List.set_cons_succ, i64_w, i32_w]
                  rfl
                refine take_ (i := 11) (N := some 24) (v := ?_) (a' := ?_) #[true, true, true, true, true, true, true, true, true, true, true, true, false, false, false, false, false, false, false, false, false, false, false, false, false] rfl rfl (take_ofW HT_.out HW_.out (by kernel_rfl)) (fun _ _ _ h => h) (Or.inl ⟨by rfl, ?_⟩) hHeld ?_ ?_
                rotate_left
                · rintro w' ⟨s0, s1, s2, s3, s4, s5, s6, s7, s8, s9, s10, s11, s12, s13, s14, s15, s16, s17, s18, s19, s20, s21, s22, s23, s24, s25, s26, s27, s28, s29, s30, s31, s32, s33, s34, s35, s36, s37, s38, s39, s40, s41, s42, s43, s44, s45, s46, s47, s48, s49, s50, s51⟩
                  go_simp
                  with_reducible rfl
                rotate_left
                · simp only [Act.put, List.setIfInBounds_toArray, List.set_cons_zero, List.set_cons_succ, i64_w, i32_w]
                  rfl
                refine take_ (i := 12) (N := some 25) (v := ?_) (a' := ?_) #[true, true, true, true, true, true, true, true, true, true, true, true, true, false, false, false, false, false, false, false, false, false, false, false, false] rfl rfl (take_ofW HT_.out HW_.out (by kernel_rfl)) (fun _ _ _ h => h) (Or.inl ⟨by rfl, ?_⟩) hHeld ?_ ?_
                rotate_left
                · rintro w' ⟨s0, s1, s2, s3, s4, s5, s6, s7, s8, s9, s10, s11, s12, s13, s14, s15, s16, s17, s18, s19, s20, s21, s22, s23, s24, s25, s26, s27, s28, s29, s30, s31, s32, s33, s34, s35, s36, s37, s38, s39, s40, s41, s42, s43, s44, s45, s46, s47, s48, s49, s50, s51⟩
                  go_simp
                  with_reducible rfl
                rotate_left
                · simp only [Act.put, List.setIfInBounds_toArray, List.set_cons_zero, List.set_cons_succ, i64_w, i32_w]
                  rfl
                refine one_ (i := 13) (N := some 26) #[true, true, true, true, true, true, true, true, true, true, true, true, true, true, false, false, false, false, false, false, false, false, false, false, false] rfl rfl (one_of HT_.out (by kernel_rfl)) (by decide) (fun K hK => ?_)
                refine goes_ Try.func36 (by kernel_rfl) rfl #[.agg #[.int .i64 ((rd_T38 l0 x6_1).f0), .int .i64 ((rd_T38 l0 x6_1).f1), .int .i64 ((rd_T38 l0 x6_1).f2), .int .i64 ((rd_T38 l0 x6_1).f3), .int .i64 ((rd_T38 l0 x6_1).f4), .int .i64 ((rd_T38 l0 x6_1).f5.f0), .int .u64 ((rd_T38 l0 x6_1).f5.f1), .int .u64 ((rd_T38 l0 x6_1).f5.f2), .int .i64 ((rd_T38 l0 x6_1).f5.f3), .int .i64 ((rd_T38 l0 x6_1).f6.f0), .bool ((rd_T38 l0 x6_1).f6.f1), .int .u64 ((rd_T38 l0 x6_1).f6.f2), .slice A126_12 ((rd_T38 l0 x6_1).f6.f3).length c126_12], .agg #[.int .i64 a1_0, .int .i64 a1_1, .int .i64 a1_2, .int .i64 a1_3, .int .i64 a1_4, .int .i64 a1_5, .int .u64 a1_6, .int .u64 a1_7, .int .i64 a1_8, .int .i64 a1_9, .bool a1_10, .int .u64 a1_11, .slice A1_12 l1_12.length c1_12]] (by rfl) rfl rfl (by (try simp only [List.map_toArray, List.map_cons, List.map_nil]); first | done | rfl | (simp only [List.length_drop, List.length_take]; rfl)) ?_
                with_reducible refine (corrieref19_Before.calls ((rd_T38 l0 x6_1).f0) ((rd_T38 l0 x6_1).f1) ((rd_T38 l0 x6_1).f2) ((rd_T38 l0 x6_1).f3) ((rd_T38 l0 x6_1).f4) ((rd_T38 l0 x6_1).f5.f0) ((rd_T38 l0 x6_1).f5.f1) ((rd_T38 l0 x6_1).f5.f2) ((rd_T38 l0 x6_1).f5.f3) ((rd_T38 l0 x6_1).f6.f0) ((rd_T38 l0 x6_1).f6.f1) ((rd_T38 l0 x6_1).f6.f2) _ _ ((rd_T38 l0 x6_1).f6.f3) a1_0 a1_1 a1_2 a1_3 a1_4 a1_5 a1_6 a1_7 a1_8 a1_9 a1_10 a1_11 _ _ l1_12 false _ ?side1 ?side2 ?side3 ?side4 A7.out).mono ?_
                (case side1 => repeat (first | exact (Kd.C_below HR127_12.out HB.out) | (with_reducible refine Kd.C_alloc ?_ _) | (with_reducible refine Kd.C_drewN ?_ _) | (with_reducible refine Kd.C_drew ?_)))
                (case side2 => exact HC127_12.out)
                (case side3 => repeat (first | exact (Kd.C_below HR1_12.out HB.out) | (with_reducible refine Kd.C_alloc ?_ _) | (with_reducible refine Kd.C_drewN ?_ _) | (with_reducible refine Kd.C_drew ?_)))
                (case side4 => exact HC1_12.out)
                rintro e w17 ⟨rfl, hb⟩
                refine ⟨_, rfl, ?_⟩
                have n0_ := Aside0.mk (blk_below (g := gb125) (o := .cells #[.int .i64 a1_0, .int .i64 a1_1, .int .i64 a1_2, .int .i64 a1_3, .int .i64 a1_4, .int .i64 a1_5, .int .u64 a1_6, .int .u64 a1_7, .int .i64 a1_8, .int .i64 a1_9, .bool a1_10, .int .u64 a1_11, .slice A1_12 l1_12.length c1_12] 38 (0, 0)) (by (with_reducible repeat (first | refine blk_drewN ?_ _ | refine blk_drew ?_ | refine blk_alloc ?_ _)); exact BK125.out) hb)
                have n1_ := Aside0.mk (below_step (by repeat (first | (with_reducible first | exact HB.out | apply below_alloc | apply pw_below_drewN | apply below_drew1 | refine below_set ?_ GE125.out) | exact HB.out)) hb)
                clear BK125
                clear HB
                have BK125 := n0_
                have HB := n1_
                clear n0_ n1_
                (try clear hb)
                (try clear hb2)
                (try clear hk)
                (try clear hi)
                refine hK.out _ _ ⟨(blk_cell BK125.out 0).trans rfl, (blk_cell BK125.out 1).trans rfl, (blk_cell BK125.out 2).trans rfl, (blk_cell BK125.out 3).trans rfl, (blk_cell BK125.out 4).trans rfl, (blk_cell BK125.out 5).trans rfl, (blk_cell BK125.out 6).trans rfl, (blk_cell BK125.out 7).trans rfl, (blk_cell BK125.out 8).trans rfl, (blk_cell BK125.out 9).trans rfl, (blk_cell BK125.out 10).trans rfl, (blk_cell BK125.out 11).trans rfl, (blk_cell BK125.out 12).trans rfl, ((HB.out.cell (World.block_lt_of_cell? w _ hw126_0)).trans hw126_0), ((HB.out.cell (World.block_lt_of_cell? w _ hw126_1)).trans hw126_1), ((HB.out.cell (World.block_lt_of_cell? w _ hw126_2)).trans hw126_2), ((HB.out.cell (World.block_lt_of_cell? w _ hw126_3)).trans hw126_3), ((HB.out.cell (World.block_lt_of_cell? w _ hw126_4)).trans hw126_4), ((HB.out.cell (World.block_lt_of_cell? w _ hw126_5)).trans hw126_5), ((HB.out.cell (World.block_lt_of_cell? w _ hw126_6)).trans hw126_6), ((HB.out.cell (World.block_lt_of_cell? w _ hw126_7)).trans hw126_7), ((HB.out.cell (World.block_lt_of_cell? w _ hw126_8)).trans hw126_8), ((HB.out.cell (World.block_lt_of_cell? w _ hw126_9)).trans hw126_9), ((HB.out.cell (World.block_lt_of_cell? w _ hw126_10)).trans hw126_10), ((HB.out.cell (World.block_lt_of_cell? w _ hw126_11)).trans hw126_11), ((HB.out.cell (World.block_lt_of_cell? w _ hw126_12)).trans hw126_12), ((HB.out.cell (World.block_lt_of_cell? w _ hw127_0)).trans hw127_0), ((HB.out.cell (World.block_lt_of_cell? w _ hw127_1)).trans hw127_1), ((HB.out.cell (World.block_lt_of_cell? w _ hw127_2)).trans hw127_2), ((HB.out.cell (World.block_lt_of_cell? w _ hw127_3)).trans hw127_3), ((HB.out.cell (World.block_lt_of_cell? w _ hw127_4)).trans hw127_4), ((HB.out.cell (World.block_lt_of_cell? w _ hw127_5)).trans hw127_5), ((HB.out.cell (World.block_lt_of_cell? w _ hw127_6)).trans hw127_6), ((HB.out.cell (World.block_lt_of_cell? w _ hw127_7)).trans hw127_7), ((HB.out.cell (World.block_lt_of_cell? w _ hw127_8)).trans hw127_8), ((HB.out.cell (World.block_lt_of_cell? w _ hw127_9)).trans hw127_9), ((HB.out.cell (World.block_lt_of_cell? w _ hw127_10)).trans hw127_10), ((HB.out.cell (World.block_lt_of_cell? w _ hw127_11)).trans hw127_11), ((HB.out.cell (World.block_lt_of_cell? w _ hw127_12)).trans hw127_12), ((HB.out.cell (World.block_lt_of_cell? w _ hw129_0)).trans hw129_0), ((HB.out.cell (World.block_lt_of_cell? w _ hw129_1)).trans hw129_1), ((HB.out.cell (World.block_lt_of_cell? w _ hw129_2)).trans hw129_2), ((HB.out.cell (World.block_lt_of_cell? w _ hw129_3)).trans hw129_3), ((HB.out.cell (World.block_lt_of_cell? w _ hw129_4)).trans hw129_4), ((HB.out.cell (World.block_lt_of_cell? w _ hw129_5)).trans hw129_5), ((HB.out.cell (World.block_lt_of_cell? w _ hw129_6)).trans hw129_6), ((HB.out.cell (World.block_lt_of_cell? w _ hw129_7)).trans hw129_7), ((HB.out.cell (World.block_lt_of_cell? w _ hw129_8)).trans hw129_8), ((HB.out.cell (World.block_lt_of_cell? w _ hw129_9)).trans hw129_9), ((HB.out.cell (World.block_lt_of_cell? w _ hw129_10)).trans hw129_10), ((HB.out.cell (World.block_lt_of_cell? w _ hw129_11)).trans hw129_11), ((HB.out.cell (World.block_lt_of_cell? w _ hw129_12)).trans hw129_12)⟩ (fun hHeld => ?_)
                clear hK K
                refine norm_ (a' := ?_) ?_ ?_
                rotate_left
                · show Act.put _ (some 26) _ = _
                  simp only [Act.put, List.setIfInBounds_toArray, List.set_cons_zero, List.set_cons_succ, i64_w, i32_w]
                  rfl
                refine pure_ (i := 14) (N := some 27) (v := ?_) (a' := ?_) #[true, true, true, true, true, true, true, true, true, true, true, true, true, true, true, false, false, false, false, false, false, false, false, false, false] rfl rfl (any_of HT_.out (by kernel_rfl)) (fun _ _ _ h => h) (Or.inl ⟨by rfl, ?_⟩) ?_ ?_
                rotate_left
                · intro w'
                  go_simp
                  with_reducible rfl
                rotate_left
                · simp only [Act.put, List.setIfInBounds_toArray, List.set_cons_zero, List.set_cons_succ, i64_w, i32_w]
                  rfl
                refine pure_ (i := 15) (N := some 28) (v := ?_) (a' := ?_) #[true, true, true, true, true, true, true, true, true, true, true, true, true, true, true, true, false, false, false, false, false, false, false, false, false] rfl rfl (any_of HT_.out (by kernel_rfl)) (fun _ _ _ h => h) (Or.inl ⟨by rfl, ?_⟩) ?_ ?_
                rotate_left
                · intro w'
                  go_simp
                  with_reducible rfl
                rotate_left
                · simp only [Act.put, List.setIfInBounds_toArray, List.set_cons_zero, List.set_cons_succ, i64_w, i32_w]
                  rfl
                refine pure_ (i := 16) (N := some 29) (v := ?_) (a' := ?_) #[true, true, true, true, true, true, true, true, true, true, true, true, true, true, true, true, true, false, false, false, false, false, false, false, false] rfl rfl (any_of HT_.out (by kernel_rfl)) (fun _ _ _ h => h) (Or.inl ⟨by rfl, ?_⟩) ?_ ?_
                rotate_left
                · intro w'
                  go_simp
                  with_reducible rfl
                rotate_left
                · simp only [Act.put, List.setIfInBounds_toArray, List.set_cons_zero, List.set_cons_succ, i64_w, i32_w]
                  rfl
                refine pure_ (i := 18) (N := some 31) (v := ?_) (a' := ?_) #[true, true, true, true, true, true, true, true, true, true, true, true, true, true, true, true, true, false, true, false, false, false, false, false, false] rfl rfl (any_of HT_.out (by kernel_rfl)) (fun _ _ _ h => h) (Or.inl ⟨by rfl, ?_⟩) ?_ ?_
                rotate_left
                · intro w'
                  go_simp
                  with_reducible rfl
                rotate_left
                · simp only [Act.put, List.setIfInBounds_toArray, List.set_cons_zero, List.set_cons_succ, i64_w, i32_w]
                  rfl
                refine pure_ (i := 19) (N := some 32) (v := ?_) (a' := ?_) #[true, true, true, true, true, true, true, true, true, true, true, true, true, true, true, true, true, false, true, true, false, false, false, false, false] rfl rfl (any_of HT_.out (by kernel_rfl)) (fun _ _ _ h => h) (Or.inl ⟨by rfl, ?_⟩) ?_ ?_
                rotate_left
                · intro w'
                  go_simp
                  with_reducible rfl
                rotate_left
                · simp only [Act.put, List.setIfInBounds_toArray, List.set_cons_zero, List.set_cons_succ, i64_w, i32_w]
                  rfl
                refine pure_ (i := 20) (N := some 33) (v := ?_) (a' := ?_) #[true, true, true, true, true, true, true, true, true, true, true, true, true, true, true, true, true, false, true, true, true, false, false, false, false] rfl rfl (any_of HT_.out (by kernel_rfl)) (fun _ _ _ h => h) (Or.inl ⟨by rfl, ?_⟩) ?_ ?_
                rotate_left
                · intro w'
                  go_simp
                  with_reducible rfl
                rotate_left
                · simp only [Act.put, List.setIfInBounds_toArray, List.set_cons_zero, List.set_cons_succ, i64_w, i32_w]
                  rfl
                refine take_ (i := 17) (N := some 30) (v := ?_) (a' := ?_) #[true, true, true, true, true, true, true, true, true, true, true, true, true, true, true, true, true, true, true, true, true, false, false, false, false] rfl rfl (take_ofW HT_.out HW_.out (by kernel_rfl)) (fun _ _ _ h => h) (Or.inl ⟨by rfl, ?_⟩) hHeld ?_ ?_
                rotate_left
                · rintro w' ⟨s0, s1, s2, s3, s4, s5, s6, s7, s8, s9, s10, s11, s12, s13, s14, s15, s16, s17, s18, s19, s20, s21, s22, s23, s24, s25, s26, s27, s28, s29, s30, s31, s32, s33, s34, s35, s36, s37, s38, s39, s40, s41, s42, s43, s44, s45, s46, s47, s48, s49, s50, s51⟩
                  go_simp
                  with_reducible rfl
                rotate_left
                · simp only [Act.put, List.setIfInBounds_toArray, List.set_cons_zero, List.set_cons_succ, i64_w, i32_w]
                  rfl
                refine take_ (i := 21) (N := some 34) (v := ?_) (a' := ?_) #[true, true, true, true, true, true, true, true, true, true, true, true, true, true, true, true, true, true, true, true, true, true, false, false, false] rfl rfl (take_ofW HT_.out HW_.out (by kernel_rfl)) (fun _ _ _ h => h) (Or.inl ⟨by rfl, ?_⟩) hHeld ?_ ?_
                rotate_left
                · rintro w' ⟨s0, s1, s2, s3, s4, s5, s6, s7, s8, s9, s10, s11, s12, s13, s14, s15, s16, s17, s18, s19, s20, s21, s22, s23, s24, s25, s26, s27, s28, s29, s30, s31, s32, s33, s34, s35, s36, s37, s38, s39, s40, s41, s42, s43, s44, s45, s46, s47, s48, s49, s50, s51⟩
                  go_simp
                  with_reducible rfl
                rotate_left
                · simp only [Act.put, List.setIfInBounds_toArray, List.set_cons_zero, List.set_cons_succ, i64_w, i32_w]
                  rfl
                refine one_ (i := 22) (N := some 35) #[true, true, true, true, true, true, true, true, true, true, true, true, true, true, true, true, true, true, true, true, true, true, true, false, false] rfl rfl (one_of HT_.out (by kernel_rfl)) (by decide) (fun K hK => ?_)
                refine goes_ Try.func36 (by kernel_rfl) rfl #[.agg #[.int .i64 a1_0, .int .i64 a1_1, .int .i64 a1_2, .int .i64 a1_3, .int .i64 a1_4, .int .i64 a1_5, .int .u64 a1_6, .int .u64 a1_7, .int .i64 a1_8, .int .i64 a1_9, .bool a1_10, .int .u64 a1_11, .slice A1_12 l1_12.length c1_12], .agg #[.int .i64 ((rd_T38 l0 x6_1).f0), .int .i64 ((rd_T38 l0 x6_1).f1), .int .i64 ((rd_T38 l0 x6_1).f2), .int .i64 ((rd_T38 l0 x6_1).f3), .int .i64 ((rd_T38 l0 x6_1).f4), .int .i64 ((rd_T38 l0 x6_1).f5.f0), .int .u64 ((rd_T38 l0 x6_1).f5.f1), .int .u64 ((rd_T38 l0 x6_1).f5.f2), .int .i64 ((rd_T38 l0 x6_1).f5.f3), .int .i64 ((rd_T38 l0 x6_1).f6.f0), .bool ((rd_T38 l0 x6_1).f6.f1), .int .u64 ((rd_T38 l0 x6_1).f6.f2), .slice A126_12 ((rd_T38 l0 x6_1).f6.f3).length c126_12]] (by rfl) rfl rfl (by (try simp only [List.map_toArray, List.map_cons, List.map_nil]); first | done | rfl | (simp only [List.length_drop, List.length_take]; rfl)) ?_
                with_reducible refine (corrieref19_Before.calls a1_0 a1_1 a1_2 a1_3 a1_4 a1_5 a1_6 a1_7 a1_8 a1_9 a1_10 a1_11 _ _ l1_12 ((rd_T38 l0 x6_1).f0) ((rd_T38 l0 x6_1).f1) ((rd_T38 l0 x6_1).f2) ((rd_T38 l0 x6_1).f3) ((rd_T38 l0 x6_1).f4) ((rd_T38 l0 x6_1).f5.f0) ((rd_T38 l0 x6_1).f5.f1) ((rd_T38 l0 x6_1).f5.f2) ((rd_T38 l0 x6_1).f5.f3) ((rd_T38 l0 x6_1).f6.f0) ((rd_T38 l0 x6_1).f6.f1) ((rd_T38 l0 x6_1).f6.f2) _ _ ((rd_T38 l0 x6_1).f6.f3) false _ ?side1 ?side2 ?side3 ?side4 A11.out).mono ?_
                (case side1 => repeat (first | exact (Kd.C_below HR1_12.out HB.out) | (with_reducible refine Kd.C_alloc ?_ _) | (with_reducible refine Kd.C_drewN ?_ _) | (with_reducible refine Kd.C_drew ?_)))
                (case side2 => exact HC1_12.out)
                (case side3 => repeat (first | exact (Kd.C_below HR129_12.out HB.out) | (with_reducible refine Kd.C_alloc ?_ _) | (with_reducible refine Kd.C_drewN ?_ _) | (with_reducible refine Kd.C_drew ?_)))
                (case side4 => exact HC129_12.out)
                rintro e w18 ⟨rfl, hb⟩
                refine ⟨_, rfl, ?_⟩
                have n0_ := Aside0.mk (blk_below (g := gb125) (o := .cells #[.int .i64 a1_0, .int .i64 a1_1, .int .i64 a1_2, .int .i64 a1_3, .int .i64 a1_4, .int .i64 a1_5, .int .u64 a1_6, .int .u64 a1_7, .int .i64 a1_8, .int .i64 a1_9, .bool a1_10, .int .u64 a1_11, .slice A1_12 l1_12.length c1_12] 38 (0, 0)) (by (with_reducible repeat (first | refine blk_drewN ?_ _ | refine blk_drew ?_ | refine blk_alloc ?_ _)); exact BK125.out) hb)
                have n1_ := Aside0.mk (below_step (by repeat (first | (with_reducible first | exact HB.out | apply below_alloc | apply pw_below_drewN | apply below_drew1 | refine below_set ?_ GE125.out) | exact HB.out)) hb)
                clear BK125
                clear HB
                have BK125 := n0_
                have HB := n1_
                clear n0_ n1_
                (try clear hb)
                (try clear hb2)
                (try clear hk)
                (try clear hi)
                refine hK.out _ _ ⟨(blk_cell BK125.out 0).trans rfl, (blk_cell BK125.out 1).trans rfl, (blk_cell BK125.out 2).trans rfl, (blk_cell BK125.out 3).trans rfl, (blk_cell BK125.out 4).trans rfl, (blk_cell BK125.out 5).trans rfl, (blk_cell BK125.out 6).trans rfl, (blk_cell BK125.out 7).trans rfl, (blk_cell BK125.out 8).trans rfl, (blk_cell BK125.out 9).trans rfl, (blk_cell BK125.out 10).trans rfl, (blk_cell BK125.out 11).trans rfl, (blk_cell BK125.out 12).trans rfl, ((HB.out.cell (World.block_lt_of_cell? w _ hw126_0)).trans hw126_0), ((HB.out.cell (World.block_lt_of_cell? w _ hw126_1)).trans hw126_1), ((HB.out.cell (World.block_lt_of_cell? w _ hw126_2)).trans hw126_2), ((HB.out.cell (World.block_lt_of_cell? w _ hw126_3)).trans hw126_3), ((HB.out.cell (World.block_lt_of_cell? w _ hw126_4)).trans hw126_4), ((HB.out.cell (World.block_lt_of_cell? w _ hw126_5)).trans hw126_5), ((HB.out.cell (World.block_lt_of_cell? w _ hw126_6)).trans hw126_6), ((HB.out.cell (World.block_lt_of_cell? w _ hw126_7)).trans hw126_7), ((HB.out.cell (World.block_lt_of_cell? w _ hw126_8)).trans hw126_8), ((HB.out.cell (World.block_lt_of_cell? w _ hw126_9)).trans hw126_9), ((HB.out.cell (World.block_lt_of_cell? w _ hw126_10)).trans hw126_10), ((HB.out.cell (World.block_lt_of_cell? w _ hw126_11)).trans hw126_11), ((HB.out.cell (World.block_lt_of_cell? w _ hw126_12)).trans hw126_12), ((HB.out.cell (World.block_lt_of_cell? w _ hw127_0)).trans hw127_0), ((HB.out.cell (World.block_lt_of_cell? w _ hw127_1)).trans hw127_1), ((HB.out.cell (World.block_lt_of_cell? w _ hw127_2)).trans hw127_2), ((HB.out.cell (World.block_lt_of_cell? w _ hw127_3)).trans hw127_3), ((HB.out.cell (World.block_lt_of_cell? w _ hw127_4)).trans hw127_4), ((HB.out.cell (World.block_lt_of_cell? w _ hw127_5)).trans hw127_5), ((HB.out.cell (World.block_lt_of_cell? w _ hw127_6)).trans hw127_6), ((HB.out.cell (World.block_lt_of_cell? w _ hw127_7)).trans hw127_7), ((HB.out.cell (World.block_lt_of_cell? w _ hw127_8)).trans hw127_8), ((HB.out.cell (World.block_lt_of_cell? w _ hw127_9)).trans hw127_9), ((HB.out.cell (World.block_lt_of_cell? w _ hw127_10)).trans hw127_10), ((HB.out.cell (World.block_lt_of_cell? w _ hw127_11)).trans hw127_11), ((HB.out.cell (World.block_lt_of_cell? w _ hw127_12)).trans hw127_12), ((HB.out.cell (World.block_lt_of_cell? w _ hw129_0)).trans hw129_0), ((HB.out.cell (World.block_lt_of_cell? w _ hw129_1)).trans hw129_1), ((HB.out.cell (World.block_lt_of_cell? w _ hw129_2)).trans hw129_2), ((HB.out.cell (World.block_lt_of_cell? w _ hw129_3)).trans hw129_3), ((HB.out.cell (World.block_lt_of_cell? w _ hw129_4)).trans hw129_4), ((HB.out.cell (World.block_lt_of_cell? w _ hw129_5)).trans hw129_5), ((HB.out.cell (World.block_lt_of_cell? w _ hw129_6)).trans hw129_6), ((HB.out.cell (World.block_lt_of_cell? w _ hw129_7)).trans hw129_7), ((HB.out.cell (World.block_lt_of_cell? w _ hw129_8)).trans hw129_8), ((HB.out.cell (World.block_lt_of_cell? w _ hw129_9)).trans hw129_9), ((HB.out.cell (World.block_lt_of_cell? w _ hw129_10)).trans hw129_10), ((HB.out.cell (World.block_lt_of_cell? w _ hw129_11)).trans hw129_11), ((HB.out.cell (World.block_lt_of_cell? w _ hw129_12)).trans hw129_12)⟩ (fun hHeld => ?_)
                clear hK K
                refine norm_ (a' := ?_) ?_ ?_
                rotate_left
                · show Act.put _ (some 35) _ = _
                  simp only [Act.put, List.setIfInBounds_toArray, List.set_cons_zero, List.set_cons_succ, i64_w, i32_w]
                  rfl
                refine pure_ (i := 23) (N := some 36) (v := ?_) (a' := ?_) #[true, true, true, true, true, true, true, true, true, true, true, true, true, true, true, true, true, true, true, true, true, true, true, true, false] rfl rfl (any_of HT_.out (by kernel_rfl)) (fun _ _ _ h => h) (Or.inl ⟨by rfl, ?_⟩) ?_ ?_
                rotate_left
                · intro w'
                  go_simp
                  with_reducible rfl
                rotate_left
                · simp only [Act.put, List.setIfInBounds_toArray, List.set_cons_zero, List.set_cons_succ, i64_w, i32_w]
                  rfl
                refine pure_ (i := 24) (N := some 37) (v := ?_) (a' := ?_) #[true, true, true, true, true, true, true, true, true, true, true, true, true, true, true, true, true, true, true, true, true, true, true, true, true] rfl rfl (any_of HT_.out (by kernel_rfl)) (fun _ _ _ h => h) (Or.inl ⟨by rfl, ?_⟩) ?_ ?_
                rotate_left
                · intro w'
                  go_simp
                  with_reducible rfl
                rotate_left
                · simp only [Act.put, List.setIfInBounds_toArray, List.set_cons_zero, List.set_cons_succ, i64_w, i32_w]
                  rfl
                refine done_ (done_of HT_.out (by kernel_rfl)) ?_
                try go_wp2
                go_roundg k1
                case measure => have := HK1.out; omega
                case rel => exact ⟨(wrap64 (x5_1 + 1)), (wrap64 (x6_1 + 1)), (by first | rfl | (simp; done) | (simp [*]; done)), (by first | rfl | (simp; done) | (simp [*]; done)), H', ⟨by have := HK1.out; omega⟩, ⟨by (with_reducible repeat (first | refine blk_drewN ?_ _ | refine blk_drew ?_ | refine blk_alloc ?_ _)); exact BK125.out⟩, ⟨by repeat (first | (with_reducible first | exact HB.out | apply below_alloc | apply pw_below_drewN | apply below_drew1 | refine below_set ?_ GE125.out) | exact HB.out)⟩⟩
          · rw [if_neg c6] at H
            have c6b0 : (((rd_T38 l0 x6_1).f5.f0) == 1) = false := beq_eq_false_iff_ne.mpr c6
            have c6b1 : (((rd_T38 l0 x6_1).f5.f0) != 1) = true := bne_iff_ne.mpr c6
            have H' := Aside0.mk H
            clear H
            try go_wp2
            have n0_ := Aside0.mk (blk_drew BK125.out)
            have n1_ := Aside0.mk (below_drew1 HB.out)
            clear BK125
            clear HB
            have BK125 := n0_
            have HB := n1_
            clear n0_ n1_
            have p126 : 0 ≤ (x6_1 : Int) := of_decide_eq_true (by first | (with_reducible assumption) | assumption)
            have q126 : x6_1 < (l0.length : Int) := of_decide_eq_true (by first | (with_reducible assumption) | assumption)
            obtain ⟨ad126, A126_12, c126_12, e126, hx126_0, hx126_1, hx126_2, hx126_3, hx126_4, hx126_5, hx126_6, hx126_7, hx126_8, hx126_9, hx126_10, hx126_11, hx126_12, hl126_12, hi126_12⟩ := at_T38 HR0.out x6_1 p126 q126
            have hw126_12 := hx126_12
            have hw126_11 := hx126_11
            have hw126_10 := hx126_10
            have hw126_9 := hx126_9
            have hw126_8 := hx126_8
            have hw126_7 := hx126_7
            have hw126_6 := hx126_6
            have hw126_5 := hx126_5
            have hw126_4 := hx126_4
            have hw126_3 := hx126_3
            have hw126_2 := hx126_2
            have hw126_1 := hx126_1
            have hw126_0 := hx126_0
            cases e126
            replace hx126_0 := (HB.out.cell (World.block_lt_of_cell? w _ hx126_0)).trans hx126_0
            replace hx126_1 := (HB.out.cell (World.block_lt_of_cell? w _ hx126_1)).trans hx126_1
            replace hx126_2 := (HB.out.cell (World.block_lt_of_cell? w _ hx126_2)).trans hx126_2
            replace hx126_3 := (HB.out.cell (World.block_lt_of_cell? w _ hx126_3)).trans hx126_3
            replace hx126_4 := (HB.out.cell (World.block_lt_of_cell? w _ hx126_4)).trans hx126_4
            replace hx126_5 := (HB.out.cell (World.block_lt_of_cell? w _ hx126_5)).trans hx126_5
            replace hx126_6 := (HB.out.cell (World.block_lt_of_cell? w _ hx126_6)).trans hx126_6
            replace hx126_7 := (HB.out.cell (World.block_lt_of_cell? w _ hx126_7)).trans hx126_7
            replace hx126_8 := (HB.out.cell (World.block_lt_of_cell? w _ hx126_8)).trans hx126_8
            replace hx126_9 := (HB.out.cell (World.block_lt_of_cell? w _ hx126_9)).trans hx126_9
            replace hx126_10 := (HB.out.cell (World.block_lt_of_cell? w _ hx126_10)).trans hx126_10
            replace hx126_11 := (HB.out.cell (World.block_lt_of_cell? w _ hx126_11)).trans hx126_11
            replace hx126_12 := (HB.out.cell (World.block_lt_of_cell? w _ hx126_12)).trans hx126_12
            have HR126_12 := Aside0.mk hi126_12
            have HC126_12 := Aside0.mk hl126_12
            clear hi126_12 hl126_12
            replace p126 := eq_true p126
            replace q126 := eq_true q126
            refine start_ (n := 25) (S := fun w' => w'.cell? (ad126.add ((x6_1).toNat * 13)) = some (.int .i64 ((rd_T38 l0 x6_1).f0)) ∧ w'.cell? ⟨(ad126.add ((x6_1).toNat * 13)).block, (ad126.add ((x6_1).toNat * 13)).off + 1, none⟩ = some (.int .i64 ((rd_T38 l0 x6_1).f1)) ∧ w'.cell? ⟨(ad126.add ((x6_1).toNat * 13)).block, (ad126.add ((x6_1).toNat * 13)).off + 2, none⟩ = some (.int .i64 ((rd_T38 l0 x6_1).f2)) ∧ w'.cell? ⟨(ad126.add ((x6_1).toNat * 13)).block, (ad126.add ((x6_1).toNat * 13)).off + 3, none⟩ = some (.int .i64 ((rd_T38 l0 x6_1).f3)) ∧ w'.cell? ⟨(ad126.add ((x6_1).toNat * 13)).block, (ad126.add ((x6_1).toNat * 13)).off + 4, none⟩ = some (.int .i64 ((rd_T38 l0 x6_1).f4)) ∧ w'.cell? ⟨(ad126.add ((x6_1).toNat * 13)).block, (ad126.add ((x6_1).toNat * 13)).off + 5, none⟩ = some (.int .i64 ((rd_T38 l0 x6_1).f5.f0)) ∧ w'.cell? ⟨(ad126.add ((x6_1).toNat * 13)).block, (ad126.add ((x6_1).toNat * 13)).off + 6, none⟩ = some (.int .u64 ((rd_T38 l0 x6_1).f5.f1)) ∧ w'.cell? ⟨(ad126.add ((x6_1).toNat * 13)).block, (ad126.add ((x6_1).toNat * 13)).off + 7, none⟩ = some (.int .u64 ((rd_T38 l0 x6_1).f5.f2)) ∧ w'.cell? ⟨(ad126.add ((x6_1).toNat * 13)).block, (ad126.add ((x6_1).toNat * 13)).off + 8, none⟩ = some (.int .i64 ((rd_T38 l0 x6_1).f5.f3)) ∧ w'.cell? ⟨(ad126.add ((x6_1).toNat * 13)).block, (ad126.add ((x6_1).toNat * 13)).off + 9, none⟩ = some (.int .i64 ((rd_T38 l0 x6_1).f6.f0)) ∧ w'.cell? ⟨(ad126.add ((x6_1).toNat * 13)).block, (ad126.add ((x6_1).toNat * 13)).off + 10, none⟩ = some (.bool ((rd_T38 l0 x6_1).f6.f1)) ∧ w'.cell? ⟨(ad126.add ((x6_1).toNat * 13)).block, (ad126.add ((x6_1).toNat * 13)).off + 11, none⟩ = some (.int .u64 ((rd_T38 l0 x6_1).f6.f2)) ∧ w'.cell? ⟨(ad126.add ((x6_1).toNat * 13)).block, (ad126.add ((x6_1).toNat * 13)).off + 12, none⟩ = some (.slice A126_12 ((rd_T38 l0 x6_1).f6.f3).length c126_12)) (ds := []) #[false, false, false, false, false, false, false, false, false, false, false, false, false, false, false, false, false, false, false, false, false, false, false, false, false] (by kernel_rfl) rfl rfl ⟨((HB.out.cell (World.block_lt_of_cell? w _ hw126_0)).trans hw126_0), ((HB.out.cell (World.block_lt_of_cell? w _ hw126_1)).trans hw126_1), ((HB.out.cell (World.block_lt_of_cell? w _ hw126_2)).trans hw126_2), ((HB.out.cell (World.block_lt_of_cell? w _ hw126_3)).trans hw126_3), ((HB.out.cell (World.block_lt_of_cell? w _ hw126_4)).trans hw126_4), ((HB.out.cell (World.block_lt_of_cell? w _ hw126_5)).trans hw126_5), ((HB.out.cell (World.block_lt_of_cell? w _ hw126_6)).trans hw126_6), ((HB.out.cell (World.block_lt_of_cell? w _ hw126_7)).trans hw126_7), ((HB.out.cell (World.block_lt_of_cell? w _ hw126_8)).trans hw126_8), ((HB.out.cell (World.block_lt_of_cell? w _ hw126_9)).trans hw126_9), ((HB.out.cell (World.block_lt_of_cell? w _ hw126_10)).trans hw126_10), ((HB.out.cell (World.block_lt_of_cell? w _ hw126_11)).trans hw126_11), ((HB.out.cell (World.block_lt_of_cell? w _ hw126_12)).trans hw126_12)⟩ (fun hHeld => ?_); refine with_tabW corrieref19_Inserts.tab5 corrieref19_Inserts.bits5 (fun HT_ HW_ => ?_)
            generalize wr.drew = w19 at BK125 HB HR126_12 hx126_0 hx126_1 hx126_10 hx126_11 hx126_12 hx126_2 hx126_3 hx126_4 hx126_5 hx126_6 hx126_7 hx126_8 hx126_9 hHeld ⊢
            refine pure_ (i := 0) (N := some 13) (v := ?_) (a' := ?_) #[true, false, false, false, false, false, false, false, false, false, false, false, false, false, false, false, false, false, false, false, false, false, false, false, false] rfl rfl (any_of HT_.out (by kernel_rfl)) (fun _ _ _ h => h) (Or.inl ⟨by rfl, ?_⟩) ?_ ?_
            rotate_left
            · intro w'
              go_simp
              with_reducible rfl
            rotate_left
            · simp only [Act.put, List.setIfInBounds_toArray, List.set_cons_zero, List.set_cons_succ, i64_w, i32_w]
              rfl
            refine pure_ (i := 1) (N := some 14) (v := ?_) (a' := ?_) #[true, true, false, false, false, false, false, false, false, false, false, false, false, false, false, false, false, false, false, false, false, false, false, false, false] rfl rfl (any_of HT_.out (by kernel_rfl)) (fun _ _ _ h => h) (Or.inl ⟨by rfl, ?_⟩) ?_ ?_
            rotate_left
            · intro w'
              go_simp
              with_reducible rfl
            rotate_left
            · simp only [Act.put, List.setIfInBounds_toArray, List.set_cons_zero, List.set_cons_succ, i64_w, i32_w]
              rfl
            refine pure_ (i := 2) (N := some 15) (v := ?_) (a' := ?_) #[true, true, true, false, false, false, false, false, false, false, false, false, false, false, false, false, false, false, false, false, false, false, false, false, false] rfl rfl (any_of HT_.out (by kernel_rfl)) (fun _ _ _ h => h) (Or.inl ⟨by rfl, ?_⟩) ?_ ?_
            rotate_left
            · intro w'
              go_simp
              with_reducible rfl
            rotate_left
            · simp only [Act.put, List.setIfInBounds_toArray, List.set_cons_zero, List.set_cons_succ, i64_w, i32_w]
              rfl
            refine pure_ (i := 3) (N := some 16) (v := ?_) (a' := ?_) #[true, true, true, true, false, false, false, false, false, false, false, false, false, false, false, false, false, false, false, false, false, false, false, false, false] rfl rfl (any_of HT_.out (by kernel_rfl)) (fun _ _ _ h => h) (Or.inl ⟨by rfl, ?_⟩) ?_ ?_
            rotate_left
            · intro w'
              go_simp
              with_reducible rfl
            rotate_left
            · simp only [Act.put, List.setIfInBounds_toArray, List.set_cons_zero, List.set_cons_succ, i64_w, i32_w]
              rfl
            refine pure_ (i := 4) (N := some 17) (v := ?_) (a' := ?_) #[true, true, true, true, true, false, false, false, false, false, false, false, false, false, false, false, false, false, false, false, false, false, false, false, false] rfl rfl (any_of HT_.out (by kernel_rfl)) (fun _ _ _ h => h) (Or.inl ⟨by rfl, ?_⟩) ?_ ?_
            rotate_left
            · intro w'
              go_simp
              with_reducible rfl
            rotate_left
            · simp only [Act.put, List.setIfInBounds_toArray, List.set_cons_zero, List.set_cons_succ, i64_w, i32_w]
              rfl
            refine take_ (i := 5) (N := some 18) (v := ?_) (a' := ?_) #[true, true, true, true, true, true, false, false, false, false, false, false, false, false, false, false, false, false, false, false, false, false, false, false, false] rfl rfl (take_ofW HT_.out HW_.out (by kernel_rfl)) (fun _ _ _ h => h) (Or.inl ⟨by rfl, ?_⟩) hHeld ?_ ?_
            rotate_left
            · rintro w' ⟨s0, s1, s2, s3, s4, s5, s6, s7, s8, s9, s10, s11, s12⟩
              go_simp
              with_reducible rfl
            rotate_left
            · simp only [Act.put, List.setIfInBounds_toArray, List.set_cons_zero, List.set_cons_succ, i64_w, i32_w]
              rfl
            refine pure_ (i := 6) (N := some 19) (v := ?_) (a' := ?_) #[true, true, true, true, true, true, true, false, false, false, false, false, false, false, false, false, false, false, false, false, false, false, false, false, false] rfl rfl (any_of HT_.out (by kernel_rfl)) (fun _ _ _ h => h) (Or.inl ⟨by rfl, ?_⟩) ?_ ?_
            rotate_left
            · intro w'
              go_simp
              with_reducible rfl
            rotate_left
            · simp only [Act.put, List.setIfInBounds_toArray, List.set_cons_zero, List.set_cons_succ, i64_w, i32_w]
              rfl
            refine pure_ (i := 7) (N := some 20) (v := ?_) (a' := ?_) #[true, true, true, true, true, true, true, true, false, false, false, false, false, false, false, false, false, false, false, false, false, false, false, false, false] rfl rfl (any_of HT_.out (by kernel_rfl)) (fun _ _ _ h => h) (Or.inl ⟨by rfl, ?_⟩) ?_ ?_
            rotate_left
            · intro w'
              go_simp
              with_reducible rfl
            rotate_left
            · simp only [Act.put, List.setIfInBounds_toArray, List.set_cons_zero, List.set_cons_succ, i64_w, i32_w]
              rfl
            refine pure_ (i := 8) (N := some 21) (v := undef) (a' := ?_) #[true, true, true, true, true, true, true, true, true, false, false, false, false, false, false, false, false, false, false, false, false, false, false, false, false] rfl rfl (any_of HT_.out (by kernel_rfl)) (fun _ _ _ h => h) (Or.inr ⟨by rfl, rfl⟩) ?_ ?_
            rotate_left
            · simp only [Act.put, List.setIfInBounds_toArray, List.set_cons_zero, List.set_cons_succ, i64_w, i32_w]
              rfl
            refine pure_ (i := 9) (N := some 22) (v := undef) (a' := ?_) #[true, true, true, true, true, true, true, true, true, true, false, false, false, false, false, false, false, false, false, false, false, false, false, false, false] rfl rfl (any_of HT_.out (by kernel_rfl)) (fun _ _ _ h => h) (Or.inr ⟨by rfl, rfl⟩) ?_ ?_
            rotate_left
            · simp only [Act.put, List.setIfInBounds_toArray, List.set_cons_zero, List.set_cons_succ, i64_w, i32_w]
              rfl
            refine pure_ (i := 10) (N := some 23) (v := undef) (a' := ?_) #[true, true, true, true, true, true, true, true, true, true, true, false, false, false, false, false, false, false, false, false, false, false, false, false, false] rfl rfl (any_of HT_.out (by kernel_rfl)) (fun _ _ _ h => h) (Or.inr ⟨by rfl, rfl⟩) ?_ ?_
            rotate_left
            · simp only [Act.put, List.setIfInBounds_toArray, List.set_cons_zero, List.set_cons_succ, i64_w, i32_w]
              rfl
            refine pure_ (i := 11) (N := some 24) (v := undef) (a' := ?_) #[true, true, true, true, true, true, true, true, true, true, true, true, false, false, false, false, false, false, false, false, false, false, false, false, false] rfl rfl (any_of HT_.out (by kernel_rfl)) (fun _ _ _ h => h) (Or.inr ⟨by rfl, rfl⟩) ?_ ?_
            rotate_left
            · simp only [Act.put, List.setIfInBounds_toArray, List.set_cons_zero, List.set_cons_succ, i64_w, i32_w]
              rfl
            refine pure_ (i := 12) (N := some 25) (v := undef) (a' := ?_) #[true, true, true, true, true, true, true, true, true, true, true, true, true, false, false, false, false, false, false, false, false, false, false, false, false] rfl rfl (any_of HT_.out (by kernel_rfl)) (fun _ _ _ h => h) (Or.inr ⟨by rfl, rfl⟩) ?_ ?_
            rotate_left
            · simp only [Act.put, List.setIfInBounds_toArray, List.set_cons_zero, List.set_cons_succ, i64_w, i32_w]
              rfl
            refine pure_ (i := 13) (N := some 26) (v := undef) (a' := ?_) #[true, true, true, true, true, true, true, true, true, true, true, true, true, true, false, false, false, false, false, false, false, false, false, false, false] rfl rfl (any_of HT_.out (by kernel_rfl)) (fun _ _ _ h => h) (Or.inr ⟨by rfl, rfl⟩) ?_ ?_
            rotate_left
            · simp only [Act.put, List.setIfInBounds_toArray, List.set_cons_zero, List.set_cons_succ, i64_w, i32_w]
              rfl
            refine pure_ (i := 14) (N := some 27) (v := undef) (a' := ?_) #[true, true, true, true, true, true, true, true, true, true, true, true, true, true, true, false, false, false, false, false, false, false, false, false, false] rfl rfl (any_of HT_.out (by kernel_rfl)) (fun _ _ _ h => h) (Or.inr ⟨by rfl, rfl⟩) ?_ ?_
            rotate_left
            · simp only [Act.put, List.setIfInBounds_toArray, List.set_cons_zero, List.set_cons_succ, i64_w, i32_w]
              rfl
            refine pure_ (i := 15) (N := some 28) (v := ?_) (a' := ?_) #[true, true, true, true, true, true, true, true, true, true, true, true, true, true, true, true, false, false, false, false, false, false, false, false, false] rfl rfl (any_of HT_.out (by kernel_rfl)) (fun _ _ _ h => h) (Or.inl ⟨by rfl, ?_⟩) ?_ ?_
            rotate_left
            · intro w'
              go_simp
              with_reducible rfl
            rotate_left
            · simp only [Act.put, List.setIfInBounds_toArray, List.set_cons_zero, List.set_cons_succ, i64_w, i32_w]
              rfl
            refine pure_ (i := 16) (N := some 29) (v := ?_) (a' := ?_) #[true, true, true, true, true, true, true, true, true, true, true, true, true, true, true, true, true, false, false, false, false, false, false, false, false] rfl rfl (any_of HT_.out (by kernel_rfl)) (fun _ _ _ h => h) (Or.inl ⟨by rfl, ?_⟩) ?_ ?_
            rotate_left
            · intro w'
              go_simp
              with_reducible rfl
            rotate_left
            · simp only [Act.put, List.setIfInBounds_toArray, List.set_cons_zero, List.set_cons_succ, i64_w, i32_w]
              rfl
            refine pure_ (i := 17) (N := some 30) (v := undef) (a' := ?_) #[true, true, true, true, true, true, true, true, true, true, true, true, true, true, true, true, true, true, false, false, false, false, false, false, false] rfl rfl (any_of HT_.out (by kernel_rfl)) (fun _ _ _ h => h) (Or.inr ⟨by rfl, rfl⟩) ?_ ?_
            rotate_left
            · simp only [Act.put, List.setIfInBounds_toArray, List.set_cons_zero, List.set_cons_succ, i64_w, i32_w]
              rfl
            refine pure_ (i := 18) (N := some 31) (v := undef) (a' := ?_) #[true, true, true, true, true, true, true, true, true, true, true, true, true, true, true, true, true, true, true, false, false, false, false, false, false] rfl rfl (any_of HT_.out (by kernel_rfl)) (fun _ _ _ h => h) (Or.inr ⟨by rfl, rfl⟩) ?_ ?_
            rotate_left
            · simp only [Act.put, List.setIfInBounds_toArray, List.set_cons_zero, List.set_cons_succ, i64_w, i32_w]
              rfl
            refine pure_ (i := 19) (N := some 32) (v := undef) (a' := ?_) #[true, true, true, true, true, true, true, true, true, true, true, true, true, true, true, true, true, true, true, true, false, false, false, false, false] rfl rfl (any_of HT_.out (by kernel_rfl)) (fun _ _ _ h => h) (Or.inr ⟨by rfl, rfl⟩) ?_ ?_
            rotate_left
            · simp only [Act.put, List.setIfInBounds_toArray, List.set_cons_zero, List.set_cons_succ, i64_w, i32_w]
              rfl
            refine pure_ (i := 20) (N := some 33) (v := undef) (a' := ?_) #[true, true, true, true, true, true, true, true, true, true, true, true, true, true, true, true, true, true, true, true, true, false, false, false, false] rfl rfl (any_of HT_.out (by kernel_rfl)) (fun _ _ _ h => h) (Or.inr ⟨by rfl, rfl⟩) ?_ ?_
            rotate_left
            · simp only [Act.put, List.setIfInBounds_toArray, List.set_cons_zero, List.set_cons_succ, i64_w, i32_w]
              rfl
            refine pure_ (i := 21) (N := some 34) (v := undef) (a' := ?_) #[true, true, true, true, true, true, true, true, true, true, true, true, true, true, true, true, true, true, true, true, true, true, false, false, false] rfl rfl (any_of HT_.out (by kernel_rfl)) (fun _ _ _ h => h) (Or.inr ⟨by rfl, rfl⟩) ?_ ?_
            rotate_left
            · simp only [Act.put, List.setIfInBounds_toArray, List.set_cons_zero, List.set_cons_succ, i64_w, i32_w]
              rfl
            refine pure_ (i := 22) (N := some 35) (v := undef) (a' := ?_) #[true, true, true, true, true, true, true, true, true, true, true, true, true, true, true, true, true, true, true, true, true, true, true, false, false] rfl rfl (any_of HT_.out (by kernel_rfl)) (fun _ _ _ h => h) (Or.inr ⟨by rfl, rfl⟩) ?_ ?_
            rotate_left
            · simp only [Act.put, List.setIfInBounds_toArray, List.set_cons_zero, List.set_cons_succ, i64_w, i32_w]
              rfl
            refine pure_ (i := 23) (N := some 36) (v := undef) (a' := ?_) #[true, true, true, true, true, true, true, true, true, true, true, true, true, true, true, true, true, true, true, true, true, true, true, true, false] rfl rfl (any_of HT_.out (by kernel_rfl)) (fun _ _ _ h => h) (Or.inr ⟨by rfl, rfl⟩) ?_ ?_
            rotate_left
            · simp only [Act.put, List.setIfInBounds_toArray, List.set_cons_zero, List.set_cons_succ, i64_w, i32_w]
              rfl
            refine pure_ (i := 24) (N := some 37) (v := ?_) (a' := ?_) #[true, true, true, true, true, true, true, true, true, true, true, true, true, true, true, true, true, true, true, true, true, true, true, true, true] rfl rfl (any_of HT_.out (by kernel_rfl)) (fun _ _ _ h => h) (Or.inl ⟨by rfl, ?_⟩) ?_ ?_
            rotate_left
            · intro w'
              go_simp
              with_reducible rfl
            rotate_left
            · simp only [Act.put, List.setIfInBounds_toArray, List.set_cons_zero, List.set_cons_succ, i64_w, i32_w]
              rfl
            refine done_ (done_of HT_.out (by kernel_rfl)) ?_
            try go_wp2
            go_roundg k1
            case measure => have := HK1.out; omega
            case rel => exact ⟨(x5_1), (wrap64 (x6_1 + 1)), (by first | rfl | (simp; done) | (simp [*]; done)), (by first | rfl | (simp; done) | (simp [*]; done)), H', ⟨by have := HK1.out; omega⟩, ⟨by (with_reducible repeat (first | refine blk_drewN ?_ _ | refine blk_drew ?_ | refine blk_alloc ?_ _)); exact BK125.out⟩, ⟨by repeat (first | (with_reducible first | exact HB.out | apply below_alloc | apply pw_below_drewN | apply below_drew1 | refine below_set ?_ GE125.out) | exact HB.out)⟩⟩
        · rw [if_neg c5] at H
          exact absurd H (by simp)
      · rw [if_neg c4] at H
        have c4b0 : decide (x6_1 < (l0.length : Int)) = false := decide_eq_false c4
        clear c4
        obtain rfl := Option.some.inj H
        go_wp2
        go_ret
        exact ⟨by first | rfl | (simp [errW_none, errW_some] <;> rfl) | (simp [*, errW_none, errW_some] <;> rfl), by repeat (first | (with_reducible first | exact HB.out | apply below_alloc | apply pw_below_drewN | apply below_drew1 | refine below_set ?_ GE125.out) | exact HB.out)⟩

end Go.Proofs.Ytpcmoclohepdiab.PBoundOf
