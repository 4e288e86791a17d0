-- Written by a program of this session: a variant of the print that takes proofs by hand (wip/tools/mkprint.py)
import Derived.Test.YtpcmoclohepdiabPBoundOfx0
import Derived.Test.YtpcmoclohepdiabPBoundOfx2
import Derived.Test.YtpcmoclohepdiabPBoundOfx3
import Derived.Test.YtpcmoclohepdiabPBoundOfx4
import Derived.Test.YtpcmoclohepdiabPBoundOfx8
namespace Go.Proofs.Ytpcmoclohepdiab.PBoundOf
open Go.RowKit Go.Proofs.YtpcmoclohepdiabW.PrintWords Go.Proofs.YtpcmoclohepdiabW.PrintLast Go.Proofs.YtpcmoclohepdiabW.PrintMore
attribute [local go_sem] max2_int min2_int max_two min_two max_three min_three max_four min_four   -- for this text's walks alone
set_option linter.unusedVariables false
set_option linter.unusedSimpArgs false

/-! ### corrieref23_Ok: function 18 -/
def corrieref23_Ok.l0 : Nat → List (S38) → Int → Int → Int → Int → Int → Int → Option (Bool)
  | 0, _, _, _, _, _, _, _ => none
  | k + 1, x1, x5, x139000, x139001, x139002, x139003, x139004 => if x5 < (x1.length : Int) then (if 0 ≤ x5 then ((corrieref23_Of.f k x139000 x139001 x139002 x139003 x139004 x1 ((rd_T38 x1 x5).f0) ((rd_T38 x1 x5).f1) ((rd_T38 x1 x5).f2) ((rd_T38 x1 x5).f3) ((rd_T38 x1 x5).f4) ((rd_T38 x1 x5).f5.f0) ((rd_T38 x1 x5).f5.f1) ((rd_T38 x1 x5).f5.f2) ((rd_T38 x1 x5).f5.f3) ((rd_T38 x1 x5).f6.f0) ((rd_T38 x1 x5).f6.f1) ((rd_T38 x1 x5).f6.f2) ((rd_T38 x1 x5).f6.f3)).bind fun t141 => (if ((rd_T38 x1 x5).f4) > t141 then (some false) else (corrieref23_Ok.l0 k x1 (wrap64 (x5 + 1)) x139000 x139001 x139002 x139003 x139004))) else (none)) else (some true)
def corrieref23_Ok.f (k : Nat) (a0_0 : Int) (a0_1 : Int) (a0_2 : Int) (a0_3 : Int) (a0_4 : Int) (l1 : List (S38)) : Option (Bool) := corrieref23_Ok.l0 k l1 0 a0_0 a0_1 a0_2 a0_3 a0_4
theorem corrieref23_Ok.mono_l : ∀ k, (∀ y0 y1 y2 y3 y4 y5 y6, LeO (corrieref23_Ok.l0 k y0 y1 y2 y3 y4 y5 y6) (corrieref23_Ok.l0 (k + 1) y0 y1 y2 y3 y4 y5 y6))
  | 0 => fun _ _ _ _ _ _ _ r h => by simp [corrieref23_Ok.l0] at h
  | k + 1 => by
    have ih0 := corrieref23_Ok.mono_l k
    · intro y0 y1 y2 y3 y4 y5 y6
      unfold corrieref23_Ok.l0
      repeat' first
      | (with_reducible exact ih0 _ _ _ _ _ _ _)
      | (with_reducible exact corrieref23_Of.mono _ _ _ _ _ _ _ _ _ _ _ _ _ _ _ _ _ _ _ _)
      | (with_reducible exact LeO.refl _)
      | (with_reducible exact LeO.none _)
      | (with_reducible refine LeO.ite ?_ ?_)
      | (with_reducible refine LeO.bind ?_ (fun _ => ?_))
      | exact ih0 _ _ _ _ _ _ _
      | exact corrieref23_Of.mono _ _ _ _ _ _ _ _ _ _ _ _ _ _ _ _ _ _ _ _
      | exact LeO.none _
      | refine LeO.ite ?_ ?_
      | refine LeO.bind ?_ (fun _ => ?_)
theorem corrieref23_Ok.mono : ∀ a0 a1 a2 a3 a4 a5 k, LeO (corrieref23_Ok.f k a0 a1 a2 a3 a4 a5) (corrieref23_Ok.f (k + 1) a0 a1 a2 a3 a4 a5) := by
  intro a0 a1 a2 a3 a4 a5 k
  have ih0 := corrieref23_Ok.mono_l k
  unfold corrieref23_Ok.f
  repeat' first
      | (with_reducible exact ih0 _ _ _ _ _ _ _)
      | (with_reducible exact corrieref23_Of.mono _ _ _ _ _ _ _ _ _ _ _ _ _ _ _ _ _ _ _ _)
      | (with_reducible exact LeO.refl _)
      | (with_reducible exact LeO.none _)
      | (with_reducible refine LeO.ite ?_ ?_)
      | (with_reducible refine LeO.bind ?_ (fun _ => ?_))
      | exact ih0 _ _ _ _ _ _ _
      | exact corrieref23_Of.mono _ _ _ _ _ _ _ _ _ _ _ _ _ _ _ _ _ _ _ _
      | exact LeO.none _
      | refine LeO.ite ?_ ?_
      | refine LeO.bind ?_ (fun _ => ?_)
def corrieref23_Ok.T4 : Bool × List (List Nat × List Nat) := (true, [([], []), ([], []), ([0, 1], [0, 1]), ([2], [2]), ([3], [3]), ([], []), ([], []), ([], []), ([], []), ([7, 8], [7, 8]), ([9], [9]), ([5, 6, 10], [5, 6, 10]), ([4, 11], [4, 11])])
def corrieref23_Ok.B4 : List Nat := [0, 0, 3, 7, 15, 0, 0, 0, 0, 384, 896, 2016, 4095]
theorem corrieref23_Ok.tab4 : rtab .any (opsOf Try.f18 4) = corrieref23_Ok.T4 := by kernel_rfl
theorem corrieref23_Ok.bits4 : waitsOk corrieref23_Ok.T4.2 corrieref23_Ok.B4 = true := by kernel_rfl
set_option maxHeartbeats 8000000 in
set_option maxRecDepth 100000 in
theorem corrieref23_Ok.calls (k : Nat) (a0_0 : Int) (a0_1 : Int) (a0_2 : Int) (a0_3 : Int) (a0_4 : Int) (A1 : Option Addr) (c1 : Nat) (l1 : List (S38)) (r : Bool) (w : World) (hr1 : Kd.C k38 w A1 l1.length l1) (hc1 : l1.length ≤ c1) (h : corrieref23_Ok.f k a0_0 a0_1 a0_2 a0_3 a0_4 l1 = some r) :
    Calls Try.prog 18 #[.agg #[.int .i64 a0_0, .int .i64 a0_1, .int .i64 a0_2, .int .i64 a0_3, .int .i64 a0_4], .slice A1 l1.length c1] w fun e w' => e = .returned (.bool r) ∧ Below w.heap.size w w' := by
  have hu23 := Try.underlying23
  have hu38 := Try.underlying38
  have HR1 := Aside0.mk hr1
  have HC1 := Aside0.mk hc1
  clear hr1 hc1
  have HB := Aside0.mk (Below.refl w.heap.size w)
  have H : (corrieref23_Ok.l0 k l1 0 a0_0 a0_1 a0_2 a0_3 a0_4) = some r := h
  clear h
  have H' := Aside0.mk H
  clear H
  go_enter Try.func18, Try.ntmps18
  go_wp2_with (first | ((with_reducible refine gate_dst (N := 2) rfl ?_); refine box_event ?hg (N := 2) ?hd (cs := #[.int .i64 a0_0, .int .i64 a0_1, .int .i64 a0_2, .int .i64 a0_3, .int .i64 a0_4]) (t := 23) ?hr ?_; (case hd => rfl); (case hg => rfl); (case hr => first | (go_simp; done) | (go_simp; rfl)); intro gb138 hg w3 hbox hb; have n0_ := Aside0.mk (below_step (by repeat (first | (with_reducible first | exact HB.out | apply below_alloc | apply pw_below_drewN | apply below_drew1) | exact HB.out)) hb); have n1_ := Aside0.mk (hbox); have n2_ := Aside0.mk ((by rw [hg]; exact (below_size (by repeat (first | (with_reducible first | exact HB.out | apply below_alloc | apply pw_below_drewN | apply below_drew1) | exact HB.out))) : w.heap.size ≤ gb138)); have n3_ := Aside0.mk ((by rw [hg]; exact (below_size (by repeat (first | (with_reducible first | exact HB.out | apply below_alloc | apply pw_below_drewN | apply below_drew1) | exact HB.out))) : w.heap.size ≤ gb138)); clear HB; have HB := n0_; have BK138 := n1_; have GW138 := n2_; have GE138 := n3_; clear n0_ n1_ n2_ n3_; clear hb hbox hg))
  go_loopg [5] k (fun kq v5 w' => ∃ (x5_1 : Int), v5 = .int .i64 x5_1 ∧ Aside0 (corrieref23_Ok.l0 kq l1 x5_1 a0_0 a0_1 a0_2 a0_3 a0_4 = some r) ∧ Aside0 (kq ≤ k) ∧ Aside0 (w'.heap[gb138]? = some (.cells #[.int .i64 a0_0, .int .i64 a0_1, .int .i64 a0_2, .int .i64 a0_3, .int .i64 a0_4] 23 (0, 0))) ∧ Aside0 (Below w.heap.size w w'))
  case atStart => exact ⟨(0), (by first | rfl | (simp; done) | (simp [*]; done)), H', ⟨Nat.le_refl _⟩, ⟨by (with_reducible repeat (first | refine blk_drewN ?_ _ | refine blk_drew ?_ | refine blk_alloc ?_ _)); exact BK138.out⟩, ⟨by repeat (first | (with_reducible first | exact HB.out | apply below_alloc | apply pw_below_drewN | apply below_drew1 | refine below_set ?_ GE138.out) | exact HB.out)⟩⟩
  case round =>
    clear H'
    try clear c1
    try clear p2
    obtain ⟨x5_1, rfl, HA, HK1, BK138, HB⟩ := hrel
    cases gk with
    | zero => exact absurd HA.out (by simp [corrieref23_Ok.l0])
    | succ k1 =>
      have H := HA.out
      clear HA
      simp only [corrieref23_Ok.l0] at H
      by_cases c4 : x5_1 < (l1.length : Int)
      · rw [if_pos c4] at H
        have c4b0 : decide (x5_1 < (l1.length : Int)) = true := decide_eq_true c4
        clear c4
        by_cases c5 : 0 ≤ x5_1
        · rw [if_pos c5] at H
          have c5b0 : decide (0 ≤ x5_1) = true := decide_eq_true c5
          clear c5
          replace H := Option.bind_eq_some_iff.mp H
          obtain ⟨t141, A60, H⟩ := H
          replace H : (if ((rd_T38 l1 x5_1).f4) > t141 then (some false) else (corrieref23_Ok.l0 k1 l1 (wrap64 (x5_1 + 1)) a0_0 a0_1 a0_2 a0_3 a0_4)) = some r := H
          have A6 := Aside0.mk A60
          clear A60
          by_cases c7 : ((rd_T38 l1 x5_1).f4) > t141
          · rw [if_pos c7] at H
            have c7b0 : decide (t141 < ((rd_T38 l1 x5_1).f4)) = true := decide_eq_true c7
            clear c7
            obtain rfl := Option.some.inj H
            try go_wp2
            have n0_ := Aside0.mk (blk_drew BK138.out)
            have n1_ := Aside0.mk (below_drew1 HB.out)
            clear BK138
            clear HB
            have BK138 := n0_
            have HB := n1_
            clear n0_ n1_
            have p139 : 0 ≤ (x5_1 : Int) := of_decide_eq_true (by first | (with_reducible assumption) | assumption)
            have q139 : x5_1 < (l1.length : Int) := of_decide_eq_true (by first | (with_reducible assumption) | assumption)
            obtain ⟨ad139, A139_12, c139_12, e139, hx139_0, hx139_1, hx139_2, hx139_3, hx139_4, hx139_5, hx139_6, hx139_7, hx139_8, hx139_9, hx139_10, hx139_11, hx139_12, hl139_12, hi139_12⟩ := at_T38 HR1.out x5_1 p139 q139
            have hw139_12 := hx139_12
            have hw139_11 := hx139_11
            have hw139_10 := hx139_10
            have hw139_9 := hx139_9
            have hw139_8 := hx139_8
            have hw139_7 := hx139_7
            have hw139_6 := hx139_6
            have hw139_5 := hx139_5
            have hw139_4 := hx139_4
            have hw139_3 := hx139_3
            have hw139_2 := hx139_2
            have hw139_1 := hx139_1
            have hw139_0 := hx139_0
            cases e139
            replace hx139_0 := (HB.out.cell (World.block_lt_of_cell? w _ hx139_0)).trans hx139_0
            replace hx139_1 := (HB.out.cell (World.block_lt_of_cell? w _ hx139_1)).trans hx139_1
            replace hx139_2 := (HB.out.cell (World.block_lt_of_cell? w _ hx139_2)).trans hx139_2
            replace hx139_3 := (HB.out.cell (World.block_lt_of_cell? w _ hx139_3)).trans hx139_3
            replace hx139_4 := (HB.out.cell (World.block_lt_of_cell? w _ hx139_4)).trans hx139_4
            replace hx139_5 := (HB.out.cell (World.block_lt_of_cell? w _ hx139_5)).trans hx139_5
            replace hx139_6 := (HB.out.cell (World.block_lt_of_cell? w _ hx139_6)).trans hx139_6
            replace hx139_7 := (HB.out.cell (World.block_lt_of_cell? w _ hx139_7)).trans hx139_7
            replace hx139_8 := (HB.out.cell (World.block_lt_of_cell? w _ hx139_8)).trans hx139_8
            replace hx139_9 := (HB.out.cell (World.block_lt_of_cell? w _ hx139_9)).trans hx139_9
            replace hx139_10 := (HB.out.cell (World.block_lt_of_cell? w _ hx139_10)).trans hx139_10
            replace hx139_11 := (HB.out.cell (World.block_lt_of_cell? w _ hx139_11)).trans hx139_11
            replace hx139_12 := (HB.out.cell (World.block_lt_of_cell? w _ hx139_12)).trans hx139_12
            have HR139_12 := Aside0.mk hi139_12
            have HC139_12 := Aside0.mk hl139_12
            clear hi139_12 hl139_12
            replace p139 := eq_true p139
            replace q139 := eq_true q139
            have p140 : 0 ≤ (x5_1 : Int) := of_decide_eq_true (by first | (with_reducible assumption) | assumption)
            have q140 : x5_1 < (l1.length : Int) := of_decide_eq_true (by first | (with_reducible assumption) | assumption)
            obtain ⟨ad140, A140_12, c140_12, e140, hx140_0, hx140_1, hx140_2, hx140_3, hx140_4, hx140_5, hx140_6, hx140_7, hx140_8, hx140_9, hx140_10, hx140_11, hx140_12, hl140_12, hi140_12⟩ := at_T38 HR1.out x5_1 p140 q140
            have hw140_12 := hx140_12
            have hw140_11 := hx140_11
            have hw140_10 := hx140_10
            have hw140_9 := hx140_9
            have hw140_8 := hx140_8
            have hw140_7 := hx140_7
            have hw140_6 := hx140_6
            have hw140_5 := hx140_5
            have hw140_4 := hx140_4
            have hw140_3 := hx140_3
            have hw140_2 := hx140_2
            have hw140_1 := hx140_1
            have hw140_0 := hx140_0
            obtain rfl : ad139 = ad140 := (by injection e140)
            replace hx140_0 := (HB.out.cell (World.block_lt_of_cell? w _ hx140_0)).trans hx140_0
            replace hx140_1 := (HB.out.cell (World.block_lt_of_cell? w _ hx140_1)).trans hx140_1
            replace hx140_2 := (HB.out.cell (World.block_lt_of_cell? w _ hx140_2)).trans hx140_2
            replace hx140_3 := (HB.out.cell (World.block_lt_of_cell? w _ hx140_3)).trans hx140_3
            replace hx140_4 := (HB.out.cell (World.block_lt_of_cell? w _ hx140_4)).trans hx140_4
            replace hx140_5 := (HB.out.cell (World.block_lt_of_cell? w _ hx140_5)).trans hx140_5
            replace hx140_6 := (HB.out.cell (World.block_lt_of_cell? w _ hx140_6)).trans hx140_6
            replace hx140_7 := (HB.out.cell (World.block_lt_of_cell? w _ hx140_7)).trans hx140_7
            replace hx140_8 := (HB.out.cell (World.block_lt_of_cell? w _ hx140_8)).trans hx140_8
            replace hx140_9 := (HB.out.cell (World.block_lt_of_cell? w _ hx140_9)).trans hx140_9
            replace hx140_10 := (HB.out.cell (World.block_lt_of_cell? w _ hx140_10)).trans hx140_10
            replace hx140_11 := (HB.out.cell (World.block_lt_of_cell? w _ hx140_11)).trans hx140_11
            replace hx140_12 := (HB.out.cell (World.block_lt_of_cell? w _ hx140_12)).trans hx140_12
            have HR140_12 := Aside0.mk hi140_12
            have HC140_12 := Aside0.mk hl140_12
            clear hi140_12 hl140_12
            replace p140 := eq_true p140
            replace q140 := eq_true q140
            have ea_ := Option.some.inj (hx139_12.symm.trans hx140_12)
            injection ea_ with ea_ en_ ec_
            subst ea_
            subst ec_
            clear en_
            refine start_ (n := 13) (S := fun w' => w'.cell? ⟨gb138, 0, none⟩ = some (.int .i64 a0_0) ∧ w'.cell? ⟨gb138, 1, none⟩ = some (.int .i64 a0_1) ∧ w'.cell? ⟨gb138, 2, none⟩ = some (.int .i64 a0_2) ∧ w'.cell? ⟨gb138, 3, none⟩ = some (.int .i64 a0_3) ∧ w'.cell? ⟨gb138, 4, none⟩ = some (.int .i64 a0_4) ∧ w'.cell? (ad139.add ((x5_1).toNat * 13)) = some (.int .i64 ((rd_T38 l1 x5_1).f0)) ∧ w'.cell? ⟨(ad139.add ((x5_1).toNat * 13)).block, (ad139.add ((x5_1).toNat * 13)).off + 1, none⟩ = some (.int .i64 ((rd_T38 l1 x5_1).f1)) ∧ w'.cell? ⟨(ad139.add ((x5_1).toNat * 13)).block, (ad139.add ((x5_1).toNat * 13)).off + 2, none⟩ = some (.int .i64 ((rd_T38 l1 x5_1).f2)) ∧ w'.cell? ⟨(ad139.add ((x5_1).toNat * 13)).block, (ad139.add ((x5_1).toNat * 13)).off + 3, none⟩ = some (.int .i64 ((rd_T38 l1 x5_1).f3)) ∧ w'.cell? ⟨(ad139.add ((x5_1).toNat * 13)).block, (ad139.add ((x5_1).toNat * 13)).off + 4, none⟩ = some (.int .i64 ((rd_T38 l1 x5_1).f4)) ∧ w'.cell? ⟨(ad139.add ((x5_1).toNat * 13)).block, (ad139.add ((x5_1).toNat * 13)).off + 5, none⟩ = some (.int .i64 ((rd_T38 l1 x5_1).f5.f0)) ∧ w'.cell? ⟨(ad139.add ((x5_1).toNat * 13)).block, (ad139.add ((x5_1).toNat * 13)).off + 6, none⟩ = some (.int .u64 ((rd_T38 l1 x5_1).f5.f1)) ∧ w'.cell? ⟨(ad139.add ((x5_1).toNat * 13)).block, (ad139.add ((x5_1).toNat * 13)).off + 7, none⟩ = some (.int .u64 ((rd_T38 l1 x5_1).f5.f2)) ∧ w'.cell? ⟨(ad139.add ((x5_1).toNat * 13)).block, (ad139.add ((x5_1).toNat * 13)).off + 8, none⟩ = some (.int .i64 ((rd_T38 l1 x5_1).f5.f3)) ∧ w'.cell? ⟨(ad139.add ((x5_1).toNat * 13)).block, (ad139.add ((x5_1).toNat * 13)).off + 9, none⟩ = some (.int .i64 ((rd_T38 l1 x5_1).f6.f0)) ∧ w'.cell? ⟨(ad139.add ((x5_1).toNat * 13)).block, (ad139.add ((x5_1).toNat * 13)).off + 10, none⟩ = some (.bool ((rd_T38 l1 x5_1).f6.f1)) ∧ w'.cell? ⟨(ad139.add ((x5_1).toNat * 13)).block, (ad139.add ((x5_1).toNat * 13)).off + 11, none⟩ = some (.int .u64 ((rd_T38 l1 x5_1).f6.f2)) ∧ w'.cell? ⟨(ad139.add ((x5_1).toNat * 13)).block, (ad139.add ((x5_1).toNat * 13)).off + 12, none⟩ = some (.slice A139_12 ((rd_T38 l1 x5_1).f6.f3).length c139_12) ∧ w'.cell? (ad139.add ((x5_1).toNat * 13)) = some (.int .i64 ((rd_T38 l1 x5_1).f0)) ∧ w'.cell? ⟨(ad139.add ((x5_1).toNat * 13)).block, (ad139.add ((x5_1).toNat * 13)).off + 1, none⟩ = some (.int .i64 ((rd_T38 l1 x5_1).f1)) ∧ w'.cell? ⟨(ad139.add ((x5_1).toNat * 13)).block, (ad139.add ((x5_1).toNat * 13)).off + 2, none⟩ = some (.int .i64 ((rd_T38 l1 x5_1).f2)) ∧ w'.cell? ⟨(ad139.add ((x5_1).toNat * 13)).block, (ad139.add ((x5_1).toNat * 13)).off + 3, none⟩ = some (.int .i64 ((rd_T38 l1 x5_1).f3)) ∧ w'.cell? ⟨(ad139.add ((x5_1).toNat * 13)).block, (ad139.add ((x5_1).toNat * 13)).off + 4, none⟩ = some (.int .i64 ((rd_T38 l1 x5_1).f4)) ∧ w'.cell? ⟨(ad139.add ((x5_1).toNat * 13)).block, (ad139.add ((x5_1).toNat * 13)).off + 5, none⟩ = some (.int .i64 ((rd_T38 l1 x5_1).f5.f0)) ∧ w'.cell? ⟨(ad139.add ((x5_1).toNat * 13)).block, (ad139.add ((x5_1).toNat * 13)).off + 6, none⟩ = some (.int .u64 ((rd_T38 l1 x5_1).f5.f1)) ∧ w'.cell? ⟨(ad139.add ((x5_1).toNat * 13)).block, (ad139.add ((x5_1).toNat * 13)).off + 7, none⟩ = some (.int .u64 ((rd_T38 l1 x5_1).f5.f2)) ∧ w'.cell? ⟨(ad139.add ((x5_1).toNat * 13)).block, (ad139.add ((x5_1).toNat * 13)).off + 8, none⟩ = some (.int .i64 ((rd_T38 l1 x5_1).f5.f3)) ∧ w'.cell? ⟨(ad139.add ((x5_1).toNat * 13)).block, (ad139.add ((x5_1).toNat * 13)).off + 9, none⟩ = some (.int .i64 ((rd_T38 l1 x5_1).f6.f0)) ∧ w'.cell? ⟨(ad139.add ((x5_1).toNat * 13)).block, (ad139.add ((x5_1).toNat * 13)).off + 10, none⟩ = some (.bool ((rd_T38 l1 x5_1).f6.f1)) ∧ w'.cell? ⟨(ad139.add ((x5_1).toNat * 13)).block, (ad139.add ((x5_1).toNat * 13)).off + 11, none⟩ = some (.int .u64 ((rd_T38 l1 x5_1).f6.f2)) ∧ w'.cell? ⟨(ad139.add ((x5_1).toNat * 13)).block, (ad139.add ((x5_1).toNat * 13)).off + 12, none⟩ = some (.slice A139_12 ((rd_T38 l1 x5_1).f6.f3).length c139_12)) (ds := []) #[false, false, false, false, false, false, false, false, false, false, false, false, false] (by kernel_rfl) rfl rfl ⟨(blk_cell BK138.out 0).trans rfl, (blk_cell BK138.out 1).trans rfl, (blk_cell BK138.out 2).trans rfl, (blk_cell BK138.out 3).trans rfl, (blk_cell BK138.out 4).trans rfl, ((HB.out.cell (World.block_lt_of_cell? w _ hw139_0)).trans hw139_0), ((HB.out.cell (World.block_lt_of_cell? w _ hw139_1)).trans hw139_1), ((HB.out.cell (World.block_lt_of_cell? w _ hw139_2)).trans hw139_2), ((HB.out.cell (World.block_lt_of_cell? w _ hw139_3)).trans hw139_3), ((HB.out.cell (World.block_lt_of_cell? w _ hw139_4)).trans hw139_4), ((HB.out.cell (World.block_lt_of_cell? w _ hw139_5)).trans hw139_5), ((HB.out.cell (World.block_lt_of_cell? w _ hw139_6)).trans hw139_6), ((HB.out.cell (World.block_lt_of_cell? w _ hw139_7)).trans hw139_7), ((HB.out.cell (World.block_lt_of_cell? w _ hw139_8)).trans hw139_8), ((HB.out.cell (World.block_lt_of_cell? w _ hw139_9)).trans hw139_9), ((HB.out.cell (World.block_lt_of_cell? w _ hw139_10)).trans hw139_10), ((HB.out.cell (World.block_lt_of_cell? w _ hw139_11)).trans hw139_11), ((HB.out.cell (World.block_lt_of_cell? w _ hw139_12)).trans hw139_12), ((HB.out.cell (World.block_lt_of_cell? w _ hw140_0)).trans hw140_0), ((HB.out.cell (World.block_lt_of_cell? w _ hw140_1)).trans hw140_1), ((HB.out.cell (World.block_lt_of_cell? w _ hw140_2)).trans hw140_2), ((HB.out.cell (World.block_lt_of_cell? w _ hw140_3)).trans hw140_3), ((HB.out.cell (World.block_lt_of_cell? w _ hw140_4)).trans hw140_4), ((HB.out.cell (World.block_lt_of_cell? w _ hw140_5)).trans hw140_5), ((HB.out.cell (World.block_lt_of_cell? w _ hw140_6)).trans hw140_6), ((HB.out.cell (World.block_lt_of_cell? w _ hw140_7)).trans hw140_7), ((HB.out.cell (World.block_lt_of_cell? w _ hw140_8)).trans hw140_8), ((HB.out.cell (World.block_lt_of_cell? w _ hw140_9)).trans hw140_9), ((HB.out.cell (World.block_lt_of_cell? w _ hw140_10)).trans hw140_10), ((HB.out.cell (World.block_lt_of_cell? w _ hw140_11)).trans hw140_11), ((HB.out.cell (World.block_lt_of_cell? w _ hw140_12)).trans hw140_12)⟩ (fun hHeld => ?_); refine with_tabW corrieref23_Ok.tab4 corrieref23_Ok.bits4 (fun HT_ HW_ => ?_)
            generalize wr.drew = w8 at BK138 HB HR139_12 HR140_12 hx139_0 hx139_1 hx139_10 hx139_11 hx139_12 hx139_2 hx139_3 hx139_4 hx139_5 hx139_6 hx139_7 hx139_8 hx139_9 hx140_0 hx140_1 hx140_10 hx140_11 hx140_12 hx140_2 hx140_3 hx140_4 hx140_5 hx140_6 hx140_7 hx140_8 hx140_9 hHeld ⊢
            refine pure_ (i := 0) (N := some 12) (v := ?_) (a' := ?_) #[true, false, false, false, false, false, false, false, false, false, false, false, false] rfl rfl (any_of HT_.out (by kernel_rfl)) (fun _ _ _ h => h) (Or.inl ⟨by rfl, ?_⟩) ?_ ?_
            rotate_left
            · intro w'
              go_simp
              with_reducible rfl
            rotate_left
            · simp only [Act.put, List.setIfInBounds_toArray, List.set_cons_zero, List.set_cons_succ, i64_w, i32_w]
              rfl
            refine pure_ (i := 1) (N := some 13) (v := ?_) (a' := ?_) #[true, true, false, false, false, false, false, false, false, false, false, false, false] rfl rfl (any_of HT_.out (by kernel_rfl)) (fun _ _ _ h => h) (Or.inl ⟨by rfl, ?_⟩) ?_ ?_
            rotate_left
            · intro w'
              go_simp
              with_reducible rfl
            rotate_left
            · simp only [Act.put, List.setIfInBounds_toArray, List.set_cons_zero, List.set_cons_succ, i64_w, i32_w]
              rfl
            refine pure_ (i := 2) (N := some 14) (v := ?_) (a' := ?_) #[true, true, true, false, false, false, false, false, false, false, false, false, false] rfl rfl (any_of HT_.out (by kernel_rfl)) (fun _ _ _ h => h) (Or.inl ⟨by rfl, ?_⟩) ?_ ?_
            rotate_left
            · intro w'
              go_simp
              with_reducible rfl
            rotate_left
            · simp only [Act.put, List.setIfInBounds_toArray, List.set_cons_zero, List.set_cons_succ, i64_w, i32_w]
              rfl
            refine pure_ (i := 3) (N := some 15) (v := ?_) (a' := ?_) #[true, true, true, true, false, false, false, false, false, false, false, false, false] rfl rfl (any_of HT_.out (by kernel_rfl)) (fun _ _ _ h => h) (Or.inl ⟨by rfl, ?_⟩) ?_ ?_
            rotate_left
            · intro w'
              go_simp
              with_reducible rfl
            rotate_left
            · simp only [Act.put, List.setIfInBounds_toArray, List.set_cons_zero, List.set_cons_succ, i64_w, i32_w]
              rfl
            refine pure_ (i := 6) (N := some 18) (v := ?_) (a' := ?_) #[true, true, true, true, false, false, true, false, false, false, false, false, false] rfl rfl (any_of HT_.out (by kernel_rfl)) (fun _ _ _ h => h) (Or.inl ⟨by rfl, ?_⟩) ?_ ?_
            rotate_left
            · intro w'
              go_simp
              with_reducible rfl
            rotate_left
            · simp only [Act.put, List.setIfInBounds_toArray, List.set_cons_zero, List.set_cons_succ, i64_w, i32_w]
              rfl
            refine pure_ (i := 7) (N := some 19) (v := ?_) (a' := ?_) #[true, true, true, true, false, false, true, true, false, false, false, false, false] rfl rfl (any_of HT_.out (by kernel_rfl)) (fun _ _ _ h => h) (Or.inl ⟨by rfl, ?_⟩) ?_ ?_
            rotate_left
            · intro w'
              go_simp
              with_reducible rfl
            rotate_left
            · simp only [Act.put, List.setIfInBounds_toArray, List.set_cons_zero, List.set_cons_succ, i64_w, i32_w]
              rfl
            refine pure_ (i := 8) (N := some 20) (v := ?_) (a' := ?_) #[true, true, true, true, false, false, true, true, true, false, false, false, false] rfl rfl (any_of HT_.out (by kernel_rfl)) (fun _ _ _ h => h) (Or.inl ⟨by rfl, ?_⟩) ?_ ?_
            rotate_left
            · intro w'
              go_simp
              with_reducible rfl
            rotate_left
            · simp only [Act.put, List.setIfInBounds_toArray, List.set_cons_zero, List.set_cons_succ, i64_w, i32_w]
              rfl
            refine pure_ (i := 9) (N := some 21) (v := ?_) (a' := ?_) #[true, true, true, true, false, false, true, true, true, true, false, false, false] rfl rfl (any_of HT_.out (by kernel_rfl)) (fun _ _ _ h => h) (Or.inl ⟨by rfl, ?_⟩) ?_ ?_
            rotate_left
            · intro w'
              go_simp
              with_reducible rfl
            rotate_left
            · simp only [Act.put, List.setIfInBounds_toArray, List.set_cons_zero, List.set_cons_succ, i64_w, i32_w]
              rfl
            refine take_ (i := 4) (N := some 16) (v := ?_) (a' := ?_) #[true, true, true, true, true, false, true, true, true, true, false, false, false] rfl rfl (take_ofW HT_.out HW_.out (by kernel_rfl)) (fun _ _ _ h => h) (Or.inl ⟨by rfl, ?_⟩) hHeld ?_ ?_
            rotate_left
            · rintro w' ⟨s0, s1, s2, s3, s4, s5, s6, s7, s8, s9, s10, s11, s12, s13, s14, s15, s16, s17, s18, s19, s20, s21, s22, s23, s24, s25, s26, s27, s28, s29, s30⟩
              go_simp
              with_reducible rfl
            rotate_left
            · simp only [Act.put, List.setIfInBounds_toArray, List.set_cons_zero, List.set_cons_succ, i64_w, i32_w]
              rfl
            refine take_ (i := 5) (N := some 17) (v := ?_) (a' := ?_) #[true, true, true, true, true, true, true, true, true, true, false, false, false] rfl rfl (take_ofW HT_.out HW_.out (by kernel_rfl)) (fun _ _ _ h => h) (Or.inl ⟨by rfl, ?_⟩) hHeld ?_ ?_
            rotate_left
            · rintro w' ⟨s0, s1, s2, s3, s4, s5, s6, s7, s8, s9, s10, s11, s12, s13, s14, s15, s16, s17, s18, s19, s20, s21, s22, s23, s24, s25, s26, s27, s28, s29, s30⟩
              go_simp
              with_reducible rfl
            rotate_left
            · simp only [Act.put, List.setIfInBounds_toArray, List.set_cons_zero, List.set_cons_succ, i64_w, i32_w]
              rfl
            refine take_ (i := 10) (N := some 22) (v := ?_) (a' := ?_) #[true, true, true, true, true, true, true, true, true, true, true, false, false] rfl rfl (take_ofW HT_.out HW_.out (by kernel_rfl)) (fun _ _ _ h => h) (Or.inl ⟨by rfl, ?_⟩) hHeld ?_ ?_
            rotate_left
            · rintro w' ⟨s0, s1, s2, s3, s4, s5, s6, s7, s8, s9, s10, s11, s12, s13, s14, s15, s16, s17, s18, s19, s20, s21, s22, s23, s24, s25, s26, s27, s28, s29, s30⟩
              go_simp
              with_reducible rfl
            rotate_left
            · simp only [Act.put, List.setIfInBounds_toArray, List.set_cons_zero, List.set_cons_succ, i64_w, i32_w]
              rfl
            refine one_ (i := 11) (N := some 23) #[true, true, true, true, true, true, true, true, true, true, true, true, false] rfl rfl (one_of HT_.out (by kernel_rfl)) (by decide) (fun K hK => ?_)
            refine goes_ Try.func16 (by kernel_rfl) rfl #[.agg #[.int .i64 a0_0, .int .i64 a0_1, .int .i64 a0_2, .int .i64 a0_3, .int .i64 a0_4], .slice (some ad139) l1.length c1, .agg #[.int .i64 ((rd_T38 l1 x5_1).f0), .int .i64 ((rd_T38 l1 x5_1).f1), .int .i64 ((rd_T38 l1 x5_1).f2), .int .i64 ((rd_T38 l1 x5_1).f3), .int .i64 ((rd_T38 l1 x5_1).f4), .int .i64 ((rd_T38 l1 x5_1).f5.f0), .int .u64 ((rd_T38 l1 x5_1).f5.f1), .int .u64 ((rd_T38 l1 x5_1).f5.f2), .int .i64 ((rd_T38 l1 x5_1).f5.f3), .int .i64 ((rd_T38 l1 x5_1).f6.f0), .bool ((rd_T38 l1 x5_1).f6.f1), .int .u64 ((rd_T38 l1 x5_1).f6.f2), .slice A139_12 ((rd_T38 l1 x5_1).f6.f3).length c139_12]] (by rfl) rfl rfl (by (try simp only [List.map_toArray, List.map_cons, List.map_nil]); first | done | rfl | (simp only [List.length_drop, List.length_take]; rfl)) ?_
            with_reducible refine (corrieref23_Of.calls k1 a0_0 a0_1 a0_2 a0_3 a0_4 _ _ l1 ((rd_T38 l1 x5_1).f0) ((rd_T38 l1 x5_1).f1) ((rd_T38 l1 x5_1).f2) ((rd_T38 l1 x5_1).f3) ((rd_T38 l1 x5_1).f4) ((rd_T38 l1 x5_1).f5.f0) ((rd_T38 l1 x5_1).f5.f1) ((rd_T38 l1 x5_1).f5.f2) ((rd_T38 l1 x5_1).f5.f3) ((rd_T38 l1 x5_1).f6.f0) ((rd_T38 l1 x5_1).f6.f1) ((rd_T38 l1 x5_1).f6.f2) _ _ ((rd_T38 l1 x5_1).f6.f3) t141 _ ?side1 ?side2 ?side3 ?side4 A6.out).mono ?_
            (case side1 => repeat (first | exact (Kd.C_below HR1.out HB.out) | (with_reducible refine Kd.C_alloc ?_ _) | (with_reducible refine Kd.C_drewN ?_ _) | (with_reducible refine Kd.C_drew ?_)))
            (case side2 => exact HC1.out)
            (case side3 => repeat (first | exact (Kd.C_below HR140_12.out HB.out) | (with_reducible refine Kd.C_alloc ?_ _) | (with_reducible refine Kd.C_drewN ?_ _) | (with_reducible refine Kd.C_drew ?_)))
            (case side4 => exact HC140_12.out)
            rintro e w9 ⟨rfl, hb⟩
            refine ⟨_, rfl, ?_⟩
            have n0_ := Aside0.mk (blk_below (g := gb138) (o := .cells #[.int .i64 a0_0, .int .i64 a0_1, .int .i64 a0_2, .int .i64 a0_3, .int .i64 a0_4] 23 (0, 0)) (by (with_reducible repeat (first | refine blk_drewN ?_ _ | refine blk_drew ?_ | refine blk_alloc ?_ _)); exact BK138.out) hb)
            have n1_ := Aside0.mk (below_step (by repeat (first | (with_reducible first | exact HB.out | apply below_alloc | apply pw_below_drewN | apply below_drew1 | refine below_set ?_ GE138.out) | exact HB.out)) hb)
            clear BK138
            clear HB
            have BK138 := n0_
            have HB := n1_
            clear n0_ n1_
            (try clear hb)
            (try clear hb2)
            (try clear hk)
            (try clear hi)
            refine hK.out _ _ ⟨(blk_cell BK138.out 0).trans rfl, (blk_cell BK138.out 1).trans rfl, (blk_cell BK138.out 2).trans rfl, (blk_cell BK138.out 3).trans rfl, (blk_cell BK138.out 4).trans rfl, ((HB.out.cell (World.block_lt_of_cell? w _ hw139_0)).trans hw139_0), ((HB.out.cell (World.block_lt_of_cell? w _ hw139_1)).trans hw139_1), ((HB.out.cell (World.block_lt_of_cell? w _ hw139_2)).trans hw139_2), ((HB.out.cell (World.block_lt_of_cell? w _ hw139_3)).trans hw139_3), ((HB.out.cell (World.block_lt_of_cell? w _ hw139_4)).trans hw139_4), ((HB.out.cell (World.block_lt_of_cell? w _ hw139_5)).trans hw139_5), ((HB.out.cell (World.block_lt_of_cell? w _ hw139_6)).trans hw139_6), ((HB.out.cell (World.block_lt_of_cell? w _ hw139_7)).trans hw139_7), ((HB.out.cell (World.block_lt_of_cell? w _ hw139_8)).trans hw139_8), ((HB.out.cell (World.block_lt_of_cell? w _ hw139_9)).trans hw139_9), ((HB.out.cell (World.block_lt_of_cell? w _ hw139_10)).trans hw139_10), ((HB.out.cell (World.block_lt_of_cell? w _ hw139_11)).trans hw139_11), ((HB.out.cell (World.block_lt_of_cell? w _ hw139_12)).trans hw139_12), ((HB.out.cell (World.block_lt_of_cell? w _ hw140_0)).trans hw140_0), ((HB.out.cell (World.block_lt_of_cell? w _ hw140_1)).trans hw140_1), ((HB.out.cell (World.block_lt_of_cell? w _ hw140_2)).trans hw140_2), ((HB.out.cell (World.block_lt_of_cell? w _ hw140_3)).trans hw140_3), ((HB.out.cell (World.block_lt_of_cell? w _ hw140_4)).trans hw140_4), ((HB.out.cell (World.block_lt_of_cell? w _ hw140_5)).trans hw140_5), ((HB.out.cell (World.block_lt_of_cell? w _ hw140_6)).trans hw140_6), ((HB.out.cell (World.block_lt_of_cell? w _ hw140_7)).trans hw140_7), ((HB.out.cell (World.block_lt_of_cell? w _ hw140_8)).trans hw140_8), ((HB.out.cell (World.block_lt_of_cell? w _ hw140_9)).trans hw140_9), ((HB.out.cell (World.block_lt_of_cell? w _ hw140_10)).trans hw140_10), ((HB.out.cell (World.block_lt_of_cell? w _ hw140_11)).trans hw140_11), ((HB.out.cell (World.block_lt_of_cell? w _ hw140_12)).trans hw140_12)⟩ (fun hHeld => ?_)
            clear hK K
            refine norm_ (a' := ?_) ?_ ?_
            rotate_left
            · show Act.put _ (some 23) _ = _
              simp only [Act.put, List.setIfInBounds_toArray, List.set_cons_zero, List.set_cons_succ, i64_w, i32_w]
              rfl
            refine pure_ (i := 12) (N := some 24) (v := ?_) (a' := ?_) #[true, true, true, true, true, true, true, true, true, true, true, true, true] rfl rfl (any_of HT_.out (by kernel_rfl)) (fun _ _ _ h => h) (Or.inl ⟨by rfl, ?_⟩) ?_ ?_
            rotate_left
            · intro w'
              go_simp
              with_reducible rfl
            rotate_left
            · simp only [Act.put, List.setIfInBounds_toArray, List.set_cons_zero, List.set_cons_succ, i64_w, i32_w]
              rfl
            refine done_ (done_of HT_.out (by kernel_rfl)) ?_
            try go_wp2
            go_ret
            exact ⟨by first | rfl | (simp [errW_none, errW_some] <;> rfl) | (simp [*, errW_none, errW_some] <;> rfl), by repeat (first | (with_reducible first | exact HB.out | apply below_alloc | apply pw_below_drewN | apply below_drew1 | refine below_set ?_ GE138.out) | exact HB.out)⟩
          · rw [if_neg c7] at H
            have c7b0 : decide (t141 < ((rd_T38 l1 x5_1).f4)) = false := decide_eq_false c7
            clear c7
            have H' := Aside0.mk H
            clear H
            try go_wp2
            have n0_ := Aside0.mk (blk_drew BK138.out)
            have n1_ := Aside0.mk (below_drew1 HB.out)
            clear BK138
            clear HB
            have BK138 := n0_
            have HB := n1_
            clear n0_ n1_
            have p139 : 0 ≤ (x5_1 : Int) := of_decide_eq_true (by first | (with_reducible assumption) | assumption)
            have q139 : x5_1 < (l1.length : Int) := of_decide_eq_true (by first | (with_reducible assumption) | assumption)
            obtain ⟨ad139, A139_12, c139_12, e139, hx139_0, hx139_1, hx139_2, hx139_3, hx139_4, hx139_5, hx139_6, hx139_7, hx139_8, hx139_9, hx139_10, hx139_11, hx139_12, hl139_12, hi139_12⟩ := at_T38 HR1.out x5_1 p139 q139
            have hw139_12 := hx139_12
            have hw139_11 := hx139_11
            have hw139_10 := hx139_10
            have hw139_9 := hx139_9
            have hw139_8 := hx139_8
            have hw139_7 := hx139_7
            have hw139_6 := hx139_6
            have hw139_5 := hx139_5
            have hw139_4 := hx139_4
            have hw139_3 := hx139_3
            have hw139_2 := hx139_2
            have hw139_1 := hx139_1
            have hw139_0 := hx139_0
            cases e139
            replace hx139_0 := (HB.out.cell (World.block_lt_of_cell? w _ hx139_0)).trans hx139_0
            replace hx139_1 := (HB.out.cell (World.block_lt_of_cell? w _ hx139_1)).trans hx139_1
            replace hx139_2 := (HB.out.cell (World.block_lt_of_cell? w _ hx139_2)).trans hx139_2
            replace hx139_3 := (HB.out.cell (World.block_lt_of_cell? w _ hx139_3)).trans hx139_3
            replace hx139_4 := (HB.out.cell (World.block_lt_of_cell? w _ hx139_4)).trans hx139_4
            replace hx139_5 := (HB.out.cell (World.block_lt_of_cell? w _ hx139_5)).trans hx139_5
            replace hx139_6 := (HB.out.cell (World.block_lt_of_cell? w _ hx139_6)).trans hx139_6
            replace hx139_7 := (HB.out.cell (World.block_lt_of_cell? w _ hx139_7)).trans hx139_7
            replace hx139_8 := (HB.out.cell (World.block_lt_of_cell? w _ hx139_8)).trans hx139_8
            replace hx139_9 := (HB.out.cell (World.block_lt_of_cell? w _ hx139_9)).trans hx139_9
            replace hx139_10 := (HB.out.cell (World.block_lt_of_cell? w _ hx139_10)).trans hx139_10
            replace hx139_11 := (HB.out.cell (World.block_lt_of_cell? w _ hx139_11)).trans hx139_11
            replace hx139_12 := (HB.out.cell (World.block_lt_of_cell? w _ hx139_12)).trans hx139_12
            have HR139_12 := Aside0.mk hi139_12
            have HC139_12 := Aside0.mk hl139_12
            clear hi139_12 hl139_12
            replace p139 := eq_true p139
            replace q139 := eq_true q139
            have p140 : 0 ≤ (x5_1 : Int) := of_decide_eq_true (by first | (with_reducible assumption) | assumption)
            have q140 : x5_1 < (l1.length : Int) := of_decide_eq_true (by first | (with_reducible assumption) | assumption)
            obtain ⟨ad140, A140_12, c140_12, e140, hx140_0, hx140_1, hx140_2, hx140_3, hx140_4, hx140_5, hx140_6, hx140_7, hx140_8, hx140_9, hx140_10, hx140_11, hx140_12, hl140_12, hi140_12⟩ := at_T38 HR1.out x5_1 p140 q140
            have hw140_12 := hx140_12
            have hw140_11 := hx140_11
            have hw140_10 := hx140_10
            have hw140_9 := hx140_9
            have hw140_8 := hx140_8
            have hw140_7 := hx140_7
            have hw140_6 := hx140_6
            have hw140_5 := hx140_5
            have hw140_4 := hx140_4
            have hw140_3 := hx140_3
            have hw140_2 := hx140_2
            have hw140_1 := hx140_1
            have hw140_0 := hx140_0
            obtain rfl : ad139 = ad140 := (by injection e140)
            replace hx140_0 := (HB.out.cell (World.block_lt_of_cell? w _ hx140_0)).trans hx140_0
            replace hx140_1 := (HB.out.cell (World.block_lt_of_cell? w _ hx140_1)).trans hx140_1
            replace hx140_2 := (HB.out.cell (World.block_lt_of_cell? w _ hx140_2)).trans hx140_2
            replace hx140_3 := (HB.out.cell (World.block_lt_of_cell? w _ hx140_3)).trans hx140_3
            replace hx140_4 := (HB.out.cell (World.block_lt_of_cell? w _ hx140_4)).trans hx140_4
            replace hx140_5 := (HB.out.cell (World.block_lt_of_cell? w _ hx140_5)).trans hx140_5
            replace hx140_6 := (HB.out.cell (World.block_lt_of_cell? w _ hx140_6)).trans hx140_6
            replace hx140_7 := (HB.out.cell (World.block_lt_of_cell? w _ hx140_7)).trans hx140_7
            replace hx140_8 := (HB.out.cell (World.block_lt_of_cell? w _ hx140_8)).trans hx140_8
            replace hx140_9 := (HB.out.cell (World.block_lt_of_cell? w _ hx140_9)).trans hx140_9
            replace hx140_10 := (HB.out.cell (World.block_lt_of_cell? w _ hx140_10)).trans hx140_10
            replace hx140_11 := (HB.out.cell (World.block_lt_of_cell? w _ hx140_11)).trans hx140_11
            replace hx140_12 := (HB.out.cell (World.block_lt_of_cell? w _ hx140_12)).trans hx140_12
            have HR140_12 := Aside0.mk hi140_12
            have HC140_12 := Aside0.mk hl140_12
            clear hi140_12 hl140_12
            replace p140 := eq_true p140
            replace q140 := eq_true q140
            have ea_ := Option.some.inj (hx139_12.symm.trans hx140_12)
            injection ea_ with ea_ en_ ec_
            subst ea_
            subst ec_
            clear en_
            refine start_ (n := 13) (S := fun w' => w'.cell? ⟨gb138, 0, none⟩ = some (.int .i64 a0_0) ∧ w'.cell? ⟨gb138, 1, none⟩ = some (.int .i64 a0_1) ∧ w'.cell? ⟨gb138, 2, none⟩ = some (.int .i64 a0_2) ∧ w'.cell? ⟨gb138, 3, none⟩ = some (.int .i64 a0_3) ∧ w'.cell? ⟨gb138, 4, none⟩ = some (.int .i64 a0_4) ∧ w'.cell? (ad139.add ((x5_1).toNat * 13)) = some (.int .i64 ((rd_T38 l1 x5_1).f0)) ∧ w'.cell? ⟨(ad139.add ((x5_1).toNat * 13)).block, (ad139.add ((x5_1).toNat * 13)).off + 1, none⟩ = some (.int .i64 ((rd_T38 l1 x5_1).f1)) ∧ w'.cell? ⟨(ad139.add ((x5_1).toNat * 13)).block, (ad139.add ((x5_1).toNat * 13)).off + 2, none⟩ = some (.int .i64 ((rd_T38 l1 x5_1).f2)) ∧ w'.cell? ⟨(ad139.add ((x5_1).toNat * 13)).block, (ad139.add ((x5_1).toNat * 13)).off + 3, none⟩ = some (.int .i64 ((rd_T38 l1 x5_1).f3)) ∧ w'.cell? ⟨(ad139.add ((x5_1).toNat * 13)).block, (ad139.add ((x5_1).toNat * 13)).off + 4, none⟩ = some (.int .i64 ((rd_T38 l1 x5_1).f4)) ∧ w'.cell? ⟨(ad139.add ((x5_1).toNat * 13)).block, (ad139.add ((x5_1).toNat * 13)).off + 5, none⟩ = some (.int .i64 ((rd_T38 l1 x5_1).f5.f0)) ∧ w'.cell? ⟨(ad139.add ((x5_1).toNat * 13)).block, (ad139.add ((x5_1).toNat * 13)).off + 6, none⟩ = some (.int .u64 ((rd_T38 l1 x5_1).f5.f1)) ∧ w'.cell? ⟨(ad139.add ((x5_1).toNat * 13)).block, (ad139.add ((x5_1).toNat * 13)).off + 7, none⟩ = some (.int .u64 ((rd_T38 l1 x5_1).f5.f2)) ∧ w'.cell? ⟨(ad139.add ((x5_1).toNat * 13)).block, (ad139.add ((x5_1).toNat * 13)).off + 8, none⟩ = some (.int .i64 ((rd_T38 l1 x5_1).f5.f3)) ∧ w'.cell? ⟨(ad139.add ((x5_1).toNat * 13)).block, (ad139.add ((x5_1).toNat * 13)).off + 9, none⟩ = some (.int .i64 ((rd_T38 l1 x5_1).f6.f0)) ∧ w'.cell? ⟨(ad139.add ((x5_1).toNat * 13)).block, (ad139.add ((x5_1).toNat * 13)).off + 10, none⟩ = some (.bool ((rd_T38 l1 x5_1).f6.f1)) ∧ w'.cell? ⟨(ad139.add ((x5_1).toNat * 13)).block, (ad139.add ((x5_1).toNat * 13)).off + 11, none⟩ = some (.int .u64 ((rd_T38 l1 x5_1).f6.f2)) ∧ w'.cell? ⟨(ad139.add ((x5_1).toNat * 13)).block, (ad139.add ((x5_1).toNat * 13)).off + 12, none⟩ = some (.slice A139_12 ((rd_T38 l1 x5_1).f6.f3).length c139_12) ∧ w'.cell? (ad139.add ((x5_1).toNat * 13)) = some (.int .i64 ((rd_T38 l1 x5_1).f0)) ∧ w'.cell? ⟨(ad139.add ((x5_1).toNat * 13)).block, (ad139.add ((x5_1).toNat * 13)).off + 1, none⟩ = some (.int .i64 ((rd_T38 l1 x5_1).f1)) ∧ w'.cell? ⟨(ad139.add ((x5_1).toNat * 13)).block, (ad139.add ((x5_1).toNat * 13)).off + 2, none⟩ = some (.int .i64 ((rd_T38 l1 x5_1).f2)) ∧ w'.cell? ⟨(ad139.add ((x5_1).toNat * 13)).block, (ad139.add ((x5_1).toNat * 13)).off + 3, none⟩ = some (.int .i64 ((rd_T38 l1 x5_1).f3)) ∧ w'.cell? ⟨(ad139.add ((x5_1).toNat * 13)).block, (ad139.add ((x5_1).toNat * 13)).off + 4, none⟩ = some (.int .i64 ((rd_T38 l1 x5_1).f4)) ∧ w'.cell? ⟨(ad139.add ((x5_1).toNat * 13)).block, (ad139.add ((x5_1).toNat * 13)).off + 5, none⟩ = some (.int .i64 ((rd_T38 l1 x5_1).f5.f0)) ∧ w'.cell? ⟨(ad139.add ((x5_1).toNat * 13)).block, (ad139.add ((x5_1).toNat * 13)).off + 6, none⟩ = some (.int .u64 ((rd_T38 l1 x5_1).f5.f1)) ∧ w'.cell? ⟨(ad139.add ((x5_1).toNat * 13)).block, (ad139.add ((x5_1).toNat * 13)).off + 7, none⟩ = some (.int .u64 ((rd_T38 l1 x5_1).f5.f2)) ∧ w'.cell? ⟨(ad139.add ((x5_1).toNat * 13)).block, (ad139.add ((x5_1).toNat * 13)).off + 8, none⟩ = some (.int .i64 ((rd_T38 l1 x5_1).f5.f3)) ∧ w'.cell? ⟨(ad139.add ((x5_1).toNat * 13)).block, (ad139.add ((x5_1).toNat * 13)).off + 9, none⟩ = some (.int .i64 ((rd_T38 l1 x5_1).f6.f0)) ∧ w'.cell? ⟨(ad139.add ((x5_1).toNat * 13)).block, (ad139.add ((x5_1).toNat * 13)).off + 10, none⟩ = some (.bool ((rd_T38 l1 x5_1).f6.f1)) ∧ w'.cell? ⟨(ad139.add ((x5_1).toNat * 13)).block, (ad139.add ((x5_1).toNat * 13)).off + 11, none⟩ = some (.int .u64 ((rd_T38 l1 x5_1).f6.f2)) ∧ w'.cell? ⟨(ad139.add ((x5_1).toNat * 13)).block, (ad139.add ((x5_1).toNat * 13)).off + 12, none⟩ = some (.slice A139_12 ((rd_T38 l1 x5_1).f6.f3).length c139_12)) (ds := []) #[false, false, false, false, false, false, false, false, false, false, false, false, false] (by kernel_rfl) rfl rfl ⟨(blk_cell BK138.out 0).trans rfl, (blk_cell BK138.out 1).trans rfl, (blk_cell BK138.out 2).trans rfl, (blk_cell BK138.out 3).trans rfl, (blk_cell BK138.out 4).trans rfl, ((HB.out.cell (World.block_lt_of_cell? w _ hw139_0)).trans hw139_0), ((HB.out.cell (World.block_lt_of_cell? w _ hw139_1)).trans hw139_1), ((HB.out.cell (World.block_lt_of_cell? w _ hw139_2)).trans hw139_2), ((HB.out.cell (World.block_lt_of_cell? w _ hw139_3)).trans hw139_3), ((HB.out.cell (World.block_lt_of_cell? w _ hw139_4)).trans hw139_4), ((HB.out.cell (World.block_lt_of_cell? w _ hw139_5)).trans hw139_5), ((HB.out.cell (World.block_lt_of_cell? w _ hw139_6)).trans hw139_6), ((HB.out.cell (World.block_lt_of_cell? w _ hw139_7)).trans hw139_7), ((HB.out.cell (World.block_lt_of_cell? w _ hw139_8)).trans hw139_8), ((HB.out.cell (World.block_lt_of_cell? w _ hw139_9)).trans hw139_9), ((HB.out.cell (World.block_lt_of_cell? w _ hw139_10)).trans hw139_10), ((HB.out.cell (World.block_lt_of_cell? w _ hw139_11)).trans hw139_11), ((HB.out.cell (World.block_lt_of_cell? w _ hw139_12)).trans hw139_12), ((HB.out.cell (World.block_lt_of_cell? w _ hw140_0)).trans hw140_0), ((HB.out.cell (World.block_lt_of_cell? w _ hw140_1)).trans hw140_1), ((HB.out.cell (World.block_lt_of_cell? w _ hw140_2)).trans hw140_2), ((HB.out.cell (World.block_lt_of_cell? w _ hw140_3)).trans hw140_3), ((HB.out.cell (World.block_lt_of_cell? w _ hw140_4)).trans hw140_4), ((HB.out.cell (World.block_lt_of_cell? w _ hw140_5)).trans hw140_5), ((HB.out.cell (World.block_lt_of_cell? w _ hw140_6)).trans hw140_6), ((HB.out.cell (World.block_lt_of_cell? w _ hw140_7)).trans hw140_7), ((HB.out.cell (World.block_lt_of_cell? w _ hw140_8)).trans hw140_8), ((HB.out.cell (World.block_lt_of_cell? w _ hw140_9)).trans hw140_9), ((HB.out.cell (World.block_lt_of_cell? w _ hw140_10)).trans hw140_10), ((HB.out.cell (World.block_lt_of_cell? w _ hw140_11)).trans hw140_11), ((HB.out.cell (World.block_lt_of_cell? w _ hw140_12)).trans hw140_12)⟩ (fun hHeld => ?_); refine with_tabW corrieref23_Ok.tab4 corrieref23_Ok.bits4 (fun HT_ HW_ => ?_)
            generalize wr.drew = w10 at BK138 HB HR139_12 HR140_12 hx139_0 hx139_1 hx139_10 hx139_11 hx139_12 hx139_2 hx139_3 hx139_4 hx139_5 hx139_6 hx139_7 hx139_8 hx139_9 hx140_0 hx140_1 hx140_10 hx140_11 hx140_12 hx140_2 hx140_3 hx140_4 hx140_5 hx140_6 hx140_7 hx140_8 hx140_9 hHeld ⊢
            refine pure_ (i := 0) (N := some 12) (v := ?_) (a' := ?_) #[true, false, false, false, false, false, false, false, false, false, false, false, false] rfl rfl (any_of HT_.out (by kernel_rfl)) (fun _ _ _ h => h) (Or.inl ⟨by rfl, ?_⟩) ?_ ?_
            rotate_left
            · intro w'
              go_simp
              with_reducible rfl
            rotate_left
            · simp only [Act.put, List.setIfInBounds_toArray, List.set_cons_zero, List.set_cons_succ, i64_w, i32_w]
              rfl
            refine pure_ (i := 1) (N := some 13) (v := ?_) (a' := ?_) #[true, true, false, false, false, false, false, false, false, false, false, false, false] rfl rfl (any_of HT_.out (by kernel_rfl)) (fun _ _ _ h => h) (Or.inl ⟨by rfl, ?_⟩) ?_ ?_
            rotate_left
            · intro w'
              go_simp
              with_reducible rfl
            rotate_left
            · simp only [Act.put, List.setIfInBounds_toArray, List.set_cons_zero, List.set_cons_succ, i64_w, i32_w]
              rfl
            refine pure_ (i := 2) (N := some 14) (v := ?_) (a' := ?_) #[true, true, true, false, false, false, false, false, false, false, false, false, false] rfl rfl (any_of HT_.out (by kernel_rfl)) (fun _ _ _ h => h) (Or.inl ⟨by rfl, ?_⟩) ?_ ?_
            rotate_left
            · intro w'
              go_simp
              with_reducible rfl
            rotate_left
            · simp only [Act.put, List.setIfInBounds_toArray, List.set_cons_zero, List.set_cons_succ, i64_w, i32_w]
              rfl
            refine pure_ (i := 3) (N := some 15) (v := ?_) (a' := ?_) #[true, true, true, true, false, false, false, false, false, false, false, false, false] rfl rfl (any_of HT_.out (by kernel_rfl)) (fun _ _ _ h => h) (Or.inl ⟨by rfl, ?_⟩) ?_ ?_
            rotate_left
            · intro w'
              go_simp
              with_reducible rfl
            rotate_left
            · simp only [Act.put, List.setIfInBounds_toArray, List.set_cons_zero, List.set_cons_succ, i64_w, i32_w]
              rfl
            refine pure_ (i := 6) (N := some 18) (v := ?_) (a' := ?_) #[true, true, true, true, false, false, true, false, false, false, false, false, false] rfl rfl (any_of HT_.out (by kernel_rfl)) (fun _ _ _ h => h) (Or.inl ⟨by rfl, ?_⟩) ?_ ?_
            rotate_left
            · intro w'
              go_simp
              with_reducible rfl
            rotate_left
            · simp only [Act.put, List.setIfInBounds_toArray, List.set_cons_zero, List.set_cons_succ, i64_w, i32_w]
              rfl
            refine pure_ (i := 7) (N := some 19) (v := ?_) (a' := ?_) #[true, true, true, true, false, false, true, true, false, false, false, false, false] rfl rfl (any_of HT_.out (by kernel_rfl)) (fun _ _ _ h => h) (Or.inl ⟨by rfl, ?_⟩) ?_ ?_
            rotate_left
            · intro w'
              go_simp
              with_reducible rfl
            rotate_left
            · simp only [Act.put, List.setIfInBounds_toArray, List.set_cons_zero, List.set_cons_succ, i64_w, i32_w]
              rfl
            refine pure_ (i := 8) (N := some 20) (v := ?_) (a' := ?_) #[true, true, true, true, false, false, true, true, true, false, false, false, false] rfl rfl (any_of HT_.out (by kernel_rfl)) (fun _ _ _ h => h) (Or.inl ⟨by rfl, ?_⟩) ?_ ?_
            rotate_left
            · intro w'
              go_simp
              with_reducible rfl
            rotate_left
            · simp only [Act.put, List.setIfInBounds_toArray, List.set_cons_zero, List.set_cons_succ, i64_w, i32_w]
              rfl
            refine pure_ (i := 9) (N := some 21) (v := ?_) (a' := ?_) #[true, true, true, true, false, false, true, true, true, true, false, false, false] rfl rfl (any_of HT_.out (by kernel_rfl)) (fun _ _ _ h => h) (Or.inl ⟨by rfl, ?_⟩) ?_ ?_
            rotate_left
            · intro w'
              go_simp
              with_reducible rfl
            rotate_left
            · simp only [Act.put, List.setIfInBounds_toArray, List.set_cons_zero, List.set_cons_succ, i64_w, i32_w]
              rfl
            refine take_ (i := 4) (N := some 16) (v := ?_) (a' := ?_) #[true, true, true, true, true, false, true, true, true, true, false, false, false] rfl rfl (take_ofW HT_.out HW_.out (by kernel_rfl)) (fun _ _ _ h => h) (Or.inl ⟨by rfl, ?_⟩) hHeld ?_ ?_
            rotate_left
            · rintro w' ⟨s0, s1, s2, s3, s4, s5, s6, s7, s8, s9, s10, s11, s12, s13, s14, s15, s16, s17, s18, s19, s20, s21, s22, s23, s24, s25, s26, s27, s28, s29, s30⟩
              go_simp
              with_reducible rfl
            rotate_left
            · simp only [Act.put, List.setIfInBounds_toArray, List.set_cons_zero, List.set_cons_succ, i64_w, i32_w]
              rfl
            refine take_ (i := 5) (N := some 17) (v := ?_) (a' := ?_) #[true, true, true, true, true, true, true, true, true, true, false, false, false] rfl rfl (take_ofW HT_.out HW_.out (by kernel_rfl)) (fun _ _ _ h => h) (Or.inl ⟨by rfl, ?_⟩) hHeld ?_ ?_
            rotate_left
            · rintro w' ⟨s0, s1, s2, s3, s4, s5, s6, s7, s8, s9, s10, s11, s12, s13, s14, s15, s16, s17, s18, s19, s20, s21, s22, s23, s24, s25, s26, s27, s28, s29, s30⟩
              go_simp
              with_reducible rfl
            rotate_left
            · simp only [Act.put, List.setIfInBounds_toArray, List.set_cons_zero, List.set_cons_succ, i64_w, i32_w]
              rfl
            refine take_ (i := 10) (N := some 22) (v := ?_) (a' := ?_) #[true, true, true, true, true, true, true, true, true, true, true, false, false] rfl rfl (take_ofW HT_.out HW_.out (by kernel_rfl)) (fun _ _ _ h => h) (Or.inl ⟨by rfl, ?_⟩) hHeld ?_ ?_
            rotate_left
            · rintro w' ⟨s0, s1, s2, s3, s4, s5, s6, s7, s8, s9, s10, s11, s12, s13, s14, s15, s16, s17, s18, s19, s20, s21, s22, s23, s24, s25, s26, s27, s28, s29, s30⟩
              go_simp
              with_reducible rfl
            rotate_left
            · simp only [Act.put, List.setIfInBounds_toArray, List.set_cons_zero, List.set_cons_succ, i64_w, i32_w]
              rfl
            refine one_ (i := 11) (N := some 23) #[true, true, true, true, true, true, true, true, true, true, true, true, false] rfl rfl (one_of HT_.out (by kernel_rfl)) (by decide) (fun K hK => ?_)
            refine goes_ Try.func16 (by kernel_rfl) rfl #[.agg #[.int .i64 a0_0, .int .i64 a0_1, .int .i64 a0_2, .int .i64 a0_3, .int .i64 a0_4], .slice (some ad139) l1.length c1, .agg #[.int .i64 ((rd_T38 l1 x5_1).f0), .int .i64 ((rd_T38 l1 x5_1).f1), .int .i64 ((rd_T38 l1 x5_1).f2), .int .i64 ((rd_T38 l1 x5_1).f3), .int .i64 ((rd_T38 l1 x5_1).f4), .int .i64 ((rd_T38 l1 x5_1).f5.f0), .int .u64 ((rd_T38 l1 x5_1).f5.f1), .int .u64 ((rd_T38 l1 x5_1).f5.f2), .int .i64 ((rd_T38 l1 x5_1).f5.f3), .int .i64 ((rd_T38 l1 x5_1).f6.f0), .bool ((rd_T38 l1 x5_1).f6.f1), .int .u64 ((rd_T38 l1 x5_1).f6.f2), .slice A139_12 ((rd_T38 l1 x5_1).f6.f3).length c139_12]] (by rfl) rfl rfl (by (try simp only [List.map_toArray, List.map_cons, List.map_nil]); first | done | rfl | (simp only [List.length_drop, List.length_take]; rfl)) ?_
            with_reducible refine (corrieref23_Of.calls k1 a0_0 a0_1 a0_2 a0_3 a0_4 _ _ l1 ((rd_T38 l1 x5_1).f0) ((rd_T38 l1 x5_1).f1) ((rd_T38 l1 x5_1).f2) ((rd_T38 l1 x5_1).f3) ((rd_T38 l1 x5_1).f4) ((rd_T38 l1 x5_1).f5.f0) ((rd_T38 l1 x5_1).f5.f1) ((rd_T38 l1 x5_1).f5.f2) ((rd_T38 l1 x5_1).f5.f3) ((rd_T38 l1 x5_1).f6.f0) ((rd_T38 l1 x5_1).f6.f1) ((rd_T38 l1 x5_1).f6.f2) _ _ ((rd_T38 l1 x5_1).f6.f3) t141 _ ?side1 ?side2 ?side3 ?side4 A6.out).mono ?_
            (case side1 => repeat (first | exact (Kd.C_below HR1.out HB.out) | (with_reducible refine Kd.C_alloc ?_ _) | (with_reducible refine Kd.C_drewN ?_ _) | (with_reducible refine Kd.C_drew ?_)))
            (case side2 => exact HC1.out)
            (case side3 => repeat (first | exact (Kd.C_below HR140_12.out HB.out) | (with_reducible refine Kd.C_alloc ?_ _) | (with_reducible refine Kd.C_drewN ?_ _) | (with_reducible refine Kd.C_drew ?_)))
            (case side4 => exact HC140_12.out)
            rintro e w11 ⟨rfl, hb⟩
            refine ⟨_, rfl, ?_⟩
            have n0_ := Aside0.mk (blk_below (g := gb138) (o := .cells #[.int .i64 a0_0, .int .i64 a0_1, .int .i64 a0_2, .int .i64 a0_3, .int .i64 a0_4] 23 (0, 0)) (by (with_reducible repeat (first | refine blk_drewN ?_ _ | refine blk_drew ?_ | refine blk_alloc ?_ _)); exact BK138.out) hb)
            have n1_ := Aside0.mk (below_step (by repeat (first | (with_reducible first | exact HB.out | apply below_alloc | apply pw_below_drewN | apply below_drew1 | refine below_set ?_ GE138.out) | exact HB.out)) hb)
            clear BK138
            clear HB
            have BK138 := n0_
            have HB := n1_
            clear n0_ n1_
            (try clear hb)
            (try clear hb2)
            (try clear hk)
            (try clear hi)
            refine hK.out _ _ ⟨(blk_cell BK138.out 0).trans rfl, (blk_cell BK138.out 1).trans rfl, (blk_cell BK138.out 2).trans rfl, (blk_cell BK138.out 3).trans rfl, (blk_cell BK138.out 4).trans rfl, ((HB.out.cell (World.block_lt_of_cell? w _ hw139_0)).trans hw139_0), ((HB.out.cell (World.block_lt_of_cell? w _ hw139_1)).trans hw139_1), ((HB.out.cell (World.block_lt_of_cell? w _ hw139_2)).trans hw139_2), ((HB.out.cell (World.block_lt_of_cell? w _ hw139_3)).trans hw139_3), ((HB.out.cell (World.block_lt_of_cell? w _ hw139_4)).trans hw139_4), ((HB.out.cell (World.block_lt_of_cell? w _ hw139_5)).trans hw139_5), ((HB.out.cell (World.block_lt_of_cell? w _ hw139_6)).trans hw139_6), ((HB.out.cell (World.block_lt_of_cell? w _ hw139_7)).trans hw139_7), ((HB.out.cell (World.block_lt_of_cell? w _ hw139_8)).trans hw139_8), ((HB.out.cell (World.block_lt_of_cell? w _ hw139_9)).trans hw139_9), ((HB.out.cell (World.block_lt_of_cell? w _ hw139_10)).trans hw139_10), ((HB.out.cell (World.block_lt_of_cell? w _ hw139_11)).trans hw139_11), ((HB.out.cell (World.block_lt_of_cell? w _ hw139_12)).trans hw139_12), ((HB.out.cell (World.block_lt_of_cell? w _ hw140_0)).trans hw140_0), ((HB.out.cell (World.block_lt_of_cell? w _ hw140_1)).trans hw140_1), ((HB.out.cell (World.block_lt_of_cell? w _ hw140_2)).trans hw140_2), ((HB.out.cell (World.block_lt_of_cell? w _ hw140_3)).trans hw140_3), ((HB.out.cell (World.block_lt_of_cell? w _ hw140_4)).trans hw140_4), ((HB.out.cell (World.block_lt_of_cell? w _ hw140_5)).trans hw140_5), ((HB.out.cell (World.block_lt_of_cell? w _ hw140_6)).trans hw140_6), ((HB.out.cell (World.block_lt_of_cell? w _ hw140_7)).trans hw140_7), ((HB.out.cell (World.block_lt_of_cell? w _ hw140_8)).trans hw140_8), ((HB.out.cell (World.block_lt_of_cell? w _ hw140_9)).trans hw140_9), ((HB.out.cell (World.block_lt_of_cell? w _ hw140_10)).trans hw140_10), ((HB.out.cell (World.block_lt_of_cell? w _ hw140_11)).trans hw140_11), ((HB.out.cell (World.block_lt_of_cell? w _ hw140_12)).trans hw140_12)⟩ (fun hHeld => ?_)
            clear hK K
            refine norm_ (a' := ?_) ?_ ?_
            rotate_left
            · show Act.put _ (some 23) _ = _
              simp only [Act.put, List.setIfInBounds_toArray, List.set_cons_zero, List.set_cons_succ, i64_w, i32_w]
              rfl
            refine pure_ (i := 12) (N := some 24) (v := ?_) (a' := ?_) #[true, true, true, true, true, true, true, true, true, true, true, true, true] rfl rfl (any_of HT_.out (by kernel_rfl)) (fun _ _ _ h => h) (Or.inl ⟨by rfl, ?_⟩) ?_ ?_
            rotate_left
            · intro w'
              go_simp
              with_reducible rfl
            rotate_left
            · simp only [Act.put, List.setIfInBounds_toArray, List.set_cons_zero, List.set_cons_succ, i64_w, i32_w]
              rfl
            refine done_ (done_of HT_.out (by kernel_rfl)) ?_
            try go_wp2
            go_roundg k1
            case measure => have := HK1.out; omega
            case rel => exact ⟨(wrap64 (x5_1 + 1)), (by first | rfl | (simp; done) | (simp [*]; done)), H', ⟨by have := HK1.out; omega⟩, ⟨by (with_reducible repeat (first | refine blk_drewN ?_ _ | refine blk_drew ?_ | refine blk_alloc ?_ _)); exact BK138.out⟩, ⟨by repeat (first | (with_reducible first | exact HB.out | apply below_alloc | apply pw_below_drewN | apply below_drew1 | refine below_set ?_ GE138.out) | exact HB.out)⟩⟩
        · rw [if_neg c5] at H
          exact absurd H (by simp)
      · rw [if_neg c4] at H
        have c4b0 : decide (x5_1 < (l1.length : Int)) = false := decide_eq_false c4
        clear c4
        obtain rfl := Option.some.inj H
        go_wp2
        go_ret
        exact ⟨by first | rfl | (simp [errW_none, errW_some] <;> rfl) | (simp [*, errW_none, errW_some] <;> rfl), by repeat (first | (with_reducible first | exact HB.out | apply below_alloc | apply pw_below_drewN | apply below_drew1 | refine below_set ?_ GE138.out) | exact HB.out)⟩

/-! ### corrielaw23_BoundOf: function 4 (by hand) -/
def corrielaw23_BoundOf.T4 : Bool × List (List Nat × List Nat) := (true, [([], []), ([0], [0]), ([1], [1]), ([1], [1]), ([1], [1]), ([2, 3, 4, 1, 1], [1, 2, 3, 4]), ([1], [1]), ([1], [1]), ([1], [1]), ([6, 7, 8, 5, 1], [1, 6, 7, 8]), ([5, 9, 1], [1, 5, 9]), ([1, 10], [1, 10]), ([11, 9], [11]), ([12], [12]), ([12], [12]), ([13, 14, 12, 12], [12, 13, 14]), ([12], [12]), ([12], [12]), ([16, 17, 15, 12], [12, 16, 17]), ([15, 18, 12], [12, 15, 18]), ([12, 19], [12, 19]), ([20, 18, 0, 1, 2, 3, 4, 5, 6, 7, 8, 9, 10, 11, 12, 13, 14, 15, 16, 17, 18, 19, 20], [20])])
def corrielaw23_BoundOf.B4 : List Nat := [0, 1, 3, 3, 3, 31, 3, 3, 3, 511, 1023, 2047, 4095, 8191, 8191, 32767, 8191, 8191, 262143, 524287, 1048575, 2097151]
theorem corrielaw23_BoundOf.tab4 : rtab .any (opsOf Try.f4 4) = corrielaw23_BoundOf.T4 := by kernel_rfl
theorem corrielaw23_BoundOf.bits4 : waitsOk corrielaw23_BoundOf.T4.2 corrielaw23_BoundOf.B4 = true := by kernel_rfl
def corrielaw23_BoundOf.f (k : Nat) (a0_0 a0_1 a0_2 a0_3 a0_4 : Int) (l1 : List S38) (a2_0 : Int) (a2_1 : Int) (a2_2 : Int) (a2_3 : Int) (a2_4 : Int) (a2_5 : Int) (a2_6 : Int) (a2_7 : Int) (a2_8 : Int) (a2_9 : Int) (a2_10 : Bool) (a2_11 : Int) (l2_12 : List S137) : Option Bool := (corrieref04_May.f k a0_0 a0_1 a0_2 a0_3 a0_4).bind fun m => if m = 0 then ((corrieref19_Few.f k l1 12).bind fun z => if z = true then ((bound_Of.f k a0_0 a0_1 a0_2 a0_3 a0_4 l1 a2_0 a2_1 a2_2 a2_3 a2_4 a2_5 a2_6 a2_7 a2_8 a2_9 a2_10 a2_11 l2_12).bind fun v0 => (corrieref23_Of.f k a0_0 a0_1 a0_2 a0_3 a0_4 l1 a2_0 a2_1 a2_2 a2_3 a2_4 a2_5 a2_6 a2_7 a2_8 a2_9 a2_10 a2_11 l2_12).bind fun u0 => (bound_Ok.f k a0_0 a0_1 a0_2 a0_3 a0_4 l1).bind fun v1 => (corrieref23_Ok.f k a0_0 a0_1 a0_2 a0_3 a0_4 l1).bind fun u1 => if v0 = u0 ∧ v1 = u1 then some true else none) else some true) else some true
set_option maxHeartbeats 8000000 in
set_option maxRecDepth 100000 in
theorem corrielaw23_BoundOf.calls (k : Nat) (a0_0 a0_1 a0_2 a0_3 a0_4 : Int) (A1 : Option Addr) (c1 : Nat) (l1 : List S38) (a2_0 : Int) (a2_1 : Int) (a2_2 : Int) (a2_3 : Int) (a2_4 : Int) (a2_5 : Int) (a2_6 : Int) (a2_7 : Int) (a2_8 : Int) (a2_9 : Int) (a2_10 : Bool) (a2_11 : Int) (A2_12 : Option Addr) (c2_12 : Nat) (l2_12 : List S137) (r : Bool) (w : World) (hr1 : Kd.C k38 w A1 l1.length l1) (hc1 : l1.length ≤ c1) (hr2_12 : Kd.C k137 w A2_12 l2_12.length l2_12) (hc2_12 : l2_12.length ≤ c2_12) (h : corrielaw23_BoundOf.f k a0_0 a0_1 a0_2 a0_3 a0_4 l1 a2_0 a2_1 a2_2 a2_3 a2_4 a2_5 a2_6 a2_7 a2_8 a2_9 a2_10 a2_11 l2_12 = some r) :
    Calls Try.prog 4 #[.agg #[.int .i64 a0_0, .int .i64 a0_1, .int .i64 a0_2, .int .i64 a0_3, .int .i64 a0_4], .slice A1 l1.length c1, .agg #[.int .i64 a2_0, .int .i64 a2_1, .int .i64 a2_2, .int .i64 a2_3, .int .i64 a2_4, .int .i64 a2_5, .int .u64 a2_6, .int .u64 a2_7, .int .i64 a2_8, .int .i64 a2_9, .bool a2_10, .int .u64 a2_11, .slice A2_12 l2_12.length c2_12]] w fun e w' => e = .returned (.bool r) ∧ Below w.heap.size w w' := by
  have HR1 := Aside0.mk hr1
  have HC1 := Aside0.mk hc1
  have HR2 := Aside0.mk hr2_12
  have HC2 := Aside0.mk hc2_12
  clear hr1 hc1 hr2_12 hc2_12
  obtain ⟨m, hm, h⟩ := Option.bind_eq_some_iff.mp h
  have Hm := Aside0.mk hm
  clear hm
  have HB := Aside0.mk (Below.refl w.heap.size w)
  by_cases q1 : m = 0
  · subst q1
    rw [if_pos rfl] at h
    obtain ⟨z, hz, h⟩ := Option.bind_eq_some_iff.mp h
    have Hz := Aside0.mk hz
    clear hz
    by_cases q2 : z = true
    · subst q2
      rw [if_pos rfl] at h
      obtain ⟨v0, hv0, h⟩ := Option.bind_eq_some_iff.mp h
      obtain ⟨u0, hu0, h⟩ := Option.bind_eq_some_iff.mp h
      obtain ⟨v1, hv1, h⟩ := Option.bind_eq_some_iff.mp h
      obtain ⟨u1, hu1, h⟩ := Option.bind_eq_some_iff.mp h
      by_cases cc : v0 = u0 ∧ v1 = u1
      rotate_left
      · rw [if_neg cc] at h
        cases h
      rw [if_pos cc] at h
      obtain rfl := Option.some.inj h
      obtain ⟨rfl, rfl⟩ := cc
      clear h
      have Hv0 := Aside0.mk hv0
      clear hv0
      have Hu0 := Aside0.mk hu0
      clear hu0
      have Hv1 := Aside0.mk hv1
      clear hv1
      have Hu1 := Aside0.mk hu1
      clear hu1
      go_enter Try.func4, Try.ntmps4
      go_wp2_with (first | ((with_reducible refine gate_dst (N := 3) rfl ?_); refine box_event ?hg (N := 3) ?hd (cs := #[.int .i64 a0_0, .int .i64 a0_1, .int .i64 a0_2, .int .i64 a0_3, .int .i64 a0_4]) (t := 23) ?hr ?_; (case hd => rfl); (case hg => rfl); (case hr => first | (go_simp; done) | (go_simp; rfl)); intro gc hg wb_gc hbox hb; have BKgc := Aside0.mk hbox; have n0_ := Aside0.mk (below_step HB.out hb); clear HB; have HB := n0_; clear n0_; clear hb hbox hg) | ((with_reducible refine gate_dst (N := 5) rfl ?_); refine box_event ?hg (N := 5) ?hd (cs := #[.int .i64 a2_0, .int .i64 a2_1, .int .i64 a2_2, .int .i64 a2_3, .int .i64 a2_4, .int .i64 a2_5, .int .u64 a2_6, .int .u64 a2_7, .int .i64 a2_8, .int .i64 a2_9, .bool a2_10, .int .u64 a2_11, .slice A2_12 l2_12.length c2_12]) (t := 38) ?hr ?_; (case hd => rfl); (case hg => rfl); (case hr => first | (go_simp; done) | (go_simp; rfl)); intro ge hg wb_ge hbox hb; have BKge := Aside0.mk hbox; have n_BKgc := Aside0.mk (blk_below (g := gc) (o := .cells #[.int .i64 a0_0, .int .i64 a0_1, .int .i64 a0_2, .int .i64 a0_3, .int .i64 a0_4] 23 (0, 0)) BKgc.out hb); clear BKgc; have BKgc := n_BKgc; clear n_BKgc; have n0_ := Aside0.mk (below_step HB.out hb); clear HB; have HB := n0_; clear n0_; clear hb hbox hg) | (go_at_call 8; (with_reducible refine (corrielaw23_awake.calls true _ rfl).mono ?_); rintro e w1 ⟨rfl, hb⟩; have n_BKgc := Aside0.mk (blk_below (g := gc) (o := .cells #[.int .i64 a0_0, .int .i64 a0_1, .int .i64 a0_2, .int .i64 a0_3, .int .i64 a0_4] 23 (0, 0)) BKgc.out hb); clear BKgc; have BKgc := n_BKgc; clear n_BKgc; have n_BKge := Aside0.mk (blk_below (g := ge) (o := .cells #[.int .i64 a2_0, .int .i64 a2_1, .int .i64 a2_2, .int .i64 a2_3, .int .i64 a2_4, .int .i64 a2_5, .int .u64 a2_6, .int .u64 a2_7, .int .i64 a2_8, .int .i64 a2_9, .bool a2_10, .int .u64 a2_11, .slice A2_12 l2_12.length c2_12] 38 (0, 0)) BKge.out hb); clear BKge; have BKge := n_BKge; clear n_BKge; have n0_ := Aside0.mk (below_step HB.out hb); clear HB hb; have HB := n0_; clear n0_; have cw1gc_0 : w1.cell? ⟨gc, 0, none⟩ = some (.int .i64 a0_0) := (blk_cell BKgc.out 0).trans rfl; have cw1gc_1 : w1.cell? ⟨gc, 1, none⟩ = some (.int .i64 a0_1) := (blk_cell BKgc.out 1).trans rfl; have cw1gc_2 : w1.cell? ⟨gc, 2, none⟩ = some (.int .i64 a0_2) := (blk_cell BKgc.out 2).trans rfl; have cw1gc_3 : w1.cell? ⟨gc, 3, none⟩ = some (.int .i64 a0_3) := (blk_cell BKgc.out 3).trans rfl; have cw1gc_4 : w1.cell? ⟨gc, 4, none⟩ = some (.int .i64 a0_4) := (blk_cell BKgc.out 4).trans rfl; have cw1ge_0 : w1.cell? ⟨ge, 0, none⟩ = some (.int .i64 a2_0) := (blk_cell BKge.out 0).trans rfl; have cw1ge_1 : w1.cell? ⟨ge, 1, none⟩ = some (.int .i64 a2_1) := (blk_cell BKge.out 1).trans rfl; have cw1ge_2 : w1.cell? ⟨ge, 2, none⟩ = some (.int .i64 a2_2) := (blk_cell BKge.out 2).trans rfl; have cw1ge_3 : w1.cell? ⟨ge, 3, none⟩ = some (.int .i64 a2_3) := (blk_cell BKge.out 3).trans rfl; have cw1ge_4 : w1.cell? ⟨ge, 4, none⟩ = some (.int .i64 a2_4) := (blk_cell BKge.out 4).trans rfl; have cw1ge_5 : w1.cell? ⟨ge, 5, none⟩ = some (.int .i64 a2_5) := (blk_cell BKge.out 5).trans rfl; have cw1ge_6 : w1.cell? ⟨ge, 6, none⟩ = some (.int .u64 a2_6) := (blk_cell BKge.out 6).trans rfl; have cw1ge_7 : w1.cell? ⟨ge, 7, none⟩ = some (.int .u64 a2_7) := (blk_cell BKge.out 7).trans rfl; have cw1ge_8 : w1.cell? ⟨ge, 8, none⟩ = some (.int .i64 a2_8) := (blk_cell BKge.out 8).trans rfl; have cw1ge_9 : w1.cell? ⟨ge, 9, none⟩ = some (.int .i64 a2_9) := (blk_cell BKge.out 9).trans rfl; have cw1ge_10 : w1.cell? ⟨ge, 10, none⟩ = some (.bool a2_10) := (blk_cell BKge.out 10).trans rfl; have cw1ge_11 : w1.cell? ⟨ge, 11, none⟩ = some (.int .u64 a2_11) := (blk_cell BKge.out 11).trans rfl; have cw1ge_12 : w1.cell? ⟨ge, 12, none⟩ = some (.slice A2_12 l2_12.length c2_12) := (blk_cell BKge.out 12).trans rfl) | (go_at_call 9; (with_reducible refine (corrieref04_May.calls k a0_0 a0_1 a0_2 a0_3 a0_4 0 _ Hm.out).mono ?_); rintro e w2 ⟨rfl, hb⟩; have n_BKgc := Aside0.mk (blk_below (g := gc) (o := .cells #[.int .i64 a0_0, .int .i64 a0_1, .int .i64 a0_2, .int .i64 a0_3, .int .i64 a0_4] 23 (0, 0)) BKgc.out hb); clear BKgc; have BKgc := n_BKgc; clear n_BKgc; have n_BKge := Aside0.mk (blk_below (g := ge) (o := .cells #[.int .i64 a2_0, .int .i64 a2_1, .int .i64 a2_2, .int .i64 a2_3, .int .i64 a2_4, .int .i64 a2_5, .int .u64 a2_6, .int .u64 a2_7, .int .i64 a2_8, .int .i64 a2_9, .bool a2_10, .int .u64 a2_11, .slice A2_12 l2_12.length c2_12] 38 (0, 0)) BKge.out hb); clear BKge; have BKge := n_BKge; clear n_BKge; have n0_ := Aside0.mk (below_step HB.out hb); clear HB hb; have HB := n0_; clear n0_; have cw2gc_0 : w2.cell? ⟨gc, 0, none⟩ = some (.int .i64 a0_0) := (blk_cell BKgc.out 0).trans rfl; have cw2gc_1 : w2.cell? ⟨gc, 1, none⟩ = some (.int .i64 a0_1) := (blk_cell BKgc.out 1).trans rfl; have cw2gc_2 : w2.cell? ⟨gc, 2, none⟩ = some (.int .i64 a0_2) := (blk_cell BKgc.out 2).trans rfl; have cw2gc_3 : w2.cell? ⟨gc, 3, none⟩ = some (.int .i64 a0_3) := (blk_cell BKgc.out 3).trans rfl; have cw2gc_4 : w2.cell? ⟨gc, 4, none⟩ = some (.int .i64 a0_4) := (blk_cell BKgc.out 4).trans rfl; have cw2ge_0 : w2.cell? ⟨ge, 0, none⟩ = some (.int .i64 a2_0) := (blk_cell BKge.out 0).trans rfl; have cw2ge_1 : w2.cell? ⟨ge, 1, none⟩ = some (.int .i64 a2_1) := (blk_cell BKge.out 1).trans rfl; have cw2ge_2 : w2.cell? ⟨ge, 2, none⟩ = some (.int .i64 a2_2) := (blk_cell BKge.out 2).trans rfl; have cw2ge_3 : w2.cell? ⟨ge, 3, none⟩ = some (.int .i64 a2_3) := (blk_cell BKge.out 3).trans rfl; have cw2ge_4 : w2.cell? ⟨ge, 4, none⟩ = some (.int .i64 a2_4) := (blk_cell BKge.out 4).trans rfl; have cw2ge_5 : w2.cell? ⟨ge, 5, none⟩ = some (.int .i64 a2_5) := (blk_cell BKge.out 5).trans rfl; have cw2ge_6 : w2.cell? ⟨ge, 6, none⟩ = some (.int .u64 a2_6) := (blk_cell BKge.out 6).trans rfl; have cw2ge_7 : w2.cell? ⟨ge, 7, none⟩ = some (.int .u64 a2_7) := (blk_cell BKge.out 7).trans rfl; have cw2ge_8 : w2.cell? ⟨ge, 8, none⟩ = some (.int .i64 a2_8) := (blk_cell BKge.out 8).trans rfl; have cw2ge_9 : w2.cell? ⟨ge, 9, none⟩ = some (.int .i64 a2_9) := (blk_cell BKge.out 9).trans rfl; have cw2ge_10 : w2.cell? ⟨ge, 10, none⟩ = some (.bool a2_10) := (blk_cell BKge.out 10).trans rfl; have cw2ge_11 : w2.cell? ⟨ge, 11, none⟩ = some (.int .u64 a2_11) := (blk_cell BKge.out 11).trans rfl; have cw2ge_12 : w2.cell? ⟨ge, 12, none⟩ = some (.slice A2_12 l2_12.length c2_12) := (blk_cell BKge.out 12).trans rfl) | (go_at_call 14; (with_reducible refine (corrieref19_Few.calls k A1 c1 l1 12 true _ (Kd.C_below HR1.out HB.out) HC1.out Hz.out).mono ?_); rintro e w3 ⟨rfl, hd⟩; have hb := hd.below; clear hd; have n_BKgc := Aside0.mk (blk_below (g := gc) (o := .cells #[.int .i64 a0_0, .int .i64 a0_1, .int .i64 a0_2, .int .i64 a0_3, .int .i64 a0_4] 23 (0, 0)) BKgc.out hb); clear BKgc; have BKgc := n_BKgc; clear n_BKgc; have n_BKge := Aside0.mk (blk_below (g := ge) (o := .cells #[.int .i64 a2_0, .int .i64 a2_1, .int .i64 a2_2, .int .i64 a2_3, .int .i64 a2_4, .int .i64 a2_5, .int .u64 a2_6, .int .u64 a2_7, .int .i64 a2_8, .int .i64 a2_9, .bool a2_10, .int .u64 a2_11, .slice A2_12 l2_12.length c2_12] 38 (0, 0)) BKge.out hb); clear BKge; have BKge := n_BKge; clear n_BKge; have n0_ := Aside0.mk (below_step HB.out hb); clear HB hb; have HB := n0_; clear n0_; have cw3gc_0 : w3.cell? ⟨gc, 0, none⟩ = some (.int .i64 a0_0) := (blk_cell BKgc.out 0).trans rfl; have cw3gc_1 : w3.cell? ⟨gc, 1, none⟩ = some (.int .i64 a0_1) := (blk_cell BKgc.out 1).trans rfl; have cw3gc_2 : w3.cell? ⟨gc, 2, none⟩ = some (.int .i64 a0_2) := (blk_cell BKgc.out 2).trans rfl; have cw3gc_3 : w3.cell? ⟨gc, 3, none⟩ = some (.int .i64 a0_3) := (blk_cell BKgc.out 3).trans rfl; have cw3gc_4 : w3.cell? ⟨gc, 4, none⟩ = some (.int .i64 a0_4) := (blk_cell BKgc.out 4).trans rfl; have cw3ge_0 : w3.cell? ⟨ge, 0, none⟩ = some (.int .i64 a2_0) := (blk_cell BKge.out 0).trans rfl; have cw3ge_1 : w3.cell? ⟨ge, 1, none⟩ = some (.int .i64 a2_1) := (blk_cell BKge.out 1).trans rfl; have cw3ge_2 : w3.cell? ⟨ge, 2, none⟩ = some (.int .i64 a2_2) := (blk_cell BKge.out 2).trans rfl; have cw3ge_3 : w3.cell? ⟨ge, 3, none⟩ = some (.int .i64 a2_3) := (blk_cell BKge.out 3).trans rfl; have cw3ge_4 : w3.cell? ⟨ge, 4, none⟩ = some (.int .i64 a2_4) := (blk_cell BKge.out 4).trans rfl; have cw3ge_5 : w3.cell? ⟨ge, 5, none⟩ = some (.int .i64 a2_5) := (blk_cell BKge.out 5).trans rfl; have cw3ge_6 : w3.cell? ⟨ge, 6, none⟩ = some (.int .u64 a2_6) := (blk_cell BKge.out 6).trans rfl; have cw3ge_7 : w3.cell? ⟨ge, 7, none⟩ = some (.int .u64 a2_7) := (blk_cell BKge.out 7).trans rfl; have cw3ge_8 : w3.cell? ⟨ge, 8, none⟩ = some (.int .i64 a2_8) := (blk_cell BKge.out 8).trans rfl; have cw3ge_9 : w3.cell? ⟨ge, 9, none⟩ = some (.int .i64 a2_9) := (blk_cell BKge.out 9).trans rfl; have cw3ge_10 : w3.cell? ⟨ge, 10, none⟩ = some (.bool a2_10) := (blk_cell BKge.out 10).trans rfl; have cw3ge_11 : w3.cell? ⟨ge, 11, none⟩ = some (.int .u64 a2_11) := (blk_cell BKge.out 11).trans rfl; have cw3ge_12 : w3.cell? ⟨ge, 12, none⟩ = some (.slice A2_12 l2_12.length c2_12) := (blk_cell BKge.out 12).trans rfl))
      try clear cw3gc_0 cw3gc_1 cw3gc_2 cw3gc_3 cw3gc_4
      try clear cw3ge_0 cw3ge_1 cw3ge_2 cw3ge_3 cw3ge_4 cw3ge_5 cw3ge_6 cw3ge_7 cw3ge_8 cw3ge_9 cw3ge_10 cw3ge_11 cw3ge_12
      have n_BKgc := Aside0.mk (blk_drew (g := gc) (o := .cells #[.int .i64 a0_0, .int .i64 a0_1, .int .i64 a0_2, .int .i64 a0_3, .int .i64 a0_4] 23 (0, 0)) BKgc.out)
      clear BKgc
      have BKgc := n_BKgc
      clear n_BKgc
      have n_BKge := Aside0.mk (blk_drew (g := ge) (o := .cells #[.int .i64 a2_0, .int .i64 a2_1, .int .i64 a2_2, .int .i64 a2_3, .int .i64 a2_4, .int .i64 a2_5, .int .u64 a2_6, .int .u64 a2_7, .int .i64 a2_8, .int .i64 a2_9, .bool a2_10, .int .u64 a2_11, .slice A2_12 l2_12.length c2_12] 38 (0, 0)) BKge.out)
      clear BKge
      have BKge := n_BKge
      clear n_BKge
      have n1_ := Aside0.mk (below_drew1 HB.out)
      clear HB
      have HB := n1_
      clear n1_
      refine start_ (n := 22) (S := fun w' => w'.cell? ⟨gc, 0, none⟩ = some (.int .i64 a0_0) ∧ w'.cell? ⟨gc, 1, none⟩ = some (.int .i64 a0_1) ∧ w'.cell? ⟨gc, 2, none⟩ = some (.int .i64 a0_2) ∧ w'.cell? ⟨gc, 3, none⟩ = some (.int .i64 a0_3) ∧ w'.cell? ⟨gc, 4, none⟩ = some (.int .i64 a0_4) ∧ w'.cell? ⟨ge, 0, none⟩ = some (.int .i64 a2_0) ∧ w'.cell? ⟨ge, 1, none⟩ = some (.int .i64 a2_1) ∧ w'.cell? ⟨ge, 2, none⟩ = some (.int .i64 a2_2) ∧ w'.cell? ⟨ge, 3, none⟩ = some (.int .i64 a2_3) ∧ w'.cell? ⟨ge, 4, none⟩ = some (.int .i64 a2_4) ∧ w'.cell? ⟨ge, 5, none⟩ = some (.int .i64 a2_5) ∧ w'.cell? ⟨ge, 6, none⟩ = some (.int .u64 a2_6) ∧ w'.cell? ⟨ge, 7, none⟩ = some (.int .u64 a2_7) ∧ w'.cell? ⟨ge, 8, none⟩ = some (.int .i64 a2_8) ∧ w'.cell? ⟨ge, 9, none⟩ = some (.int .i64 a2_9) ∧ w'.cell? ⟨ge, 10, none⟩ = some (.bool a2_10) ∧ w'.cell? ⟨ge, 11, none⟩ = some (.int .u64 a2_11) ∧ w'.cell? ⟨ge, 12, none⟩ = some (.slice A2_12 l2_12.length c2_12)) (ds := []) #[false, false, false, false, false, false, false, false, false, false, false, false, false, false, false, false, false, false, false, false, false, false] (by kernel_rfl) rfl rfl ⟨(blk_cell BKgc.out 0).trans rfl, (blk_cell BKgc.out 1).trans rfl, (blk_cell BKgc.out 2).trans rfl, (blk_cell BKgc.out 3).trans rfl, (blk_cell BKgc.out 4).trans rfl, (blk_cell BKge.out 0).trans rfl, (blk_cell BKge.out 1).trans rfl, (blk_cell BKge.out 2).trans rfl, (blk_cell BKge.out 3).trans rfl, (blk_cell BKge.out 4).trans rfl, (blk_cell BKge.out 5).trans rfl, (blk_cell BKge.out 6).trans rfl, (blk_cell BKge.out 7).trans rfl, (blk_cell BKge.out 8).trans rfl, (blk_cell BKge.out 9).trans rfl, (blk_cell BKge.out 10).trans rfl, (blk_cell BKge.out 11).trans rfl, (blk_cell BKge.out 12).trans rfl⟩ (fun hHeld => ?_); refine with_tabW corrielaw23_BoundOf.tab4 corrielaw23_BoundOf.bits4 (fun HT_ HW_ => ?_)
      generalize w3.drew = W1 at BKgc BKge HB hHeld ⊢
      refine pure_ (i := 0) (N := some 18) (v := ?_) (a' := ?_) #[true, false, false, false, false, false, false, false, false, false, false, false, false, false, false, false, false, false, false, false, false, false] rfl rfl (any_of HT_.out (by kernel_rfl)) (fun _ _ _ h => h) (Or.inl ⟨by rfl, ?_⟩) ?_ ?_
      rotate_left
      · intro w'
        go_simp
        with_reducible rfl
      rotate_left
      · simp only [Act.put, List.setIfInBounds_toArray, List.set_cons_zero, List.set_cons_succ, i64_w, i32_w]
        rfl
      refine pure_ (i := 1) (N := some 19) (v := ?_) (a' := ?_) #[true, true, false, false, false, false, false, false, false, false, false, false, false, false, false, false, false, false, false, false, false, false] rfl rfl (any_of HT_.out (by kernel_rfl)) (fun _ _ _ h => h) (Or.inl ⟨by rfl, ?_⟩) ?_ ?_
      rotate_left
      · intro w'
        go_simp
        with_reducible rfl
      rotate_left
      · simp only [Act.put, List.setIfInBounds_toArray, List.set_cons_zero, List.set_cons_succ, i64_w, i32_w]
        rfl
      refine take_ (i := 2) (N := some 20) (v := ?_) (a' := ?_) #[true, true, true, false, false, false, false, false, false, false, false, false, false, false, false, false, false, false, false, false, false, false] rfl rfl (take_ofW HT_.out HW_.out (by kernel_rfl)) (fun _ _ _ h => h) (Or.inl ⟨by rfl, ?_⟩) hHeld ?_ ?_
      rotate_left
      · rintro w' ⟨s0, s1, s2, s3, s4, s5, s6, s7, s8, s9, s10, s11, s12, s13, s14, s15, s16, s17⟩
        go_simp
        with_reducible rfl
      rotate_left
      · simp only [Act.put, List.setIfInBounds_toArray, List.set_cons_zero, List.set_cons_succ, i64_w, i32_w]
        rfl
      refine pure_ (i := 3) (N := some 21) (v := ?_) (a' := ?_) #[true, true, true, true, false, false, false, false, false, false, false, false, false, false, false, false, false, false, false, false, false, false] rfl rfl (any_of HT_.out (by kernel_rfl)) (fun _ _ _ h => h) (Or.inl ⟨by rfl, ?_⟩) ?_ ?_
      rotate_left
      · intro w'
        go_simp
        with_reducible rfl
      rotate_left
      · simp only [Act.put, List.setIfInBounds_toArray, List.set_cons_zero, List.set_cons_succ, i64_w, i32_w]
        rfl
      refine take_ (i := 4) (N := some 22) (v := ?_) (a' := ?_) #[true, true, true, true, true, false, false, false, false, false, false, false, false, false, false, false, false, false, false, false, false, false] rfl rfl (take_ofW HT_.out HW_.out (by kernel_rfl)) (fun _ _ _ h => h) (Or.inl ⟨by rfl, ?_⟩) hHeld ?_ ?_
      rotate_left
      · rintro w' ⟨s0, s1, s2, s3, s4, s5, s6, s7, s8, s9, s10, s11, s12, s13, s14, s15, s16, s17⟩
        go_simp
        with_reducible rfl
      rotate_left
      · simp only [Act.put, List.setIfInBounds_toArray, List.set_cons_zero, List.set_cons_succ, i64_w, i32_w]
        rfl
      refine take_ (i := 6) (N := some 24) (v := ?_) (a' := ?_) #[true, true, true, true, true, false, true, false, false, false, false, false, false, false, false, false, false, false, false, false, false, false] rfl rfl (take_ofW HT_.out HW_.out (by kernel_rfl)) (fun _ _ _ h => h) (Or.inl ⟨by rfl, ?_⟩) hHeld ?_ ?_
      rotate_left
      · rintro w' ⟨s0, s1, s2, s3, s4, s5, s6, s7, s8, s9, s10, s11, s12, s13, s14, s15, s16, s17⟩
        go_simp
        with_reducible rfl
      rotate_left
      · simp only [Act.put, List.setIfInBounds_toArray, List.set_cons_zero, List.set_cons_succ, i64_w, i32_w]
        rfl
      refine pure_ (i := 7) (N := some 25) (v := ?_) (a' := ?_) #[true, true, true, true, true, false, true, true, false, false, false, false, false, false, false, false, false, false, false, false, false, false] rfl rfl (any_of HT_.out (by kernel_rfl)) (fun _ _ _ h => h) (Or.inl ⟨by rfl, ?_⟩) ?_ ?_
      rotate_left
      · intro w'
        go_simp
        with_reducible rfl
      rotate_left
      · simp only [Act.put, List.setIfInBounds_toArray, List.set_cons_zero, List.set_cons_succ, i64_w, i32_w]
        rfl
      refine take_ (i := 8) (N := some 26) (v := ?_) (a' := ?_) #[true, true, true, true, true, false, true, true, true, false, false, false, false, false, false, false, false, false, false, false, false, false] rfl rfl (take_ofW HT_.out HW_.out (by kernel_rfl)) (fun _ _ _ h => h) (Or.inl ⟨by rfl, ?_⟩) hHeld ?_ ?_
      rotate_left
      · rintro w' ⟨s0, s1, s2, s3, s4, s5, s6, s7, s8, s9, s10, s11, s12, s13, s14, s15, s16, s17⟩
        go_simp
        with_reducible rfl
      rotate_left
      · simp only [Act.put, List.setIfInBounds_toArray, List.set_cons_zero, List.set_cons_succ, i64_w, i32_w]
        rfl
      refine one_ (i := 5) (N := some 23) #[true, true, true, true, true, true, true, true, true, false, false, false, false, false, false, false, false, false, false, false, false, false] rfl rfl (one_of HT_.out (by kernel_rfl)) (by decide) (fun K hK => ?_)
      refine goes_ Try.func15 (by kernel_rfl) rfl #[.agg #[.int .i64 a0_0, .int .i64 a0_1, .int .i64 a0_2, .int .i64 a0_3, .int .i64 a0_4], .slice A1 l1.length c1, .agg #[.int .i64 a2_0, .int .i64 a2_1, .int .i64 a2_2, .int .i64 a2_3, .int .i64 a2_4, .int .i64 a2_5, .int .u64 a2_6, .int .u64 a2_7, .int .i64 a2_8, .int .i64 a2_9, .bool a2_10, .int .u64 a2_11, .slice A2_12 l2_12.length c2_12]] (by rfl) rfl rfl (by (try simp only [List.map_toArray, List.map_cons, List.map_nil]); first | done | rfl) ?_
      with_reducible refine (bound_Of.calls k a0_0 a0_1 a0_2 a0_3 a0_4 A1 c1 l1 a2_0 a2_1 a2_2 a2_3 a2_4 a2_5 a2_6 a2_7 a2_8 a2_9 a2_10 a2_11 A2_12 c2_12 l2_12 v0 _ (Kd.C_below HR1.out HB.out) HC1.out (Kd.C_below HR2.out HB.out) HC2.out Hv0.out).mono ?_
      rintro e w4 ⟨rfl, hb⟩
      refine ⟨_, rfl, ?_⟩
      have n_BKgc := Aside0.mk (blk_below (g := gc) (o := .cells #[.int .i64 a0_0, .int .i64 a0_1, .int .i64 a0_2, .int .i64 a0_3, .int .i64 a0_4] 23 (0, 0)) BKgc.out hb)
      clear BKgc
      have BKgc := n_BKgc
      clear n_BKgc
      have n_BKge := Aside0.mk (blk_below (g := ge) (o := .cells #[.int .i64 a2_0, .int .i64 a2_1, .int .i64 a2_2, .int .i64 a2_3, .int .i64 a2_4, .int .i64 a2_5, .int .u64 a2_6, .int .u64 a2_7, .int .i64 a2_8, .int .i64 a2_9, .bool a2_10, .int .u64 a2_11, .slice A2_12 l2_12.length c2_12] 38 (0, 0)) BKge.out hb)
      clear BKge
      have BKge := n_BKge
      clear n_BKge
      have n1_ := Aside0.mk (below_step HB.out hb)
      clear HB hb
      have HB := n1_
      clear n1_
      refine hK.out _ _ ⟨(blk_cell BKgc.out 0).trans rfl, (blk_cell BKgc.out 1).trans rfl, (blk_cell BKgc.out 2).trans rfl, (blk_cell BKgc.out 3).trans rfl, (blk_cell BKgc.out 4).trans rfl, (blk_cell BKge.out 0).trans rfl, (blk_cell BKge.out 1).trans rfl, (blk_cell BKge.out 2).trans rfl, (blk_cell BKge.out 3).trans rfl, (blk_cell BKge.out 4).trans rfl, (blk_cell BKge.out 5).trans rfl, (blk_cell BKge.out 6).trans rfl, (blk_cell BKge.out 7).trans rfl, (blk_cell BKge.out 8).trans rfl, (blk_cell BKge.out 9).trans rfl, (blk_cell BKge.out 10).trans rfl, (blk_cell BKge.out 11).trans rfl, (blk_cell BKge.out 12).trans rfl⟩ (fun hHeld => ?_)
      clear hK K
      refine norm_ (a' := ?_) ?_ ?_
      rotate_left
      · show Act.put _ (some 23) _ = _
        simp only [Act.put, List.setIfInBounds_toArray, List.set_cons_zero, List.set_cons_succ, i64_w, i32_w]
        rfl
      refine one_ (i := 9) (N := some 27) #[true, true, true, true, true, true, true, true, true, true, false, false, false, false, false, false, false, false, false, false, false, false] rfl rfl (one_of HT_.out (by kernel_rfl)) (by decide) (fun K hK => ?_)
      refine goes_ Try.func16 (by kernel_rfl) rfl #[.agg #[.int .i64 a0_0, .int .i64 a0_1, .int .i64 a0_2, .int .i64 a0_3, .int .i64 a0_4], .slice A1 l1.length c1, .agg #[.int .i64 a2_0, .int .i64 a2_1, .int .i64 a2_2, .int .i64 a2_3, .int .i64 a2_4, .int .i64 a2_5, .int .u64 a2_6, .int .u64 a2_7, .int .i64 a2_8, .int .i64 a2_9, .bool a2_10, .int .u64 a2_11, .slice A2_12 l2_12.length c2_12]] (by rfl) rfl rfl (by (try simp only [List.map_toArray, List.map_cons, List.map_nil]); first | done | rfl) ?_
      with_reducible refine (corrieref23_Of.calls k a0_0 a0_1 a0_2 a0_3 a0_4 A1 c1 l1 a2_0 a2_1 a2_2 a2_3 a2_4 a2_5 a2_6 a2_7 a2_8 a2_9 a2_10 a2_11 A2_12 c2_12 l2_12 v0 _ (Kd.C_below HR1.out HB.out) HC1.out (Kd.C_below HR2.out HB.out) HC2.out Hu0.out).mono ?_
      rintro e w5 ⟨rfl, hb⟩
      refine ⟨_, rfl, ?_⟩
      have n_BKgc := Aside0.mk (blk_below (g := gc) (o := .cells #[.int .i64 a0_0, .int .i64 a0_1, .int .i64 a0_2, .int .i64 a0_3, .int .i64 a0_4] 23 (0, 0)) BKgc.out hb)
      clear BKgc
      have BKgc := n_BKgc
      clear n_BKgc
      have n_BKge := Aside0.mk (blk_below (g := ge) (o := .cells #[.int .i64 a2_0, .int .i64 a2_1, .int .i64 a2_2, .int .i64 a2_3, .int .i64 a2_4, .int .i64 a2_5, .int .u64 a2_6, .int .u64 a2_7, .int .i64 a2_8, .int .i64 a2_9, .bool a2_10, .int .u64 a2_11, .slice A2_12 l2_12.length c2_12] 38 (0, 0)) BKge.out hb)
      clear BKge
      have BKge := n_BKge
      clear n_BKge
      have n1_ := Aside0.mk (below_step HB.out hb)
      clear HB hb
      have HB := n1_
      clear n1_
      refine hK.out _ _ ⟨(blk_cell BKgc.out 0).trans rfl, (blk_cell BKgc.out 1).trans rfl, (blk_cell BKgc.out 2).trans rfl, (blk_cell BKgc.out 3).trans rfl, (blk_cell BKgc.out 4).trans rfl, (blk_cell BKge.out 0).trans rfl, (blk_cell BKge.out 1).trans rfl, (blk_cell BKge.out 2).trans rfl, (blk_cell BKge.out 3).trans rfl, (blk_cell BKge.out 4).trans rfl, (blk_cell BKge.out 5).trans rfl, (blk_cell BKge.out 6).trans rfl, (blk_cell BKge.out 7).trans rfl, (blk_cell BKge.out 8).trans rfl, (blk_cell BKge.out 9).trans rfl, (blk_cell BKge.out 10).trans rfl, (blk_cell BKge.out 11).trans rfl, (blk_cell BKge.out 12).trans rfl⟩ (fun hHeld => ?_)
      clear hK K
      refine norm_ (a' := ?_) ?_ ?_
      rotate_left
      · show Act.put _ (some 27) _ = _
        simp only [Act.put, List.setIfInBounds_toArray, List.set_cons_zero, List.set_cons_succ, i64_w, i32_w]
        rfl
      refine pure_ (i := 10) (N := some 28) (v := ?_) (a' := ?_) #[true, true, true, true, true, true, true, true, true, true, true, false, false, false, false, false, false, false, false, false, false, false] rfl rfl (any_of HT_.out (by kernel_rfl)) (fun _ _ _ h => h) (Or.inl ⟨by rfl, ?_⟩) ?_ ?_
      rotate_left
      · intro w'
        go_simp
        with_reducible rfl
      rotate_left
      · simp only [Act.put, List.setIfInBounds_toArray, List.set_cons_zero, List.set_cons_succ, i64_w, i32_w]
        rfl
      refine pure_ (i := 11) (N := some 29) (v := ?_) (a' := ?_) #[true, true, true, true, true, true, true, true, true, true, true, true, false, false, false, false, false, false, false, false, false, false] rfl rfl (any_of HT_.out (by kernel_rfl)) (fun _ _ _ h => h) (Or.inl ⟨by rfl, ?_⟩) ?_ ?_
      rotate_left
      · intro w'
        go_simp
        with_reducible rfl
      rotate_left
      · simp only [Act.put, List.setIfInBounds_toArray, List.set_cons_zero, List.set_cons_succ, i64_w, i32_w]
        rfl
      refine pure_ (i := 12) (N := some 30) (v := ?_) (a' := ?_) #[true, true, true, true, true, true, true, true, true, true, true, true, true, false, false, false, false, false, false, false, false, false] rfl rfl (any_of HT_.out (by kernel_rfl)) (fun _ _ _ h => h) (Or.inl ⟨by rfl, ?_⟩) ?_ ?_
      rotate_left
      · intro w'
        go_simp
        with_reducible rfl
      rotate_left
      · simp only [Act.put, List.setIfInBounds_toArray, List.set_cons_zero, List.set_cons_succ, i64_w, i32_w]
        rfl
      refine take_ (i := 13) (N := some 31) (v := ?_) (a' := ?_) #[true, true, true, true, true, true, true, true, true, true, true, true, true, true, false, false, false, false, false, false, false, false] rfl rfl (take_ofW HT_.out HW_.out (by kernel_rfl)) (fun _ _ _ h => h) (Or.inl ⟨by rfl, ?_⟩) hHeld ?_ ?_
      rotate_left
      · rintro w' ⟨s0, s1, s2, s3, s4, s5, s6, s7, s8, s9, s10, s11, s12, s13, s14, s15, s16, s17⟩
        go_simp
        with_reducible rfl
      rotate_left
      · simp only [Act.put, List.setIfInBounds_toArray, List.set_cons_zero, List.set_cons_succ, i64_w, i32_w]
        rfl
      refine pure_ (i := 14) (N := some 32) (v := ?_) (a' := ?_) #[true, true, true, true, true, true, true, true, true, true, true, true, true, true, true, false, false, false, false, false, false, false] rfl rfl (any_of HT_.out (by kernel_rfl)) (fun _ _ _ h => h) (Or.inl ⟨by rfl, ?_⟩) ?_ ?_
      rotate_left
      · intro w'
        go_simp
        with_reducible rfl
      rotate_left
      · simp only [Act.put, List.setIfInBounds_toArray, List.set_cons_zero, List.set_cons_succ, i64_w, i32_w]
        rfl
      refine take_ (i := 16) (N := some 34) (v := ?_) (a' := ?_) #[true, true, true, true, true, true, true, true, true, true, true, true, true, true, true, false, true, false, false, false, false, false] rfl rfl (take_ofW HT_.out HW_.out (by kernel_rfl)) (fun _ _ _ h => h) (Or.inl ⟨by rfl, ?_⟩) hHeld ?_ ?_
      rotate_left
      · rintro w' ⟨s0, s1, s2, s3, s4, s5, s6, s7, s8, s9, s10, s11, s12, s13, s14, s15, s16, s17⟩
        go_simp
        with_reducible rfl
      rotate_left
      · simp only [Act.put, List.setIfInBounds_toArray, List.set_cons_zero, List.set_cons_succ, i64_w, i32_w]
        rfl
      refine pure_ (i := 17) (N := some 35) (v := ?_) (a' := ?_) #[true, true, true, true, true, true, true, true, true, true, true, true, true, true, true, false, true, true, false, false, false, false] rfl rfl (any_of HT_.out (by kernel_rfl)) (fun _ _ _ h => h) (Or.inl ⟨by rfl, ?_⟩) ?_ ?_
      rotate_left
      · intro w'
        go_simp
        with_reducible rfl
      rotate_left
      · simp only [Act.put, List.setIfInBounds_toArray, List.set_cons_zero, List.set_cons_succ, i64_w, i32_w]
        rfl
      refine one_ (i := 15) (N := some 33) #[true, true, true, true, true, true, true, true, true, true, true, true, true, true, true, true, true, true, false, false, false, false] rfl rfl (one_of HT_.out (by kernel_rfl)) (by decide) (fun K hK => ?_)
      refine goes_ Try.func17 (by kernel_rfl) rfl #[.agg #[.int .i64 a0_0, .int .i64 a0_1, .int .i64 a0_2, .int .i64 a0_3, .int .i64 a0_4], .slice A1 l1.length c1] (by rfl) rfl rfl (by (try simp only [List.map_toArray, List.map_cons, List.map_nil]); first | done | rfl) ?_
      with_reducible refine (bound_Ok.calls k a0_0 a0_1 a0_2 a0_3 a0_4 A1 c1 l1 v1 _ (Kd.C_below HR1.out HB.out) HC1.out Hv1.out).mono ?_
      rintro e w6 ⟨rfl, hb⟩
      refine ⟨_, rfl, ?_⟩
      have n_BKgc := Aside0.mk (blk_below (g := gc) (o := .cells #[.int .i64 a0_0, .int .i64 a0_1, .int .i64 a0_2, .int .i64 a0_3, .int .i64 a0_4] 23 (0, 0)) BKgc.out hb)
      clear BKgc
      have BKgc := n_BKgc
      clear n_BKgc
      have n_BKge := Aside0.mk (blk_below (g := ge) (o := .cells #[.int .i64 a2_0, .int .i64 a2_1, .int .i64 a2_2, .int .i64 a2_3, .int .i64 a2_4, .int .i64 a2_5, .int .u64 a2_6, .int .u64 a2_7, .int .i64 a2_8, .int .i64 a2_9, .bool a2_10, .int .u64 a2_11, .slice A2_12 l2_12.length c2_12] 38 (0, 0)) BKge.out hb)
      clear BKge
      have BKge := n_BKge
      clear n_BKge
      have n1_ := Aside0.mk (below_step HB.out hb)
      clear HB hb
      have HB := n1_
      clear n1_
      refine hK.out _ _ ⟨(blk_cell BKgc.out 0).trans rfl, (blk_cell BKgc.out 1).trans rfl, (blk_cell BKgc.out 2).trans rfl, (blk_cell BKgc.out 3).trans rfl, (blk_cell BKgc.out 4).trans rfl, (blk_cell BKge.out 0).trans rfl, (blk_cell BKge.out 1).trans rfl, (blk_cell BKge.out 2).trans rfl, (blk_cell BKge.out 3).trans rfl, (blk_cell BKge.out 4).trans rfl, (blk_cell BKge.out 5).trans rfl, (blk_cell BKge.out 6).trans rfl, (blk_cell BKge.out 7).trans rfl, (blk_cell BKge.out 8).trans rfl, (blk_cell BKge.out 9).trans rfl, (blk_cell BKge.out 10).trans rfl, (blk_cell BKge.out 11).trans rfl, (blk_cell BKge.out 12).trans rfl⟩ (fun hHeld => ?_)
      clear hK K
      refine norm_ (a' := ?_) ?_ ?_
      rotate_left
      · show Act.put _ (some 33) _ = _
        simp only [Act.put, List.setIfInBounds_toArray, List.set_cons_zero, List.set_cons_succ, i64_w, i32_w]
        rfl
      refine one_ (i := 18) (N := some 36) #[true, true, true, true, true, true, true, true, true, true, true, true, true, true, true, true, true, true, true, false, false, false] rfl rfl (one_of HT_.out (by kernel_rfl)) (by decide) (fun K hK => ?_)
      refine goes_ Try.func18 (by kernel_rfl) rfl #[.agg #[.int .i64 a0_0, .int .i64 a0_1, .int .i64 a0_2, .int .i64 a0_3, .int .i64 a0_4], .slice A1 l1.length c1] (by rfl) rfl rfl (by (try simp only [List.map_toArray, List.map_cons, List.map_nil]); first | done | rfl) ?_
      with_reducible refine (corrieref23_Ok.calls k a0_0 a0_1 a0_2 a0_3 a0_4 A1 c1 l1 v1 _ (Kd.C_below HR1.out HB.out) HC1.out Hu1.out).mono ?_
      rintro e w7 ⟨rfl, hb⟩
      refine ⟨_, rfl, ?_⟩
      have n_BKgc := Aside0.mk (blk_below (g := gc) (o := .cells #[.int .i64 a0_0, .int .i64 a0_1, .int .i64 a0_2, .int .i64 a0_3, .int .i64 a0_4] 23 (0, 0)) BKgc.out hb)
      clear BKgc
      have BKgc := n_BKgc
      clear n_BKgc
      have n_BKge := Aside0.mk (blk_below (g := ge) (o := .cells #[.int .i64 a2_0, .int .i64 a2_1, .int .i64 a2_2, .int .i64 a2_3, .int .i64 a2_4, .int .i64 a2_5, .int .u64 a2_6, .int .u64 a2_7, .int .i64 a2_8, .int .i64 a2_9, .bool a2_10, .int .u64 a2_11, .slice A2_12 l2_12.length c2_12] 38 (0, 0)) BKge.out hb)
      clear BKge
      have BKge := n_BKge
      clear n_BKge
      have n1_ := Aside0.mk (below_step HB.out hb)
      clear HB hb
      have HB := n1_
      clear n1_
      refine hK.out _ _ ⟨(blk_cell BKgc.out 0).trans rfl, (blk_cell BKgc.out 1).trans rfl, (blk_cell BKgc.out 2).trans rfl, (blk_cell BKgc.out 3).trans rfl, (blk_cell BKgc.out 4).trans rfl, (blk_cell BKge.out 0).trans rfl, (blk_cell BKge.out 1).trans rfl, (blk_cell BKge.out 2).trans rfl, (blk_cell BKge.out 3).trans rfl, (blk_cell BKge.out 4).trans rfl, (blk_cell BKge.out 5).trans rfl, (blk_cell BKge.out 6).trans rfl, (blk_cell BKge.out 7).trans rfl, (blk_cell BKge.out 8).trans rfl, (blk_cell BKge.out 9).trans rfl, (blk_cell BKge.out 10).trans rfl, (blk_cell BKge.out 11).trans rfl, (blk_cell BKge.out 12).trans rfl⟩ (fun hHeld => ?_)
      clear hK K
      refine norm_ (a' := ?_) ?_ ?_
      rotate_left
      · show Act.put _ (some 36) _ = _
        simp only [Act.put, List.setIfInBounds_toArray, List.set_cons_zero, List.set_cons_succ, i64_w, i32_w]
        rfl
      refine pure_ (i := 19) (N := some 37) (v := ?_) (a' := ?_) #[true, true, true, true, true, true, true, true, true, true, true, true, true, true, true, true, true, true, true, true, false, false] rfl rfl (any_of HT_.out (by kernel_rfl)) (fun _ _ _ h => h) (Or.inl ⟨by rfl, ?_⟩) ?_ ?_
      rotate_left
      · intro w'
        go_simp
        with_reducible rfl
      rotate_left
      · simp only [Act.put, List.setIfInBounds_toArray, List.set_cons_zero, List.set_cons_succ, i64_w, i32_w]
        rfl
      refine pure_ (i := 20) (N := some 38) (v := ?_) (a' := ?_) #[true, true, true, true, true, true, true, true, true, true, true, true, true, true, true, true, true, true, true, true, true, false] rfl rfl (any_of HT_.out (by kernel_rfl)) (fun _ _ _ h => h) (Or.inl ⟨by rfl, ?_⟩) ?_ ?_
      rotate_left
      · intro w'
        go_simp
        with_reducible rfl
      rotate_left
      · simp only [Act.put, List.setIfInBounds_toArray, List.set_cons_zero, List.set_cons_succ, i64_w, i32_w]
        rfl
      refine pure_ (i := 21) (N := some 6) (v := ?_) (a' := ?_) #[true, true, true, true, true, true, true, true, true, true, true, true, true, true, true, true, true, true, true, true, true, true] rfl rfl (any_of HT_.out (by kernel_rfl)) (fun _ _ _ h => h) (Or.inl ⟨by rfl, ?_⟩) ?_ ?_
      rotate_left
      · intro w'
        go_simp
        with_reducible rfl
      rotate_left
      · simp only [Act.put, List.setIfInBounds_toArray, List.set_cons_zero, List.set_cons_succ, i64_w, i32_w]
        rfl
      refine done_ (done_of HT_.out (by kernel_rfl)) ?_
      go_wp2
      go_ret
      exact ⟨by first | rfl | (simp; done), by repeat (first | (with_reducible first | exact HB.out | apply below_alloc | apply pw_below_drewN | apply below_drew1) | exact HB.out)⟩
    · rw [if_neg q2] at h
      have q2b : z = false := Bool.eq_false_iff.mpr q2
      subst q2b
      clear q2
      obtain rfl := Option.some.inj h
      clear h
      go_enter Try.func4, Try.ntmps4
      go_wp2_with (first | ((with_reducible refine gate_dst (N := 3) rfl ?_); refine box_event ?hg (N := 3) ?hd (cs := #[.int .i64 a0_0, .int .i64 a0_1, .int .i64 a0_2, .int .i64 a0_3, .int .i64 a0_4]) (t := 23) ?hr ?_; (case hd => rfl); (case hg => rfl); (case hr => first | (go_simp; done) | (go_simp; rfl)); intro gc hg wb_gc hbox hb; have BKgc := Aside0.mk hbox; have n0_ := Aside0.mk (below_step HB.out hb); clear HB; have HB := n0_; clear n0_; clear hb hbox hg) | ((with_reducible refine gate_dst (N := 5) rfl ?_); refine box_event ?hg (N := 5) ?hd (cs := #[.int .i64 a2_0, .int .i64 a2_1, .int .i64 a2_2, .int .i64 a2_3, .int .i64 a2_4, .int .i64 a2_5, .int .u64 a2_6, .int .u64 a2_7, .int .i64 a2_8, .int .i64 a2_9, .bool a2_10, .int .u64 a2_11, .slice A2_12 l2_12.length c2_12]) (t := 38) ?hr ?_; (case hd => rfl); (case hg => rfl); (case hr => first | (go_simp; done) | (go_simp; rfl)); intro ge hg wb_ge hbox hb; have BKge := Aside0.mk hbox; have n_BKgc := Aside0.mk (blk_below (g := gc) (o := .cells #[.int .i64 a0_0, .int .i64 a0_1, .int .i64 a0_2, .int .i64 a0_3, .int .i64 a0_4] 23 (0, 0)) BKgc.out hb); clear BKgc; have BKgc := n_BKgc; clear n_BKgc; have n0_ := Aside0.mk (below_step HB.out hb); clear HB; have HB := n0_; clear n0_; clear hb hbox hg) | (go_at_call 8; (with_reducible refine (corrielaw23_awake.calls true _ rfl).mono ?_); rintro e w1 ⟨rfl, hb⟩; have n_BKgc := Aside0.mk (blk_below (g := gc) (o := .cells #[.int .i64 a0_0, .int .i64 a0_1, .int .i64 a0_2, .int .i64 a0_3, .int .i64 a0_4] 23 (0, 0)) BKgc.out hb); clear BKgc; have BKgc := n_BKgc; clear n_BKgc; have n_BKge := Aside0.mk (blk_below (g := ge) (o := .cells #[.int .i64 a2_0, .int .i64 a2_1, .int .i64 a2_2, .int .i64 a2_3, .int .i64 a2_4, .int .i64 a2_5, .int .u64 a2_6, .int .u64 a2_7, .int .i64 a2_8, .int .i64 a2_9, .bool a2_10, .int .u64 a2_11, .slice A2_12 l2_12.length c2_12] 38 (0, 0)) BKge.out hb); clear BKge; have BKge := n_BKge; clear n_BKge; have n0_ := Aside0.mk (below_step HB.out hb); clear HB hb; have HB := n0_; clear n0_; have cw1gc_0 : w1.cell? ⟨gc, 0, none⟩ = some (.int .i64 a0_0) := (blk_cell BKgc.out 0).trans rfl; have cw1gc_1 : w1.cell? ⟨gc, 1, none⟩ = some (.int .i64 a0_1) := (blk_cell BKgc.out 1).trans rfl; have cw1gc_2 : w1.cell? ⟨gc, 2, none⟩ = some (.int .i64 a0_2) := (blk_cell BKgc.out 2).trans rfl; have cw1gc_3 : w1.cell? ⟨gc, 3, none⟩ = some (.int .i64 a0_3) := (blk_cell BKgc.out 3).trans rfl; have cw1gc_4 : w1.cell? ⟨gc, 4, none⟩ = some (.int .i64 a0_4) := (blk_cell BKgc.out 4).trans rfl; have cw1ge_0 : w1.cell? ⟨ge, 0, none⟩ = some (.int .i64 a2_0) := (blk_cell BKge.out 0).trans rfl; have cw1ge_1 : w1.cell? ⟨ge, 1, none⟩ = some (.int .i64 a2_1) := (blk_cell BKge.out 1).trans rfl; have cw1ge_2 : w1.cell? ⟨ge, 2, none⟩ = some (.int .i64 a2_2) := (blk_cell BKge.out 2).trans rfl; have cw1ge_3 : w1.cell? ⟨ge, 3, none⟩ = some (.int .i64 a2_3) := (blk_cell BKge.out 3).trans rfl; have cw1ge_4 : w1.cell? ⟨ge, 4, none⟩ = some (.int .i64 a2_4) := (blk_cell BKge.out 4).trans rfl; have cw1ge_5 : w1.cell? ⟨ge, 5, none⟩ = some (.int .i64 a2_5) := (blk_cell BKge.out 5).trans rfl; have cw1ge_6 : w1.cell? ⟨ge, 6, none⟩ = some (.int .u64 a2_6) := (blk_cell BKge.out 6).trans rfl; have cw1ge_7 : w1.cell? ⟨ge, 7, none⟩ = some (.int .u64 a2_7) := (blk_cell BKge.out 7).trans rfl; have cw1ge_8 : w1.cell? ⟨ge, 8, none⟩ = some (.int .i64 a2_8) := (blk_cell BKge.out 8).trans rfl; have cw1ge_9 : w1.cell? ⟨ge, 9, none⟩ = some (.int .i64 a2_9) := (blk_cell BKge.out 9).trans rfl; have cw1ge_10 : w1.cell? ⟨ge, 10, none⟩ = some (.bool a2_10) := (blk_cell BKge.out 10).trans rfl; have cw1ge_11 : w1.cell? ⟨ge, 11, none⟩ = some (.int .u64 a2_11) := (blk_cell BKge.out 11).trans rfl; have cw1ge_12 : w1.cell? ⟨ge, 12, none⟩ = some (.slice A2_12 l2_12.length c2_12) := (blk_cell BKge.out 12).trans rfl) | (go_at_call 9; (with_reducible refine (corrieref04_May.calls k a0_0 a0_1 a0_2 a0_3 a0_4 0 _ Hm.out).mono ?_); rintro e w2 ⟨rfl, hb⟩; have n_BKgc := Aside0.mk (blk_below (g := gc) (o := .cells #[.int .i64 a0_0, .int .i64 a0_1, .int .i64 a0_2, .int .i64 a0_3, .int .i64 a0_4] 23 (0, 0)) BKgc.out hb); clear BKgc; have BKgc := n_BKgc; clear n_BKgc; have n_BKge := Aside0.mk (blk_below (g := ge) (o := .cells #[.int .i64 a2_0, .int .i64 a2_1, .int .i64 a2_2, .int .i64 a2_3, .int .i64 a2_4, .int .i64 a2_5, .int .u64 a2_6, .int .u64 a2_7, .int .i64 a2_8, .int .i64 a2_9, .bool a2_10, .int .u64 a2_11, .slice A2_12 l2_12.length c2_12] 38 (0, 0)) BKge.out hb); clear BKge; have BKge := n_BKge; clear n_BKge; have n0_ := Aside0.mk (below_step HB.out hb); clear HB hb; have HB := n0_; clear n0_; have cw2gc_0 : w2.cell? ⟨gc, 0, none⟩ = some (.int .i64 a0_0) := (blk_cell BKgc.out 0).trans rfl; have cw2gc_1 : w2.cell? ⟨gc, 1, none⟩ = some (.int .i64 a0_1) := (blk_cell BKgc.out 1).trans rfl; have cw2gc_2 : w2.cell? ⟨gc, 2, none⟩ = some (.int .i64 a0_2) := (blk_cell BKgc.out 2).trans rfl; have cw2gc_3 : w2.cell? ⟨gc, 3, none⟩ = some (.int .i64 a0_3) := (blk_cell BKgc.out 3).trans rfl; have cw2gc_4 : w2.cell? ⟨gc, 4, none⟩ = some (.int .i64 a0_4) := (blk_cell BKgc.out 4).trans rfl; have cw2ge_0 : w2.cell? ⟨ge, 0, none⟩ = some (.int .i64 a2_0) := (blk_cell BKge.out 0).trans rfl; have cw2ge_1 : w2.cell? ⟨ge, 1, none⟩ = some (.int .i64 a2_1) := (blk_cell BKge.out 1).trans rfl; have cw2ge_2 : w2.cell? ⟨ge, 2, none⟩ = some (.int .i64 a2_2) := (blk_cell BKge.out 2).trans rfl; have cw2ge_3 : w2.cell? ⟨ge, 3, none⟩ = some (.int .i64 a2_3) := (blk_cell BKge.out 3).trans rfl; have cw2ge_4 : w2.cell? ⟨ge, 4, none⟩ = some (.int .i64 a2_4) := (blk_cell BKge.out 4).trans rfl; have cw2ge_5 : w2.cell? ⟨ge, 5, none⟩ = some (.int .i64 a2_5) := (blk_cell BKge.out 5).trans rfl; have cw2ge_6 : w2.cell? ⟨ge, 6, none⟩ = some (.int .u64 a2_6) := (blk_cell BKge.out 6).trans rfl; have cw2ge_7 : w2.cell? ⟨ge, 7, none⟩ = some (.int .u64 a2_7) := (blk_cell BKge.out 7).trans rfl; have cw2ge_8 : w2.cell? ⟨ge, 8, none⟩ = some (.int .i64 a2_8) := (blk_cell BKge.out 8).trans rfl; have cw2ge_9 : w2.cell? ⟨ge, 9, none⟩ = some (.int .i64 a2_9) := (blk_cell BKge.out 9).trans rfl; have cw2ge_10 : w2.cell? ⟨ge, 10, none⟩ = some (.bool a2_10) := (blk_cell BKge.out 10).trans rfl; have cw2ge_11 : w2.cell? ⟨ge, 11, none⟩ = some (.int .u64 a2_11) := (blk_cell BKge.out 11).trans rfl; have cw2ge_12 : w2.cell? ⟨ge, 12, none⟩ = some (.slice A2_12 l2_12.length c2_12) := (blk_cell BKge.out 12).trans rfl) | (go_at_call 14; (with_reducible refine (corrieref19_Few.calls k A1 c1 l1 12 false _ (Kd.C_below HR1.out HB.out) HC1.out Hz.out).mono ?_); rintro e w3 ⟨rfl, hd⟩; have hb := hd.below; clear hd; have n_BKgc := Aside0.mk (blk_below (g := gc) (o := .cells #[.int .i64 a0_0, .int .i64 a0_1, .int .i64 a0_2, .int .i64 a0_3, .int .i64 a0_4] 23 (0, 0)) BKgc.out hb); clear BKgc; have BKgc := n_BKgc; clear n_BKgc; have n_BKge := Aside0.mk (blk_below (g := ge) (o := .cells #[.int .i64 a2_0, .int .i64 a2_1, .int .i64 a2_2, .int .i64 a2_3, .int .i64 a2_4, .int .i64 a2_5, .int .u64 a2_6, .int .u64 a2_7, .int .i64 a2_8, .int .i64 a2_9, .bool a2_10, .int .u64 a2_11, .slice A2_12 l2_12.length c2_12] 38 (0, 0)) BKge.out hb); clear BKge; have BKge := n_BKge; clear n_BKge; have n0_ := Aside0.mk (below_step HB.out hb); clear HB hb; have HB := n0_; clear n0_; have cw3gc_0 : w3.cell? ⟨gc, 0, none⟩ = some (.int .i64 a0_0) := (blk_cell BKgc.out 0).trans rfl; have cw3gc_1 : w3.cell? ⟨gc, 1, none⟩ = some (.int .i64 a0_1) := (blk_cell BKgc.out 1).trans rfl; have cw3gc_2 : w3.cell? ⟨gc, 2, none⟩ = some (.int .i64 a0_2) := (blk_cell BKgc.out 2).trans rfl; have cw3gc_3 : w3.cell? ⟨gc, 3, none⟩ = some (.int .i64 a0_3) := (blk_cell BKgc.out 3).trans rfl; have cw3gc_4 : w3.cell? ⟨gc, 4, none⟩ = some (.int .i64 a0_4) := (blk_cell BKgc.out 4).trans rfl; have cw3ge_0 : w3.cell? ⟨ge, 0, none⟩ = some (.int .i64 a2_0) := (blk_cell BKge.out 0).trans rfl; have cw3ge_1 : w3.cell? ⟨ge, 1, none⟩ = some (.int .i64 a2_1) := (blk_cell BKge.out 1).trans rfl; have cw3ge_2 : w3.cell? ⟨ge, 2, none⟩ = some (.int .i64 a2_2) := (blk_cell BKge.out 2).trans rfl; have cw3ge_3 : w3.cell? ⟨ge, 3, none⟩ = some (.int .i64 a2_3) := (blk_cell BKge.out 3).trans rfl; have cw3ge_4 : w3.cell? ⟨ge, 4, none⟩ = some (.int .i64 a2_4) := (blk_cell BKge.out 4).trans rfl; have cw3ge_5 : w3.cell? ⟨ge, 5, none⟩ = some (.int .i64 a2_5) := (blk_cell BKge.out 5).trans rfl; have cw3ge_6 : w3.cell? ⟨ge, 6, none⟩ = some (.int .u64 a2_6) := (blk_cell BKge.out 6).trans rfl; have cw3ge_7 : w3.cell? ⟨ge, 7, none⟩ = some (.int .u64 a2_7) := (blk_cell BKge.out 7).trans rfl; have cw3ge_8 : w3.cell? ⟨ge, 8, none⟩ = some (.int .i64 a2_8) := (blk_cell BKge.out 8).trans rfl; have cw3ge_9 : w3.cell? ⟨ge, 9, none⟩ = some (.int .i64 a2_9) := (blk_cell BKge.out 9).trans rfl; have cw3ge_10 : w3.cell? ⟨ge, 10, none⟩ = some (.bool a2_10) := (blk_cell BKge.out 10).trans rfl; have cw3ge_11 : w3.cell? ⟨ge, 11, none⟩ = some (.int .u64 a2_11) := (blk_cell BKge.out 11).trans rfl; have cw3ge_12 : w3.cell? ⟨ge, 12, none⟩ = some (.slice A2_12 l2_12.length c2_12) := (blk_cell BKge.out 12).trans rfl))
      go_ret
      exact ⟨rfl, by repeat (first | (with_reducible first | exact HB.out | apply below_alloc | apply pw_below_drewN | apply below_drew1) | exact HB.out)⟩
  · rw [if_neg q1] at h
    have c1b : (m != 0) = true := bne_iff_ne.mpr q1
    clear q1
    obtain rfl := Option.some.inj h
    clear h
    go_enter Try.func4, Try.ntmps4
    go_wp2_with (first | ((with_reducible refine gate_dst (N := 3) rfl ?_); refine box_event ?hg (N := 3) ?hd (cs := #[.int .i64 a0_0, .int .i64 a0_1, .int .i64 a0_2, .int .i64 a0_3, .int .i64 a0_4]) (t := 23) ?hr ?_; (case hd => rfl); (case hg => rfl); (case hr => first | (go_simp; done) | (go_simp; rfl)); intro gc hg wb_gc hbox hb; have BKgc := Aside0.mk hbox; have n0_ := Aside0.mk (below_step HB.out hb); clear HB; have HB := n0_; clear n0_; clear hb hbox hg) | ((with_reducible refine gate_dst (N := 5) rfl ?_); refine box_event ?hg (N := 5) ?hd (cs := #[.int .i64 a2_0, .int .i64 a2_1, .int .i64 a2_2, .int .i64 a2_3, .int .i64 a2_4, .int .i64 a2_5, .int .u64 a2_6, .int .u64 a2_7, .int .i64 a2_8, .int .i64 a2_9, .bool a2_10, .int .u64 a2_11, .slice A2_12 l2_12.length c2_12]) (t := 38) ?hr ?_; (case hd => rfl); (case hg => rfl); (case hr => first | (go_simp; done) | (go_simp; rfl)); intro ge hg wb_ge hbox hb; have BKge := Aside0.mk hbox; have n_BKgc := Aside0.mk (blk_below (g := gc) (o := .cells #[.int .i64 a0_0, .int .i64 a0_1, .int .i64 a0_2, .int .i64 a0_3, .int .i64 a0_4] 23 (0, 0)) BKgc.out hb); clear BKgc; have BKgc := n_BKgc; clear n_BKgc; have n0_ := Aside0.mk (below_step HB.out hb); clear HB; have HB := n0_; clear n0_; clear hb hbox hg) | (go_at_call 8; (with_reducible refine (corrielaw23_awake.calls true _ rfl).mono ?_); rintro e w1 ⟨rfl, hb⟩; have n_BKgc := Aside0.mk (blk_below (g := gc) (o := .cells #[.int .i64 a0_0, .int .i64 a0_1, .int .i64 a0_2, .int .i64 a0_3, .int .i64 a0_4] 23 (0, 0)) BKgc.out hb); clear BKgc; have BKgc := n_BKgc; clear n_BKgc; have n_BKge := Aside0.mk (blk_below (g := ge) (o := .cells #[.int .i64 a2_0, .int .i64 a2_1, .int .i64 a2_2, .int .i64 a2_3, .int .i64 a2_4, .int .i64 a2_5, .int .u64 a2_6, .int .u64 a2_7, .int .i64 a2_8, .int .i64 a2_9, .bool a2_10, .int .u64 a2_11, .slice A2_12 l2_12.length c2_12] 38 (0, 0)) BKge.out hb); clear BKge; have BKge := n_BKge; clear n_BKge; have n0_ := Aside0.mk (below_step HB.out hb); clear HB hb; have HB := n0_; clear n0_; have cw1gc_0 : w1.cell? ⟨gc, 0, none⟩ = some (.int .i64 a0_0) := (blk_cell BKgc.out 0).trans rfl; have cw1gc_1 : w1.cell? ⟨gc, 1, none⟩ = some (.int .i64 a0_1) := (blk_cell BKgc.out 1).trans rfl; have cw1gc_2 : w1.cell? ⟨gc, 2, none⟩ = some (.int .i64 a0_2) := (blk_cell BKgc.out 2).trans rfl; have cw1gc_3 : w1.cell? ⟨gc, 3, none⟩ = some (.int .i64 a0_3) := (blk_cell BKgc.out 3).trans rfl; have cw1gc_4 : w1.cell? ⟨gc, 4, none⟩ = some (.int .i64 a0_4) := (blk_cell BKgc.out 4).trans rfl; have cw1ge_0 : w1.cell? ⟨ge, 0, none⟩ = some (.int .i64 a2_0) := (blk_cell BKge.out 0).trans rfl; have cw1ge_1 : w1.cell? ⟨ge, 1, none⟩ = some (.int .i64 a2_1) := (blk_cell BKge.out 1).trans rfl; have cw1ge_2 : w1.cell? ⟨ge, 2, none⟩ = some (.int .i64 a2_2) := (blk_cell BKge.out 2).trans rfl; have cw1ge_3 : w1.cell? ⟨ge, 3, none⟩ = some (.int .i64 a2_3) := (blk_cell BKge.out 3).trans rfl; have cw1ge_4 : w1.cell? ⟨ge, 4, none⟩ = some (.int .i64 a2_4) := (blk_cell BKge.out 4).trans rfl; have cw1ge_5 : w1.cell? ⟨ge, 5, none⟩ = some (.int .i64 a2_5) := (blk_cell BKge.out 5).trans rfl; have cw1ge_6 : w1.cell? ⟨ge, 6, none⟩ = some (.int .u64 a2_6) := (blk_cell BKge.out 6).trans rfl; have cw1ge_7 : w1.cell? ⟨ge, 7, none⟩ = some (.int .u64 a2_7) := (blk_cell BKge.out 7).trans rfl; have cw1ge_8 : w1.cell? ⟨ge, 8, none⟩ = some (.int .i64 a2_8) := (blk_cell BKge.out 8).trans rfl; have cw1ge_9 : w1.cell? ⟨ge, 9, none⟩ = some (.int .i64 a2_9) := (blk_cell BKge.out 9).trans rfl; have cw1ge_10 : w1.cell? ⟨ge, 10, none⟩ = some (.bool a2_10) := (blk_cell BKge.out 10).trans rfl; have cw1ge_11 : w1.cell? ⟨ge, 11, none⟩ = some (.int .u64 a2_11) := (blk_cell BKge.out 11).trans rfl; have cw1ge_12 : w1.cell? ⟨ge, 12, none⟩ = some (.slice A2_12 l2_12.length c2_12) := (blk_cell BKge.out 12).trans rfl) | (go_at_call 9; (with_reducible refine (corrieref04_May.calls k a0_0 a0_1 a0_2 a0_3 a0_4 m _ Hm.out).mono ?_); rintro e w2 ⟨rfl, hb⟩; have n_BKgc := Aside0.mk (blk_below (g := gc) (o := .cells #[.int .i64 a0_0, .int .i64 a0_1, .int .i64 a0_2, .int .i64 a0_3, .int .i64 a0_4] 23 (0, 0)) BKgc.out hb); clear BKgc; have BKgc := n_BKgc; clear n_BKgc; have n_BKge := Aside0.mk (blk_below (g := ge) (o := .cells #[.int .i64 a2_0, .int .i64 a2_1, .int .i64 a2_2, .int .i64 a2_3, .int .i64 a2_4, .int .i64 a2_5, .int .u64 a2_6, .int .u64 a2_7, .int .i64 a2_8, .int .i64 a2_9, .bool a2_10, .int .u64 a2_11, .slice A2_12 l2_12.length c2_12] 38 (0, 0)) BKge.out hb); clear BKge; have BKge := n_BKge; clear n_BKge; have n0_ := Aside0.mk (below_step HB.out hb); clear HB hb; have HB := n0_; clear n0_; have cw2gc_0 : w2.cell? ⟨gc, 0, none⟩ = some (.int .i64 a0_0) := (blk_cell BKgc.out 0).trans rfl; have cw2gc_1 : w2.cell? ⟨gc, 1, none⟩ = some (.int .i64 a0_1) := (blk_cell BKgc.out 1).trans rfl; have cw2gc_2 : w2.cell? ⟨gc, 2, none⟩ = some (.int .i64 a0_2) := (blk_cell BKgc.out 2).trans rfl; have cw2gc_3 : w2.cell? ⟨gc, 3, none⟩ = some (.int .i64 a0_3) := (blk_cell BKgc.out 3).trans rfl; have cw2gc_4 : w2.cell? ⟨gc, 4, none⟩ = some (.int .i64 a0_4) := (blk_cell BKgc.out 4).trans rfl; have cw2ge_0 : w2.cell? ⟨ge, 0, none⟩ = some (.int .i64 a2_0) := (blk_cell BKge.out 0).trans rfl; have cw2ge_1 : w2.cell? ⟨ge, 1, none⟩ = some (.int .i64 a2_1) := (blk_cell BKge.out 1).trans rfl; have cw2ge_2 : w2.cell? ⟨ge, 2, none⟩ = some (.int .i64 a2_2) := (blk_cell BKge.out 2).trans rfl; have cw2ge_3 : w2.cell? ⟨ge, 3, none⟩ = some (.int .i64 a2_3) := (blk_cell BKge.out 3).trans rfl; have cw2ge_4 : w2.cell? ⟨ge, 4, none⟩ = some (.int .i64 a2_4) := (blk_cell BKge.out 4).trans rfl; have cw2ge_5 : w2.cell? ⟨ge, 5, none⟩ = some (.int .i64 a2_5) := (blk_cell BKge.out 5).trans rfl; have cw2ge_6 : w2.cell? ⟨ge, 6, none⟩ = some (.int .u64 a2_6) := (blk_cell BKge.out 6).trans rfl; have cw2ge_7 : w2.cell? ⟨ge, 7, none⟩ = some (.int .u64 a2_7) := (blk_cell BKge.out 7).trans rfl; have cw2ge_8 : w2.cell? ⟨ge, 8, none⟩ = some (.int .i64 a2_8) := (blk_cell BKge.out 8).trans rfl; have cw2ge_9 : w2.cell? ⟨ge, 9, none⟩ = some (.int .i64 a2_9) := (blk_cell BKge.out 9).trans rfl; have cw2ge_10 : w2.cell? ⟨ge, 10, none⟩ = some (.bool a2_10) := (blk_cell BKge.out 10).trans rfl; have cw2ge_11 : w2.cell? ⟨ge, 11, none⟩ = some (.int .u64 a2_11) := (blk_cell BKge.out 11).trans rfl; have cw2ge_12 : w2.cell? ⟨ge, 12, none⟩ = some (.slice A2_12 l2_12.length c2_12) := (blk_cell BKge.out 12).trans rfl))
    go_ret
    exact ⟨rfl, by repeat (first | (with_reducible first | exact HB.out | apply below_alloc | apply pw_below_drewN | apply below_drew1) | exact HB.out)⟩


end Go.Proofs.Ytpcmoclohepdiab.PBoundOf
