-- Written by a program of this session: a variant of the print that takes proofs by hand (wip/tools/mkprint.py)
import Derived.Test.YtpcmoclohepdiadPHistoryTellsx0
import Derived.Test.YtpcmoclohepdiadPHistoryTellsx3
import Derived.Test.YtpcmoclohepdiadPHistoryTellsx7
namespace Go.Proofs.Ytpcmoclohepdiad.PHistoryTells
open Go.RowKit Go.Proofs.YtpcmoclohepdiadW.PrintWords Go.Proofs.YtpcmoclohepdiadW.PrintLast
set_option linter.unusedVariables false
set_option linter.unusedSimpArgs false

/-! ### corrieref19_Same: function 12 -/
def corrieref19_Same.l0 : Nat → List (S31) → List (S31) → Int → Option (Bool)
 | 0, _, _, _ => none
 | k + 1, x0, x1, x5 => if x5 < (x0.length : Int) then (if 0 ≤ x5 then (if x5 < (x1.length : Int) then ((corrieref19_Equal.f k ((rd_T31 x0 x5).f0) ((rd_T31 x0 x5).f1) ((rd_T31 x0 x5).f2) ((rd_T31 x0 x5).f3) ((rd_T31 x0 x5).f4) ((rd_T31 x0 x5).f5.f0) ((rd_T31 x0 x5).f5.f1) ((rd_T31 x0 x5).f5.f2) ((rd_T31 x0 x5).f5.f3) ((rd_T31 x0 x5).f6.f0) ((rd_T31 x0 x5).f6.f1) ((rd_T31 x0 x5).f6.f2) ((rd_T31 x0 x5).f6.f3) ((rd_T31 x1 x5).f0) ((rd_T31 x1 x5).f1) ((rd_T31 x1 x5).f2) ((rd_T31 x1 x5).f3) ((rd_T31 x1 x5).f4) ((rd_T31 x1 x5).f5.f0) ((rd_T31 x1 x5).f5.f1) ((rd_T31 x1 x5).f5.f2) ((rd_T31 x1 x5).f5.f3) ((rd_T31 x1 x5).f6.f0) ((rd_T31 x1 x5).f6.f1) ((rd_T31 x1 x5).f6.f2) ((rd_T31 x1 x5).f6.f3)).bind fun t114 => (if t114 = true then (corrieref19_Same.l0 k x0 x1 (wrap64 (x5 + 1))) else (some false))) else (none)) else (none)) else (some true)
def corrieref19_Same.f (k : Nat) (l0 : List (S31)) (l1 : List (S31)) : Option (Bool) := if (l0.length : Int) = (l1.length : Int) then (corrieref19_Same.l0 k l0 l1 0) else (some false)
theorem corrieref19_Same.mono_l : ∀ k, (∀ y0 y1 y2, LeO (corrieref19_Same.l0 k y0 y1 y2) (corrieref19_Same.l0 (k + 1) y0 y1 y2))
 | 0 => fun _ _ _ r h => by simp [corrieref19_Same.l0] at h
 | k + 1 => by
  have ih0 := corrieref19_Same.mono_l k
  ·intro y0 y1 y2
   unfold corrieref19_Same.l0
   repeat' first
   | (with_reducible exact ih0 _ _ _)
   | (with_reducible exact corrieref19_Equal.mono _ _ _ _ _ _ _ _ _ _ _ _ _ _ _ _ _ _ _ _ _ _ _ _ _ _ _)
   | (with_reducible exact LeO.refl _)
   | (with_reducible exact LeO.none _)
   | (with_reducible refine LeO.ite ?_ ?_)
   | (with_reducible refine LeO.bind ?_ (fun _ => ?_))
   | exact ih0 _ _ _
   | exact corrieref19_Equal.mono _ _ _ _ _ _ _ _ _ _ _ _ _ _ _ _ _ _ _ _ _ _ _ _ _ _ _
   | exact LeO.none _
   | refine LeO.ite ?_ ?_
   | refine LeO.bind ?_ (fun _ => ?_)
theorem corrieref19_Same.mono : ∀ a0 a1 k, LeO (corrieref19_Same.f k a0 a1) (corrieref19_Same.f (k + 1) a0 a1) := by
 intro a0 a1 k
 have ih0 := corrieref19_Same.mono_l k
 unfold corrieref19_Same.f
 repeat' first
   | (with_reducible exact ih0 _ _ _)
   | (with_reducible exact corrieref19_Equal.mono _ _ _ _ _ _ _ _ _ _ _ _ _ _ _ _ _ _ _ _ _ _ _ _ _ _ _)
   | (with_reducible exact LeO.refl _)
   | (with_reducible exact LeO.none _)
   | (with_reducible refine LeO.ite ?_ ?_)
   | (with_reducible refine LeO.bind ?_ (fun _ => ?_))
   | exact ih0 _ _ _
   | exact corrieref19_Equal.mono _ _ _ _ _ _ _ _ _ _ _ _ _ _ _ _ _ _ _ _ _ _ _ _ _ _ _
   | exact LeO.none _
   | refine LeO.ite ?_ ?_
   | refine LeO.bind ?_ (fun _ => ?_)
def corrieref19_Same.T6 : Bool × List (List Nat × List Nat) := (true, [([], []), ([], []), ([0, 1], [0, 1]), ([2], [2]), ([], []), ([], []), ([4, 5], [4, 5]), ([6], [6]), ([3, 7], [3, 7]), ([8], [8])])
def corrieref19_Same.B6 : List Nat := [0, 0, 3, 7, 0, 0, 48, 112, 255, 511]
theorem corrieref19_Same.tab6 : rtab .any (opsOf Try.f12 6) = corrieref19_Same.T6 := by kernel_rfl
theorem corrieref19_Same.bits6 : waitsOk corrieref19_Same.T6.2 corrieref19_Same.B6 = true := by kernel_rfl
set_option maxHeartbeats 8000000 in
set_option maxRecDepth 100000 in
theorem corrieref19_Same.calls (k : Nat) (A0 : Option Addr) (c0 : Nat) (l0 : List (S31)) (A1 : Option Addr) (c1 : Nat) (l1 : List (S31)) (r : Bool) (w : World) (hr0 : Kd.C k31 w A0 l0.length l0) (hc0 : l0.length ≤ c0) (hr1 : Kd.C k31 w A1 l1.length l1) (hc1 : l1.length ≤ c1) (h : corrieref19_Same.f k l0 l1 = some r) :
  Calls Try.prog 12 #[.slice A0 l0.length c0, .slice A1 l1.length c1] w fun e w' => e = .returned (.bool r) ∧ Below w.heap.size w w' := by
 have hu31 := Try.underlying31
 have HR0 := Aside0.mk hr0
 have HC0 := Aside0.mk hc0
 clear hr0 hc0
 have HR1 := Aside0.mk hr1
 have HC1 := Aside0.mk hc1
 clear hr1 hc1
 have HB := Aside0.mk (Below.refl w.heap.size w)
 have H : (if (l0.length : Int) = (l1.length : Int) then (corrieref19_Same.l0 k l0 l1 0) else (some false)) = some r := h
 clear h
 by_cases c3 : (l0.length : Int) = (l1.length : Int)
 ·rw [if_pos c3] at H
  have c3b0 : ((l0.length : Int) == (l1.length : Int)) = true := beq_iff_eq.mpr c3
  have c3b1 : ((l0.length : Int) != (l1.length : Int)) = false := bne_eq_false_iff_eq.mpr c3
  have c3b2 : (l0.length == l1.length) = true := by first | simpa using c3 | (simp at c3 ⊢; omega)
  clear c3
  have H' := Aside0.mk H
  clear H
  go_enter Try.func12, Try.ntmps12
  go_wp2
  go_loopg [5] k (fun kq v5 w' => ∃ (x5_1 : Int), v5 = .int .i64 x5_1 ∧ Aside0 (corrieref19_Same.l0 kq l0 l1 x5_1 = some r) ∧ Aside0 (kq ≤ k) ∧ Aside0 (Below w.heap.size w w'))
  case atStart => exact ⟨(0), (by first | rfl | (simp; done) | (simp [*]; done)), H', ⟨Nat.le_refl _⟩, ⟨by repeat (first | (with_reducible first | exact HB.out | apply below_alloc | apply pw_below_drewN | apply below_drew1) | exact HB.out)⟩⟩
  case round =>
   clear H'
   try clear c1
   try clear p2
   try clear c3
   try clear c3b0
   try clear c3b1
   try clear c3b2
   obtain ⟨x5_1, rfl, HA, HK1, HB⟩ := hrel
   cases gk with
   | zero => exact absurd HA.out (by simp [corrieref19_Same.l0])
   | succ k1 =>
    have H := HA.out
    clear HA
    simp only [corrieref19_Same.l0] at H
    by_cases c4 : x5_1 < (l0.length : Int)
    ·rw [if_pos c4] at H
     have c4b0 : decide (x5_1 < (l0.length : Int)) = true := decide_eq_true c4
     clear c4
     by_cases c5 : 0 ≤ x5_1
     ·rw [if_pos c5] at H
      have c5b0 : decide (0 ≤ x5_1) = true := decide_eq_true c5
      clear c5
      by_cases c6 : x5_1 < (l1.length : Int)
      ·rw [if_pos c6] at H
       have c6b0 : decide (x5_1 < (l1.length : Int)) = true := decide_eq_true c6
       clear c6
       replace H := Option.bind_eq_some_iff.mp H
       obtain ⟨t114, A70, H⟩ := H
       replace H : (if t114 = true then (corrieref19_Same.l0 k1 l0 l1 (wrap64 (x5_1 + 1))) else (some false)) = some r := H
       have A7 := Aside0.mk A70
       clear A70
       by_cases c8 : t114 = true
       ·subst c8
        have H1 : (corrieref19_Same.l0 k1 l0 l1 (wrap64 (x5_1 + 1))) = some r := by rw [if_pos rfl] at H; exact H
        clear H
        have H := H1
        clear H1
        have H' := Aside0.mk H
        clear H
        try go_wp2
        have n0_ := Aside0.mk (below_drew1 HB.out)
        clear HB
        have HB := n0_
        clear n0_
        have p112 : 0 ≤ (x5_1 : Int) := of_decide_eq_true (by first | (with_reducible assumption) | assumption)
        have q112 : x5_1 < (l0.length : Int) := of_decide_eq_true (by first | (with_reducible assumption) | assumption)
        obtain ⟨ad112, A112_12, c112_12, e112, hx112_0, hx112_1, hx112_2, hx112_3, hx112_4, hx112_5, hx112_6, hx112_7, hx112_8, hx112_9, hx112_10, hx112_11, hx112_12, hl112_12, hi112_12⟩ := at_T31 HR0.out x5_1 p112 q112
        have hw112_12 := hx112_12
        have hw112_11 := hx112_11
        have hw112_10 := hx112_10
        have hw112_9 := hx112_9
        have hw112_8 := hx112_8
        have hw112_7 := hx112_7
        have hw112_6 := hx112_6
        have hw112_5 := hx112_5
        have hw112_4 := hx112_4
        have hw112_3 := hx112_3
        have hw112_2 := hx112_2
        have hw112_1 := hx112_1
        have hw112_0 := hx112_0
        cases e112
        replace hx112_0 := (HB.out.cell (World.block_lt_of_cell? w _ hx112_0)).trans hx112_0
        replace hx112_1 := (HB.out.cell (World.block_lt_of_cell? w _ hx112_1)).trans hx112_1
        replace hx112_2 := (HB.out.cell (World.block_lt_of_cell? w _ hx112_2)).trans hx112_2
        replace hx112_3 := (HB.out.cell (World.block_lt_of_cell? w _ hx112_3)).trans hx112_3
        replace hx112_4 := (HB.out.cell (World.block_lt_of_cell? w _ hx112_4)).trans hx112_4
        replace hx112_5 := (HB.out.cell (World.block_lt_of_cell? w _ hx112_5)).trans hx112_5
        replace hx112_6 := (HB.out.cell (World.block_lt_of_cell? w _ hx112_6)).trans hx112_6
        replace hx112_7 := (HB.out.cell (World.block_lt_of_cell? w _ hx112_7)).trans hx112_7
        replace hx112_8 := (HB.out.cell (World.block_lt_of_cell? w _ hx112_8)).trans hx112_8
        replace hx112_9 := (HB.out.cell (World.block_lt_of_cell? w _ hx112_9)).trans hx112_9
        replace hx112_10 := (HB.out.cell (World.block_lt_of_cell? w _ hx112_10)).trans hx112_10
        replace hx112_11 := (HB.out.cell (World.block_lt_of_cell? w _ hx112_11)).trans hx112_11
        replace hx112_12 := (HB.out.cell (World.block_lt_of_cell? w _ hx112_12)).trans hx112_12
        have HR112_12 := Aside0.mk hi112_12
        have HC112_12 := Aside0.mk hl112_12
        clear hi112_12 hl112_12
        replace p112 := eq_true p112
        replace q112 := eq_true q112
        have p113 : 0 ≤ (x5_1 : Int) := of_decide_eq_true (by first | (with_reducible assumption) | assumption)
        have q113 : x5_1 < (l1.length : Int) := of_decide_eq_true (by first | (with_reducible assumption) | assumption)
        obtain ⟨ad113, A113_12, c113_12, e113, hx113_0, hx113_1, hx113_2, hx113_3, hx113_4, hx113_5, hx113_6, hx113_7, hx113_8, hx113_9, hx113_10, hx113_11, hx113_12, hl113_12, hi113_12⟩ := at_T31 HR1.out x5_1 p113 q113
        have hw113_12 := hx113_12
        have hw113_11 := hx113_11
        have hw113_10 := hx113_10
        have hw113_9 := hx113_9
        have hw113_8 := hx113_8
        have hw113_7 := hx113_7
        have hw113_6 := hx113_6
        have hw113_5 := hx113_5
        have hw113_4 := hx113_4
        have hw113_3 := hx113_3
        have hw113_2 := hx113_2
        have hw113_1 := hx113_1
        have hw113_0 := hx113_0
        cases e113
        replace hx113_0 := (HB.out.cell (World.block_lt_of_cell? w _ hx113_0)).trans hx113_0
        replace hx113_1 := (HB.out.cell (World.block_lt_of_cell? w _ hx113_1)).trans hx113_1
        replace hx113_2 := (HB.out.cell (World.block_lt_of_cell? w _ hx113_2)).trans hx113_2
        replace hx113_3 := (HB.out.cell (World.block_lt_of_cell? w _ hx113_3)).trans hx113_3
        replace hx113_4 := (HB.out.cell (World.block_lt_of_cell? w _ hx113_4)).trans hx113_4
        replace hx113_5 := (HB.out.cell (World.block_lt_of_cell? w _ hx113_5)).trans hx113_5
        replace hx113_6 := (HB.out.cell (World.block_lt_of_cell? w _ hx113_6)).trans hx113_6
        replace hx113_7 := (HB.out.cell (World.block_lt_of_cell? w _ hx113_7)).trans hx113_7
        replace hx113_8 := (HB.out.cell (World.block_lt_of_cell? w _ hx113_8)).trans hx113_8
        replace hx113_9 := (HB.out.cell (World.block_lt_of_cell? w _ hx113_9)).trans hx113_9
        replace hx113_10 := (HB.out.cell (World.block_lt_of_cell? w _ hx113_10)).trans hx113_10
        replace hx113_11 := (HB.out.cell (World.block_lt_of_cell? w _ hx113_11)).trans hx113_11
        replace hx113_12 := (HB.out.cell (World.block_lt_of_cell? w _ hx113_12)).trans hx113_12
        have HR113_12 := Aside0.mk hi113_12
        have HC113_12 := Aside0.mk hl113_12
        clear hi113_12 hl113_12
        replace p113 := eq_true p113
        replace q113 := eq_true q113
        refine start_ (n := 10) (S := fun w' => w'.cell? (ad112.add ((x5_1).toNat * 13)) = some (.int .i64 ((rd_T31 l0 x5_1).f0)) ∧ w'.cell? ⟨(ad112.add ((x5_1).toNat * 13)).block, (ad112.add ((x5_1).toNat * 13)).off + 1, none⟩ = some (.int .i64 ((rd_T31 l0 x5_1).f1)) ∧ w'.cell? ⟨(ad112.add ((x5_1).toNat * 13)).block, (ad112.add ((x5_1).toNat * 13)).off + 2, none⟩ = some (.int .i64 ((rd_T31 l0 x5_1).f2)) ∧ w'.cell? ⟨(ad112.add ((x5_1).toNat * 13)).block, (ad112.add ((x5_1).toNat * 13)).off + 3, none⟩ = some (.int .i64 ((rd_T31 l0 x5_1).f3)) ∧ w'.cell? ⟨(ad112.add ((x5_1).toNat * 13)).block, (ad112.add ((x5_1).toNat * 13)).off + 4, none⟩ = some (.int .i64 ((rd_T31 l0 x5_1).f4)) ∧ w'.cell? ⟨(ad112.add ((x5_1).toNat * 13)).block, (ad112.add ((x5_1).toNat * 13)).off + 5, none⟩ = some (.int .i64 ((rd_T31 l0 x5_1).f5.f0)) ∧ w'.cell? ⟨(ad112.add ((x5_1).toNat * 13)).block, (ad112.add ((x5_1).toNat * 13)).off + 6, none⟩ = some (.int .u64 ((rd_T31 l0 x5_1).f5.f1)) ∧ w'.cell? ⟨(ad112.add ((x5_1).toNat * 13)).block, (ad112.add ((x5_1).toNat * 13)).off + 7, none⟩ = some (.int .u64 ((rd_T31 l0 x5_1).f5.f2)) ∧ w'.cell? ⟨(ad112.add ((x5_1).toNat * 13)).block, (ad112.add ((x5_1).toNat * 13)).off + 8, none⟩ = some (.int .i64 ((rd_T31 l0 x5_1).f5.f3)) ∧ w'.cell? ⟨(ad112.add ((x5_1).toNat * 13)).block, (ad112.add ((x5_1).toNat * 13)).off + 9, none⟩ = some (.int .i64 ((rd_T31 l0 x5_1).f6.f0)) ∧ w'.cell? ⟨(ad112.add ((x5_1).toNat * 13)).block, (ad112.add ((x5_1).toNat * 13)).off + 10, none⟩ = some (.bool ((rd_T31 l0 x5_1).f6.f1)) ∧ w'.cell? ⟨(ad112.add ((x5_1).toNat * 13)).block, (ad112.add ((x5_1).toNat * 13)).off + 11, none⟩ = some (.int .u64 ((rd_T31 l0 x5_1).f6.f2)) ∧ w'.cell? ⟨(ad112.add ((x5_1).toNat * 13)).block, (ad112.add ((x5_1).toNat * 13)).off + 12, none⟩ = some (.slice A112_12 ((rd_T31 l0 x5_1).f6.f3).length c112_12) ∧ w'.cell? (ad113.add ((x5_1).toNat * 13)) = some (.int .i64 ((rd_T31 l1 x5_1).f0)) ∧ w'.cell? ⟨(ad113.add ((x5_1).toNat * 13)).block, (ad113.add ((x5_1).toNat * 13)).off + 1, none⟩ = some (.int .i64 ((rd_T31 l1 x5_1).f1)) ∧ w'.cell? ⟨(ad113.add ((x5_1).toNat * 13)).block, (ad113.add ((x5_1).toNat * 13)).off + 2, none⟩ = some (.int .i64 ((rd_T31 l1 x5_1).f2)) ∧ w'.cell? ⟨(ad113.add ((x5_1).toNat * 13)).block, (ad113.add ((x5_1).toNat * 13)).off + 3, none⟩ = some (.int .i64 ((rd_T31 l1 x5_1).f3)) ∧ w'.cell? ⟨(ad113.add ((x5_1).toNat * 13)).block, (ad113.add ((x5_1).toNat * 13)).off + 4, none⟩ = some (.int .i64 ((rd_T31 l1 x5_1).f4)) ∧ w'.cell? ⟨(ad113.add ((x5_1).toNat * 13)).block, (ad113.add ((x5_1).toNat * 13)).off + 5, none⟩ = some (.int .i64 ((rd_T31 l1 x5_1).f5.f0)) ∧ w'.cell? ⟨(ad113.add ((x5_1).toNat * 13)).block, (ad113.add ((x5_1).toNat * 13)).off + 6, none⟩ = some (.int .u64 ((rd_T31 l1 x5_1).f5.f1)) ∧ w'.cell? ⟨(ad113.add ((x5_1).toNat * 13)).block, (ad113.add ((x5_1).toNat * 13)).off + 7, none⟩ = some (.int .u64 ((rd_T31 l1 x5_1).f5.f2)) ∧ w'.cell? ⟨(ad113.add ((x5_1).toNat * 13)).block, (ad113.add ((x5_1).toNat * 13)).off + 8, none⟩ = some (.int .i64 ((rd_T31 l1 x5_1).f5.f3)) ∧ w'.cell? ⟨(ad113.add ((x5_1).toNat * 13)).block, (ad113.add ((x5_1).toNat * 13)).off + 9, none⟩ = some (.int .i64 ((rd_T31 l1 x5_1).f6.f0)) ∧ w'.cell? ⟨(ad113.add ((x5_1).toNat * 13)).block, (ad113.add ((x5_1).toNat * 13)).off + 10, none⟩ = some (.bool ((rd_T31 l1 x5_1).f6.f1)) ∧ w'.cell? ⟨(ad113.add ((x5_1).toNat * 13)).block, (ad113.add ((x5_1).toNat * 13)).off + 11, none⟩ = some (.int .u64 ((rd_T31 l1 x5_1).f6.f2)) ∧ w'.cell? ⟨(ad113.add ((x5_1).toNat * 13)).block, (ad113.add ((x5_1).toNat * 13)).off + 12, none⟩ = some (.slice A113_12 ((rd_T31 l1 x5_1).f6.f3).length c113_12)) (ds := []) #[false, false, false, false, false, false, false, false, false, false] (by kernel_rfl) rfl rfl ⟨((HB.out.cell (World.block_lt_of_cell? w _ hw112_0)).trans hw112_0), ((HB.out.cell (World.block_lt_of_cell? w _ hw112_1)).trans hw112_1), ((HB.out.cell (World.block_lt_of_cell? w _ hw112_2)).trans hw112_2), ((HB.out.cell (World.block_lt_of_cell? w _ hw112_3)).trans hw112_3), ((HB.out.cell (World.block_lt_of_cell? w _ hw112_4)).trans hw112_4), ((HB.out.cell (World.block_lt_of_cell? w _ hw112_5)).trans hw112_5), ((HB.out.cell (World.block_lt_of_cell? w _ hw112_6)).trans hw112_6), ((HB.out.cell (World.block_lt_of_cell? w _ hw112_7)).trans hw112_7), ((HB.out.cell (World.block_lt_of_cell? w _ hw112_8)).trans hw112_8), ((HB.out.cell (World.block_lt_of_cell? w _ hw112_9)).trans hw112_9), ((HB.out.cell (World.block_lt_of_cell? w _ hw112_10)).trans hw112_10), ((HB.out.cell (World.block_lt_of_cell? w _ hw112_11)).trans hw112_11), ((HB.out.cell (World.block_lt_of_cell? w _ hw112_12)).trans hw112_12), ((HB.out.cell (World.block_lt_of_cell? w _ hw113_0)).trans hw113_0), ((HB.out.cell (World.block_lt_of_cell? w _ hw113_1)).trans hw113_1), ((HB.out.cell (World.block_lt_of_cell? w _ hw113_2)).trans hw113_2), ((HB.out.cell (World.block_lt_of_cell? w _ hw113_3)).trans hw113_3), ((HB.out.cell (World.block_lt_of_cell? w _ hw113_4)).trans hw113_4), ((HB.out.cell (World.block_lt_of_cell? w _ hw113_5)).trans hw113_5), ((HB.out.cell (World.block_lt_of_cell? w _ hw113_6)).trans hw113_6), ((HB.out.cell (World.block_lt_of_cell? w _ hw113_7)).trans hw113_7), ((HB.out.cell (World.block_lt_of_cell? w _ hw113_8)).trans hw113_8), ((HB.out.cell (World.block_lt_of_cell? w _ hw113_9)).trans hw113_9), ((HB.out.cell (World.block_lt_of_cell? w _ hw113_10)).trans hw113_10), ((HB.out.cell (World.block_lt_of_cell? w _ hw113_11)).trans hw113_11), ((HB.out.cell (World.block_lt_of_cell? w _ hw113_12)).trans hw113_12)⟩ (fun hHeld => ?_); refine with_tabW corrieref19_Same.tab6 corrieref19_Same.bits6 (fun HT_ HW_ => ?_)
        generalize wr.drew = w9 at HB HR112_12 HR113_12 hx112_0 hx112_1 hx112_10 hx112_11 hx112_12 hx112_2 hx112_3 hx112_4 hx112_5 hx112_6 hx112_7 hx112_8 hx112_9 hx113_0 hx113_1 hx113_10 hx113_11 hx113_12 hx113_2 hx113_3 hx113_4 hx113_5 hx113_6 hx113_7 hx113_8 hx113_9 hHeld ⊢
        refine pure_ (i := 0) (N := some 17) (v := ?_) (a' := ?_) #[true, false, false, false, false, false, false, false, false, false] rfl rfl (any_of HT_.out (by kernel_rfl)) (fun _ _ _ h => h) (Or.inl ⟨by rfl, ?_⟩) ?_ ?_
        rotate_left
        ·intro w'
         go_simp
         with_reducible rfl
        rotate_left
        ·simp only [Act.put, List.setIfInBounds_toArray, List.set_cons_zero, List.set_cons_succ, i64_w, i32_w]
         rfl
        refine pure_ (i := 1) (N := some 18) (v := ?_) (a' := ?_) #[true, true, false, false, false, false, false, false, false, false] rfl rfl (any_of HT_.out (by kernel_rfl)) (fun _ _ _ h => h) (Or.inl ⟨by rfl, ?_⟩) ?_ ?_
        rotate_left
        ·intro w'
         go_simp
         with_reducible rfl
        rotate_left
        ·simp only [Act.put, List.setIfInBounds_toArray, List.set_cons_zero, List.set_cons_succ, i64_w, i32_w]
         rfl
        refine pure_ (i := 2) (N := some 19) (v := ?_) (a' := ?_) #[true, true, true, false, false, false, false, false, false, false] rfl rfl (any_of HT_.out (by kernel_rfl)) (fun _ _ _ h => h) (Or.inl ⟨by rfl, ?_⟩) ?_ ?_
        rotate_left
        ·intro w'
         go_simp
         with_reducible rfl
        rotate_left
        ·simp only [Act.put, List.setIfInBounds_toArray, List.set_cons_zero, List.set_cons_succ, i64_w, i32_w]
         rfl
        refine pure_ (i := 4) (N := some 21) (v := ?_) (a' := ?_) #[true, true, true, false, true, false, false, false, false, false] rfl rfl (any_of HT_.out (by kernel_rfl)) (fun _ _ _ h => h) (Or.inl ⟨by rfl, ?_⟩) ?_ ?_
        rotate_left
        ·intro w'
         go_simp
         with_reducible rfl
        rotate_left
        ·simp only [Act.put, List.setIfInBounds_toArray, List.set_cons_zero, List.set_cons_succ, i64_w, i32_w]
         rfl
        refine pure_ (i := 5) (N := some 22) (v := ?_) (a' := ?_) #[true, true, true, false, true, true, false, false, false, false] rfl rfl (any_of HT_.out (by kernel_rfl)) (fun _ _ _ h => h) (Or.inl ⟨by rfl, ?_⟩) ?_ ?_
        rotate_left
        ·intro w'
         go_simp
         with_reducible rfl
        rotate_left
        ·simp only [Act.put, List.setIfInBounds_toArray, List.set_cons_zero, List.set_cons_succ, i64_w, i32_w]
         rfl
        refine pure_ (i := 6) (N := some 23) (v := ?_) (a' := ?_) #[true, true, true, false, true, true, true, false, false, false] rfl rfl (any_of HT_.out (by kernel_rfl)) (fun _ _ _ h => h) (Or.inl ⟨by rfl, ?_⟩) ?_ ?_
        rotate_left
        ·intro w'
         go_simp
         with_reducible rfl
        rotate_left
        ·simp only [Act.put, List.setIfInBounds_toArray, List.set_cons_zero, List.set_cons_succ, i64_w, i32_w]
         rfl
        refine take_ (i := 3) (N := some 20) (v := ?_) (a' := ?_) #[true, true, true, true, true, true, true, false, false, false] rfl rfl (take_ofW HT_.out HW_.out (by kernel_rfl)) (fun _ _ _ h => h) (Or.inl ⟨by rfl, ?_⟩) hHeld ?_ ?_
        rotate_left
        ·rintro w' ⟨s0, s1, s2, s3, s4, s5, s6, s7, s8, s9, s10, s11, s12, s13, s14, s15, s16, s17, s18, s19, s20, s21, s22, s23, s24, s25⟩
         go_simp
         with_reducible rfl
        rotate_left
        ·simp only [Act.put, List.setIfInBounds_toArray, List.set_cons_zero, List.set_cons_succ, i64_w, i32_w]
         rfl
        refine take_ (i := 7) (N := some 24) (v := ?_) (a' := ?_) #[true, true, true, true, true, true, true, true, false, false] rfl rfl (take_ofW HT_.out HW_.out (by kernel_rfl)) (fun _ _ _ h => h) (Or.inl ⟨by rfl, ?_⟩) hHeld ?_ ?_
        rotate_left
        ·rintro w' ⟨s0, s1, s2, s3, s4, s5, s6, s7, s8, s9, s10, s11, s12, s13, s14, s15, s16, s17, s18, s19, s20, s21, s22, s23, s24, s25⟩
         go_simp
         with_reducible rfl
        rotate_left
        ·simp only [Act.put, List.setIfInBounds_toArray, List.set_cons_zero, List.set_cons_succ, i64_w, i32_w]
         rfl
        refine one_ (i := 8) (N := some 25) #[true, true, true, true, true, true, true, true, true, false] rfl rfl (one_of HT_.out (by kernel_rfl)) (by decide) (fun K hK => ?_)
        refine goes_ Try.func23 (by kernel_rfl) rfl #[.agg #[.int .i64 ((rd_T31 l0 x5_1).f0), .int .i64 ((rd_T31 l0 x5_1).f1), .int .i64 ((rd_T31 l0 x5_1).f2), .int .i64 ((rd_T31 l0 x5_1).f3), .int .i64 ((rd_T31 l0 x5_1).f4), .int .i64 ((rd_T31 l0 x5_1).f5.f0), .int .u64 ((rd_T31 l0 x5_1).f5.f1), .int .u64 ((rd_T31 l0 x5_1).f5.f2), .int .i64 ((rd_T31 l0 x5_1).f5.f3), .int .i64 ((rd_T31 l0 x5_1).f6.f0), .bool ((rd_T31 l0 x5_1).f6.f1), .int .u64 ((rd_T31 l0 x5_1).f6.f2), .slice A112_12 ((rd_T31 l0 x5_1).f6.f3).length c112_12], .agg #[.int .i64 ((rd_T31 l1 x5_1).f0), .int .i64 ((rd_T31 l1 x5_1).f1), .int .i64 ((rd_T31 l1 x5_1).f2), .int .i64 ((rd_T31 l1 x5_1).f3), .int .i64 ((rd_T31 l1 x5_1).f4), .int .i64 ((rd_T31 l1 x5_1).f5.f0), .int .u64 ((rd_T31 l1 x5_1).f5.f1), .int .u64 ((rd_T31 l1 x5_1).f5.f2), .int .i64 ((rd_T31 l1 x5_1).f5.f3), .int .i64 ((rd_T31 l1 x5_1).f6.f0), .bool ((rd_T31 l1 x5_1).f6.f1), .int .u64 ((rd_T31 l1 x5_1).f6.f2), .slice A113_12 ((rd_T31 l1 x5_1).f6.f3).length c113_12]] (by rfl) rfl rfl (by (try simp only [List.map_toArray, List.map_cons, List.map_nil]); first | done | rfl | (simp only [List.length_drop, List.length_take]; rfl)) ?_
        with_reducible refine (corrieref19_Equal.calls k1 ((rd_T31 l0 x5_1).f0) ((rd_T31 l0 x5_1).f1) ((rd_T31 l0 x5_1).f2) ((rd_T31 l0 x5_1).f3) ((rd_T31 l0 x5_1).f4) ((rd_T31 l0 x5_1).f5.f0) ((rd_T31 l0 x5_1).f5.f1) ((rd_T31 l0 x5_1).f5.f2) ((rd_T31 l0 x5_1).f5.f3) ((rd_T31 l0 x5_1).f6.f0) ((rd_T31 l0 x5_1).f6.f1) ((rd_T31 l0 x5_1).f6.f2) _ _ ((rd_T31 l0 x5_1).f6.f3) ((rd_T31 l1 x5_1).f0) ((rd_T31 l1 x5_1).f1) ((rd_T31 l1 x5_1).f2) ((rd_T31 l1 x5_1).f3) ((rd_T31 l1 x5_1).f4) ((rd_T31 l1 x5_1).f5.f0) ((rd_T31 l1 x5_1).f5.f1) ((rd_T31 l1 x5_1).f5.f2) ((rd_T31 l1 x5_1).f5.f3) ((rd_T31 l1 x5_1).f6.f0) ((rd_T31 l1 x5_1).f6.f1) ((rd_T31 l1 x5_1).f6.f2) _ _ ((rd_T31 l1 x5_1).f6.f3) true _ ?side1 ?side2 ?side3 ?side4 A7.out).mono ?_
        (case side1 => repeat (first | exact (Kd.C_below HR112_12.out HB.out) | (with_reducible refine Kd.C_alloc ?_ _) | (with_reducible refine Kd.C_drewN ?_ _) | (with_reducible refine Kd.C_drew ?_)))
        (case side2 => exact HC112_12.out)
        (case side3 => repeat (first | exact (Kd.C_below HR113_12.out HB.out) | (with_reducible refine Kd.C_alloc ?_ _) | (with_reducible refine Kd.C_drewN ?_ _) | (with_reducible refine Kd.C_drew ?_)))
        (case side4 => exact HC113_12.out)
        rintro e w10 ⟨rfl, hb⟩
        refine ⟨_, rfl, ?_⟩
        have n0_ := Aside0.mk (below_step (by repeat (first | (with_reducible first | exact HB.out | apply below_alloc | apply pw_below_drewN | apply below_drew1) | exact HB.out)) hb)
        clear HB
        have HB := n0_
        clear n0_
        (try clear hb)
        (try clear hb2)
        (try clear hk)
        (try clear hi)
        refine hK.out _ _ ⟨((HB.out.cell (World.block_lt_of_cell? w _ hw112_0)).trans hw112_0), ((HB.out.cell (World.block_lt_of_cell? w _ hw112_1)).trans hw112_1), ((HB.out.cell (World.block_lt_of_cell? w _ hw112_2)).trans hw112_2), ((HB.out.cell (World.block_lt_of_cell? w _ hw112_3)).trans hw112_3), ((HB.out.cell (World.block_lt_of_cell? w _ hw112_4)).trans hw112_4), ((HB.out.cell (World.block_lt_of_cell? w _ hw112_5)).trans hw112_5), ((HB.out.cell (World.block_lt_of_cell? w _ hw112_6)).trans hw112_6), ((HB.out.cell (World.block_lt_of_cell? w _ hw112_7)).trans hw112_7), ((HB.out.cell (World.block_lt_of_cell? w _ hw112_8)).trans hw112_8), ((HB.out.cell (World.block_lt_of_cell? w _ hw112_9)).trans hw112_9), ((HB.out.cell (World.block_lt_of_cell? w _ hw112_10)).trans hw112_10), ((HB.out.cell (World.block_lt_of_cell? w _ hw112_11)).trans hw112_11), ((HB.out.cell (World.block_lt_of_cell? w _ hw112_12)).trans hw112_12), ((HB.out.cell (World.block_lt_of_cell? w _ hw113_0)).trans hw113_0), ((HB.out.cell (World.block_lt_of_cell? w _ hw113_1)).trans hw113_1), ((HB.out.cell (World.block_lt_of_cell? w _ hw113_2)).trans hw113_2), ((HB.out.cell (World.block_lt_of_cell? w _ hw113_3)).trans hw113_3), ((HB.out.cell (World.block_lt_of_cell? w _ hw113_4)).trans hw113_4), ((HB.out.cell (World.block_lt_of_cell? w _ hw113_5)).trans hw113_5), ((HB.out.cell (World.block_lt_of_cell? w _ hw113_6)).trans hw113_6), ((HB.out.cell (World.block_lt_of_cell? w _ hw113_7)).trans hw113_7), ((HB.out.cell (World.block_lt_of_cell? w _ hw113_8)).trans hw113_8), ((HB.out.cell (World.block_lt_of_cell? w _ hw113_9)).trans hw113_9), ((HB.out.cell (World.block_lt_of_cell? w _ hw113_10)).trans hw113_10), ((HB.out.cell (World.block_lt_of_cell? w _ hw113_11)).trans hw113_11), ((HB.out.cell (World.block_lt_of_cell? w _ hw113_12)).trans hw113_12)⟩ (fun hHeld => ?_)
        clear hK K
        refine norm_ (a' := ?_) ?_ ?_
        rotate_left
        ·show Act.put _ (some 25) _ = _
         simp only [Act.put, List.setIfInBounds_toArray, List.set_cons_zero, List.set_cons_succ, i64_w, i32_w]
         rfl
        refine pure_ (i := 9) (N := some 26) (v := ?_) (a' := ?_) #[true, true, true, true, true, true, true, true, true, true] rfl rfl (any_of HT_.out (by kernel_rfl)) (fun _ _ _ h => h) (Or.inl ⟨by rfl, ?_⟩) ?_ ?_
        rotate_left
        ·intro w'
         go_simp
         with_reducible rfl
        rotate_left
        ·simp only [Act.put, List.setIfInBounds_toArray, List.set_cons_zero, List.set_cons_succ, i64_w, i32_w]
         rfl
        refine done_ (done_of HT_.out (by kernel_rfl)) ?_
        try go_wp2
        go_roundg k1
        case measure => have := HK1.out; omega
        case rel => exact ⟨(wrap64 (x5_1 + 1)), (by first | rfl | (simp; done) | (simp [*]; done)), H', ⟨by have := HK1.out; omega⟩, ⟨by repeat (first | (with_reducible first | exact HB.out | apply below_alloc | apply pw_below_drewN | apply below_drew1) | exact HB.out)⟩⟩
       ·replace c8 := Bool.eq_false_iff.mpr c8
        subst c8
        have H1 : (some false) = some r := by rw [if_neg (show ¬ (false = true) by decide)] at H; exact H
        clear H
        have H := H1
        clear H1
        obtain rfl := Option.some.inj H
        try go_wp2
        have n0_ := Aside0.mk (below_drew1 HB.out)
        clear HB
        have HB := n0_
        clear n0_
        have p112 : 0 ≤ (x5_1 : Int) := of_decide_eq_true (by first | (with_reducible assumption) | assumption)
        have q112 : x5_1 < (l0.length : Int) := of_decide_eq_true (by first | (with_reducible assumption) | assumption)
        obtain ⟨ad112, A112_12, c112_12, e112, hx112_0, hx112_1, hx112_2, hx112_3, hx112_4, hx112_5, hx112_6, hx112_7, hx112_8, hx112_9, hx112_10, hx112_11, hx112_12, hl112_12, hi112_12⟩ := at_T31 HR0.out x5_1 p112 q112
        have hw112_12 := hx112_12
        have hw112_11 := hx112_11
        have hw112_10 := hx112_10
        have hw112_9 := hx112_9
        have hw112_8 := hx112_8
        have hw112_7 := hx112_7
        have hw112_6 := hx112_6
        have hw112_5 := hx112_5
        have hw112_4 := hx112_4
        have hw112_3 := hx112_3
        have hw112_2 := hx112_2
        have hw112_1 := hx112_1
        have hw112_0 := hx112_0
        cases e112
        replace hx112_0 := (HB.out.cell (World.block_lt_of_cell? w _ hx112_0)).trans hx112_0
        replace hx112_1 := (HB.out.cell (World.block_lt_of_cell? w _ hx112_1)).trans hx112_1
        replace hx112_2 := (HB.out.cell (World.block_lt_of_cell? w _ hx112_2)).trans hx112_2
        replace hx112_3 := (HB.out.cell (World.block_lt_of_cell? w _ hx112_3)).trans hx112_3
        replace hx112_4 := (HB.out.cell (World.block_lt_of_cell? w _ hx112_4)).trans hx112_4
        replace hx112_5 := (HB.out.cell (World.block_lt_of_cell? w _ hx112_5)).trans hx112_5
        replace hx112_6 := (HB.out.cell (World.block_lt_of_cell? w _ hx112_6)).trans hx112_6
        replace hx112_7 := (HB.out.cell (World.block_lt_of_cell? w _ hx112_7)).trans hx112_7
        replace hx112_8 := (HB.out.cell (World.block_lt_of_cell? w _ hx112_8)).trans hx112_8
        replace hx112_9 := (HB.out.cell (World.block_lt_of_cell? w _ hx112_9)).trans hx112_9
        replace hx112_10 := (HB.out.cell (World.block_lt_of_cell? w _ hx112_10)).trans hx112_10
        replace hx112_11 := (HB.out.cell (World.block_lt_of_cell? w _ hx112_11)).trans hx112_11
        replace hx112_12 := (HB.out.cell (World.block_lt_of_cell? w _ hx112_12)).trans hx112_12
        have HR112_12 := Aside0.mk hi112_12
        have HC112_12 := Aside0.mk hl112_12
        clear hi112_12 hl112_12
        replace p112 := eq_true p112
        replace q112 := eq_true q112
        have p113 : 0 ≤ (x5_1 : Int) := of_decide_eq_true (by first | (with_reducible assumption) | assumption)
        have q113 : x5_1 < (l1.length : Int) := of_decide_eq_true (by first | (with_reducible assumption) | assumption)
        obtain ⟨ad113, A113_12, c113_12, e113, hx113_0, hx113_1, hx113_2, hx113_3, hx113_4, hx113_5, hx113_6, hx113_7, hx113_8, hx113_9, hx113_10, hx113_11, hx113_12, hl113_12, hi113_12⟩ := at_T31 HR1.out x5_1 p113 q113
        have hw113_12 := hx113_12
        have hw113_11 := hx113_11
        have hw113_10 := hx113_10
        have hw113_9 := hx113_9
        have hw113_8 := hx113_8
        have hw113_7 := hx113_7
        have hw113_6 := hx113_6
        have hw113_5 := hx113_5
        have hw113_4 := hx113_4
        have hw113_3 := hx113_3
        have hw113_2 := hx113_2
        have hw113_1 := hx113_1
        have hw113_0 := hx113_0
        cases e113
        replace hx113_0 := (HB.out.cell (World.block_lt_of_cell? w _ hx113_0)).trans hx113_0
        replace hx113_1 := (HB.out.cell (World.block_lt_of_cell? w _ hx113_1)).trans hx113_1
        replace hx113_2 := (HB.out.cell (World.block_lt_of_cell? w _ hx113_2)).trans hx113_2
        replace hx113_3 := (HB.out.cell (World.block_lt_of_cell? w _ hx113_3)).trans hx113_3
        replace hx113_4 := (HB.out.cell (World.block_lt_of_cell? w _ hx113_4)).trans hx113_4
        replace hx113_5 := (HB.out.cell (World.block_lt_of_cell? w _ hx113_5)).trans hx113_5
        replace hx113_6 := (HB.out.cell (World.block_lt_of_cell? w _ hx113_6)).trans hx113_6
        replace hx113_7 := (HB.out.cell (World.block_lt_of_cell? w _ hx113_7)).trans hx113_7
        replace hx113_8 := (HB.out.cell (World.block_lt_of_cell? w _ hx113_8)).trans hx113_8
        replace hx113_9 := (HB.out.cell (World.block_lt_of_cell? w _ hx113_9)).trans hx113_9
        replace hx113_10 := (HB.out.cell (World.block_lt_of_cell? w _ hx113_10)).trans hx113_10
        replace hx113_11 := (HB.out.cell (World.block_lt_of_cell? w _ hx113_11)).trans hx113_11
        replace hx113_12 := (HB.out.cell (World.block_lt_of_cell? w _ hx113_12)).trans hx113_12
        have HR113_12 := Aside0.mk hi113_12
        have HC113_12 := Aside0.mk hl113_12
        clear hi113_12 hl113_12
        replace p113 := eq_true p113
        replace q113 := eq_true q113
        refine start_ (n := 10) (S := fun w' => w'.cell? (ad112.add ((x5_1).toNat * 13)) = some (.int .i64 ((rd_T31 l0 x5_1).f0)) ∧ w'.cell? ⟨(ad112.add ((x5_1).toNat * 13)).block, (ad112.add ((x5_1).toNat * 13)).off + 1, none⟩ = some (.int .i64 ((rd_T31 l0 x5_1).f1)) ∧ w'.cell? ⟨(ad112.add ((x5_1).toNat * 13)).block, (ad112.add ((x5_1).toNat * 13)).off + 2, none⟩ = some (.int .i64 ((rd_T31 l0 x5_1).f2)) ∧ w'.cell? ⟨(ad112.add ((x5_1).toNat * 13)).block, (ad112.add ((x5_1).toNat * 13)).off + 3, none⟩ = some (.int .i64 ((rd_T31 l0 x5_1).f3)) ∧ w'.cell? ⟨(ad112.add ((x5_1).toNat * 13)).block, (ad112.add ((x5_1).toNat * 13)).off + 4, none⟩ = some (.int .i64 ((rd_T31 l0 x5_1).f4)) ∧ w'.cell? ⟨(ad112.add ((x5_1).toNat * 13)).block, (ad112.add ((x5_1).toNat * 13)).off + 5, none⟩ = some (.int .i64 ((rd_T31 l0 x5_1).f5.f0)) ∧ w'.cell? ⟨(ad112.add ((x5_1).toNat * 13)).block, (ad112.add ((x5_1).toNat * 13)).off + 6, none⟩ = some (.int .u64 ((rd_T31 l0 x5_1).f5.f1)) ∧ w'.cell? ⟨(ad112.add ((x5_1).toNat * 13)).block, (ad112.add ((x5_1).toNat * 13)).off + 7, none⟩ = some (.int .u64 ((rd_T31 l0 x5_1).f5.f2)) ∧ w'.cell? ⟨(ad112.add ((x5_1).toNat * 13)).block, (ad112.add ((x5_1).toNat * 13)).off + 8, none⟩ = some (.int .i64 ((rd_T31 l0 x5_1).f5.f3)) ∧ w'.cell? ⟨(ad112.add ((x5_1).toNat * 13)).block, (ad112.add ((x5_1).toNat * 13)).off + 9, none⟩ = some (.int .i64 ((rd_T31 l0 x5_1).f6.f0)) ∧ w'.cell? ⟨(ad112.add ((x5_1).toNat * 13)).block, (ad112.add ((x5_1).toNat * 13)).off + 10, none⟩ = some (.bool ((rd_T31 l0 x5_1).f6.f1)) ∧ w'.cell? ⟨(ad112.add ((x5_1).toNat * 13)).block, (ad112.add ((x5_1).toNat * 13)).off + 11, none⟩ = some (.int .u64 ((rd_T31 l0 x5_1).f6.f2)) ∧ w'.cell? ⟨(ad112.add ((x5_1).toNat * 13)).block, (ad112.add ((x5_1).toNat * 13)).off + 12, none⟩ = some (.slice A112_12 ((rd_T31 l0 x5_1).f6.f3).length c112_12) ∧ w'.cell? (ad113.add ((x5_1).toNat * 13)) = some (.int .i64 ((rd_T31 l1 x5_1).f0)) ∧ w'.cell? ⟨(ad113.add ((x5_1).toNat * 13)).block, (ad113.add ((x5_1).toNat * 13)).off + 1, none⟩ = some (.int .i64 ((rd_T31 l1 x5_1).f1)) ∧ w'.cell? ⟨(ad113.add ((x5_1).toNat * 13)).block, (ad113.add ((x5_1).toNat * 13)).off + 2, none⟩ = some (.int .i64 ((rd_T31 l1 x5_1).f2)) ∧ w'.cell? ⟨(ad113.add ((x5_1).toNat * 13)).block, (ad113.add ((x5_1).toNat * 13)).off + 3, none⟩ = some (.int .i64 ((rd_T31 l1 x5_1).f3)) ∧ w'.cell? ⟨(ad113.add ((x5_1).toNat * 13)).block, (ad113.add ((x5_1).toNat * 13)).off + 4, none⟩ = some (.int .i64 ((rd_T31 l1 x5_1).f4)) ∧ w'.cell? ⟨(ad113.add ((x5_1).toNat * 13)).block, (ad113.add ((x5_1).toNat * 13)).off + 5, none⟩ = some (.int .i64 ((rd_T31 l1 x5_1).f5.f0)) ∧ w'.cell? ⟨(ad113.add ((x5_1).toNat * 13)).block, (ad113.add ((x5_1).toNat * 13)).off + 6, none⟩ = some (.int .u64 ((rd_T31 l1 x5_1).f5.f1)) ∧ w'.cell? ⟨(ad113.add ((x5_1).toNat * 13)).block, (ad113.add ((x5_1).toNat * 13)).off + 7, none⟩ = some (.int .u64 ((rd_T31 l1 x5_1).f5.f2)) ∧ w'.cell? ⟨(ad113.add ((x5_1).toNat * 13)).block, (ad113.add ((x5_1).toNat * 13)).off + 8, none⟩ = some (.int .i64 ((rd_T31 l1 x5_1).f5.f3)) ∧ w'.cell? ⟨(ad113.add ((x5_1).toNat * 13)).block, (ad113.add ((x5_1).toNat * 13)).off + 9, none⟩ = some (.int .i64 ((rd_T31 l1 x5_1).f6.f0)) ∧ w'.cell? ⟨(ad113.add ((x5_1).toNat * 13)).block, (ad113.add ((x5_1).toNat * 13)).off + 10, none⟩ = some (.bool ((rd_T31 l1 x5_1).f6.f1)) ∧ w'.cell? ⟨(ad113.add ((x5_1).toNat * 13)).block, (ad113.add ((x5_1).toNat * 13)).off + 11, none⟩ = some (.int .u64 ((rd_T31 l1 x5_1).f6.f2)) ∧ w'.cell? ⟨(ad113.add ((x5_1).toNat * 13)).block, (ad113.add ((x5_1).toNat * 13)).off + 12, none⟩ = some (.slice A113_12 ((rd_T31 l1 x5_1).f6.f3).length c113_12)) (ds := []) #[false, false, false, false, false, false, false, false, false, false] (by kernel_rfl) rfl rfl ⟨((HB.out.cell (World.block_lt_of_cell? w _ hw112_0)).trans hw112_0), ((HB.out.cell (World.block_lt_of_cell? w _ hw112_1)).trans hw112_1), ((HB.out.cell (World.block_lt_of_cell? w _ hw112_2)).trans hw112_2), ((HB.out.cell (World.block_lt_of_cell? w _ hw112_3)).trans hw112_3), ((HB.out.cell (World.block_lt_of_cell? w _ hw112_4)).trans hw112_4), ((HB.out.cell (World.block_lt_of_cell? w _ hw112_5)).trans hw112_5), ((HB.out.cell (World.block_lt_of_cell? w _ hw112_6)).trans hw112_6), ((HB.out.cell (World.block_lt_of_cell? w _ hw112_7)).trans hw112_7), ((HB.out.cell (World.block_lt_of_cell? w _ hw112_8)).trans hw112_8), ((HB.out.cell (World.block_lt_of_cell? w _ hw112_9)).trans hw112_9), ((HB.out.cell (World.block_lt_of_cell? w _ hw112_10)).trans hw112_10), ((HB.out.cell (World.block_lt_of_cell? w _ hw112_11)).trans hw112_11), ((HB.out.cell (World.block_lt_of_cell? w _ hw112_12)).trans hw112_12), ((HB.out.cell (World.block_lt_of_cell? w _ hw113_0)).trans hw113_0), ((HB.out.cell (World.block_lt_of_cell? w _ hw113_1)).trans hw113_1), ((HB.out.cell (World.block_lt_of_cell? w _ hw113_2)).trans hw113_2), ((HB.out.cell (World.block_lt_of_cell? w _ hw113_3)).trans hw113_3), ((HB.out.cell (World.block_lt_of_cell? w _ hw113_4)).trans hw113_4), ((HB.out.cell (World.block_lt_of_cell? w _ hw113_5)).trans hw113_5), ((HB.out.cell (World.block_lt_of_cell? w _ hw113_6)).trans hw113_6), ((HB.out.cell (World.block_lt_of_cell? w _ hw113_7)).trans hw113_7), ((HB.out.cell (World.block_lt_of_cell? w _ hw113_8)).trans hw113_8), ((HB.out.cell (World.block_lt_of_cell? w _ hw113_9)).trans hw113_9), ((HB.out.cell (World.block_lt_of_cell? w _ hw113_10)).trans hw113_10), ((HB.out.cell (World.block_lt_of_cell? w _ hw113_11)).trans hw113_11), ((HB.out.cell (World.block_lt_of_cell? w _ hw113_12)).trans hw113_12)⟩ (fun hHeld => ?_); refine with_tabW corrieref19_Same.tab6 corrieref19_Same.bits6 (fun HT_ HW_ => ?_)
        generalize wr.drew = w11 at HB HR112_12 HR113_12 hx112_0 hx112_1 hx112_10 hx112_11 hx112_12 hx112_2 hx112_3 hx112_4 hx112_5 hx112_6 hx112_7 hx112_8 hx112_9 hx113_0 hx113_1 hx113_10 hx113_11 hx113_12 hx113_2 hx113_3 hx113_4 hx113_5 hx113_6 hx113_7 hx113_8 hx113_9 hHeld ⊢
        refine pure_ (i := 0) (N := some 17) (v := ?_) (a' := ?_) #[true, false, false, false, false, false, false, false, false, false] rfl rfl (any_of HT_.out (by kernel_rfl)) (fun _ _ _ h => h) (Or.inl ⟨by rfl, ?_⟩) ?_ ?_
        rotate_left
        ·intro w'
         go_simp
         with_reducible rfl
        rotate_left
        ·simp only [Act.put, List.setIfInBounds_toArray, List.set_cons_zero, List.set_cons_succ, i64_w, i32_w]
         rfl
        refine pure_ (i := 1) (N := some 18) (v := ?_) (a' := ?_) #[true, true, false, false, false, false, false, false, false, false] rfl rfl (any_of HT_.out (by kernel_rfl)) (fun _ _ _ h => h) (Or.inl ⟨by rfl, ?_⟩) ?_ ?_
        rotate_left
        ·intro w'
         go_simp
         with_reducible rfl
        rotate_left
        ·simp only [Act.put, List.setIfInBounds_toArray, List.set_cons_zero, List.set_cons_succ, i64_w, i32_w]
         rfl
        refine pure_ (i := 2) (N := some 19) (v := ?_) (a' := ?_) #[true, true, true, false, false, false, false, false, false, false] rfl rfl (any_of HT_.out (by kernel_rfl)) (fun _ _ _ h => h) (Or.inl ⟨by rfl, ?_⟩) ?_ ?_
        rotate_left
        ·intro w'
         go_simp
         with_reducible rfl
        rotate_left
        ·simp only [Act.put, List.setIfInBounds_toArray, List.set_cons_zero, List.set_cons_succ, i64_w, i32_w]
         rfl
        refine pure_ (i := 4) (N := some 21) (v := ?_) (a' := ?_) #[true, true, true, false, true, false, false, false, false, false] rfl rfl (any_of HT_.out (by kernel_rfl)) (fun _ _ _ h => h) (Or.inl ⟨by rfl, ?_⟩) ?_ ?_
        rotate_left
        ·intro w'
         go_simp
         with_reducible rfl
        rotate_left
        ·simp only [Act.put, List.setIfInBounds_toArray, List.set_cons_zero, List.set_cons_succ, i64_w, i32_w]
         rfl
        refine pure_ (i := 5) (N := some 22) (v := ?_) (a' := ?_) #[true, true, true, false, true, true, false, false, false, false] rfl rfl (any_of HT_.out (by kernel_rfl)) (fun _ _ _ h => h) (Or.inl ⟨by rfl, ?_⟩) ?_ ?_
        rotate_left
        ·intro w'
         go_simp
         with_reducible rfl
        rotate_left
        ·simp only [Act.put, List.setIfInBounds_toArray, List.set_cons_zero, List.set_cons_succ, i64_w, i32_w]
         rfl
        refine pure_ (i := 6) (N := some 23) (v := ?_) (a' := ?_) #[true, true, true, false, true, true, true, false, false, false] rfl rfl (any_of HT_.out (by kernel_rfl)) (fun _ _ _ h => h) (Or.inl ⟨by rfl, ?_⟩) ?_ ?_
        rotate_left
        ·intro w'
         go_simp
         with_reducible rfl
        rotate_left
        ·simp only [Act.put, List.setIfInBounds_toArray, List.set_cons_zero, List.set_cons_succ, i64_w, i32_w]
         rfl
        refine take_ (i := 3) (N := some 20) (v := ?_) (a' := ?_) #[true, true, true, true, true, true, true, false, false, false] rfl rfl (take_ofW HT_.out HW_.out (by kernel_rfl)) (fun _ _ _ h => h) (Or.inl ⟨by rfl, ?_⟩) hHeld ?_ ?_
        rotate_left
        ·rintro w' ⟨s0, s1, s2, s3, s4, s5, s6, s7, s8, s9, s10, s11, s12, s13, s14, s15, s16, s17, s18, s19, s20, s21, s22, s23, s24, s25⟩
         go_simp
         with_reducible rfl
        rotate_left
        ·simp only [Act.put, List.setIfInBounds_toArray, List.set_cons_zero, List.set_cons_succ, i64_w, i32_w]
         rfl
        refine take_ (i := 7) (N := some 24) (v := ?_) (a' := ?_) #[true, true, true, true, true, true, true, true, false, false] rfl rfl (take_ofW HT_.out HW_.out (by kernel_rfl)) (fun _ _ _ h => h) (Or.inl ⟨by rfl, ?_⟩) hHeld ?_ ?_
        rotate_left
        ·rintro w' ⟨s0, s1, s2, s3, s4, s5, s6, s7, s8, s9, s10, s11, s12, s13, s14, s15, s16, s17, s18, s19, s20, s21, s22, s23, s24, s25⟩
         go_simp
         with_reducible rfl
        rotate_left
        ·simp only [Act.put, List.setIfInBounds_toArray, List.set_cons_zero, List.set_cons_succ, i64_w, i32_w]
         rfl
        refine one_ (i := 8) (N := some 25) #[true, true, true, true, true, true, true, true, true, false] rfl rfl (one_of HT_.out (by kernel_rfl)) (by decide) (fun K hK => ?_)
        refine goes_ Try.func23 (by kernel_rfl) rfl #[.agg #[.int .i64 ((rd_T31 l0 x5_1).f0), .int .i64 ((rd_T31 l0 x5_1).f1), .int .i64 ((rd_T31 l0 x5_1).f2), .int .i64 ((rd_T31 l0 x5_1).f3), .int .i64 ((rd_T31 l0 x5_1).f4), .int .i64 ((rd_T31 l0 x5_1).f5.f0), .int .u64 ((rd_T31 l0 x5_1).f5.f1), .int .u64 ((rd_T31 l0 x5_1).f5.f2), .int .i64 ((rd_T31 l0 x5_1).f5.f3), .int .i64 ((rd_T31 l0 x5_1).f6.f0), .bool ((rd_T31 l0 x5_1).f6.f1), .int .u64 ((rd_T31 l0 x5_1).f6.f2), .slice A112_12 ((rd_T31 l0 x5_1).f6.f3).length c112_12], .agg #[.int .i64 ((rd_T31 l1 x5_1).f0), .int .i64 ((rd_T31 l1 x5_1).f1), .int .i64 ((rd_T31 l1 x5_1).f2), .int .i64 ((rd_T31 l1 x5_1).f3), .int .i64 ((rd_T31 l1 x5_1).f4), .int .i64 ((rd_T31 l1 x5_1).f5.f0), .int .u64 ((rd_T31 l1 x5_1).f5.f1), .int .u64 ((rd_T31 l1 x5_1).f5.f2), .int .i64 ((rd_T31 l1 x5_1).f5.f3), .int .i64 ((rd_T31 l1 x5_1).f6.f0), .bool ((rd_T31 l1 x5_1).f6.f1), .int .u64 ((rd_T31 l1 x5_1).f6.f2), .slice A113_12 ((rd_T31 l1 x5_1).f6.f3).length c113_12]] (by rfl) rfl rfl (by (try simp only [List.map_toArray, List.map_cons, List.map_nil]); first | done | rfl | (simp only [List.length_drop, List.length_take]; rfl)) ?_
        with_reducible refine (corrieref19_Equal.calls k1 ((rd_T31 l0 x5_1).f0) ((rd_T31 l0 x5_1).f1) ((rd_T31 l0 x5_1).f2) ((rd_T31 l0 x5_1).f3) ((rd_T31 l0 x5_1).f4) ((rd_T31 l0 x5_1).f5.f0) ((rd_T31 l0 x5_1).f5.f1) ((rd_T31 l0 x5_1).f5.f2) ((rd_T31 l0 x5_1).f5.f3) ((rd_T31 l0 x5_1).f6.f0) ((rd_T31 l0 x5_1).f6.f1) ((rd_T31 l0 x5_1).f6.f2) _ _ ((rd_T31 l0 x5_1).f6.f3) ((rd_T31 l1 x5_1).f0) ((rd_T31 l1 x5_1).f1) ((rd_T31 l1 x5_1).f2) ((rd_T31 l1 x5_1).f3) ((rd_T31 l1 x5_1).f4) ((rd_T31 l1 x5_1).f5.f0) ((rd_T31 l1 x5_1).f5.f1) ((rd_T31 l1 x5_1).f5.f2) ((rd_T31 l1 x5_1).f5.f3) ((rd_T31 l1 x5_1).f6.f0) ((rd_T31 l1 x5_1).f6.f1) ((rd_T31 l1 x5_1).f6.f2) _ _ ((rd_T31 l1 x5_1).f6.f3) false _ ?side1 ?side2 ?side3 ?side4 A7.out).mono ?_
        (case side1 => repeat (first | exact (Kd.C_below HR112_12.out HB.out) | (with_reducible refine Kd.C_alloc ?_ _) | (with_reducible refine Kd.C_drewN ?_ _) | (with_reducible refine Kd.C_drew ?_)))
        (case side2 => exact HC112_12.out)
        (case side3 => repeat (first | exact (Kd.C_below HR113_12.out HB.out) | (with_reducible refine Kd.C_alloc ?_ _) | (with_reducible refine Kd.C_drewN ?_ _) | (with_reducible refine Kd.C_drew ?_)))
        (case side4 => exact HC113_12.out)
        rintro e w12 ⟨rfl, hb⟩
        refine ⟨_, rfl, ?_⟩
        have n0_ := Aside0.mk (below_step (by repeat (first | (with_reducible first | exact HB.out | apply below_alloc | apply pw_below_drewN | apply below_drew1) | exact HB.out)) hb)
        clear HB
        have HB := n0_
        clear n0_
        (try clear hb)
        (try clear hb2)
        (try clear hk)
        (try clear hi)
        refine hK.out _ _ ⟨((HB.out.cell (World.block_lt_of_cell? w _ hw112_0)).trans hw112_0), ((HB.out.cell (World.block_lt_of_cell? w _ hw112_1)).trans hw112_1), ((HB.out.cell (World.block_lt_of_cell? w _ hw112_2)).trans hw112_2), ((HB.out.cell (World.block_lt_of_cell? w _ hw112_3)).trans hw112_3), ((HB.out.cell (World.block_lt_of_cell? w _ hw112_4)).trans hw112_4), ((HB.out.cell (World.block_lt_of_cell? w _ hw112_5)).trans hw112_5), ((HB.out.cell (World.block_lt_of_cell? w _ hw112_6)).trans hw112_6), ((HB.out.cell (World.block_lt_of_cell? w _ hw112_7)).trans hw112_7), ((HB.out.cell (World.block_lt_of_cell? w _ hw112_8)).trans hw112_8), ((HB.out.cell (World.block_lt_of_cell? w _ hw112_9)).trans hw112_9), ((HB.out.cell (World.block_lt_of_cell? w _ hw112_10)).trans hw112_10), ((HB.out.cell (World.block_lt_of_cell? w _ hw112_11)).trans hw112_11), ((HB.out.cell (World.block_lt_of_cell? w _ hw112_12)).trans hw112_12), ((HB.out.cell (World.block_lt_of_cell? w _ hw113_0)).trans hw113_0), ((HB.out.cell (World.block_lt_of_cell? w _ hw113_1)).trans hw113_1), ((HB.out.cell (World.block_lt_of_cell? w _ hw113_2)).trans hw113_2), ((HB.out.cell (World.block_lt_of_cell? w _ hw113_3)).trans hw113_3), ((HB.out.cell (World.block_lt_of_cell? w _ hw113_4)).trans hw113_4), ((HB.out.cell (World.block_lt_of_cell? w _ hw113_5)).trans hw113_5), ((HB.out.cell (World.block_lt_of_cell? w _ hw113_6)).trans hw113_6), ((HB.out.cell (World.block_lt_of_cell? w _ hw113_7)).trans hw113_7), ((HB.out.cell (World.block_lt_of_cell? w _ hw113_8)).trans hw113_8), ((HB.out.cell (World.block_lt_of_cell? w _ hw113_9)).trans hw113_9), ((HB.out.cell (World.block_lt_of_cell? w _ hw113_10)).trans hw113_10), ((HB.out.cell (World.block_lt_of_cell? w _ hw113_11)).trans hw113_11), ((HB.out.cell (World.block_lt_of_cell? w _ hw113_12)).trans hw113_12)⟩ (fun hHeld => ?_)
        clear hK K
        refine norm_ (a' := ?_) ?_ ?_
        rotate_left
        ·show Act.put _ (some 25) _ = _
         simp only [Act.put, List.setIfInBounds_toArray, List.set_cons_zero, List.set_cons_succ, i64_w, i32_w]
         rfl
        refine pure_ (i := 9) (N := some 26) (v := ?_) (a' := ?_) #[true, true, true, true, true, true, true, true, true, true] rfl rfl (any_of HT_.out (by kernel_rfl)) (fun _ _ _ h => h) (Or.inl ⟨by rfl, ?_⟩) ?_ ?_
        rotate_left
        ·intro w'
         go_simp
         with_reducible rfl
        rotate_left
        ·simp only [Act.put, List.setIfInBounds_toArray, List.set_cons_zero, List.set_cons_succ, i64_w, i32_w]
         rfl
        refine done_ (done_of HT_.out (by kernel_rfl)) ?_
        try go_wp2
        go_ret
        exact ⟨by first | rfl | (simp [errW_none, errW_some] <;> rfl) | (simp [*, errW_none, errW_some] <;> rfl), by repeat (first | (with_reducible first | exact HB.out | apply below_alloc | apply pw_below_drewN | apply below_drew1) | exact HB.out)⟩
      ·rw [if_neg c6] at H
       exact absurd H (by simp)
     ·rw [if_neg c5] at H
      exact absurd H (by simp)
    ·rw [if_neg c4] at H
     have c4b0 : decide (x5_1 < (l0.length : Int)) = false := decide_eq_false c4
     clear c4
     obtain rfl := Option.some.inj H
     go_wp2
     go_ret
     exact ⟨by first | rfl | (simp [errW_none, errW_some] <;> rfl) | (simp [*, errW_none, errW_some] <;> rfl), by repeat (first | (with_reducible first | exact HB.out | apply below_alloc | apply pw_below_drewN | apply below_drew1) | exact HB.out)⟩
 ·rw [if_neg c3] at H
  have c3b0 : ((l0.length : Int) == (l1.length : Int)) = false := beq_eq_false_iff_ne.mpr c3
  have c3b1 : ((l0.length : Int) != (l1.length : Int)) = true := bne_iff_ne.mpr c3
  have c3b2 : (l0.length == l1.length) = false := by first | simpa using c3 | (simp at c3 ⊢; omega)
  obtain rfl := Option.some.inj H
  go_enter Try.func12, Try.ntmps12
  go_wp2
  go_ret
  exact ⟨by first | rfl | (simp [errW_none, errW_some] <;> rfl) | (simp [*, errW_none, errW_some] <;> rfl), by repeat (first | (with_reducible first | exact HB.out | apply below_alloc | apply pw_below_drewN | apply below_drew1) | exact HB.out)⟩

/-! ### corrieref19_Points: function 14 (by hand) -/
theorem rpt_keep (x : S31) : (!history_Points1.f x) = (decide (x.f5.f0 ≥ 1) && decide (x.f5.f0 ≤ 3) && (x.f6.f0 == 0)) := by
 unfold history_Points1.f
 by_cases h : x.f6.f0 = 0
 ·rw [if_pos h]
  by_cases h1 : x.f5.f0 < 1
  ·rw [if_pos h1, decide_eq_false (show ¬ x.f5.f0 ≥ 1 by omega)]
   rfl
  ·rw [if_neg h1, decide_eq_true (show x.f5.f0 ≥ 1 by omega)]
   by_cases h2 : x.f5.f0 ≤ 3
   ·rw [decide_eq_true h2, decide_eq_false (show ¬ 3 < x.f5.f0 by omega)]
    simp [h]
   ·rw [decide_eq_false h2, decide_eq_true (show 3 < x.f5.f0 by omega)]
    rfl
 ·rw [if_neg h]
  simp [h]
set_option maxHeartbeats 8000000 in
set_option maxRecDepth 100000 in
theorem corrieref19_Points.law (A0 : Option Addr) (c0 : Nat) (l0 : List S31) (w : World) (hr0 : Kd.C k31 w A0 l0.length l0) (hlen : l0.length ≤ 1000000) :
  Calls Try.prog 14 #[.slice A0 l0.length c0] w fun e w' => ∃ A c, e = .returned (.slice A (l0.filter fun x => !history_Points1.f x).length c) ∧ Kd.C k31 w' A (l0.filter fun x => !history_Points1.f x).length (l0.filter fun x => !history_Points1.f x) ∧ (l0.filter fun x => !history_Points1.f x).length ≤ c ∧ Below w.heap.size w w' := by
 have HR0 := Aside0.mk hr0
 have HL := Aside0.mk hlen
 have HB := Aside0.mk (Below.refl w.heap.size w)
 clear hr0 hlen
 have HK0 := Aside0.mk (show ∀ (i : Nat) (hi : i < l0.length), ∃ (ad : Addr) (A : Option Addr) (c : Nat) (x : S31), A0 = some ad ∧ l0[i]? = some x ∧ k31.K w x [.int .i64 x.f0, .int .i64 x.f1, .int .i64 x.f2, .int .i64 x.f3, .int .i64 x.f4, .int .i64 x.f5.f0, .int .u64 x.f5.f1, .int .u64 x.f5.f2, .int .i64 x.f5.f3, .int .i64 x.f6.f0, .bool x.f6.f1, .int .u64 x.f6.f2, .slice A x.f6.f3.length c] ∧ w.cell? (ad.add (i * 13)) = some (.int .i64 x.f0) ∧ w.cell? ⟨(ad.add (i * 13)).block, (ad.add (i * 13)).off + 1, none⟩ = some (.int .i64 x.f1) ∧ w.cell? ⟨(ad.add (i * 13)).block, (ad.add (i * 13)).off + 2, none⟩ = some (.int .i64 x.f2) ∧ w.cell? ⟨(ad.add (i * 13)).block, (ad.add (i * 13)).off + 3, none⟩ = some (.int .i64 x.f3) ∧ w.cell? ⟨(ad.add (i * 13)).block, (ad.add (i * 13)).off + 4, none⟩ = some (.int .i64 x.f4) ∧ w.cell? ⟨(ad.add (i * 13)).block, (ad.add (i * 13)).off + 5, none⟩ = some (.int .i64 x.f5.f0) ∧ w.cell? ⟨(ad.add (i * 13)).block, (ad.add (i * 13)).off + 6, none⟩ = some (.int .u64 x.f5.f1) ∧ w.cell? ⟨(ad.add (i * 13)).block, (ad.add (i * 13)).off + 7, none⟩ = some (.int .u64 x.f5.f2) ∧ w.cell? ⟨(ad.add (i * 13)).block, (ad.add (i * 13)).off + 8, none⟩ = some (.int .i64 x.f5.f3) ∧ w.cell? ⟨(ad.add (i * 13)).block, (ad.add (i * 13)).off + 9, none⟩ = some (.int .i64 x.f6.f0) ∧ w.cell? ⟨(ad.add (i * 13)).block, (ad.add (i * 13)).off + 10, none⟩ = some (.bool x.f6.f1) ∧ w.cell? ⟨(ad.add (i * 13)).block, (ad.add (i * 13)).off + 11, none⟩ = some (.int .u64 x.f6.f2) ∧ w.cell? ⟨(ad.add (i * 13)).block, (ad.add (i * 13)).off + 12, none⟩ = some (.slice A x.f6.f3.length c) from fun i hi => by
  obtain ⟨ad, A, c, e, h0, h1, h2, h3, h4, h5, h6, h7, h8, h9, h10, h11, h12, hl, hi2⟩ := at_T31 HR0.out (i : Int) (by omega) (by omega)
  rw [hpt_rd l0 i hi] at h0 h1 h2 h3 h4 h5 h6 h7 h8 h9 h10 h11 h12 hl hi2
  exact ⟨ad, A, c, _, e, List.getElem?_eq_getElem hi, k31_mk w _ hl hi2, h0, h1, h2, h3, h4, h5, h6, h7, h8, h9, h10, h11, h12⟩)
 go_enter Try.func14, Try.ntmps14
 go_wp2
 go_loopg [3, 4] l0.length (fun kq v3 v4 wr => ∃ (i : Nat) (inn : List Value), v4 = .int .i64 i ∧ Aside0 (i ≤ l0.length) ∧ Aside0 (l0.length - i ≤ kq) ∧ Aside0 (wr.ownsRow w.heap.size 31 13 v3 ((l0.take i).filter fun x => !history_Points1.f x).length inn) ∧ Aside0 (Reps (k31.K w) 13 ((l0.take i).filter fun x => !history_Points1.f x) inn) ∧ Aside0 (Below w.heap.size w wr))
 case atStart => exact ⟨0, [], rfl, ⟨Nat.zero_le _⟩, ⟨by omega⟩, ⟨by rw [List.take_zero]; exact World.ownsRow_nil _ _ _ _⟩, ⟨by rw [List.take_zero]; exact Reps.none _ _⟩, ⟨by repeat (first | (with_reducible first | exact HB.out | apply below_alloc | apply pw_below_drewN | apply below_drew1) | exact HB.out)⟩⟩
 case round =>
  clear HB
  obtain ⟨i, inn, rfl, HJ, HKq, HO, HR, HB⟩ := hrel
  by_cases hlt : i < l0.length
  ·have hltb : (i : Int) < (l0.length : Int) := by omega
   have HLT := Aside0.mk hlt
   obtain ⟨ad, A12, c12, x, e12, hx_, hK, hx0, hx1, hx2, hx3, hx4, hx5, hx6, hx7, hx8, hx9, hx10, hx11, hx12⟩ := HK0.out i hlt
   subst e12
   have HX := Aside0.mk hx_
   have HKx := Aside0.mk hK
   have HKP := Aside0.mk (rpt_keep x)
   clear hlt hx_ hK
   replace hx0 := pw_cell_below HB.out hx0
   replace hx1 := pw_cell_below HB.out hx1
   replace hx2 := pw_cell_below HB.out hx2
   replace hx3 := pw_cell_below HB.out hx3
   replace hx4 := pw_cell_below HB.out hx4
   replace hx5 := pw_cell_below HB.out hx5
   replace hx6 := pw_cell_below HB.out hx6
   replace hx7 := pw_cell_below HB.out hx7
   replace hx8 := pw_cell_below HB.out hx8
   replace hx9 := pw_cell_below HB.out hx9
   replace hx10 := pw_cell_below HB.out hx10
   replace hx11 := pw_cell_below HB.out hx11
   replace hx12 := pw_cell_below HB.out hx12
   cases q1 : decide (x.f5.f0 ≥ 1) with
   | false =>
    go_wp2
    go_roundg (l0.length - (i + 1))
    case measure => have := HLT.out; have := HKq.out; omega
    case rel =>
     have hlt := HLT.out
     have hle := HL.out
     have ht : l0.take (i + 1) = l0.take i ++ [x] := by rw [List.take_add_one, HX.out]; rfl
     have hf : ((l0.take (i + 1)).filter fun x => !history_Points1.f x) = ((l0.take i).filter fun x => !history_Points1.f x) := by rw [ht, List.filter_append]; simp only [List.filter_cons, List.filter_nil, HKP.out]; simp [*]
     exact ⟨i + 1, inn, by rw [show wrap64 ((i : Int) + 1) = ((i + 1 : Nat) : Int) from by unfold wrap64; omega], ⟨by omega⟩, ⟨by omega⟩, ⟨by rw [hf]; exact HO.out⟩, ⟨by rw [hf]; exact HR.out⟩, HB⟩
   | true =>
    cases q2 : decide (x.f5.f0 ≤ 3) with
    | false =>
     go_wp2
     go_roundg (l0.length - (i + 1))
     case measure => have := HLT.out; have := HKq.out; omega
     case rel =>
      have hlt := HLT.out
      have hle := HL.out
      have ht : l0.take (i + 1) = l0.take i ++ [x] := by rw [List.take_add_one, HX.out]; rfl
      have hf : ((l0.take (i + 1)).filter fun x => !history_Points1.f x) = ((l0.take i).filter fun x => !history_Points1.f x) := by rw [ht, List.filter_append]; simp only [List.filter_cons, List.filter_nil, HKP.out]; simp [*]
      exact ⟨i + 1, inn, by rw [show wrap64 ((i : Int) + 1) = ((i + 1 : Nat) : Int) from by unfold wrap64; omega], ⟨by omega⟩, ⟨by omega⟩, ⟨by rw [hf]; exact HO.out⟩, ⟨by rw [hf]; exact HR.out⟩, HB⟩
    | true =>
     cases q3 : (x.f6.f0 == 0) with
     | false =>
      go_wp2
      go_roundg (l0.length - (i + 1))
      case measure => have := HLT.out; have := HKq.out; omega
      case rel =>
       have hlt := HLT.out
       have hle := HL.out
       have ht : l0.take (i + 1) = l0.take i ++ [x] := by rw [List.take_add_one, HX.out]; rfl
       have hf : ((l0.take (i + 1)).filter fun x => !history_Points1.f x) = ((l0.take i).filter fun x => !history_Points1.f x) := by rw [ht, List.filter_append]; simp only [List.filter_cons, List.filter_nil, HKP.out]; simp [*]
       exact ⟨i + 1, inn, by rw [show wrap64 ((i : Int) + 1) = ((i + 1 : Nat) : Int) from by unfold wrap64; omega], ⟨by omega⟩, ⟨by omega⟩, ⟨by rw [hf]; exact HO.out⟩, ⟨by rw [hf]; exact HR.out⟩, HB⟩
     | true =>
      go_wp2_with (first | (at_builtin; refine print_append_cells (w0 := w) w.heap.size rfl _ _ 22 31 _ 13 120 rfl Try.underlying22 hpt_info rfl (by decide) (by decide) _ _ inn [.int .i64 x.f0, .int .i64 x.f1, .int .i64 x.f2, .int .i64 x.f3, .int .i64 x.f4, .int .i64 x.f5.f0, .int .u64 x.f5.f1, .int .u64 x.f5.f2, .int .i64 x.f5.f3, .int .i64 x.f6.f0, .bool x.f6.f1, .int .u64 x.f6.f2, .slice A12 x.f6.f3.length c12] (by rfl) (by rfl) rfl ?ap1 HO.out HB.out HB.out.size ?ap2 ?_; rotate_right; intro v1 w4 hown hbw hg hat; have HO1 := Aside0.mk hown; have HB1 := Aside0.mk hbw; clear hown hbw hg hat))
      case ap1 => simp [Value.oneCell']
      case ap2 =>
       have h1 : ((l0.take i).filter fun x => !history_Points1.f x).length ≤ 1000000 := by
        have h2 := List.length_filter_le (fun x : S31 => !history_Points1.f x) (l0.take i)
        rw [List.length_take] at h2
        have := HL.out
        omega
       omega
      go_roundg (l0.length - (i + 1))
      case measure => have := HLT.out; have := HKq.out; omega
      case rel =>
       have hlt := HLT.out
       have hle := HL.out
       have ht : l0.take (i + 1) = l0.take i ++ [x] := by rw [List.take_add_one, HX.out]; rfl
       have hf : ((l0.take (i + 1)).filter fun x => !history_Points1.f x) = ((l0.take i).filter fun x => !history_Points1.f x) ++ [x] := by rw [ht, List.filter_append]; congr 1; simp only [List.filter_cons, List.filter_nil, HKP.out]; simp [*]
       exact ⟨i + 1, _, by rw [show wrap64 ((i : Int) + 1) = ((i + 1 : Nat) : Int) from by unfold wrap64; omega], ⟨by omega⟩, ⟨by omega⟩, ⟨by rw [hf, List.length_append, List.length_singleton]; exact HO1.out⟩, ⟨by rw [hf]; exact HR.out.snoc HKx.out rfl⟩, HB1⟩
  ·have hj : i = l0.length := by have := HJ.out; omega
   subst hj
   have hnlt : ¬ ((l0.length : Int) < (l0.length : Int)) := by omega
   rw [List.take_length] at HO HR
   obtain ⟨Ao, co, ho, hC⟩ := own_reads_row HO.out (HR.out.imp_ (R' := k31.K wr) (fun _ _ hp => k31.K_below HB.out hp)) rfl
   subst ho
   have hco : (l0.filter fun x => !history_Points1.f x).length ≤ co := by rcases HO.out.2 with ⟨he, h0⟩ | ⟨g, cap, cur, he, _, _, h3, _⟩ <;> injection he <;> omega
   have HCO := Aside0.mk (show Kd.C k31 wr Ao (l0.filter fun x => !history_Points1.f x).length (l0.filter fun x => !history_Points1.f x) from hC)
   have HCC := Aside0.mk hco
   clear HO HR hC hco
   go_wp2
   go_ret
   exact ⟨_, _, rfl, HCO.out, HCC.out, HB.out⟩


end Go.Proofs.Ytpcmoclohepdiad.PHistoryTells
