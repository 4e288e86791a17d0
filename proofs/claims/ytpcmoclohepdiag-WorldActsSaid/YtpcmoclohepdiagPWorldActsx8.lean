-- Written by a program of this session: a variant of the print that takes proofs by hand (wip/tools/mkprint.py)
import Derived.Test.YtpcmoclohepdiagPWorldActsx0
import Derived.Test.YtpcmoclohepdiagPWorldActsx4
import Derived.Test.YtpcmoclohepdiagPWorldActsx5
import Derived.Test.YtpcmoclohepdiagPWorldActsx6
import Derived.Test.YtpcmoclohepdiagPWorldActsx7
namespace Go.Proofs.Ytpcmoclohepdiag.PWorldActs
open Go.RowKit Go.Proofs.YtpcmoclohepdiagW.PrintWords Go.Proofs.YtpcmoclohepdiagW.PrintLast
set_option linter.unusedVariables false
set_option linter.unusedSimpArgs false

/-! ### corrieref06_Store: function 89 -/
def corrieref06_Store.f (l0_0 : List Int) (a0_1 : Int) (a1 : Int) (a2 : Int) : Option (List Int × Int) := if a1 < 0 then (some (l0_0, a0_1)) else (if a1 ≥ (l0_0.length : Int) then (some (l0_0, a0_1)) else ((some (([] : List Int) : List Int)).bind fun y148 => (if y148.length + l0_0.length < 17592186044416 then ((some (y148 ++ l0_0 : List Int)).bind fun y151 => (if 0 ≤ a1 then (if a1 < (y151.length : Int) then (some ((y151.set (a1 : Int).toNat a2), wrap64 (a0_1 + 1))) else (none)) else (none))) else (none))))
set_option maxHeartbeats 8000000 in
set_option maxRecDepth 100000 in
theorem corrieref06_Store.calls (P0_0_ : Nat → Prop) (u9000_ : Value) (l0_0 : List Int) (a0_1 : Int) (a1 : Int) (a2 : Int) (r1 : List Int) (r2 : Int) (w0 w : World) (hB : Below w0.heap.size w0 w) (ho0_0 : Kd.R (Kd.int .u64) 25 w w0.heap.size P0_0_ u9000_ l0_0) (h : corrieref06_Store.f l0_0 a0_1 a1 a2 = some (r1, r2)) :
  Calls Try.prog 89 #[.agg #[u9000_, .int .i64 a0_1], .int .i64 a1, .int .u64 a2] w fun e w' => ∃ v0_ : Value, e = .returned (.agg #[v0_, .int .i64 r2]) ∧ Kd.R (Kd.int .u64) 25 w' w0.heap.size (fun k_ => (P0_0_ k_ ∨ w.heap.size ≤ k_)) v0_ r1 ∧ Below w0.heap.size w0 w' ∧ Kept w w' (fun k_ => P0_0_ k_) := by
 have hu53 := Try.underlying53
 have HO0_0 := Aside0.mk (show Kd.R (Kd.int .u64) 25 w w0.heap.size (fun k_ => (P0_0_ k_ ∨ w.heap.size ≤ k_)) u9000_ l0_0 from Kd.R_mono ho0_0 (fun k_ hk => (.inl hk)))
 have HK := Aside0.mk (Kept.refl w (fun k_ => P0_0_ k_))
 have HW0 := Aside0.mk hB.size
 have HB := Aside0.mk hB
 clear hB
 have H : (if a1 < 0 then (some (l0_0, a0_1)) else (if a1 ≥ (l0_0.length : Int) then (some (l0_0, a0_1)) else ((some (([] : List Int) : List Int)).bind fun y148 => (if y148.length + l0_0.length < 17592186044416 then ((some (y148 ++ l0_0 : List Int)).bind fun y151 => (if 0 ≤ a1 then (if a1 < (y151.length : Int) then (some ((y151.set (a1 : Int).toNat a2), wrap64 (a0_1 + 1))) else (none)) else (none))) else (none))))) = some (r1, r2) := h
 clear h
 by_cases c4 : a1 < 0
 ·rw [if_pos c4] at H
  have c4b0 : decide (a1 < 0) = true := decide_eq_true c4
  clear c4
  simp only [Option.some.injEq, Prod.mk.injEq] at H
  obtain ⟨rfl, rfl⟩ := H
  obtain ⟨Ao5, co5, eo5⟩ := Kd.R_slice HO0_0.out
  subst eo5
  go_enter Try.func89, Try.ntmps89
  go_wp2_with (first | ((with_reducible refine gate_dst (N := 3) rfl ?_); (try (refine gate_guard (by rfl) ?_; dsimp only)); refine box_event ?hg (N := 3) ?hd (cs := #[.slice Ao5 l0_0.length co5, .int .i64 a0_1]) (t := 53) ?hr ?_; (case hd => rfl); (case hg => rfl); (case hr => first | (go_simp; done) | (go_simp; rfl)); intro gb146 hg w6 hbox hb; have n0_ := Aside0.mk (Kd.R_below (by (with_reducible repeat (first | apply Kd.R_alloc | apply Kd.R_drewN | apply Kd.R_drew)); exact HO0_0.out) hb); have n1_ := Aside0.mk (Kept.below (S := (fun k_ => P0_0_ k_)) (by repeat (first | (with_reducible first | exact HK.out | apply Kept.alloc | apply Kept.drewN | apply Kept.drew) | exact HK.out)) hb); have n2_ := Aside0.mk (below_step (by repeat (first | (with_reducible first | exact HB.out | apply below_alloc | apply pw_below_drewN | apply below_drew1) | exact HB.out)) hb); have n3_ := Aside0.mk (hbox); have n4_ := Aside0.mk ((by rw [hg]; exact (by first | exact HK.out.1 | exact (show Kept w _ (fun k_ => P0_0_ k_) from by repeat (first | (with_reducible first | exact HK.out | apply Kept.alloc | apply Kept.drewN | apply Kept.drew) | exact HK.out)).1) : w.heap.size ≤ gb146)); have n5_ := Aside0.mk ((by rw [hg]; exact (below_size (by repeat (first | (with_reducible first | exact HB.out | apply below_alloc | apply pw_below_drewN | apply below_drew1) | exact HB.out))) : w0.heap.size ≤ gb146)); clear HO0_0; clear HK; clear HB; have HO0_0 := n0_; have HK := n1_; have HB := n2_; have BK146 := n3_; have GW146 := n4_; have GE146 := n5_; clear n0_ n1_ n2_ n3_ n4_ n5_; clear hb hbox hg) | ((with_reducible refine gate_dst (N := 6) rfl ?_); (try (refine gate_guard (by rfl) ?_; dsimp only)); refine box_event ?hg (N := 6) ?hd (cs := #[.slice none 0 0, .int .i64 0]) (t := 53) ?hr ?_; (case hd => rfl); (case hg => rfl); (case hr => first | (go_simp; done) | (go_simp; rfl)); intro gb147 hg w7 hbox hb; have n0_ := Aside0.mk (Kd.R_below (by (with_reducible repeat (first | apply Kd.R_alloc | apply Kd.R_drewN | apply Kd.R_drew)); exact HO0_0.out) hb); have n1_ := Aside0.mk (blk_below (g := gb146) (o := .cells #[.slice Ao5 l0_0.length co5, .int .i64 a0_1] 53 (0, 0)) (by (with_reducible repeat (first | refine blk_drewN ?_ _ | refine blk_drew ?_ | refine blk_alloc ?_ _)); exact BK146.out) hb); have n2_ := Aside0.mk (Kept.below (S := (fun k_ => P0_0_ k_)) (by repeat (first | (with_reducible first | exact HK.out | apply Kept.alloc | apply Kept.drewN | apply Kept.drew | refine Kept.setCell ?_ (.inr GW146.out) _) | exact HK.out)) hb); have n3_ := Aside0.mk (below_step (by repeat (first | (with_reducible first | exact HB.out | apply below_alloc | apply pw_below_drewN | apply below_drew1 | refine below_set ?_ GE146.out) | exact HB.out)) hb); have n4_ := Aside0.mk (hbox); have n5_ := Aside0.mk ((by rw [hg]; exact (by first | exact HK.out.1 | exact (show Kept w _ (fun k_ => P0_0_ k_) from by repeat (first | (with_reducible first | exact HK.out | apply Kept.alloc | apply Kept.drewN | apply Kept.drew | refine Kept.setCell ?_ (.inr GW146.out) _) | exact HK.out)).1) : w.heap.size ≤ gb147)); have n6_ := Aside0.mk ((by rw [hg]; exact (below_size (by repeat (first | (with_reducible first | exact HB.out | apply below_alloc | apply pw_below_drewN | apply below_drew1 | refine below_set ?_ GE146.out) | exact HB.out))) : w0.heap.size ≤ gb147)); have n7_ := Aside0.mk ((by rw [hg]; exact Nat.ne_of_lt (blk_lt (g := gb146) (o := .cells #[.slice Ao5 l0_0.length co5, .int .i64 a0_1] 53 (0, 0)) (by (with_reducible repeat (first | refine blk_drewN ?_ _ | refine blk_drew ?_ | refine blk_alloc ?_ _)); exact BK146.out)) : gb146 ≠ gb147)); have n8_ := Aside0.mk ((by rw [hg]; exact Nat.ne_of_gt (blk_lt (g := gb146) (o := .cells #[.slice Ao5 l0_0.length co5, .int .i64 a0_1] 53 (0, 0)) (by (with_reducible repeat (first | refine blk_drewN ?_ _ | refine blk_drew ?_ | refine blk_alloc ?_ _)); exact BK146.out)) : gb147 ≠ gb146)); clear HO0_0; clear BK146; clear HK; clear HB; have HO0_0 := n0_; have BK146 := n1_; have HK := n2_; have HB := n3_; have BK147 := n4_; have GW147 := n5_; have GE147 := n6_; have NB146_147 := n7_; have NB147_146 := n8_; clear n0_ n1_ n2_ n3_ n4_ n5_ n6_ n7_ n8_; clear hb hbox hg; have hnb8 := NB146_147.out; have hnc8 := NB147_146.out; have hcz9_0 : w7.cell? ⟨gb146, 0, none⟩ = some (.slice Ao5 l0_0.length co5) := (blk_cell BK146.out 0).trans rfl; have hcz9_1 : w7.cell? ⟨gb146, 1, none⟩ = some (.int .i64 a0_1) := (blk_cell BK146.out 1).trans rfl; have hfz9_0 := blk_frozen BK146.out 0; have hfz9_1 := blk_frozen BK146.out 1; have hcz10_0 : w7.cell? ⟨gb147, 0, none⟩ = some (.slice none 0 0) := (blk_cell BK147.out 0).trans rfl; have hcz10_1 : w7.cell? ⟨gb147, 1, none⟩ = some (.int .i64 0) := (blk_cell BK147.out 1).trans rfl; have hfz10_0 := blk_frozen BK147.out 0; have hfz10_1 := blk_frozen BK147.out 1))
  refine bodyPost_ret (results_cell_row rfl _ _ gb147 53 #[.slice Ao5 l0_0.length co5, .int .i64 a0_1] (0, 0) _ rfl (by (with_reducible repeat (first | refine blk_drewN ?_ _ | refine blk_drew ?_ | refine blk_alloc ?_ _)); refine blk_put (cs := #[.slice Ao5 l0_0.length co5, .int .i64 0]) ?_ 1 _ rfl; (with_reducible repeat (first | refine blk_drewN ?_ _ | refine blk_drew ?_ | refine blk_alloc ?_ _)); refine blk_put (cs := #[.slice none 0 0, .int .i64 0]) ?_ 0 _ rfl; (with_reducible repeat (first | refine blk_drewN ?_ _ | refine blk_drew ?_ | refine blk_alloc ?_ _)); exact BK147.out) Try.underlying53 rfl (by kernel_rfl)) rfl ?_
  exact ⟨_, by first | rfl | (simp [errW_none, errW_some] <;> rfl) | (simp [*, errW_none, errW_some] <;> rfl), by (with_reducible repeat (first | apply Kd.R_alloc | apply Kd.R_drewN | apply Kd.R_drew)); exact Kd.R_mono (Kd.R_far (p := ⟨gb147, 1, none⟩) (Kd.R_far (p := ⟨gb147, 0, none⟩) (Kd.R_types HO0_0.out BK147.out (by decide)) (fun _ hk => hk.2) (.slice Ao5 l0_0.length co5)) (fun _ hk => hk.2) (.int .i64 a0_1)) (fun _ hk => hk.1), by repeat (first | (with_reducible first | exact HB.out | apply below_alloc | apply pw_below_drewN | apply below_drew1 | refine below_set ?_ GE146.out | refine below_set ?_ GE147.out) | exact HB.out), by repeat (first | (with_reducible first | exact HK.out | apply Kept.alloc | apply Kept.drewN | apply Kept.drew | refine Kept.setCell ?_ (.inr GW146.out) _ | refine Kept.setCell ?_ (.inr GW147.out) _) | exact HK.out)⟩
 ·rw [if_neg c4] at H
  have c4b0 : decide (a1 < 0) = false := decide_eq_false c4
  clear c4
  by_cases c11 : a1 ≥ (l0_0.length : Int)
  ·rw [if_pos c11] at H
   have c11b0 : decide ((l0_0.length : Int) ≤ a1) = true := decide_eq_true c11
   clear c11
   simp only [Option.some.injEq, Prod.mk.injEq] at H
   obtain ⟨rfl, rfl⟩ := H
   obtain ⟨Ao12, co12, eo12⟩ := Kd.R_slice HO0_0.out
   subst eo12
   go_enter Try.func89, Try.ntmps89
   go_wp2_with (first | ((with_reducible refine gate_dst (N := 3) rfl ?_); (try (refine gate_guard (by rfl) ?_; dsimp only)); refine box_event ?hg (N := 3) ?hd (cs := #[.slice Ao12 l0_0.length co12, .int .i64 a0_1]) (t := 53) ?hr ?_; (case hd => rfl); (case hg => rfl); (case hr => first | (go_simp; done) | (go_simp; rfl)); intro gb146 hg w13 hbox hb; have n0_ := Aside0.mk (Kd.R_below (by (with_reducible repeat (first | apply Kd.R_alloc | apply Kd.R_drewN | apply Kd.R_drew)); exact HO0_0.out) hb); have n1_ := Aside0.mk (Kept.below (S := (fun k_ => P0_0_ k_)) (by repeat (first | (with_reducible first | exact HK.out | apply Kept.alloc | apply Kept.drewN | apply Kept.drew) | exact HK.out)) hb); have n2_ := Aside0.mk (below_step (by repeat (first | (with_reducible first | exact HB.out | apply below_alloc | apply pw_below_drewN | apply below_drew1) | exact HB.out)) hb); have n3_ := Aside0.mk (hbox); have n4_ := Aside0.mk ((by rw [hg]; exact (by first | exact HK.out.1 | exact (show Kept w _ (fun k_ => P0_0_ k_) from by repeat (first | (with_reducible first | exact HK.out | apply Kept.alloc | apply Kept.drewN | apply Kept.drew) | exact HK.out)).1) : w.heap.size ≤ gb146)); have n5_ := Aside0.mk ((by rw [hg]; exact (below_size (by repeat (first | (with_reducible first | exact HB.out | apply below_alloc | apply pw_below_drewN | apply below_drew1) | exact HB.out))) : w0.heap.size ≤ gb146)); clear HO0_0; clear HK; clear HB; have HO0_0 := n0_; have HK := n1_; have HB := n2_; have BK146 := n3_; have GW146 := n4_; have GE146 := n5_; clear n0_ n1_ n2_ n3_ n4_ n5_; clear hb hbox hg) | ((with_reducible refine gate_dst (N := 6) rfl ?_); (try (refine gate_guard (by rfl) ?_; dsimp only)); refine box_event ?hg (N := 6) ?hd (cs := #[.slice none 0 0, .int .i64 0]) (t := 53) ?hr ?_; (case hd => rfl); (case hg => rfl); (case hr => first | (go_simp; done) | (go_simp; rfl)); intro gb147 hg w14 hbox hb; have n0_ := Aside0.mk (Kd.R_below (by (with_reducible repeat (first | apply Kd.R_alloc | apply Kd.R_drewN | apply Kd.R_drew)); exact HO0_0.out) hb); have n1_ := Aside0.mk (blk_below (g := gb146) (o := .cells #[.slice Ao12 l0_0.length co12, .int .i64 a0_1] 53 (0, 0)) (by (with_reducible repeat (first | refine blk_drewN ?_ _ | refine blk_drew ?_ | refine blk_alloc ?_ _)); exact BK146.out) hb); have n2_ := Aside0.mk (Kept.below (S := (fun k_ => P0_0_ k_)) (by repeat (first | (with_reducible first | exact HK.out | apply Kept.alloc | apply Kept.drewN | apply Kept.drew | refine Kept.setCell ?_ (.inr GW146.out) _) | exact HK.out)) hb); have n3_ := Aside0.mk (below_step (by repeat (first | (with_reducible first | exact HB.out | apply below_alloc | apply pw_below_drewN | apply below_drew1 | refine below_set ?_ GE146.out) | exact HB.out)) hb); have n4_ := Aside0.mk (hbox); have n5_ := Aside0.mk ((by rw [hg]; exact (by first | exact HK.out.1 | exact (show Kept w _ (fun k_ => P0_0_ k_) from by repeat (first | (with_reducible first | exact HK.out | apply Kept.alloc | apply Kept.drewN | apply Kept.drew | refine Kept.setCell ?_ (.inr GW146.out) _) | exact HK.out)).1) : w.heap.size ≤ gb147)); have n6_ := Aside0.mk ((by rw [hg]; exact (below_size (by repeat (first | (with_reducible first | exact HB.out | apply below_alloc | apply pw_below_drewN | apply below_drew1 | refine below_set ?_ GE146.out) | exact HB.out))) : w0.heap.size ≤ gb147)); have n7_ := Aside0.mk ((by rw [hg]; exact Nat.ne_of_lt (blk_lt (g := gb146) (o := .cells #[.slice Ao12 l0_0.length co12, .int .i64 a0_1] 53 (0, 0)) (by (with_reducible repeat (first | refine blk_drewN ?_ _ | refine blk_drew ?_ | refine blk_alloc ?_ _)); exact BK146.out)) : gb146 ≠ gb147)); have n8_ := Aside0.mk ((by rw [hg]; exact Nat.ne_of_gt (blk_lt (g := gb146) (o := .cells #[.slice Ao12 l0_0.length co12, .int .i64 a0_1] 53 (0, 0)) (by (with_reducible repeat (first | refine blk_drewN ?_ _ | refine blk_drew ?_ | refine blk_alloc ?_ _)); exact BK146.out)) : gb147 ≠ gb146)); clear HO0_0; clear BK146; clear HK; clear HB; have HO0_0 := n0_; have BK146 := n1_; have HK := n2_; have HB := n3_; have BK147 := n4_; have GW147 := n5_; have GE147 := n6_; have NB146_147 := n7_; have NB147_146 := n8_; clear n0_ n1_ n2_ n3_ n4_ n5_ n6_ n7_ n8_; clear hb hbox hg; have hnb15 := NB146_147.out; have hnc15 := NB147_146.out; have hcz16_0 : w14.cell? ⟨gb146, 0, none⟩ = some (.slice Ao12 l0_0.length co12) := (blk_cell BK146.out 0).trans rfl; have hcz16_1 : w14.cell? ⟨gb146, 1, none⟩ = some (.int .i64 a0_1) := (blk_cell BK146.out 1).trans rfl; have hfz16_0 := blk_frozen BK146.out 0; have hfz16_1 := blk_frozen BK146.out 1; have hcz17_0 : w14.cell? ⟨gb147, 0, none⟩ = some (.slice none 0 0) := (blk_cell BK147.out 0).trans rfl; have hcz17_1 : w14.cell? ⟨gb147, 1, none⟩ = some (.int .i64 0) := (blk_cell BK147.out 1).trans rfl; have hfz17_0 := blk_frozen BK147.out 0; have hfz17_1 := blk_frozen BK147.out 1))
   refine bodyPost_ret (results_cell_row rfl _ _ gb147 53 #[.slice Ao12 l0_0.length co12, .int .i64 a0_1] (0, 0) _ rfl (by (with_reducible repeat (first | refine blk_drewN ?_ _ | refine blk_drew ?_ | refine blk_alloc ?_ _)); refine blk_put (cs := #[.slice Ao12 l0_0.length co12, .int .i64 0]) ?_ 1 _ rfl; (with_reducible repeat (first | refine blk_drewN ?_ _ | refine blk_drew ?_ | refine blk_alloc ?_ _)); refine blk_put (cs := #[.slice none 0 0, .int .i64 0]) ?_ 0 _ rfl; (with_reducible repeat (first | refine blk_drewN ?_ _ | refine blk_drew ?_ | refine blk_alloc ?_ _)); exact BK147.out) Try.underlying53 rfl (by kernel_rfl)) rfl ?_
   exact ⟨_, by first | rfl | (simp [errW_none, errW_some] <;> rfl) | (simp [*, errW_none, errW_some] <;> rfl), by (with_reducible repeat (first | apply Kd.R_alloc | apply Kd.R_drewN | apply Kd.R_drew)); exact Kd.R_mono (Kd.R_far (p := ⟨gb147, 1, none⟩) (Kd.R_far (p := ⟨gb147, 0, none⟩) (Kd.R_types HO0_0.out BK147.out (by decide)) (fun _ hk => hk.2) (.slice Ao12 l0_0.length co12)) (fun _ hk => hk.2) (.int .i64 a0_1)) (fun _ hk => hk.1), by repeat (first | (with_reducible first | exact HB.out | apply below_alloc | apply pw_below_drewN | apply below_drew1 | refine below_set ?_ GE146.out | refine below_set ?_ GE147.out) | exact HB.out), by repeat (first | (with_reducible first | exact HK.out | apply Kept.alloc | apply Kept.drewN | apply Kept.drew | refine Kept.setCell ?_ (.inr GW146.out) _ | refine Kept.setCell ?_ (.inr GW147.out) _) | exact HK.out)⟩
  ·rw [if_neg c11] at H
   have c11b0 : decide ((l0_0.length : Int) ≤ a1) = false := decide_eq_false c11
   clear c11
   obtain ⟨y148, hy148⟩ : ∃ y_ : List Int, y_ = (([] : List Int)) := ⟨_, rfl⟩
   replace H : (if y148.length + l0_0.length < 17592186044416 then ((some (y148 ++ l0_0 : List Int)).bind fun y151 => (if 0 ≤ a1 then (if a1 < (y151.length : Int) then (some ((y151.set (a1 : Int).toNat a2), wrap64 (a0_1 + 1))) else (none)) else (none))) else (none)) = some (r1, r2) := by first | (rw [hy148]; with_reducible exact H) | (have H2_ := (Option.bind_some _ _).symm.trans H; rw [hy148]; with_reducible exact H2_) | (have H2_ := (Option.bind_some _ _).symm.trans H; with_reducible exact H2_) | with_reducible exact H | (rw [hy148]; exact H) | exact H
   have Ny148 := Aside0.mk hy148
   clear hy148
   by_cases c18 : y148.length + l0_0.length < 17592186044416
   ·rw [if_pos c18] at H
    have LMc18 := Aside0.mk c18
    clear c18
    obtain ⟨y151, hy151⟩ : ∃ y_ : List Int, y_ = (y148 ++ l0_0) := ⟨_, rfl⟩
    replace H : (if 0 ≤ a1 then (if a1 < (y151.length : Int) then (some ((y151.set (a1 : Int).toNat a2), wrap64 (a0_1 + 1))) else (none)) else (none)) = some (r1, r2) := by first | (rw [hy151]; with_reducible exact H) | (have H2_ := (Option.bind_some _ _).symm.trans H; rw [hy151]; with_reducible exact H2_) | (have H2_ := (Option.bind_some _ _).symm.trans H; with_reducible exact H2_) | with_reducible exact H | (rw [hy151]; exact H) | exact H
    have Ny151 := Aside0.mk hy151
    clear hy151
    by_cases c19 : 0 ≤ a1
    ·rw [if_pos c19] at H
     have c19b0 : decide (0 ≤ a1) = true := decide_eq_true c19
     clear c19
     by_cases c20 : a1 < (y151.length : Int)
     ·rw [if_pos c20] at H
      have c20b0 : decide (a1 < (y151.length : Int)) = true := decide_eq_true c20
      clear c20
      obtain ⟨y154, hy154⟩ : ∃ y_ : List Int, y_ = (y151.set (a1 : Int).toNat a2) := ⟨_, rfl⟩
      replace H : (some (y154, wrap64 (a0_1 + 1))) = some (r1, r2) := by first | (rw [hy154]; with_reducible exact H) | (have H2_ := (Option.bind_some _ _).symm.trans H; rw [hy154]; with_reducible exact H2_) | (have H2_ := (Option.bind_some _ _).symm.trans H; with_reducible exact H2_) | with_reducible exact H | (rw [hy154]; exact H) | exact H
      have Ny154 := Aside0.mk hy154
      clear hy154
      simp only [Option.some.injEq, Prod.mk.injEq] at H
      obtain ⟨rfl, rfl⟩ := H
      obtain ⟨Ao22, co22, eo22⟩ := Kd.R_slice HO0_0.out
      subst eo22
      go_enter Try.func89, Try.ntmps89
      go_wp2_with (first | ((with_reducible refine gate_dst (N := 3) rfl ?_); (try (refine gate_guard (by rfl) ?_; dsimp only)); refine box_event ?hg (N := 3) ?hd (cs := #[.slice Ao22 l0_0.length co22, .int .i64 a0_1]) (t := 53) ?hr ?_; (case hd => rfl); (case hg => rfl); (case hr => first | (go_simp; done) | (go_simp; rfl)); intro gb146 hg w23 hbox hb; have n0_ := Aside0.mk (Kd.R_below (by (with_reducible repeat (first | apply Kd.R_alloc | apply Kd.R_drewN | apply Kd.R_drew)); exact HO0_0.out) hb); have n1_ := Aside0.mk (Kept.below (S := (fun k_ => P0_0_ k_)) (by repeat (first | (with_reducible first | exact HK.out | apply Kept.alloc | apply Kept.drewN | apply Kept.drew) | exact HK.out)) hb); have n2_ := Aside0.mk (below_step (by repeat (first | (with_reducible first | exact HB.out | apply below_alloc | apply pw_below_drewN | apply below_drew1) | exact HB.out)) hb); have n3_ := Aside0.mk (hbox); have n4_ := Aside0.mk ((by rw [hg]; exact (by first | exact HK.out.1 | exact (show Kept w _ (fun k_ => P0_0_ k_) from by repeat (first | (with_reducible first | exact HK.out | apply Kept.alloc | apply Kept.drewN | apply Kept.drew) | exact HK.out)).1) : w.heap.size ≤ gb146)); have n5_ := Aside0.mk ((by rw [hg]; exact (below_size (by repeat (first | (with_reducible first | exact HB.out | apply below_alloc | apply pw_below_drewN | apply below_drew1) | exact HB.out))) : w0.heap.size ≤ gb146)); clear HO0_0; clear HK; clear HB; have HO0_0 := n0_; have HK := n1_; have HB := n2_; have BK146 := n3_; have GW146 := n4_; have GE146 := n5_; clear n0_ n1_ n2_ n3_ n4_ n5_; clear hb hbox hg) | ((with_reducible refine gate_dst (N := 6) rfl ?_); (try (refine gate_guard (by rfl) ?_; dsimp only)); refine box_event ?hg (N := 6) ?hd (cs := #[.slice none 0 0, .int .i64 0]) (t := 53) ?hr ?_; (case hd => rfl); (case hg => rfl); (case hr => first | (go_simp; done) | (go_simp; rfl)); intro gb147 hg w24 hbox hb; have n0_ := Aside0.mk (Kd.R_below (by (with_reducible repeat (first | apply Kd.R_alloc | apply Kd.R_drewN | apply Kd.R_drew)); exact HO0_0.out) hb); have n1_ := Aside0.mk (blk_below (g := gb146) (o := .cells #[.slice Ao22 l0_0.length co22, .int .i64 a0_1] 53 (0, 0)) (by (with_reducible repeat (first | refine blk_drewN ?_ _ | refine blk_drew ?_ | refine blk_alloc ?_ _)); exact BK146.out) hb); have n2_ := Aside0.mk (Kept.below (S := (fun k_ => P0_0_ k_)) (by repeat (first | (with_reducible first | exact HK.out | apply Kept.alloc | apply Kept.drewN | apply Kept.drew | refine Kept.setCell ?_ (.inr GW146.out) _) | exact HK.out)) hb); have n3_ := Aside0.mk (below_step (by repeat (first | (with_reducible first | exact HB.out | apply below_alloc | apply pw_below_drewN | apply below_drew1 | refine below_set ?_ GE146.out) | exact HB.out)) hb); have n4_ := Aside0.mk (hbox); have n5_ := Aside0.mk ((by rw [hg]; exact (by first | exact HK.out.1 | exact (show Kept w _ (fun k_ => P0_0_ k_) from by repeat (first | (with_reducible first | exact HK.out | apply Kept.alloc | apply Kept.drewN | apply Kept.drew | refine Kept.setCell ?_ (.inr GW146.out) _) | exact HK.out)).1) : w.heap.size ≤ gb147)); have n6_ := Aside0.mk ((by rw [hg]; exact (below_size (by repeat (first | (with_reducible first | exact HB.out | apply below_alloc | apply pw_below_drewN | apply below_drew1 | refine below_set ?_ GE146.out) | exact HB.out))) : w0.heap.size ≤ gb147)); have n7_ := Aside0.mk ((by rw [hg]; exact Nat.ne_of_lt (blk_lt (g := gb146) (o := .cells #[.slice Ao22 l0_0.length co22, .int .i64 a0_1] 53 (0, 0)) (by (with_reducible repeat (first | refine blk_drewN ?_ _ | refine blk_drew ?_ | refine blk_alloc ?_ _)); exact BK146.out)) : gb146 ≠ gb147)); have n8_ := Aside0.mk ((by rw [hg]; exact Nat.ne_of_gt (blk_lt (g := gb146) (o := .cells #[.slice Ao22 l0_0.length co22, .int .i64 a0_1] 53 (0, 0)) (by (with_reducible repeat (first | refine blk_drewN ?_ _ | refine blk_drew ?_ | refine blk_alloc ?_ _)); exact BK146.out)) : gb147 ≠ gb146)); clear HO0_0; clear BK146; clear HK; clear HB; have HO0_0 := n0_; have BK146 := n1_; have HK := n2_; have HB := n3_; have BK147 := n4_; have GW147 := n5_; have GE147 := n6_; have NB146_147 := n7_; have NB147_146 := n8_; clear n0_ n1_ n2_ n3_ n4_ n5_ n6_ n7_ n8_; clear hb hbox hg; have hnb25 := NB146_147.out; have hnc25 := NB147_146.out; have hcz26_0 : w24.cell? ⟨gb146, 0, none⟩ = some (.slice Ao22 l0_0.length co22) := (blk_cell BK146.out 0).trans rfl; have hcz26_1 : w24.cell? ⟨gb146, 1, none⟩ = some (.int .i64 a0_1) := (blk_cell BK146.out 1).trans rfl; have hfz26_0 := blk_frozen BK146.out 0; have hfz26_1 := blk_frozen BK146.out 1) | ((with_reducible refine gate_dst (N := 18) rfl ?_); (try (refine gate_guard (by rfl) ?_; dsimp only)); refine Kd.R_lit (Kd.int .u64) _ 25 ?hg (N := 18) ?hd (xs := ([] : List Int)) (inner := []) (ok := fun _ => True) (okp := fun _ => True) ?hr ?hp (fun _ hk => hk) trivial (Below.refl _ _) (Nat.le_refl _) (by simp) ?_; (case hd => rfl); (case hg => rfl); (case hr => first | (go_simp; done) | (go_simp; rfl)); (case hp => exact (Reps.none _ _)); intro v149 w27 ho28 hb hg_ hnew_; clear hg_ hnew_; (first | rw [← Ny148.out] at ho28 | (simp only [Int.reduceToNat] at ho28; rw [← Ny148.out] at ho28)); have n0_ := Aside0.mk (Kd.R_elder' (by (with_reducible repeat (first | apply Kd.R_alloc | apply Kd.R_drewN | apply Kd.R_drew)); exact HO0_0.out) (Kd.R_base ho28) hb); have n1_ := Aside0.mk (Kd.R_lower (Kd.R_new' (Kd.R_newM (M := fun k_ => (P0_0_ k_ ∨ w.heap.size ≤ k_)) ho28 (by first | exact HK.out.1 | exact (show Kept w _ (fun k_ => P0_0_ k_) from by repeat (first | (with_reducible first | exact HK.out | apply Kept.alloc | apply Kept.drewN | apply Kept.drew | refine Kept.setCell ?_ (.inr GW146.out) _ | refine Kept.setCell ?_ (.inr GW147.out) _) | exact HK.out)).1) (fun k_ h_ => .inr h_)) (Kd.R_lt (by (with_reducible repeat (first | apply Kd.R_alloc | apply Kd.R_drewN | apply Kd.R_drew)); exact HO0_0.out))) (below_size (by repeat (first | (with_reducible first | exact HB.out | apply below_alloc | apply pw_below_drewN | apply below_drew1 | refine below_set ?_ GE146.out | refine below_set ?_ GE147.out) | exact HB.out)))); have n2_ := Aside0.mk (blk_below (g := gb146) (o := .cells #[.slice Ao22 l0_0.length co22, .int .i64 a0_1] 53 (0, 0)) (by (with_reducible repeat (first | refine blk_drewN ?_ _ | refine blk_drew ?_ | refine blk_alloc ?_ _)); exact BK146.out) hb); have n3_ := Aside0.mk (blk_below (g := gb147) (o := .cells #[.slice none 0 0, .int .i64 0] 53 (0, 0)) (by (with_reducible repeat (first | refine blk_drewN ?_ _ | refine blk_drew ?_ | refine blk_alloc ?_ _)); exact BK147.out) hb); have n4_ := Aside0.mk (Kept.below (S := (fun k_ => P0_0_ k_)) (by repeat (first | (with_reducible first | exact HK.out | apply Kept.alloc | apply Kept.drewN | apply Kept.drew | refine Kept.setCell ?_ (.inr GW146.out) _ | refine Kept.setCell ?_ (.inr GW147.out) _) | exact HK.out)) hb); have n5_ := Aside0.mk (below_step (by repeat (first | (with_reducible first | exact HB.out | apply below_alloc | apply pw_below_drewN | apply below_drew1 | refine below_set ?_ GE146.out | refine below_set ?_ GE147.out) | exact HB.out)) hb); clear HO0_0; clear BK146; clear BK147; clear HK; clear HB; have HO0_0 := n0_; have HO150 := n1_; have BK146 := n2_; have BK147 := n3_; have HK := n4_; have HB := n5_; clear n0_ n1_ n2_ n3_ n4_ n5_; clear hb ho28; have hcz29_0 : w27.cell? ⟨gb146, 0, none⟩ = some (.slice Ao22 l0_0.length co22) := (blk_cell BK146.out 0).trans rfl; have hcz29_1 : w27.cell? ⟨gb146, 1, none⟩ = some (.int .i64 a0_1) := (blk_cell BK146.out 1).trans rfl; have hfz29_0 := blk_frozen BK146.out 0; have hfz29_1 := blk_frozen BK146.out 1) | ((with_reducible refine gate_builtin (b := .append) (xs := #[.tmp 18, .tmp 20]) rfl ?_); (try (refine gate_guard (by rfl) ?_; dsimp only)); at_builtin; refine Kd.R_append_rows (Kd.int .u64) (w0 := w0) w0.heap.size rfl (.tmp 18) (.tmp 20) 51 25 (.int .u64 0) 8 rfl Try.underlying51 info25 rfl (by decide) (by omega) v149 y148 l0_0 _ _ _ (fun k_ => (P0_0_ k_ ∨ w.heap.size ≤ k_) ∧ some k_ ≠ (.slice Ao22 l0_0.length co22 : Value).ownBlock) (fun _ => False) rfl rfl ?aO ?aR (fun _ _ h => h) (fun _ h => h.elim) ?aF ?aB ?aS ?aL ?_; (case aR => repeat (first | exact (Kd.R_reads' HO0_0.out).2.2 | (with_reducible refine Kd.C_alloc ?_ _) | (with_reducible refine Kd.C_drewN ?_ _) | (with_reducible refine Kd.C_drew ?_))); (case aB => exact (by repeat (first | (with_reducible first | exact HB.out | apply below_alloc | apply pw_below_drewN | apply below_drew1 | refine below_set ?_ GE146.out | refine below_set ?_ GE147.out) | exact HB.out))); (case aF => exact (fun k_ hk => ⟨(.inr (Nat.le_trans (by first | exact HK.out.1 | exact (show Kept w _ (fun k_ => P0_0_ k_) from by repeat (first | (with_reducible first | exact HK.out | apply Kept.alloc | apply Kept.drewN | apply Kept.drew | refine Kept.setCell ?_ (.inr GW146.out) _ | refine Kept.setCell ?_ (.inr GW147.out) _) | exact HK.out)).1) hk)), Kd.fresh' (Kd.R_lt (by (with_reducible repeat (first | apply Kd.R_alloc | apply Kd.R_drewN | apply Kd.R_drew)); exact HO0_0.out)) k_ hk⟩)); (case aO => exact (by (with_reducible repeat (first | apply Kd.R_alloc | apply Kd.R_drewN | apply Kd.R_drew)); exact Kd.R_mono HO150.out (fun _ hk => ⟨hk.1.1, hk.2⟩))); (case aS => exact (below_size (by repeat (first | (with_reducible first | exact HB.out | apply below_alloc | apply pw_below_drewN | apply below_drew1 | refine below_set ?_ GE146.out | refine below_set ?_ GE147.out) | exact HB.out)))); (case aL => have := LMc18.out; omega); intro v152 w30 ho hb hg hat; rw [← Ny151.out] at ho; have n0_ := Aside0.mk (Kd.R_after (ok := (fun k_ => (P0_0_ k_ ∨ w.heap.size ≤ k_))) (by (with_reducible repeat (first | apply Kd.R_alloc | apply Kd.R_drewN | apply Kd.R_drew)); exact HO0_0.out) hg hat); have n1_ := Aside0.mk (blk_grown (g := gb146) (o := .cells #[.slice Ao22 l0_0.length co22, .int .i64 a0_1] 53 (0, 0)) (by (with_reducible repeat (first | refine blk_drewN ?_ _ | refine blk_drew ?_ | refine blk_alloc ?_ _)); exact BK146.out) hg (Kd.R_ne HO150.out BK146.out (by decide))); have n2_ := Aside0.mk (blk_grown (g := gb147) (o := .cells #[.slice none 0 0, .int .i64 0] 53 (0, 0)) (by (with_reducible repeat (first | refine blk_drewN ?_ _ | refine blk_drew ?_ | refine blk_alloc ?_ _)); exact BK147.out) hg (Kd.R_ne HO150.out BK147.out (by decide))); have n3_ := Aside0.mk (hb); have n4_ := Aside0.mk (Kept.of_grown (S := (fun k_ => P0_0_ k_)) hg (by repeat (first | (with_reducible first | exact HK.out | apply Kept.alloc | apply Kept.drewN | apply Kept.drew | refine Kept.setCell ?_ (.inr GW146.out) _ | refine Kept.setCell ?_ (.inr GW147.out) _) | exact HK.out)) (fun k_ e_ => (HO150.out.1 k_ e_).1.1)); have n5_ := Aside0.mk (ho); clear HO0_0; clear BK146; clear BK147; clear HB; clear HK; clear HO150; have HO0_0 := n0_; have BK146 := n1_; have BK147 := n2_; have HB := n3_; have HK := n4_; have HO153 := n5_; clear n0_ n1_ n2_ n3_ n4_ n5_; clear ho hb hg hat; have p21 : 0 ≤ (a1 : Int) := of_decide_eq_true (by first | (with_reducible assumption) | assumption); have q21 : (a1 : Int) < ((y151.length : Int) : Int) := of_decide_eq_true (by first | (with_reducible assumption) | assumption); obtain ⟨go21, co21, eo21, gb21, gl21, cl21, HG21⟩ := Kd.R_form HO153.out (by omega); (first | cases eo21 | (injection eo21 with ea_ en_ ec_; (first | subst ea_ | (injection ea_ with ea_; subst ea_)); subst ec_; clear en_)); have GB21 := Aside0.mk gb21; have GG21 := Aside0.mk HG21; clear gb21 gl21 HG21; have HMgo21 := Aside0.mk (show (P0_0_ go21 ∨ w.heap.size ≤ go21) from (HO153.out.1 _ rfl).1); obtain ⟨hx21_0, hf21_0⟩ := Kd.R_celln 0 HO153.out (a1 : Int) p21 q21; replace p21 := eq_true p21; replace q21 := eq_true q21; obtain ⟨hy31_, hz31_⟩ := Kd.R_celln 0 HO153.out (a1 : Int) (of_decide_eq_true (by first | (with_reducible assumption) | assumption)) (of_decide_eq_true (by first | (with_reducible assumption) | assumption)); have HP31 := Kd.R_putg HO153.out (a1 : Int) a2) | ((with_reducible refine gate_store (t := 25) (p := 25) rfl ?_); refine store_event (t := 25) (p := 25) (v := ?vo_w32) (w1 := (w30.setCell ⟨go21, (a1 : Int).toNat, none⟩ (.int .u64 a2))) ?hg ?ho ?hn ?hr ?_; (case ho => rfl); (case hg => rfl); (case hn => rfl); (case hr => first | (go_simp; done) | (go_simp; rfl)); intro w32 hw; have hg : w30.grownBy w32 (some go21) := (by rw [hw]; exact HP31.2); have hp_ : Kd.R (Kd.int .u64) 25 w32 w0.heap.size (fun k_ => (P0_0_ k_ ∨ w.heap.size ≤ k_) ∧ some k_ ≠ (.slice Ao22 l0_0.length co22 : Value).ownBlock) (.slice (some ⟨go21, 0, none⟩) y151.length co21) y154 := (by rw [hw, Ny154.out]; exact HP31.1); clear HP31; have n0_ := Aside0.mk (Kd.R_after (v := (.slice (some ⟨go21, 0, none⟩) y151.length co21)) (v1 := (.slice (some ⟨go21, 0, none⟩) y151.length co21)) (ok := (fun k_ => (P0_0_ k_ ∨ w.heap.size ≤ k_))) (by (with_reducible repeat (first | apply Kd.R_alloc | apply Kd.R_drewN | apply Kd.R_drew)); exact HO0_0.out) hg (.inl rfl)); have n1_ := Aside0.mk (blk_grown (g := gb146) (o := .cells #[.slice Ao22 l0_0.length co22, .int .i64 a0_1] 53 (0, 0)) (by (with_reducible repeat (first | refine blk_drewN ?_ _ | refine blk_drew ?_ | refine blk_alloc ?_ _)); exact BK146.out) hg (Kd.R_ne HO153.out BK146.out (by decide))); have n2_ := Aside0.mk (blk_grown (g := gb147) (o := .cells #[.slice none 0 0, .int .i64 0] 53 (0, 0)) (by (with_reducible repeat (first | refine blk_drewN ?_ _ | refine blk_drew ?_ | refine blk_alloc ?_ _)); exact BK147.out) hg (Kd.R_ne HO153.out BK147.out (by decide))); have n3_ := Aside0.mk (hp_); have n4_ := Aside0.mk ((by rw [hw]; exact below_set (HB.out) GB21.out : Below w0.heap.size w0 w32)); have n5_ := Aside0.mk (Kept.of_grown (S := (fun k_ => P0_0_ k_)) hg (by repeat (first | (with_reducible first | exact HK.out | apply Kept.alloc | apply Kept.drewN | apply Kept.drew | refine Kept.setCell ?_ (.inr GW146.out) _ | refine Kept.setCell ?_ (.inr GW147.out) _) | exact HK.out)) (fun k_ e_ => (HO153.out.1 k_ e_).1)); clear HO0_0; clear BK146; clear BK147; clear HO153; clear HB; clear HK; have HO0_0 := n0_; have BK146 := n1_; have BK147 := n2_; have HO153 := n3_; have HB := n4_; have HK := n5_; clear n0_ n1_ n2_ n3_ n4_ n5_; clear hg hw hp_; have hcz33_0 : w32.cell? ⟨gb146, 0, none⟩ = some (.slice Ao22 l0_0.length co22) := (blk_cell BK146.out 0).trans rfl; have hcz33_1 : w32.cell? ⟨gb146, 1, none⟩ = some (.int .i64 a0_1) := (blk_cell BK146.out 1).trans rfl; have hfz33_0 := blk_frozen BK146.out 0; have hfz33_1 := blk_frozen BK146.out 1; have hcz34_0 : w32.cell? ⟨gb147, 0, none⟩ = some (.slice none 0 0) := (blk_cell BK147.out 0).trans rfl; have hcz34_1 : w32.cell? ⟨gb147, 1, none⟩ = some (.int .i64 0) := (blk_cell BK147.out 1).trans rfl; have hfz34_0 := blk_frozen BK147.out 0; have hfz34_1 := blk_frozen BK147.out 1))
      refine bodyPost_ret (results_cell_row rfl _ _ gb147 53 #[.slice (some ⟨go21, 0, none⟩) y151.length co21, .int .i64 (wrap64 (a0_1 + 1))] (0, 0) _ rfl (by (with_reducible repeat (first | refine blk_drewN ?_ _ | refine blk_drew ?_ | refine blk_alloc ?_ _)); refine blk_put (cs := #[.slice (some ⟨go21, 0, none⟩) y151.length co21, .int .i64 0]) ?_ 1 _ rfl; (with_reducible repeat (first | refine blk_drewN ?_ _ | refine blk_drew ?_ | refine blk_alloc ?_ _)); refine blk_put (cs := #[.slice none 0 0, .int .i64 0]) ?_ 0 _ rfl; (with_reducible repeat (first | refine blk_drewN ?_ _ | refine blk_drew ?_ | refine blk_alloc ?_ _)); exact BK147.out) Try.underlying53 rfl (by kernel_rfl)) rfl ?_
      exact ⟨_, by first | rfl | (simp [errW_none, errW_some] <;> rfl) | (simp [*, errW_none, errW_some] <;> rfl), by (with_reducible repeat (first | apply Kd.R_alloc | apply Kd.R_drewN | apply Kd.R_drew)); exact Kd.R_mono (Kd.R_far (p := ⟨gb147, 1, none⟩) (Kd.R_far (p := ⟨gb147, 0, none⟩) (Kd.R_types HO153.out BK147.out (by decide)) (fun _ hk => hk.2) (.slice (some ⟨go21, 0, none⟩) y151.length co21)) (fun _ hk => hk.2) (.int .i64 (wrap64 (a0_1 + 1)))) (fun _ hk => hk.1.1), by repeat (first | (with_reducible first | exact HB.out | apply below_alloc | apply pw_below_drewN | apply below_drew1 | refine below_set ?_ GE146.out | refine below_set ?_ GE147.out) | exact HB.out), by repeat (first | (with_reducible first | exact HK.out | apply Kept.alloc | apply Kept.drewN | apply Kept.drew | refine Kept.setCell ?_ (.inr GW146.out) _ | refine Kept.setCell ?_ (.inr GW147.out) _) | exact HK.out)⟩
     ·rw [if_neg c20] at H
      exact absurd H (by simp)
    ·rw [if_neg c19] at H
     exact absurd H (by simp)
   ·rw [if_neg c18] at H
    exact absurd H (by simp)

/-! ### corrieref06_Swap: function 101 -/
def corrieref06_Swap.j0 : Nat → Int → Int → Int → Bool → List Int → Int → Option (List Int × Int × Bool)
 | 0, _, _, _, _, _, _ => none
 | k + 1, x1, x2, x3, x18, x156000, x156001 => if x18 = true then (some (x156000, x156001, false)) else (if 0 ≤ x1 then (if x1 < (x156000.length : Int) then (if (rd x156000 x1) = x2 then ((corrieref06_Store.f x156000 x156001 x1 x3).bind fun bt158 => (some (bt158.1, bt158.2, true))) else (some (x156000, wrap64 (x156001 + 1), false))) else (none)) else (none))
def corrieref06_Swap.f (k : Nat) (l0_0 : List Int) (a0_1 : Int) (a1 : Int) (a2 : Int) (a3 : Int) : Option (List Int × Int × Bool) := if a1 < 0 then (corrieref06_Swap.j0 k a1 a2 a3 true l0_0 a0_1) else (corrieref06_Swap.j0 k a1 a2 a3 (decide (a1 ≥ (l0_0.length : Int))) l0_0 a0_1)
theorem corrieref06_Swap.mono_l : ∀ k, (∀ y0 y1 y2 y3 y4 y5, LeO (corrieref06_Swap.j0 k y0 y1 y2 y3 y4 y5) (corrieref06_Swap.j0 (k + 1) y0 y1 y2 y3 y4 y5))
 | 0 => fun _ _ _ _ _ _ r h => by simp [corrieref06_Swap.j0] at h
 | k + 1 => by
  have ih0 := corrieref06_Swap.mono_l k
  ·intro y0 y1 y2 y3 y4 y5
   unfold corrieref06_Swap.j0
   repeat' first
   | (with_reducible exact ih0 _ _ _ _ _ _)
   | (with_reducible exact LeO.refl _)
   | (with_reducible exact LeO.none _)
   | (with_reducible refine LeO.ite ?_ ?_)
   | (with_reducible refine LeO.bind ?_ (fun _ => ?_))
   | exact ih0 _ _ _ _ _ _
   | exact LeO.none _
   | refine LeO.ite ?_ ?_
   | refine LeO.bind ?_ (fun _ => ?_)
theorem corrieref06_Swap.mono : ∀ a0 a1 a2 a3 a4 k, LeO (corrieref06_Swap.f k a0 a1 a2 a3 a4) (corrieref06_Swap.f (k + 1) a0 a1 a2 a3 a4) := by
 intro a0 a1 a2 a3 a4 k
 have ih0 := corrieref06_Swap.mono_l k
 unfold corrieref06_Swap.f
 repeat' first
   | (with_reducible exact ih0 _ _ _ _ _ _)
   | (with_reducible exact LeO.refl _)
   | (with_reducible exact LeO.none _)
   | (with_reducible refine LeO.ite ?_ ?_)
   | (with_reducible refine LeO.bind ?_ (fun _ => ?_))
   | exact ih0 _ _ _ _ _ _
   | exact LeO.none _
   | refine LeO.ite ?_ ?_
   | refine LeO.bind ?_ (fun _ => ?_)
set_option maxHeartbeats 8000000 in
set_option maxRecDepth 100000 in
theorem corrieref06_Swap.calls (k : Nat) (P0_0_ : Nat → Prop) (u9000_ : Value) (l0_0 : List Int) (a0_1 : Int) (a1 : Int) (a2 : Int) (a3 : Int) (r1 : List Int) (r2 : Int) (r3 : Bool) (w0 w : World) (hB : Below w0.heap.size w0 w) (ho0_0 : Kd.R (Kd.int .u64) 25 w w0.heap.size P0_0_ u9000_ l0_0) (h : corrieref06_Swap.f k l0_0 a0_1 a1 a2 a3 = some (r1, r2, r3)) :
  Calls Try.prog 101 #[.agg #[u9000_, .int .i64 a0_1], .int .i64 a1, .int .u64 a2, .int .u64 a3] w fun e w' => ∃ v0_ : Value, e = .returned (.tuple #[.agg #[v0_, .int .i64 r2], .bool r3]) ∧ Kd.R (Kd.int .u64) 25 w' w0.heap.size (fun k_ => (P0_0_ k_ ∨ w.heap.size ≤ k_)) v0_ r1 ∧ Below w0.heap.size w0 w' ∧ Kept w w' (fun k_ => P0_0_ k_) := by
 have hu53 := Try.underlying53
 have HO0_0 := Aside0.mk (show Kd.R (Kd.int .u64) 25 w w0.heap.size (fun k_ => (P0_0_ k_ ∨ w.heap.size ≤ k_)) u9000_ l0_0 from Kd.R_mono ho0_0 (fun k_ hk => (.inl hk)))
 have HK := Aside0.mk (Kept.refl w (fun k_ => P0_0_ k_))
 have HW0 := Aside0.mk hB.size
 have HB := Aside0.mk hB
 clear hB
 have H : (if a1 < 0 then (corrieref06_Swap.j0 k a1 a2 a3 true l0_0 a0_1) else (corrieref06_Swap.j0 k a1 a2 a3 (decide (a1 ≥ (l0_0.length : Int))) l0_0 a0_1)) = some (r1, r2, r3) := h
 clear h
 have HC5 := Aside0.mk H
 clear H
 obtain ⟨Ao6, co6, eo6⟩ := Kd.R_slice HO0_0.out
 subst eo6
 go_enter Try.func101, Try.ntmps101
 go_upto_region 1 with (first | ((with_reducible refine gate_dst (N := 4) rfl ?_); (try (refine gate_guard (by rfl) ?_; dsimp only)); refine box_event ?hg (N := 4) ?hd (cs := #[.slice Ao6 l0_0.length co6, .int .i64 a0_1]) (t := 53) ?hr ?_; (case hd => rfl); (case hg => rfl); (case hr => first | (go_simp; done) | (go_simp; rfl)); intro gb155 hg w7 hbox hb; have n0_ := Aside0.mk (Kd.R_below (by (with_reducible repeat (first | apply Kd.R_alloc | apply Kd.R_drewN | apply Kd.R_drew)); exact HO0_0.out) hb); have n1_ := Aside0.mk (Kept.below (S := (fun k_ => P0_0_ k_)) (by repeat (first | (with_reducible first | exact HK.out | apply Kept.alloc | apply Kept.drewN | apply Kept.drew) | exact HK.out)) hb); have n2_ := Aside0.mk (below_step (by repeat (first | (with_reducible first | exact HB.out | apply below_alloc | apply pw_below_drewN | apply below_drew1) | exact HB.out)) hb); have n3_ := Aside0.mk (hbox); have n4_ := Aside0.mk ((by rw [hg]; exact (by first | exact HK.out.1 | exact (show Kept w _ (fun k_ => P0_0_ k_) from by repeat (first | (with_reducible first | exact HK.out | apply Kept.alloc | apply Kept.drewN | apply Kept.drew) | exact HK.out)).1) : w.heap.size ≤ gb155)); have n5_ := Aside0.mk ((by rw [hg]; exact (below_size (by repeat (first | (with_reducible first | exact HB.out | apply below_alloc | apply pw_below_drewN | apply below_drew1) | exact HB.out))) : w0.heap.size ≤ gb155)); clear HO0_0; clear HK; clear HB; have HO0_0 := n0_; have HK := n1_; have HB := n2_; have BK155 := n3_; have GW155 := n4_; have GE155 := n5_; clear n0_ n1_ n2_ n3_ n4_ n5_; clear hb hbox hg) | ((with_reducible refine gate_dst (N := 8) rfl ?_); (try (refine gate_guard (by rfl) ?_; dsimp only)); refine box_event ?hg (N := 8) ?hd (cs := #[.slice none 0 0, .int .i64 0]) (t := 53) ?hr ?_; (case hd => rfl); (case hg => rfl); (case hr => first | (go_simp; done) | (go_simp; rfl)); intro gb156 hg w8 hbox hb; have n0_ := Aside0.mk (Kd.R_below (by (with_reducible repeat (first | apply Kd.R_alloc | apply Kd.R_drewN | apply Kd.R_drew)); exact HO0_0.out) hb); have n1_ := Aside0.mk (blk_below (g := gb155) (o := .cells #[.slice Ao6 l0_0.length co6, .int .i64 a0_1] 53 (0, 0)) (by (with_reducible repeat (first | refine blk_drewN ?_ _ | refine blk_drew ?_ | refine blk_alloc ?_ _)); exact BK155.out) hb); have n2_ := Aside0.mk (Kept.below (S := (fun k_ => P0_0_ k_)) (by repeat (first | (with_reducible first | exact HK.out | apply Kept.alloc | apply Kept.drewN | apply Kept.drew | refine Kept.setCell ?_ (.inr GW155.out) _) | exact HK.out)) hb); have n3_ := Aside0.mk (below_step (by repeat (first | (with_reducible first | exact HB.out | apply below_alloc | apply pw_below_drewN | apply below_drew1 | refine below_set ?_ GE155.out) | exact HB.out)) hb); have n4_ := Aside0.mk (hbox); have n5_ := Aside0.mk ((by rw [hg]; exact (by first | exact HK.out.1 | exact (show Kept w _ (fun k_ => P0_0_ k_) from by repeat (first | (with_reducible first | exact HK.out | apply Kept.alloc | apply Kept.drewN | apply Kept.drew | refine Kept.setCell ?_ (.inr GW155.out) _) | exact HK.out)).1) : w.heap.size ≤ gb156)); have n6_ := Aside0.mk ((by rw [hg]; exact (below_size (by repeat (first | (with_reducible first | exact HB.out | apply below_alloc | apply pw_below_drewN | apply below_drew1 | refine below_set ?_ GE155.out) | exact HB.out))) : w0.heap.size ≤ gb156)); have n7_ := Aside0.mk ((by rw [hg]; exact Nat.ne_of_lt (blk_lt (g := gb155) (o := .cells #[.slice Ao6 l0_0.length co6, .int .i64 a0_1] 53 (0, 0)) (by (with_reducible repeat (first | refine blk_drewN ?_ _ | refine blk_drew ?_ | refine blk_alloc ?_ _)); exact BK155.out)) : gb155 ≠ gb156)); have n8_ := Aside0.mk ((by rw [hg]; exact Nat.ne_of_gt (blk_lt (g := gb155) (o := .cells #[.slice Ao6 l0_0.length co6, .int .i64 a0_1] 53 (0, 0)) (by (with_reducible repeat (first | refine blk_drewN ?_ _ | refine blk_drew ?_ | refine blk_alloc ?_ _)); exact BK155.out)) : gb156 ≠ gb155)); clear HO0_0; clear BK155; clear HK; clear HB; have HO0_0 := n0_; have BK155 := n1_; have HK := n2_; have HB := n3_; have BK156 := n4_; have GW156 := n5_; have GE156 := n6_; have NB155_156 := n7_; have NB156_155 := n8_; clear n0_ n1_ n2_ n3_ n4_ n5_ n6_ n7_ n8_; clear hb hbox hg))
 (try simp only [Act.put, List.setIfInBounds_toArray, List.set_cons_zero, List.set_cons_succ])
 go_cut [18] (fun v18 wc => ∃ (kq : Nat) (x18_4 : Bool), v18 = .bool x18_4 ∧ Aside0 (corrieref06_Swap.j0 kq a1 a2 a3 x18_4 l0_0 a0_1 = some (r1, r2, r3)) ∧ Aside0 (kq ≤ k) ∧ Aside0 (Kd.R (Kd.int .u64) 25 wc w0.heap.size (fun k_ => (P0_0_ k_ ∨ w.heap.size ≤ k_)) (.slice Ao6 l0_0.length co6) l0_0) ∧ Aside0 (wc.heap[gb155]? = some (.cells #[(.slice Ao6 l0_0.length co6), .int .i64 a0_1] 53 (0, 0))) ∧ Aside0 (wc.heap[gb156]? = some (.cells #[(.slice none 0 0), .int .i64 0] 53 (0, 0))) ∧ Aside0 (Kept w wc (fun k_ => P0_0_ k_)) ∧ Aside0 (Below w0.heap.size w0 wc))
 case first =>
  have H := HC5.out
  clear HC5
  by_cases c9 : a1 < 0
  ·rw [if_pos c9] at H
   have c9b0 : decide (a1 < 0) = true := decide_eq_true c9
   clear c9
   (first | rw [c9b0] | (simp only [i64_w, i32_w]; rw [c9b0]) | skip)
   have H' := Aside0.mk H
   clear H
   go_wp2
   go_meet
   case rel => exact ⟨_, (true), (by first | rfl | (simp; done) | (simp [*]; done)), H', ⟨by first | omega | exact Nat.le_refl _⟩, ⟨by (with_reducible repeat (first | apply Kd.R_alloc | apply Kd.R_drewN | apply Kd.R_drew)); exact HO0_0.out⟩, ⟨by (with_reducible repeat (first | refine blk_drewN ?_ _ | refine blk_drew ?_ | refine blk_alloc ?_ _)); exact BK155.out⟩, ⟨by (with_reducible repeat (first | refine blk_drewN ?_ _ | refine blk_drew ?_ | refine blk_alloc ?_ _)); exact BK156.out⟩, ⟨by repeat (first | (with_reducible first | exact HK.out | apply Kept.alloc | apply Kept.drewN | apply Kept.drew | refine Kept.setCell ?_ (.inr GW155.out) _ | refine Kept.setCell ?_ (.inr GW156.out) _) | exact HK.out)⟩, ⟨by repeat (first | (with_reducible first | exact HB.out | apply below_alloc | apply pw_below_drewN | apply below_drew1 | refine below_set ?_ GE155.out | refine below_set ?_ GE156.out) | exact HB.out)⟩⟩
  ·rw [if_neg c9] at H
   have c9b0 : decide (a1 < 0) = false := decide_eq_false c9
   clear c9
   (first | rw [c9b0] | (simp only [i64_w, i32_w]; rw [c9b0]) | skip)
   have H' := Aside0.mk H
   clear H
   have hnb10 := NB155_156.out
   have hnc10 := NB156_155.out
   have hcz11_0 : w8.cell? ⟨gb155, 0, none⟩ = some (.slice Ao6 l0_0.length co6) := (blk_cell BK155.out 0).trans rfl
   have hcz11_1 : w8.cell? ⟨gb155, 1, none⟩ = some (.int .i64 a0_1) := (blk_cell BK155.out 1).trans rfl
   have hfz11_0 := blk_frozen BK155.out 0
   have hfz11_1 := blk_frozen BK155.out 1
   go_wp2
   go_meet
   case rel => exact ⟨_, (decide (a1 ≥ (l0_0.length : Int))), (by first | rfl | (simp; done) | (simp [*]; done)), H', ⟨by first | omega | exact Nat.le_refl _⟩, ⟨by (with_reducible repeat (first | apply Kd.R_alloc | apply Kd.R_drewN | apply Kd.R_drew)); exact HO0_0.out⟩, ⟨by (with_reducible repeat (first | refine blk_drewN ?_ _ | refine blk_drew ?_ | refine blk_alloc ?_ _)); exact BK155.out⟩, ⟨by (with_reducible repeat (first | refine blk_drewN ?_ _ | refine blk_drew ?_ | refine blk_alloc ?_ _)); exact BK156.out⟩, ⟨by repeat (first | (with_reducible first | exact HK.out | apply Kept.alloc | apply Kept.drewN | apply Kept.drew | refine Kept.setCell ?_ (.inr GW155.out) _ | refine Kept.setCell ?_ (.inr GW156.out) _) | exact HK.out)⟩, ⟨by repeat (first | (with_reducible first | exact HB.out | apply below_alloc | apply pw_below_drewN | apply below_drew1 | refine below_set ?_ GE155.out | refine below_set ?_ GE156.out) | exact HB.out)⟩⟩
 case rest =>
  clear HC5
  try clear c1
  try clear p2
  try clear c9
  try clear c9b0
  try clear c10
  try clear hcz11_0
  try clear hcz11_1
  try clear hfz11_0
  try clear hfz11_1
  obtain ⟨kq, x18_4, rfl, HA, HJ4, HO_156000, BK155, BK156, HK, HB⟩ := hcut
  cases kq with
  | zero => exact absurd HA.out (by simp [corrieref06_Swap.j0])
  | succ kj4 =>
   have H := HA.out
   clear HA
   simp only [corrieref06_Swap.j0] at H
   by_cases c12 : x18_4 = true
   ·subst c12
    have H1 : (some (l0_0, a0_1, false)) = some (r1, r2, r3) := by rw [if_pos rfl] at H; exact H
    clear H
    have H := H1
    clear H1
    simp only [Option.some.injEq, Prod.mk.injEq] at H
    obtain ⟨rfl, rfl, rfl⟩ := H
    have hnb13 := NB155_156.out
    have hnc13 := NB156_155.out
    have hcz14_0 : wc.cell? ⟨gb155, 0, none⟩ = some (.slice Ao6 l0_0.length co6) := (blk_cell BK155.out 0).trans rfl
    have hcz14_1 : wc.cell? ⟨gb155, 1, none⟩ = some (.int .i64 a0_1) := (blk_cell BK155.out 1).trans rfl
    have hfz14_0 := blk_frozen BK155.out 0
    have hfz14_1 := blk_frozen BK155.out 1
    have hcz15_0 : wc.cell? ⟨gb156, 0, none⟩ = some (.slice none 0 0) := (blk_cell BK156.out 0).trans rfl
    have hcz15_1 : wc.cell? ⟨gb156, 1, none⟩ = some (.int .i64 0) := (blk_cell BK156.out 1).trans rfl
    have hfz15_0 := blk_frozen BK156.out 0
    have hfz15_1 := blk_frozen BK156.out 1
    go_wp2
    refine bodyPost_ret (results_ct rfl _ _ gb156 53 #[.slice Ao6 l0_0.length co6, .int .i64 a0_1] (0, 0) _ rfl (by (with_reducible repeat (first | refine blk_drewN ?_ _ | refine blk_drew ?_ | refine blk_alloc ?_ _)); refine blk_put (cs := #[.slice Ao6 l0_0.length co6, .int .i64 0]) ?_ 1 _ rfl; (with_reducible repeat (first | refine blk_drewN ?_ _ | refine blk_drew ?_ | refine blk_alloc ?_ _)); refine blk_put (cs := #[.slice none 0 0, .int .i64 0]) ?_ 0 _ rfl; (with_reducible repeat (first | refine blk_drewN ?_ _ | refine blk_drew ?_ | refine blk_alloc ?_ _)); exact BK156.out) Try.underlying53 rfl (by kernel_rfl)) rfl ?_
    exact ⟨_, by first | rfl | (simp [errW_none, errW_some] <;> rfl) | (simp [*, errW_none, errW_some] <;> rfl), by (with_reducible repeat (first | apply Kd.R_alloc | apply Kd.R_drewN | apply Kd.R_drew)); exact Kd.R_mono (Kd.R_far (p := ⟨gb156, 1, none⟩) (Kd.R_far (p := ⟨gb156, 0, none⟩) (Kd.R_types HO_156000.out BK156.out (by decide)) (fun _ hk => hk.2) (.slice Ao6 l0_0.length co6)) (fun _ hk => hk.2) (.int .i64 a0_1)) (fun _ hk => hk.1), by repeat (first | (with_reducible first | exact HB.out | apply below_alloc | apply pw_below_drewN | apply below_drew1 | refine below_set ?_ GE155.out | refine below_set ?_ GE156.out) | exact HB.out), by repeat (first | (with_reducible first | exact HK.out | apply Kept.alloc | apply Kept.drewN | apply Kept.drew | refine Kept.setCell ?_ (.inr GW155.out) _ | refine Kept.setCell ?_ (.inr GW156.out) _) | exact HK.out)⟩
   ·replace c12 := Bool.eq_false_iff.mpr c12
    subst c12
    have H1 : (if 0 ≤ a1 then (if a1 < (l0_0.length : Int) then (if (rd l0_0 a1) = a2 then ((corrieref06_Store.f l0_0 a0_1 a1 a3).bind fun bt158 => (some (bt158.1, bt158.2, true))) else (some (l0_0, wrap64 (a0_1 + 1), false))) else (none)) else (none)) = some (r1, r2, r3) := by rw [if_neg (show ¬ (false = true) by decide)] at H; exact H
    clear H
    have H := H1
    clear H1
    by_cases c16 : 0 ≤ a1
    ·rw [if_pos c16] at H
     have c16b0 : decide (0 ≤ a1) = true := decide_eq_true c16
     clear c16
     by_cases c17 : a1 < (l0_0.length : Int)
     ·rw [if_pos c17] at H
      have c17b0 : decide (a1 < (l0_0.length : Int)) = true := decide_eq_true c17
      clear c17
      by_cases c18 : (rd l0_0 a1) = a2
      ·rw [if_pos c18] at H
       have c18b0 : ((rd l0_0 a1) == a2) = true := beq_iff_eq.mpr c18
       have c18b1 : ((rd l0_0 a1) != a2) = false := bne_eq_false_iff_eq.mpr c18
       clear c18
       replace H := Option.bind_eq_some_iff.mp H
       obtain ⟨⟨t158, t161⟩, A190, H⟩ := H
       replace H : (some (t158, t161, true)) = some (r1, r2, r3) := H
       have A19 := Aside0.mk A190
       clear A190
       simp only [Option.some.injEq, Prod.mk.injEq] at H
       obtain ⟨rfl, rfl, rfl⟩ := H
       have hnb20 := NB155_156.out
       have hnc20 := NB156_155.out
       have hcz21_0 : wc.cell? ⟨gb155, 0, none⟩ = some (.slice Ao6 l0_0.length co6) := (blk_cell BK155.out 0).trans rfl
       have hcz21_1 : wc.cell? ⟨gb155, 1, none⟩ = some (.int .i64 a0_1) := (blk_cell BK155.out 1).trans rfl
       have hfz21_0 := blk_frozen BK155.out 0
       have hfz21_1 := blk_frozen BK155.out 1
       have p157 : 0 ≤ (a1 : Int) := of_decide_eq_true (by first | (with_reducible assumption) | assumption)
       have q157 : a1 < (l0_0.length : Int) := of_decide_eq_true (by first | (with_reducible assumption) | assumption)
       obtain ⟨ad157, e157, hx157_0⟩ := Kd.at_int (Kd.R_reads' HO_156000.out).2.2 a1 p157 q157
       cases e157
       replace p157 := eq_true p157
       replace q157 := eq_true q157
       go_wp2_with (first | ((with_reducible refine gate_callee (f := 89) rfl ?_); refine goesL_ (some 35) rfl rfl Try.func89 (by kernel_rfl) rfl #[.agg #[.slice (some ad157) l0_0.length co6, .int .i64 a0_1], .int .i64 a1, .int .u64 a3] rfl (by (try simp only [List.map_toArray, List.map_cons, List.map_nil]); first | done | rfl | (simp only [List.length_drop, List.length_take]; rfl)) ?_; (with_reducible refine (corrieref06_Store.calls (fun k_ => some k_ = (.slice (some ad157) l0_0.length co6 : Value).ownBlock) (.slice (some ad157) l0_0.length co6) l0_0 a0_1 a1 a3 t158 t161 w0 _ ?side1 ?side2 A19.out).mono ?_); (case side1 => repeat (first | (with_reducible first | exact HB.out | apply below_alloc | apply pw_below_drewN | apply below_drew1 | refine below_set ?_ GE155.out | refine below_set ?_ GE156.out) | exact HB.out)); (case side2 => exact Kd.R_tight rfl HO_156000.out); rintro e w22 ⟨v159, rfl, ho0, hb, hkp⟩; refine ⟨_, rfl, ?_⟩; have n0_ := Aside0.mk (blk_kept (by (with_reducible repeat (first | refine blk_drewN ?_ _ | refine blk_drew ?_ | refine blk_alloc ?_ _)); exact BK155.out) hkp (fun hs_ => (fun e_ => (Kd.R_ne HO_156000.out BK155.out (by decide)) e_) hs_)); have n1_ := Aside0.mk (blk_kept (by (with_reducible repeat (first | refine blk_drewN ?_ _ | refine blk_drew ?_ | refine blk_alloc ?_ _)); exact BK156.out) hkp (fun hs_ => (fun e_ => (Kd.R_ne HO_156000.out BK156.out (by decide)) e_) hs_)); have n2_ := Aside0.mk (Kd.R_mono (ok' := fun k_ => (P0_0_ k_ ∨ w.heap.size ≤ k_)) ho0 (fun k_ hk_ => Or.elim hk_ (fun hs_ => (HO_156000.out.1 k_ (hs_).symm)) (fun hn_ => (.inr (Nat.le_trans (by first | exact HK.out.1 | exact (show Kept w _ (fun k_ => P0_0_ k_) from by repeat (first | (with_reducible first | exact HK.out | apply Kept.alloc | apply Kept.drewN | apply Kept.drew | refine Kept.setCell ?_ (.inr GW155.out) _ | refine Kept.setCell ?_ (.inr GW156.out) _) | exact HK.out)).1) hn_))))); have n3_ := Aside0.mk (Kept.then_ (S := (fun k_ => P0_0_ k_)) (by repeat (first | (with_reducible first | exact HK.out | apply Kept.alloc | apply Kept.drewN | apply Kept.drew | refine Kept.setCell ?_ (.inr GW155.out) _ | refine Kept.setCell ?_ (.inr GW156.out) _) | exact HK.out)) hkp (fun k_ hs_ => (fun e_ => (HO_156000.out.1 k_ e_.symm)) hs_)); have n4_ := Aside0.mk (hb); clear BK155; clear BK156; clear HK; clear HB; clear HO_156000; have BK155 := n0_; have BK156 := n1_; have HO160 := n2_; have HK := n3_; have HB := n4_; clear n0_ n1_ n2_ n3_ n4_; (try clear hb); (try clear hkp); (try clear ho0); obtain ⟨Ao23, co23, eo23⟩ := Kd.R_slice HO160.out; subst eo23; have hcz24_0 : w22.cell? ⟨gb156, 0, none⟩ = some (.slice none 0 0) := (blk_cell BK156.out 0).trans rfl; have hcz24_1 : w22.cell? ⟨gb156, 1, none⟩ = some (.int .i64 0) := (blk_cell BK156.out 1).trans rfl; have hfz24_0 := blk_frozen BK156.out 0; have hfz24_1 := blk_frozen BK156.out 1))
       refine bodyPost_ret (results_ct rfl _ _ gb156 53 #[.slice Ao23 t158.length co23, .int .i64 t161] (0, 0) _ rfl (by (with_reducible repeat (first | refine blk_drewN ?_ _ | refine blk_drew ?_ | refine blk_alloc ?_ _)); refine blk_put (cs := #[.slice Ao23 t158.length co23, .int .i64 0]) ?_ 1 _ rfl; (with_reducible repeat (first | refine blk_drewN ?_ _ | refine blk_drew ?_ | refine blk_alloc ?_ _)); refine blk_put (cs := #[.slice none 0 0, .int .i64 0]) ?_ 0 _ rfl; (with_reducible repeat (first | refine blk_drewN ?_ _ | refine blk_drew ?_ | refine blk_alloc ?_ _)); exact BK156.out) Try.underlying53 rfl (by kernel_rfl)) rfl ?_
       exact ⟨_, by first | rfl | (simp [errW_none, errW_some] <;> rfl) | (simp [*, errW_none, errW_some] <;> rfl), by (with_reducible repeat (first | apply Kd.R_alloc | apply Kd.R_drewN | apply Kd.R_drew)); exact Kd.R_mono (Kd.R_far (p := ⟨gb156, 1, none⟩) (Kd.R_far (p := ⟨gb156, 0, none⟩) (Kd.R_types HO160.out BK156.out (by decide)) (fun _ hk => hk.2) (.slice Ao23 t158.length co23)) (fun _ hk => hk.2) (.int .i64 t161)) (fun _ hk => hk.1), by repeat (first | (with_reducible first | exact HB.out | apply below_alloc | apply pw_below_drewN | apply below_drew1 | refine below_set ?_ GE155.out | refine below_set ?_ GE156.out) | exact HB.out), by repeat (first | (with_reducible first | exact HK.out | apply Kept.alloc | apply Kept.drewN | apply Kept.drew | refine Kept.setCell ?_ (.inr GW155.out) _ | refine Kept.setCell ?_ (.inr GW156.out) _) | exact HK.out)⟩
      ·rw [if_neg c18] at H
       have c18b0 : ((rd l0_0 a1) == a2) = false := beq_eq_false_iff_ne.mpr c18
       have c18b1 : ((rd l0_0 a1) != a2) = true := bne_iff_ne.mpr c18
       simp only [Option.some.injEq, Prod.mk.injEq] at H
       obtain ⟨rfl, rfl, rfl⟩ := H
       have hnb25 := NB155_156.out
       have hnc25 := NB156_155.out
       have hcz26_0 : wc.cell? ⟨gb155, 0, none⟩ = some (.slice Ao6 l0_0.length co6) := (blk_cell BK155.out 0).trans rfl
       have hcz26_1 : wc.cell? ⟨gb155, 1, none⟩ = some (.int .i64 a0_1) := (blk_cell BK155.out 1).trans rfl
       have hfz26_0 := blk_frozen BK155.out 0
       have hfz26_1 := blk_frozen BK155.out 1
       have p157 : 0 ≤ (a1 : Int) := of_decide_eq_true (by first | (with_reducible assumption) | assumption)
       have q157 : a1 < (l0_0.length : Int) := of_decide_eq_true (by first | (with_reducible assumption) | assumption)
       obtain ⟨ad157, e157, hx157_0⟩ := Kd.at_int (Kd.R_reads' HO_156000.out).2.2 a1 p157 q157
       cases e157
       replace p157 := eq_true p157
       replace q157 := eq_true q157
       have hcz27_0 : wc.cell? ⟨gb156, 0, none⟩ = some (.slice none 0 0) := (blk_cell BK156.out 0).trans rfl
       have hcz27_1 : wc.cell? ⟨gb156, 1, none⟩ = some (.int .i64 0) := (blk_cell BK156.out 1).trans rfl
       have hfz27_0 := blk_frozen BK156.out 0
       have hfz27_1 := blk_frozen BK156.out 1
       go_wp2
       refine bodyPost_ret (results_ct rfl _ _ gb156 53 #[.slice (some ad157) l0_0.length co6, .int .i64 (wrap64 (a0_1 + 1))] (0, 0) _ rfl (by (with_reducible repeat (first | refine blk_drewN ?_ _ | refine blk_drew ?_ | refine blk_alloc ?_ _)); refine blk_put (cs := #[.slice (some ad157) l0_0.length co6, .int .i64 0]) ?_ 1 _ rfl; (with_reducible repeat (first | refine blk_drewN ?_ _ | refine blk_drew ?_ | refine blk_alloc ?_ _)); refine blk_put (cs := #[.slice none 0 0, .int .i64 0]) ?_ 0 _ rfl; (with_reducible repeat (first | refine blk_drewN ?_ _ | refine blk_drew ?_ | refine blk_alloc ?_ _)); refine blk_far ?_ NB156_155.out _; (with_reducible repeat (first | refine blk_drewN ?_ _ | refine blk_drew ?_ | refine blk_alloc ?_ _)); exact BK156.out) Try.underlying53 rfl (by kernel_rfl)) rfl ?_
       exact ⟨_, by first | rfl | (simp [errW_none, errW_some] <;> rfl) | (simp [*, errW_none, errW_some] <;> rfl), by (with_reducible repeat (first | apply Kd.R_alloc | apply Kd.R_drewN | apply Kd.R_drew)); exact Kd.R_mono (Kd.R_far (p := ⟨gb156, 1, none⟩) (Kd.R_far (p := ⟨gb156, 0, none⟩) (Kd.R_far (p := ⟨gb155, 1, none⟩) (Kd.R_types (Kd.R_types HO_156000.out BK155.out (by decide)) BK156.out (by decide)) (fun _ hk => hk.1.2) (.int .i64 (wrap64 (a0_1 + 1)))) (fun _ hk => hk.2) (.slice (some ad157) l0_0.length co6)) (fun _ hk => hk.2) (.int .i64 (wrap64 (a0_1 + 1)))) (fun _ hk => hk.1.1), by repeat (first | (with_reducible first | exact HB.out | apply below_alloc | apply pw_below_drewN | apply below_drew1 | refine below_set ?_ GE155.out | refine below_set ?_ GE156.out) | exact HB.out), by repeat (first | (with_reducible first | exact HK.out | apply Kept.alloc | apply Kept.drewN | apply Kept.drew | refine Kept.setCell ?_ (.inr GW155.out) _ | refine Kept.setCell ?_ (.inr GW156.out) _) | exact HK.out)⟩
     ·rw [if_neg c17] at H
      exact absurd H (by simp)
    ·rw [if_neg c16] at H
     exact absurd H (by simp)

/-! ### corrieref08_swap: function 88 (by hand) -/
theorem cel_rstore (ws : List Int) (hl : ws.length ≤ 1000000) (st a1 a3 : Int) : corrieref06_Store.f ws st a1 a3 = some (cPutW ws a1 a3, cSt ws st a1) := by
 unfold corrieref06_Store.f cPutW cSt cInb
 by_cases h1 : a1 < 0
 ·rw [if_pos h1]; simp; omega
 ·by_cases h2 : a1 ≥ (ws.length : Int)
  ·rw [if_neg h1, if_pos h2]; simp; omega
  ·rw [if_neg h1, if_neg h2, if_pos (decide_eq_true (by omega)), if_pos (decide_eq_true (by omega))]
   simp only [Option.bind_some, List.length_nil, List.nil_append, Nat.zero_add]
   rw [if_pos (by omega)]
   rw [if_pos (by omega), if_pos (by omega)]
theorem cel_rswap (ws : List Int) (hl : ws.length ≤ 1000000) (st a1 a2 a3 : Int) : corrieref06_Swap.f 1 ws st a1 a2 a3 = some (cSwW ws a1 a2 a3, cSt ws st a1, cSwB ws a1 a2) := by
 unfold corrieref06_Swap.f
 simp only [corrieref06_Swap.j0]
 by_cases h1 : a1 < 0
 ·have q : cInb ws a1 = false := decide_eq_false (by omega)
  have e : cSwB ws a1 a2 = false := by unfold cSwB; rw [q]; rfl
  rw [if_pos h1, if_pos trivial]
  unfold cSwW cSt
  rw [e, q]
  rfl
 ·rw [if_neg h1]
  by_cases h2 : a1 ≥ (ws.length : Int)
  ·have q : cInb ws a1 = false := decide_eq_false (by omega)
   have e : cSwB ws a1 a2 = false := by unfold cSwB; rw [q]; rfl
   rw [if_pos (decide_eq_true h2)]
   unfold cSwW cSt
   rw [e, q]
   rfl
  ·have q : cInb ws a1 = true := decide_eq_true (by omega)
   have e3 : cRd ws a1 = rd ws a1 := by unfold cRd; rw [q]; rfl
   rw [if_neg (by rw [decide_eq_false h2]; decide), if_pos (by omega), if_pos (by omega)]
   by_cases c : rd ws a1 = a2
   ·have e : cSwB ws a1 a2 = true := by unfold cSwB; rw [q, e3, decide_eq_true c]; rfl
    rw [if_pos c, cel_rstore ws hl]
    unfold cSwW cPutW
    rw [e, q]
    rfl
   ·have e : cSwB ws a1 a2 = false := by unfold cSwB; rw [q, e3, decide_eq_false c]; rfl
    rw [if_neg c]
    unfold cSwW cSt
    rw [e, q]
    rfl
theorem d6_Store (w0 W : World) (A : Option Addr) (C : Nat) (ws : List Int) (hl : ws.length ≤ 1000000) (st x y : Int) (hB : Below w0.heap.size w0 W) (hR : RU w0 W A C ws) :
  Calls Try.prog 89 #[.agg #[.slice A ws.length C, .int .i64 st], .int .i64 x, .int .u64 y] W fun e w' => ∃ (A' : Option Addr) (C' : Nat), e = .returned (.agg #[.slice A' (cPutW ws x y).length C', .int .i64 (cSt ws st x)]) ∧ RU w0 w' A' C' (cPutW ws x y) ∧ T25 W w' ∧ Below w0.heap.size w0 w' :=
 (corrieref06_Store.calls _ _ ws st x y _ _ w0 W hB hR.ok (cel_rstore ws hl st x y)).mono (fun e w' hh => by
  obtain ⟨v, rfl, h1, h2, h3⟩ := hh
  obtain ⟨A', C', rfl⟩ := Kd.R_slice h1
  exact ⟨A', C', rfl, Kd.R_mono h1 (fun _ _ => trivial), .of_kept hB h2 h3, h2⟩)
theorem d6_Swap (w0 W : World) (A : Option Addr) (C : Nat) (ws : List Int) (hl : ws.length ≤ 1000000) (st x old y : Int) (hB : Below w0.heap.size w0 W) (hR : RU w0 W A C ws) :
  Calls Try.prog 101 #[.agg #[.slice A ws.length C, .int .i64 st], .int .i64 x, .int .u64 old, .int .u64 y] W fun e w' => ∃ (A' : Option Addr) (C' : Nat), e = .returned (.tuple #[.agg #[.slice A' (cSwW ws x old y).length C', .int .i64 (cSt ws st x)], .bool (cSwB ws x old)]) ∧ RU w0 w' A' C' (cSwW ws x old y) ∧ T25 W w' ∧ Below w0.heap.size w0 w' :=
 (corrieref06_Swap.calls 1 _ _ ws st x old y _ _ _ w0 W hB hR.ok (cel_rswap ws hl st x old y)).mono (fun e w' hh => by
  obtain ⟨v, rfl, h1, h2, h3⟩ := hh
  obtain ⟨A', C', rfl⟩ := Kd.R_slice h1
  exact ⟨A', C', rfl, Kd.R_mono h1 (fun _ _ => trivial), .of_kept hB h2 h3, h2⟩)
set_option maxHeartbeats 8000000 in
set_option maxRecDepth 100000 in
theorem d8_swap (w0 W : World) (c : S23) (t : Nat) (q : R8) (A : Option Addr) (C : Nat) (ws : List Int) (hl : ws.length ≤ 1000000) (st x old y : Int) (hB : Below w0.heap.size w0 W) (hR : RU w0 W A C ws) :
  Calls Try.prog 88 #[.agg #[.int .i64 c.f0, .int .i64 c.f1, .int .i64 c.f2, .int .i64 c.f3, .int .i64 c.f4, .slice A ws.length C, .int .i64 st, .int .i64 c.f0, .int .i64 c.f1, .int .i64 c.f2, .int .i64 c.f3, .int .i64 c.f4, .slice q.a5 t q.c5, .slice q.a6 t q.c6, .slice q.a7 t q.c7, .slice q.a8 0 q.c8, .slice q.a9 0 q.c9], .int .i64 x, .int .u64 old, .int .u64 y] W fun e w' => ∃ (A' : Option Addr) (C' : Nat), e = .returned (.tuple #[.agg #[.int .i64 c.f0, .int .i64 c.f1, .int .i64 c.f2, .int .i64 c.f3, .int .i64 c.f4, .slice A' (cSwW ws x old y).length C', .int .i64 (cSt ws st x), .int .i64 c.f0, .int .i64 c.f1, .int .i64 c.f2, .int .i64 c.f3, .int .i64 c.f4, .slice q.a5 t q.c5, .slice q.a6 t q.c6, .slice q.a7 t q.c7, .slice q.a8 0 q.c8, .slice q.a9 0 q.c9], .bool (cSwB ws x old)]) ∧ RU w0 w' A' C' (cSwW ws x old y) ∧ T25 W w' ∧ Below w0.heap.size w0 w' := by
 have HR := Aside0.mk hR
 have HB := Aside0.mk hB
 have HB0 := Aside0.mk hB.size
 have HT := Aside0.mk (T25.refl W)
 clear hR hB
 go_enter Try.func88, Try.ntmps88
 go_wp2_with (first | ((with_reducible refine gate_dst (N := 4) rfl ?_); refine box_event ?hg11 (N := 4) ?hd11 (cs := #[.int .i64 c.f0, .int .i64 c.f1, .int .i64 c.f2, .int .i64 c.f3, .int .i64 c.f4, .slice A ws.length C, .int .i64 st, .int .i64 c.f0, .int .i64 c.f1, .int .i64 c.f2, .int .i64 c.f3, .int .i64 c.f4, .slice q.a5 t q.c5, .slice q.a6 t q.c6, .slice q.a7 t q.c7, .slice q.a8 0 q.c8, .slice q.a9 0 q.c9]) (t := 60) ?hr11 ?_; (case hd11 => rfl); (case hg11 => rfl); (case hr11 => first | (go_simp; done) | (go_simp; rfl)); intro g1 hg w1_ hbox hbk; have HGB1 := Aside0.mk (show W.heap.size ≤ g1 from by rw [hg]; have := HT.out.size; omega); have n_HR := Aside0.mk (HR.out.below hbk); have n_HT := Aside0.mk (HT.out.below hbk); have n_HB := Aside0.mk (below_step HB.out hbk); clear HR HT HB; have HR := n_HR; have HT := n_HT; have HB := n_HB; clear n_HR n_HT n_HB; have B1 := Aside0.mk hbox; clear hbk hbox hg) | ((with_reducible refine gate_dst (N := 8) rfl ?_); refine box_event ?hg12 (N := 8) ?hd12 (cs := #[.int .i64 0, .int .i64 0, .int .i64 0, .int .i64 0, .int .i64 0, .slice none 0 0, .int .i64 0, .int .i64 0, .int .i64 0, .int .i64 0, .int .i64 0, .int .i64 0, .slice none 0 0, .slice none 0 0, .slice none 0 0, .slice none 0 0, .slice none 0 0]) (t := 60) ?hr12 ?_; (case hd12 => rfl); (case hg12 => rfl); (case hr12 => first | (go_simp; done) | (go_simp; rfl)); intro g2 hg w2_ hbox hbk; have HGB2 := Aside0.mk (show g1 ≠ g2 ∧ W.heap.size ≤ g2 from by rw [hg]; have := blk_lt B1.out; have := HT.out.size; omega); have n_HR := Aside0.mk (HR.out.below hbk); have n_HT := Aside0.mk (HT.out.below hbk); have n_HB := Aside0.mk (below_step HB.out hbk); have n_B1 := Aside0.mk (blk_below B1.out hbk); clear HR HT HB B1; have HR := n_HR; have HT := n_HT; have HB := n_HB; have B1 := n_B1; clear n_HR n_HT n_HB n_B1; have B2 := Aside0.mk hbox; clear hbk hbox hg) | ((with_reducible refine gate_dst (N := 14) rfl ?_); refine wq_loadA (ty := 53) (p := .tmp 13) (g := g1) (i := 5) (k := 2) (vs := ?vs13) ?hgd13 ?ho13 ?hp13 Try.underlying53 ?hd13 ?hi13 B1.out ?hv13 ?hk13 ?_; (case hd13 => rfl); (case hi13 => kernel_rfl); (case hgd13 => rfl); (case ho13 => rfl); (case hp13 => rfl); (case hv13 => simp only [List.drop_succ_cons, List.drop_zero, List.take_succ_cons, List.take_zero, List.take_nil, List.drop_nil]; with_reducible rfl); (case hk13 => rfl)) | (go_at_call 101; (with_reducible refine (d6_Swap w0 _ _ _ _ hl _ _ _ _ HB.out HR.out).mono ?_); rintro e u3_ ⟨A1, C1, rfl, hR, hT, hb⟩; have n_HR := Aside0.mk hR; have n_HT := Aside0.mk (HT.out.trans hT); have n_HB := Aside0.mk hb; have n_B1 := Aside0.mk (blk_t25 B1.out hT (by decide)); have n_B2 := Aside0.mk (blk_t25 B2.out hT (by decide)); clear HR HT HB B1 B2 hR hT hb; have HR := n_HR; have HT := n_HT; have HB := n_HB; have B1 := n_B1; have B2 := n_B2; clear n_HR n_HT n_HB n_B1 n_B2) | ((with_reducible refine gate_dst (N := 10) rfl ?_); refine box_event ?hg15 (N := 10) ?hd15 (cs := #[.slice none 0 0, .int .i64 0]) (t := 53) ?hr15 ?_; (case hd15 => rfl); (case hg15 => rfl); (case hr15 => first | (go_simp; done) | (go_simp; rfl)); intro g3 hg w4_ hbox hbk; have HGB3 := Aside0.mk (show g1 ≠ g3 ∧ g2 ≠ g3 ∧ W.heap.size ≤ g3 from by rw [hg]; have := blk_lt B1.out; have := blk_lt B2.out; have := HT.out.size; omega); have n_HR := Aside0.mk (HR.out.below hbk); have n_HT := Aside0.mk (HT.out.below hbk); have n_HB := Aside0.mk (below_step HB.out hbk); have n_B1 := Aside0.mk (blk_below B1.out hbk); have n_B2 := Aside0.mk (blk_below B2.out hbk); clear HR HT HB B1 B2; have HR := n_HR; have HT := n_HT; have HB := n_HB; have B1 := n_B1; have B2 := n_B2; clear n_HR n_HT n_HB n_B1 n_B2; have B3 := Aside0.mk hbox; clear hbk hbox hg) | ((with_reducible refine gate_store (p := 10) rfl ?_); refine wq_store (ty := 53) (p := .tmp 10) (x := .tmp 19) (g := g3) (i := 0) (k := 2) (v := ?v16) (vs := ?vs16) (cs' := ?cs16) ?hgd16 ?hdst16 ?ho16 ?hp16 ?hx16 ?hvc16 ?hi16 ?hk16 ?h116 B3.out ?hsz16 ?hcs16 ?_; (case hi16 => kernel_rfl); (case hgd16 => rfl); (case hdst16 => rfl); (case ho16 => rfl); (case hp16 => rfl); (case hx16 => go_simp; with_reducible rfl); (case hvc16 => simp only [Value.cells]; with_reducible rfl); (case hk16 => rfl); (case h116 => rfl); (case hsz16 => exact Nat.le_of_ble_eq_true rfl); (case hcs16 => simp only [wqPut, List.setIfInBounds_toArray, List.set_cons_succ, List.set_cons_zero, Nat.reduceAdd]; with_reducible rfl); intro w5_ hb hgr; have n_HR := Aside0.mk (HR.out.grown B3.out (by decide) hgr); have n_HT := Aside0.mk (HT.out.grown hgr HGB3.out.2.2); have n_HB := Aside0.mk (HB.out.grown hgr HB.out.size (fun k hk => by cases hk; exact Nat.le_trans HB0.out HGB3.out.2.2)); have n_B1 := Aside0.mk (wq_blk B1.out hgr HGB3.out.1); have n_B2 := Aside0.mk (wq_blk B2.out hgr HGB3.out.2.1); have n_B3 := Aside0.mk hb; clear HR HT HB B1 B2 B3 hb hgr; have HR := n_HR; have HT := n_HT; have HB := n_HB; have B1 := n_B1; have B2 := n_B2; have B3 := n_B3; clear n_HR n_HT n_HB n_B1 n_B2 n_B3) | ((with_reducible refine gate_dst (N := 21) rfl ?_); refine wq_loadA (ty := 53) (p := .tmp 10) (g := g3) (i := 0) (k := 2) (vs := ?vs17) ?hgd17 ?ho17 ?hp17 Try.underlying53 ?hd17 ?hi17 B3.out ?hv17 ?hk17 ?_; (case hd17 => rfl); (case hi17 => kernel_rfl); (case hgd17 => rfl); (case ho17 => rfl); (case hp17 => rfl); (case hv17 => simp only [List.drop_succ_cons, List.drop_zero, List.take_succ_cons, List.take_zero, List.take_nil, List.drop_nil]; with_reducible rfl); (case hk17 => rfl)) | ((with_reducible refine gate_store (p := 22) rfl ?_); refine wq_store (ty := 53) (p := .tmp 22) (x := .tmp 21) (g := g1) (i := 5) (k := 2) (v := ?v18) (vs := ?vs18) (cs' := ?cs18) ?hgd18 ?hdst18 ?ho18 ?hp18 ?hx18 ?hvc18 ?hi18 ?hk18 ?h118 B1.out ?hsz18 ?hcs18 ?_; (case hi18 => kernel_rfl); (case hgd18 => rfl); (case hdst18 => rfl); (case ho18 => rfl); (case hp18 => rfl); (case hx18 => go_simp; with_reducible rfl); (case hvc18 => simp only [Value.cells]; with_reducible rfl); (case hk18 => rfl); (case h118 => rfl); (case hsz18 => exact Nat.le_of_ble_eq_true rfl); (case hcs18 => simp only [wqPut, List.setIfInBounds_toArray, List.set_cons_succ, List.set_cons_zero, Nat.reduceAdd]; with_reducible rfl); intro w6_ hb hgr; have n_HR := Aside0.mk (HR.out.grown B1.out (by decide) hgr); have n_HT := Aside0.mk (HT.out.grown hgr HGB1.out); have n_HB := Aside0.mk (HB.out.grown hgr HB.out.size (fun k hk => by cases hk; exact Nat.le_trans HB0.out HGB1.out)); have n_B1 := Aside0.mk hb; have n_B2 := Aside0.mk (wq_blk B2.out hgr (Ne.symm HGB2.out.1)); have n_B3 := Aside0.mk (wq_blk B3.out hgr (Ne.symm HGB3.out.1)); clear HR HT HB B1 B2 B3 hb hgr; have HR := n_HR; have HT := n_HT; have HB := n_HB; have B1 := n_B1; have B2 := n_B2; have B3 := n_B3; clear n_HR n_HT n_HB n_B1 n_B2 n_B3) | ((with_reducible refine gate_dst (N := 23) rfl ?_); refine wq_loadA (ty := 60) (p := .tmp 4) (g := g1) (i := 0) (k := 17) (vs := ?vs19) ?hgd19 ?ho19 ?hp19 Try.underlying60 ?hd19 ?hi19 B1.out ?hv19 ?hk19 ?_; (case hd19 => rfl); (case hi19 => kernel_rfl); (case hgd19 => rfl); (case ho19 => rfl); (case hp19 => rfl); (case hv19 => simp only [List.drop_succ_cons, List.drop_zero, List.take_succ_cons, List.take_zero, List.take_nil, List.drop_nil]; with_reducible rfl); (case hk19 => rfl)) | ((with_reducible refine gate_store (p := 8) rfl ?_); refine wq_store (ty := 60) (p := .tmp 8) (x := .tmp 23) (g := g2) (i := 0) (k := 17) (v := ?v20) (vs := ?vs20) (cs' := ?cs20) ?hgd20 ?hdst20 ?ho20 ?hp20 ?hx20 ?hvc20 ?hi20 ?hk20 ?h120 B2.out ?hsz20 ?hcs20 ?_; (case hi20 => kernel_rfl); (case hgd20 => rfl); (case hdst20 => rfl); (case ho20 => rfl); (case hp20 => rfl); (case hx20 => go_simp; with_reducible rfl); (case hvc20 => simp only [Value.cells]; with_reducible rfl); (case hk20 => rfl); (case h120 => rfl); (case hsz20 => exact Nat.le_of_ble_eq_true rfl); (case hcs20 => simp only [wqPut, List.setIfInBounds_toArray, List.set_cons_succ, List.set_cons_zero, Nat.reduceAdd]; with_reducible rfl); intro w7_ hb hgr; have n_HR := Aside0.mk (HR.out.grown B2.out (by decide) hgr); have n_HT := Aside0.mk (HT.out.grown hgr HGB2.out.2); have n_HB := Aside0.mk (HB.out.grown hgr HB.out.size (fun k hk => by cases hk; exact Nat.le_trans HB0.out HGB2.out.2)); have n_B1 := Aside0.mk (wq_blk B1.out hgr HGB2.out.1); have n_B2 := Aside0.mk hb; have n_B3 := Aside0.mk (wq_blk B3.out hgr (Ne.symm HGB3.out.2.1)); clear HR HT HB B1 B2 B3 hb hgr; have HR := n_HR; have HT := n_HT; have HB := n_HB; have B1 := n_B1; have B2 := n_B2; have B3 := n_B3; clear n_HR n_HT n_HB n_B1 n_B2 n_B3))
 refine bodyPost_ret (res_ct rfl _ _ _ _ _ _ _ rfl B2.out Try.underlying60 rfl (by kernel_rfl)) rfl ?_
 exact ⟨A1, C1, rfl, HR.out, HT.out, HB.out⟩


/-! ### corrieref08_Link: function 57 (by hand) -/
def d8_Link_lb (n m : Nat) : Array Bool := ((List.range n).map (fun i => m.testBit i)).toArray
def d8_Link.T1 : Bool × List (List Nat × List Nat) := (true, [([], []), ([], []), ([1], [1]), ([], []), ([2, 3], [2, 3]), ([], []), ([], []), ([0, 4, 5, 6, 4], [0, 4, 5, 6]), ([7], [7]), ([7], [7]), ([8, 7, 0, 1, 2, 3, 4, 5, 6, 7, 8, 9], [8]), ([9, 10, 0, 1, 2, 3, 4, 5, 6, 7, 8, 9, 10], [9])])
def d8_Link.B1 : List Nat := [0, 0, 2, 0, 14, 0, 0, 127, 255, 255, 1023, 2047]
theorem d8_Link.tab1 : rtab .any (opsOf Try.f57 1) = d8_Link.T1 := by kernel_rfl
theorem d8_Link.bits1 : waitsOk d8_Link.T1.2 d8_Link.B1 = true := by kernel_rfl
set_option maxHeartbeats 8000000 in
set_option maxRecDepth 100000 in
theorem d8_Link (w0 W : World) (c : S23) (t : Nat) (q : R8) (A : Option Addr) (C : Nat) (ws : List Int) (hl : ws.length ≤ 1000000) (st n x old y : Int) (hB : Below w0.heap.size w0 W) (hR : RU w0 W A C ws) (hx : ∀ W : World, Calls Try.prog 87 #[.agg #[.int .i64 c.f0, .int .i64 c.f1, .int .i64 c.f2, .int .i64 c.f3, .int .i64 c.f4], .int .i64 n] W (fun e w' => e = .returned (.int .i64 x) ∧ Below W.heap.size W w')) :
  Calls Try.prog 57 #[.agg #[.int .i64 c.f0, .int .i64 c.f1, .int .i64 c.f2, .int .i64 c.f3, .int .i64 c.f4, .slice A ws.length C, .int .i64 st, .int .i64 c.f0, .int .i64 c.f1, .int .i64 c.f2, .int .i64 c.f3, .int .i64 c.f4, .slice q.a5 t q.c5, .slice q.a6 t q.c6, .slice q.a7 t q.c7, .slice q.a8 0 q.c8, .slice q.a9 0 q.c9], .int .i64 n, .int .u64 old, .int .u64 y] W fun e w' => ∃ (A' : Option Addr) (C' : Nat), e = .returned (.tuple #[.agg #[.int .i64 c.f0, .int .i64 c.f1, .int .i64 c.f2, .int .i64 c.f3, .int .i64 c.f4, .slice A' (cSwW ws x old y).length C', .int .i64 (cSt ws st x), .int .i64 c.f0, .int .i64 c.f1, .int .i64 c.f2, .int .i64 c.f3, .int .i64 c.f4, .slice q.a5 t q.c5, .slice q.a6 t q.c6, .slice q.a7 t q.c7, .slice q.a8 0 q.c8, .slice q.a9 0 q.c9], .bool (cSwB ws x old)]) ∧ RU w0 w' A' C' (cSwW ws x old y) ∧ T25 W w' ∧ Below w0.heap.size w0 w' := by
 have HR := Aside0.mk hR
 have HB := Aside0.mk hB
 have HB0 := Aside0.mk hB.size
 have HT := Aside0.mk (T25.refl W)
 clear hR hB
 go_enter Try.func57, Try.ntmps57
 go_upto_region 1 with (first | ((with_reducible refine gate_dst (N := 4) rfl ?_); refine box_event ?hg35 (N := 4) ?hd35 (cs := #[.int .i64 c.f0, .int .i64 c.f1, .int .i64 c.f2, .int .i64 c.f3, .int .i64 c.f4, .slice A ws.length C, .int .i64 st, .int .i64 c.f0, .int .i64 c.f1, .int .i64 c.f2, .int .i64 c.f3, .int .i64 c.f4, .slice q.a5 t q.c5, .slice q.a6 t q.c6, .slice q.a7 t q.c7, .slice q.a8 0 q.c8, .slice q.a9 0 q.c9]) (t := 60) ?hr35 ?_; (case hd35 => rfl); (case hg35 => rfl); (case hr35 => first | (go_simp; done) | (go_simp; rfl)); intro g1 hg w1_ hbox hbk; have HGB1 := Aside0.mk (show W.heap.size ≤ g1 from by rw [hg]; have := HT.out.size; omega); have n_HR := Aside0.mk (HR.out.below hbk); have n_HT := Aside0.mk (HT.out.below hbk); have n_HB := Aside0.mk (below_step HB.out hbk); clear HR HT HB; have HR := n_HR; have HT := n_HT; have HB := n_HB; clear n_HR n_HT n_HB; have B1 := Aside0.mk hbox; clear hbk hbox hg) | ((with_reducible refine gate_dst (N := 8) rfl ?_); refine box_event ?hg36 (N := 8) ?hd36 (cs := #[.int .i64 0, .int .i64 0, .int .i64 0, .int .i64 0, .int .i64 0, .slice none 0 0, .int .i64 0, .int .i64 0, .int .i64 0, .int .i64 0, .int .i64 0, .int .i64 0, .slice none 0 0, .slice none 0 0, .slice none 0 0, .slice none 0 0, .slice none 0 0]) (t := 60) ?hr36 ?_; (case hd36 => rfl); (case hg36 => rfl); (case hr36 => first | (go_simp; done) | (go_simp; rfl)); intro g2 hg w2_ hbox hbk; have HGB2 := Aside0.mk (show g1 ≠ g2 ∧ W.heap.size ≤ g2 from by rw [hg]; have := blk_lt B1.out; have := HT.out.size; omega); have n_HR := Aside0.mk (HR.out.below hbk); have n_HT := Aside0.mk (HT.out.below hbk); have n_HB := Aside0.mk (below_step HB.out hbk); have n_B1 := Aside0.mk (blk_below B1.out hbk); clear HR HT HB B1; have HR := n_HR; have HT := n_HT; have HB := n_HB; have B1 := n_B1; clear n_HR n_HT n_HB n_B1; have B2 := Aside0.mk hbox; clear hbk hbox hg))
 obtain ⟨XB1, hXB1, hb_B1⟩ := wq_name B1.out
 clear B1
 have B1 := Aside0.mk hb_B1
 have HXB1 := Aside0.mk hXB1
 clear hXB1 hb_B1
 have n_HR := Aside0.mk (HR.out.drew)
 have n_HT := Aside0.mk (HT.out.drew)
 have n_HB := Aside0.mk (below_drew1 HB.out)
 have n_B1 := Aside0.mk (blk_drew B1.out)
 have n_B2 := Aside0.mk (blk_drew B2.out)
 clear HR HT HB B1 B2
 have HR := n_HR
 have HT := n_HT
 have HB := n_HB
 have B1 := n_B1
 have B2 := n_B2
 clear n_HR n_HT n_HB n_B1 n_B2
 refine start_ (n := 12) (S := fun w' => w'.heap[g1]? = some (.cells XB1 60 (0, 0))) (ds := [10]) #[false, false, false, false, false, false, false, false, false, false, false, false] (by kernel_rfl) rfl rfl (B1.out) (fun hHeld => ?_); refine with_tabW d8_Link.tab1 d8_Link.bits1 (fun HT_ HW_ => ?_)
 generalize w2_.drew = v3_ at HR HT HB B1 B2 hHeld ⊢
 refine pure_ (i := 1) (N := some 11) (v := ?_) (a' := ?_) (d8_Link_lb 12 2) rfl rfl (any_of HT_.out (by kernel_rfl)) (fun _ _ _ h => h) (Or.inl ⟨by rfl, ?_⟩) ?_ ?_; rotate_left
 ·intro w'; go_simp; with_reducible rfl
 rotate_left
 ·simp only [Act.put, List.setIfInBounds_toArray, List.set_cons_zero, List.set_cons_succ, i64_w, i32_w]; rfl
 refine pure_ (i := 3) (N := some 13) (v := ?_) (a' := ?_) (d8_Link_lb 12 10) rfl rfl (any_of HT_.out (by kernel_rfl)) (fun _ _ _ h => h) (Or.inl ⟨by rfl, ?_⟩) ?_ ?_; rotate_left
 ·intro w'; go_simp; with_reducible rfl
 rotate_left
 ·simp only [Act.put, List.setIfInBounds_toArray, List.set_cons_zero, List.set_cons_succ, i64_w, i32_w]; rfl
 refine pure_ (i := 5) (N := some 15) (v := ?_) (a' := ?_) (d8_Link_lb 12 42) rfl rfl (any_of HT_.out (by kernel_rfl)) (fun _ _ _ h => h) (Or.inl ⟨by rfl, ?_⟩) ?_ ?_; rotate_left
 ·intro w'; go_simp; with_reducible rfl
 rotate_left
 ·simp only [Act.put, List.setIfInBounds_toArray, List.set_cons_zero, List.set_cons_succ, i64_w, i32_w]; rfl
 refine pure_ (i := 6) (N := some 16) (v := ?_) (a' := ?_) (d8_Link_lb 12 106) rfl rfl (any_of HT_.out (by kernel_rfl)) (fun _ _ _ h => h) (Or.inl ⟨by rfl, ?_⟩) ?_ ?_; rotate_left
 ·intro w'; go_simp; with_reducible rfl
 rotate_left
 ·simp only [Act.put, List.setIfInBounds_toArray, List.set_cons_zero, List.set_cons_succ, i64_w, i32_w]; rfl
 refine take_ (i := 0) (N := some 10) (v := ?_) (a' := ?_) (d8_Link_lb 12 107) rfl rfl (take_ofW HT_.out HW_.out (by kernel_rfl)) (fun _ _ _ h => h) (Or.inl ⟨by rfl, ?_⟩) hHeld ?_ ?_; rotate_left
 ·intro w' s0; refine Eq.trans (wq_run_loadA (ty := 60) (p := .tmp 4) (g := g1) (i := 0) (k := 17) (vs := ?vs40) ?ho40 ?hp40 Try.underlying60 ?hd40 ?hi40 s0 ?hv40 ?hk40) ?fin40; (case hd40 => rfl); (case hi40 => kernel_rfl); (case ho40 => rfl); (case hp40 => rfl); (case hv40 => rewrite [HXB1.out]; simp only [List.drop_succ_cons, List.drop_zero, List.take_succ_cons, List.take_zero, List.take_nil, List.drop_nil]; with_reducible rfl); (case hk40 => rfl); (case fin40 => with_reducible rfl)
 rotate_left
 ·simp only [Act.put, List.setIfInBounds_toArray, List.set_cons_zero, List.set_cons_succ, i64_w, i32_w]; rfl
 refine take_ (i := 2) (N := some 12) (v := ?_) (a' := ?_) (d8_Link_lb 12 111) rfl rfl (take_ofW HT_.out HW_.out (by kernel_rfl)) (fun _ _ _ h => h) (Or.inl ⟨by rfl, ?_⟩) hHeld ?_ ?_; rotate_left
 ·intro w' s0; refine Eq.trans (wq_run_loadA (ty := 23) (p := .tmp 11) (g := g1) (i := 0) (k := 5) (vs := ?vs41) ?ho41 ?hp41 Try.underlying23 ?hd41 ?hi41 s0 ?hv41 ?hk41) ?fin41; (case hd41 => rfl); (case hi41 => kernel_rfl); (case ho41 => rfl); (case hp41 => rfl); (case hv41 => rewrite [HXB1.out]; simp only [List.drop_succ_cons, List.drop_zero, List.take_succ_cons, List.take_zero, List.take_nil, List.drop_nil]; with_reducible rfl); (case hk41 => rfl); (case fin41 => with_reducible rfl)
 rotate_left
 ·simp only [Act.put, List.setIfInBounds_toArray, List.set_cons_zero, List.set_cons_succ, i64_w, i32_w]; rfl
 refine one_ (i := 4) (N := some 14) (d8_Link_lb 12 127) rfl rfl (one_of HT_.out (by kernel_rfl)) (by decide) (fun K hK => ?_)
 refine goes_ Try.func87 (by kernel_rfl) rfl ?args37 ?hw37 rfl rfl ?hargs37 ?_
 case hw37 => rfl
 case hargs37 => go_simp; with_reducible rfl
 with_reducible refine (hx _).mono ?_
 rintro e u4_ ⟨rfl, hbk⟩
 refine ⟨_, rfl, ?_⟩
 have n_HR := Aside0.mk (HR.out.below hbk)
 have n_HT := Aside0.mk (HT.out.below hbk)
 have n_HB := Aside0.mk (below_step HB.out hbk)
 have n_B1 := Aside0.mk (blk_below B1.out hbk)
 have n_B2 := Aside0.mk (blk_below B2.out hbk)
 clear HR HT HB B1 B2
 have HR := n_HR
 have HT := n_HT
 have HB := n_HB
 have B1 := n_B1
 have B2 := n_B2
 clear n_HR n_HT n_HB n_B1 n_B2
 clear hbk
 refine hK.out _ _ (B1.out) (fun hHeld => ?_)
 clear hK K
 refine norm_ (a' := ?_) ?_ ?_
 rotate_left
 ·show Act.put _ (some 14) _ = _
  simp only [Act.put, List.setIfInBounds_toArray, List.set_cons_zero, List.set_cons_succ, i64_w, i32_w]
  rfl
 refine one_ (i := 7) (N := some 17) (d8_Link_lb 12 255) rfl rfl (one_of HT_.out (by kernel_rfl)) (by decide) (fun K hK => ?_)
 refine goes_ Try.func88 (by kernel_rfl) rfl ?args38 ?hw38 rfl rfl ?hargs38 ?_
 case hw38 => rfl
 case hargs38 => go_simp; with_reducible rfl
 with_reducible refine (d8_swap w0 _ c t q _ _ _ hl _ _ _ _ HB.out HR.out).mono ?_
 rintro e u5_ ⟨A1, C1, rfl, hR, hT, hb⟩
 refine ⟨_, rfl, ?_⟩
 have n_HR := Aside0.mk hR
 have n_HT := Aside0.mk (HT.out.trans hT)
 have n_HB := Aside0.mk hb
 have n_B1 := Aside0.mk (blk_t25 B1.out hT (by decide))
 have n_B2 := Aside0.mk (blk_t25 B2.out hT (by decide))
 clear HR HT HB B1 B2 hR hT hb
 have HR := n_HR
 have HT := n_HT
 have HB := n_HB
 have B1 := n_B1
 have B2 := n_B2
 clear n_HR n_HT n_HB n_B1 n_B2
 refine hK.out _ _ (B1.out) (fun hHeld => ?_)
 clear hK K
 refine norm_ (a' := ?_) ?_ ?_
 rotate_left
 ·show Act.put _ (some 17) _ = _
  simp only [Act.put, List.setIfInBounds_toArray, List.set_cons_zero, List.set_cons_succ, i64_w, i32_w]
  rfl
 refine pure_ (i := 8) (N := some 18) (v := ?_) (a' := ?_) (d8_Link_lb 12 511) rfl rfl (any_of HT_.out (by kernel_rfl)) (fun _ _ _ h => h) (Or.inl ⟨by rfl, ?_⟩) ?_ ?_; rotate_left
 ·intro w'; go_simp; with_reducible rfl
 rotate_left
 ·simp only [Act.put, List.setIfInBounds_toArray, List.set_cons_zero, List.set_cons_succ, i64_w, i32_w]; rfl
 refine pure_ (i := 9) (N := some 19) (v := ?_) (a' := ?_) (d8_Link_lb 12 1023) rfl rfl (any_of HT_.out (by kernel_rfl)) (fun _ _ _ h => h) (Or.inl ⟨by rfl, ?_⟩) ?_ ?_; rotate_left
 ·intro w'; go_simp; with_reducible rfl
 rotate_left
 ·simp only [Act.put, List.setIfInBounds_toArray, List.set_cons_zero, List.set_cons_succ, i64_w, i32_w]; rfl
 refine last_ (i := 10) (N := none) (d8_Link_lb 12 2047) rfl rfl (one_of HT_.out (by kernel_rfl)) (by decide) (fun K hK => ?_)
 refine wq_skip (ty := 60) (p := .tmp 8) (x := .tmp 18) (g := g2) (i := 0) (k := 17) (v := ?v39) (vs := ?vs39) (cs' := ?cs39) ?hw39 ?hN39 ?ho39 ?hp39 ?hx39 ?hvc39 ?hi39 ?hk39 ?h139 B2.out ?hsz39 ?hcs39 ?_
 case hi39 => kernel_rfl
 case hw39 => rfl
 case hN39 => rfl
 case ho39 => rfl
 case hp39 => rfl
 case hx39 => go_simp; with_reducible rfl
 case hvc39 => simp only [Value.cells]; with_reducible rfl
 case hk39 => rfl
 case h139 => rfl
 case hsz39 => exact Nat.le_of_ble_eq_true rfl
 case hcs39 => simp only [wqPut, List.setIfInBounds_toArray, List.set_cons_succ, List.set_cons_zero, Nat.reduceAdd]; with_reducible rfl
 intro w6_ hb hgr
 have n_HR := Aside0.mk (HR.out.grown B2.out (by decide) hgr)
 have n_HT := Aside0.mk (HT.out.grown hgr HGB2.out.2)
 have n_HB := Aside0.mk (HB.out.grown hgr HB.out.size (fun k hk => by cases hk; exact Nat.le_trans HB0.out HGB2.out.2))
 have n_B1 := Aside0.mk (wq_blk B1.out hgr HGB2.out.1)
 have n_B2 := Aside0.mk hb
 clear HR HT HB B1 B2 hb hgr
 have HR := n_HR
 have HT := n_HT
 have HB := n_HB
 have B1 := n_B1
 have B2 := n_B2
 clear n_HR n_HT n_HB n_B1 n_B2
 refine hK.out _ _ ?_
 clear hK K
 refine pure_ (i := 11) (N := some 9) (v := ?_) (a' := ?_) (d8_Link_lb 12 4095) rfl rfl (any_of HT_.out (by kernel_rfl)) (fun _ _ _ h => h) (Or.inl ⟨by rfl, ?_⟩) ?_ ?_; rotate_left
 ·intro w'; go_simp; with_reducible rfl
 rotate_left
 ·simp only [Act.put, List.setIfInBounds_toArray, List.set_cons_zero, List.set_cons_succ, i64_w, i32_w]; rfl
 refine done_ (done_of HT_.out (by kernel_rfl)) ?_
 have hX := HXB1.out
 subst hX
 clear HXB1
 go_wp2
 refine bodyPost_ret (res_ct rfl _ _ _ _ _ _ _ rfl B2.out Try.underlying60 rfl (by kernel_rfl)) rfl ?_
 exact ⟨A1, C1, rfl, HR.out, HT.out, HB.out⟩


/-! ### corrieref08_Set: function 58 (by hand) -/
def d8_Set_lb (n m : Nat) : Array Bool := ((List.range n).map (fun i => m.testBit i)).toArray
def d8_Set.T1 : Bool × List (List Nat × List Nat) := (true, [([], []), ([0], [0]), ([], []), ([2], [2]), ([], []), ([3, 4], [3, 4]), ([], []), ([1, 5, 6, 5], [1, 5, 6]), ([0, 1, 2, 3, 4, 5, 6, 7], []), ([8, 7, 7, 0, 1, 2, 3, 4, 5, 6, 7], [7, 8])])
def d8_Set.B1 : List Nat := [0, 1, 0, 4, 0, 28, 0, 127, 255, 511]
theorem d8_Set.tab1 : rtab .any (opsOf Try.f58 1) = d8_Set.T1 := by kernel_rfl
theorem d8_Set.bits1 : waitsOk d8_Set.T1.2 d8_Set.B1 = true := by kernel_rfl
set_option maxHeartbeats 8000000 in
set_option maxRecDepth 100000 in
theorem d8_Set (w0 W : World) (c : S23) (t : Nat) (q : R8) (A : Option Addr) (C : Nat) (ws : List Int) (hl : ws.length ≤ 1000000) (st n x y : Int) (hB : Below w0.heap.size w0 W) (hR : RU w0 W A C ws) (hx : ∀ W : World, Calls Try.prog 87 #[.agg #[.int .i64 c.f0, .int .i64 c.f1, .int .i64 c.f2, .int .i64 c.f3, .int .i64 c.f4], .int .i64 n] W (fun e w' => e = .returned (.int .i64 x) ∧ Below W.heap.size W w')) :
  Calls Try.prog 58 #[.agg #[.int .i64 c.f0, .int .i64 c.f1, .int .i64 c.f2, .int .i64 c.f3, .int .i64 c.f4, .slice A ws.length C, .int .i64 st, .int .i64 c.f0, .int .i64 c.f1, .int .i64 c.f2, .int .i64 c.f3, .int .i64 c.f4, .slice q.a5 t q.c5, .slice q.a6 t q.c6, .slice q.a7 t q.c7, .slice q.a8 0 q.c8, .slice q.a9 0 q.c9], .int .i64 n, .int .u64 y] W fun e w' => ∃ (A' : Option Addr) (C' : Nat), e = .returned (.agg #[.int .i64 c.f0, .int .i64 c.f1, .int .i64 c.f2, .int .i64 c.f3, .int .i64 c.f4, .slice A' (cPutW ws x y).length C', .int .i64 (cSt ws st x), .int .i64 c.f0, .int .i64 c.f1, .int .i64 c.f2, .int .i64 c.f3, .int .i64 c.f4, .slice q.a5 t q.c5, .slice q.a6 t q.c6, .slice q.a7 t q.c7, .slice q.a8 0 q.c8, .slice q.a9 0 q.c9]) ∧ RU w0 w' A' C' (cPutW ws x y) ∧ T25 W w' ∧ Below w0.heap.size w0 w' := by
 have HR := Aside0.mk hR
 have HB := Aside0.mk hB
 have HB0 := Aside0.mk hB.size
 have HT := Aside0.mk (T25.refl W)
 clear hR hB
 go_enter Try.func58, Try.ntmps58
 go_upto_region 1 with (first | ((with_reducible refine gate_dst (N := 3) rfl ?_); refine box_event ?hg49 (N := 3) ?hd49 (cs := #[.int .i64 c.f0, .int .i64 c.f1, .int .i64 c.f2, .int .i64 c.f3, .int .i64 c.f4, .slice A ws.length C, .int .i64 st, .int .i64 c.f0, .int .i64 c.f1, .int .i64 c.f2, .int .i64 c.f3, .int .i64 c.f4, .slice q.a5 t q.c5, .slice q.a6 t q.c6, .slice q.a7 t q.c7, .slice q.a8 0 q.c8, .slice q.a9 0 q.c9]) (t := 60) ?hr49 ?_; (case hd49 => rfl); (case hg49 => rfl); (case hr49 => first | (go_simp; done) | (go_simp; rfl)); intro g1 hg w1_ hbox hbk; have HGB1 := Aside0.mk (show W.heap.size ≤ g1 from by rw [hg]; have := HT.out.size; omega); have n_HR := Aside0.mk (HR.out.below hbk); have n_HT := Aside0.mk (HT.out.below hbk); have n_HB := Aside0.mk (below_step HB.out hbk); clear HR HT HB; have HR := n_HR; have HT := n_HT; have HB := n_HB; clear n_HR n_HT n_HB; have B1 := Aside0.mk hbox; clear hbk hbox hg) | ((with_reducible refine gate_dst (N := 6) rfl ?_); refine box_event ?hg50 (N := 6) ?hd50 (cs := #[.int .i64 0, .int .i64 0, .int .i64 0, .int .i64 0, .int .i64 0, .slice none 0 0, .int .i64 0, .int .i64 0, .int .i64 0, .int .i64 0, .int .i64 0, .int .i64 0, .slice none 0 0, .slice none 0 0, .slice none 0 0, .slice none 0 0, .slice none 0 0]) (t := 60) ?hr50 ?_; (case hd50 => rfl); (case hg50 => rfl); (case hr50 => first | (go_simp; done) | (go_simp; rfl)); intro g2 hg w2_ hbox hbk; have HGB2 := Aside0.mk (show g1 ≠ g2 ∧ W.heap.size ≤ g2 from by rw [hg]; have := blk_lt B1.out; have := HT.out.size; omega); have n_HR := Aside0.mk (HR.out.below hbk); have n_HT := Aside0.mk (HT.out.below hbk); have n_HB := Aside0.mk (below_step HB.out hbk); have n_B1 := Aside0.mk (blk_below B1.out hbk); clear HR HT HB B1; have HR := n_HR; have HT := n_HT; have HB := n_HB; have B1 := n_B1; clear n_HR n_HT n_HB n_B1; have B2 := Aside0.mk hbox; clear hbk hbox hg))
 obtain ⟨XB1, hXB1, hb_B1⟩ := wq_name B1.out
 clear B1
 have B1 := Aside0.mk hb_B1
 have HXB1 := Aside0.mk hXB1
 clear hXB1 hb_B1
 have n_HR := Aside0.mk (HR.out.drew)
 have n_HT := Aside0.mk (HT.out.drew)
 have n_HB := Aside0.mk (below_drew1 HB.out)
 have n_B1 := Aside0.mk (blk_drew B1.out)
 have n_B2 := Aside0.mk (blk_drew B2.out)
 clear HR HT HB B1 B2
 have HR := n_HR
 have HT := n_HT
 have HB := n_HB
 have B1 := n_B1
 have B2 := n_B2
 clear n_HR n_HT n_HB n_B1 n_B2
 refine start_ (n := 10) (S := fun w' => w'.heap[g1]? = some (.cells XB1 60 (0, 0))) (ds := [9]) #[false, false, false, false, false, false, false, false, false, false] (by kernel_rfl) rfl rfl (B1.out) (fun hHeld => ?_); refine with_tabW d8_Set.tab1 d8_Set.bits1 (fun HT_ HW_ => ?_)
 generalize w2_.drew = v3_ at HR HT HB B1 B2 hHeld ⊢
 refine pure_ (i := 0) (N := some 7) (v := ?_) (a' := ?_) (d8_Set_lb 10 1) rfl rfl (any_of HT_.out (by kernel_rfl)) (fun _ _ _ h => h) (Or.inl ⟨by rfl, ?_⟩) ?_ ?_; rotate_left
 ·intro w'; go_simp; with_reducible rfl
 rotate_left
 ·simp only [Act.put, List.setIfInBounds_toArray, List.set_cons_zero, List.set_cons_succ, i64_w, i32_w]; rfl
 refine pure_ (i := 2) (N := some 9) (v := ?_) (a' := ?_) (d8_Set_lb 10 5) rfl rfl (any_of HT_.out (by kernel_rfl)) (fun _ _ _ h => h) (Or.inl ⟨by rfl, ?_⟩) ?_ ?_; rotate_left
 ·intro w'; go_simp; with_reducible rfl
 rotate_left
 ·simp only [Act.put, List.setIfInBounds_toArray, List.set_cons_zero, List.set_cons_succ, i64_w, i32_w]; rfl
 refine pure_ (i := 4) (N := some 11) (v := ?_) (a' := ?_) (d8_Set_lb 10 21) rfl rfl (any_of HT_.out (by kernel_rfl)) (fun _ _ _ h => h) (Or.inl ⟨by rfl, ?_⟩) ?_ ?_; rotate_left
 ·intro w'; go_simp; with_reducible rfl
 rotate_left
 ·simp only [Act.put, List.setIfInBounds_toArray, List.set_cons_zero, List.set_cons_succ, i64_w, i32_w]; rfl
 refine pure_ (i := 6) (N := some 13) (v := ?_) (a' := ?_) (d8_Set_lb 10 85) rfl rfl (any_of HT_.out (by kernel_rfl)) (fun _ _ _ h => h) (Or.inl ⟨by rfl, ?_⟩) ?_ ?_; rotate_left
 ·intro w'; go_simp; with_reducible rfl
 rotate_left
 ·simp only [Act.put, List.setIfInBounds_toArray, List.set_cons_zero, List.set_cons_succ, i64_w, i32_w]; rfl
 refine take_ (i := 1) (N := some 8) (v := ?_) (a' := ?_) (d8_Set_lb 10 87) rfl rfl (take_ofW HT_.out HW_.out (by kernel_rfl)) (fun _ _ _ h => h) (Or.inl ⟨by rfl, ?_⟩) hHeld ?_ ?_; rotate_left
 ·intro w' s0; refine Eq.trans (wq_run_loadA (ty := 53) (p := .tmp 7) (g := g1) (i := 5) (k := 2) (vs := ?vs54) ?ho54 ?hp54 Try.underlying53 ?hd54 ?hi54 s0 ?hv54 ?hk54) ?fin54; (case hd54 => rfl); (case hi54 => kernel_rfl); (case ho54 => rfl); (case hp54 => rfl); (case hv54 => rewrite [HXB1.out]; simp only [List.drop_succ_cons, List.drop_zero, List.take_succ_cons, List.take_zero, List.take_nil, List.drop_nil]; with_reducible rfl); (case hk54 => rfl); (case fin54 => with_reducible rfl)
 rotate_left
 ·simp only [Act.put, List.setIfInBounds_toArray, List.set_cons_zero, List.set_cons_succ, i64_w, i32_w]; rfl
 refine take_ (i := 3) (N := some 10) (v := ?_) (a' := ?_) (d8_Set_lb 10 95) rfl rfl (take_ofW HT_.out HW_.out (by kernel_rfl)) (fun _ _ _ h => h) (Or.inl ⟨by rfl, ?_⟩) hHeld ?_ ?_; rotate_left
 ·intro w' s0; refine Eq.trans (wq_run_loadA (ty := 23) (p := .tmp 9) (g := g1) (i := 0) (k := 5) (vs := ?vs55) ?ho55 ?hp55 Try.underlying23 ?hd55 ?hi55 s0 ?hv55 ?hk55) ?fin55; (case hd55 => rfl); (case hi55 => kernel_rfl); (case ho55 => rfl); (case hp55 => rfl); (case hv55 => rewrite [HXB1.out]; simp only [List.drop_succ_cons, List.drop_zero, List.take_succ_cons, List.take_zero, List.take_nil, List.drop_nil]; with_reducible rfl); (case hk55 => rfl); (case fin55 => with_reducible rfl)
 rotate_left
 ·simp only [Act.put, List.setIfInBounds_toArray, List.set_cons_zero, List.set_cons_succ, i64_w, i32_w]; rfl
 refine one_ (i := 5) (N := some 12) (d8_Set_lb 10 127) rfl rfl (one_of HT_.out (by kernel_rfl)) (by decide) (fun K hK => ?_)
 refine goes_ Try.func87 (by kernel_rfl) rfl ?args51 ?hw51 rfl rfl ?hargs51 ?_
 case hw51 => rfl
 case hargs51 => go_simp; with_reducible rfl
 with_reducible refine (hx _).mono ?_
 rintro e u4_ ⟨rfl, hbk⟩
 refine ⟨_, rfl, ?_⟩
 have n_HR := Aside0.mk (HR.out.below hbk)
 have n_HT := Aside0.mk (HT.out.below hbk)
 have n_HB := Aside0.mk (below_step HB.out hbk)
 have n_B1 := Aside0.mk (blk_below B1.out hbk)
 have n_B2 := Aside0.mk (blk_below B2.out hbk)
 clear HR HT HB B1 B2
 have HR := n_HR
 have HT := n_HT
 have HB := n_HB
 have B1 := n_B1
 have B2 := n_B2
 clear n_HR n_HT n_HB n_B1 n_B2
 clear hbk
 refine hK.out _ _ (B1.out) (fun hHeld => ?_)
 clear hK K
 refine norm_ (a' := ?_) ?_ ?_
 rotate_left
 ·show Act.put _ (some 12) _ = _
  simp only [Act.put, List.setIfInBounds_toArray, List.set_cons_zero, List.set_cons_succ, i64_w, i32_w]
  rfl
 refine one_ (i := 7) (N := some 14) (d8_Set_lb 10 255) rfl rfl (one_of HT_.out (by kernel_rfl)) (by decide) (fun K hK => ?_)
 refine goes_ Try.func89 (by kernel_rfl) rfl ?args52 ?hw52 rfl rfl ?hargs52 ?_
 case hw52 => rfl
 case hargs52 => go_simp; with_reducible rfl
 with_reducible refine (d6_Store w0 _ _ _ _ hl _ _ _ HB.out HR.out).mono ?_
 rintro e u5_ ⟨A1, C1, rfl, hR, hT, hb⟩
 refine ⟨_, rfl, ?_⟩
 have n_HR := Aside0.mk hR
 have n_HT := Aside0.mk (HT.out.trans hT)
 have n_HB := Aside0.mk hb
 have n_B1 := Aside0.mk (blk_t25 B1.out hT (by decide))
 have n_B2 := Aside0.mk (blk_t25 B2.out hT (by decide))
 clear HR HT HB B1 B2 hR hT hb
 have HR := n_HR
 have HT := n_HT
 have HB := n_HB
 have B1 := n_B1
 have B2 := n_B2
 clear n_HR n_HT n_HB n_B1 n_B2
 refine hK.out _ _ (B1.out) (fun hHeld => ?_)
 clear hK K
 refine norm_ (a' := ?_) ?_ ?_
 rotate_left
 ·show Act.put _ (some 14) _ = _
  simp only [Act.put, List.setIfInBounds_toArray, List.set_cons_zero, List.set_cons_succ, i64_w, i32_w]
  rfl
 refine pure_ (i := 8) (N := some 15) (v := ?_) (a' := ?_) (d8_Set_lb 10 511) rfl rfl (any_of HT_.out (by kernel_rfl)) (fun _ _ _ h => h) (Or.inl ⟨by rfl, ?_⟩) ?_ ?_; rotate_left
 ·intro w'; go_simp; with_reducible rfl
 rotate_left
 ·simp only [Act.put, List.setIfInBounds_toArray, List.set_cons_zero, List.set_cons_succ, i64_w, i32_w]; rfl
 refine last_ (i := 9) (N := none) (d8_Set_lb 10 1023) rfl rfl (one_of HT_.out (by kernel_rfl)) (by decide) (fun K hK => ?_)
 refine wq_skip (ty := 53) (p := .tmp 15) (x := .tmp 14) (g := g1) (i := 5) (k := 2) (v := ?v53) (vs := ?vs53) (cs' := ?cs53) ?hw53 ?hN53 ?ho53 ?hp53 ?hx53 ?hvc53 ?hi53 ?hk53 ?h153 B1.out ?hsz53 ?hcs53 ?_
 case hi53 => kernel_rfl
 case hw53 => rfl
 case hN53 => rfl
 case ho53 => rfl
 case hp53 => rfl
 case hx53 => go_simp; with_reducible rfl
 case hvc53 => simp only [Value.cells]; with_reducible rfl
 case hk53 => rfl
 case h153 => rfl
 case hsz53 => rewrite [HXB1.out]; exact Nat.le_of_ble_eq_true rfl
 case hcs53 => rewrite [HXB1.out]; simp only [wqPut, List.setIfInBounds_toArray, List.set_cons_succ, List.set_cons_zero, Nat.reduceAdd]; with_reducible rfl
 intro w6_ hb hgr
 have n_HR := Aside0.mk (HR.out.grown B1.out (by decide) hgr)
 have n_HT := Aside0.mk (HT.out.grown hgr HGB1.out)
 have n_HB := Aside0.mk (HB.out.grown hgr HB.out.size (fun k hk => by cases hk; exact Nat.le_trans HB0.out HGB1.out))
 have n_B1 := Aside0.mk hb
 have n_B2 := Aside0.mk (wq_blk B2.out hgr (Ne.symm HGB2.out.1))
 clear HR HT HB B1 B2 hb hgr
 have HR := n_HR
 have HT := n_HT
 have HB := n_HB
 have B1 := n_B1
 have B2 := n_B2
 clear n_HR n_HT n_HB n_B1 n_B2
 refine hK.out _ _ ?_
 clear hK K
 refine done_ (done_of HT_.out (by kernel_rfl)) ?_
 have hX := HXB1.out
 subst hX
 clear HXB1
 go_wp2_with (first | ((with_reducible refine gate_dst (N := 16) rfl ?_); refine wq_loadA (ty := 60) (p := .tmp 3) (g := g1) (i := 0) (k := 17) (vs := ?vs56) ?hgd56 ?ho56 ?hp56 Try.underlying60 ?hd56 ?hi56 B1.out ?hv56 ?hk56 ?_; (case hd56 => rfl); (case hi56 => kernel_rfl); (case hgd56 => rfl); (case ho56 => rfl); (case hp56 => rfl); (case hv56 => simp only [List.drop_succ_cons, List.drop_zero, List.take_succ_cons, List.take_zero, List.take_nil, List.drop_nil]; with_reducible rfl); (case hk56 => rfl)) | ((with_reducible refine gate_store (p := 6) rfl ?_); refine wq_store (ty := 60) (p := .tmp 6) (x := .tmp 16) (g := g2) (i := 0) (k := 17) (v := ?v57) (vs := ?vs57) (cs' := ?cs57) ?hgd57 ?hdst57 ?ho57 ?hp57 ?hx57 ?hvc57 ?hi57 ?hk57 ?h157 B2.out ?hsz57 ?hcs57 ?_; (case hi57 => kernel_rfl); (case hgd57 => rfl); (case hdst57 => rfl); (case ho57 => rfl); (case hp57 => rfl); (case hx57 => go_simp; with_reducible rfl); (case hvc57 => simp only [Value.cells]; with_reducible rfl); (case hk57 => rfl); (case h157 => rfl); (case hsz57 => exact Nat.le_of_ble_eq_true rfl); (case hcs57 => simp only [wqPut, List.setIfInBounds_toArray, List.set_cons_succ, List.set_cons_zero, Nat.reduceAdd]; with_reducible rfl); intro w7_ hb hgr; have n_HR := Aside0.mk (HR.out.grown B2.out (by decide) hgr); have n_HT := Aside0.mk (HT.out.grown hgr HGB2.out.2); have n_HB := Aside0.mk (HB.out.grown hgr HB.out.size (fun k hk => by cases hk; exact Nat.le_trans HB0.out HGB2.out.2)); have n_B1 := Aside0.mk (wq_blk B1.out hgr HGB2.out.1); have n_B2 := Aside0.mk hb; clear HR HT HB B1 B2 hb hgr; have HR := n_HR; have HT := n_HT; have HB := n_HB; have B1 := n_B1; have B2 := n_B2; clear n_HR n_HT n_HB n_B1 n_B2))
 refine bodyPost_ret (res_c rfl _ _ _ _ _ _ _ rfl B2.out Try.underlying60 rfl (by kernel_rfl)) rfl ?_
 exact ⟨A1, C1, rfl, HR.out, HT.out, HB.out⟩


/-! ### corrieref05_Word: function 90 -/
def corrieref05_Word.f (k : Nat) (a0_0 : Int) (a0_1 : Int) (a0_2 : Int) (a0_3 : Int) (a0_4 : Int) (a1 : Int) : Option (Int) := (corrieref04_Ops.f k a0_0 a0_1 a0_2 a0_3 a0_4).bind fun t163 => ((corrieref05_in.f k a0_0 a0_1 a0_2 a0_3 a0_4 a1 t163).bind fun t164 => (if t164 = true then ((corrieref04_Nodes.f k a0_0 a0_1 a0_2 a0_3 a0_4).bind fun t165 => (some (wrap64 (t165 + a1)))) else (some (-1))))
theorem corrieref05_Word.mono : ∀ a0 a1 a2 a3 a4 a5 k, LeO (corrieref05_Word.f k a0 a1 a2 a3 a4 a5) (corrieref05_Word.f (k + 1) a0 a1 a2 a3 a4 a5) := by
 intro a0 a1 a2 a3 a4 a5 k
 unfold corrieref05_Word.f
 repeat' first
   | (with_reducible exact corrieref04_Nodes.mono _ _ _ _ _ _)
   | (with_reducible exact corrieref04_Ops.mono _ _ _ _ _ _)
   | (with_reducible exact corrieref05_in.mono _ _ _ _ _ _ _ _)
   | (with_reducible exact LeO.refl _)
   | (with_reducible exact LeO.none _)
   | (with_reducible refine LeO.ite ?_ ?_)
   | (with_reducible refine LeO.bind ?_ (fun _ => ?_))
   | exact corrieref04_Nodes.mono _ _ _ _ _ _
   | exact corrieref04_Ops.mono _ _ _ _ _ _
   | exact corrieref05_in.mono _ _ _ _ _ _ _ _
   | exact LeO.none _
   | refine LeO.ite ?_ ?_
   | refine LeO.bind ?_ (fun _ => ?_)
set_option maxHeartbeats 8000000 in
set_option maxRecDepth 100000 in
theorem corrieref05_Word.calls (k : Nat) (a0_0 : Int) (a0_1 : Int) (a0_2 : Int) (a0_3 : Int) (a0_4 : Int) (a1 : Int) (r : Int) (w : World) (h : corrieref05_Word.f k a0_0 a0_1 a0_2 a0_3 a0_4 a1 = some r) :
  Calls Try.prog 90 #[.agg #[.int .i64 a0_0, .int .i64 a0_1, .int .i64 a0_2, .int .i64 a0_3, .int .i64 a0_4], .int .i64 a1] w fun e w' => e = .returned (.int .i64 r) ∧ Below w.heap.size w w' := by
 have hu23 := Try.underlying23
 have HB := Aside0.mk (Below.refl w.heap.size w)
 have H : ((corrieref04_Ops.f k a0_0 a0_1 a0_2 a0_3 a0_4).bind fun t163 => ((corrieref05_in.f k a0_0 a0_1 a0_2 a0_3 a0_4 a1 t163).bind fun t164 => (if t164 = true then ((corrieref04_Nodes.f k a0_0 a0_1 a0_2 a0_3 a0_4).bind fun t165 => (some (wrap64 (t165 + a1)))) else (some (-1))))) = some r := h
 clear h
 replace H := Option.bind_eq_some_iff.mp H
 obtain ⟨t163, A30, H⟩ := H
 replace H : ((corrieref05_in.f k a0_0 a0_1 a0_2 a0_3 a0_4 a1 t163).bind fun t164 => (if t164 = true then ((corrieref04_Nodes.f k a0_0 a0_1 a0_2 a0_3 a0_4).bind fun t165 => (some (wrap64 (t165 + a1)))) else (some (-1)))) = some r := H
 have A3 := Aside0.mk A30
 clear A30
 replace H := Option.bind_eq_some_iff.mp H
 obtain ⟨t164, A40, H⟩ := H
 replace H : (if t164 = true then ((corrieref04_Nodes.f k a0_0 a0_1 a0_2 a0_3 a0_4).bind fun t165 => (some (wrap64 (t165 + a1)))) else (some (-1))) = some r := H
 have A4 := Aside0.mk A40
 clear A40
 by_cases c5 : t164 = true
 ·subst c5
  have H1 : ((corrieref04_Nodes.f k a0_0 a0_1 a0_2 a0_3 a0_4).bind fun t165 => (some (wrap64 (t165 + a1)))) = some r := by rw [if_pos rfl] at H; exact H
  clear H
  have H := H1
  clear H1
  replace H := Option.bind_eq_some_iff.mp H
  obtain ⟨t165, A60, H⟩ := H
  replace H : (some (wrap64 (t165 + a1))) = some r := H
  have A6 := Aside0.mk A60
  clear A60
  obtain rfl := Option.some.inj H
  go_enter Try.func90, Try.ntmps90
  try go_wp2_with (first | ((with_reducible refine gate_dst (N := 2) rfl ?_); refine box_event ?hg (N := 2) ?hd (cs := #[.int .i64 a0_0, .int .i64 a0_1, .int .i64 a0_2, .int .i64 a0_3, .int .i64 a0_4]) (t := 23) ?hr ?_; (case hd => rfl); (case hg => rfl); (case hr => first | (go_simp; done) | (go_simp; rfl)); intro gb162 hg w7 hbox hb; have n0_ := Aside0.mk (below_step (by repeat (first | (with_reducible first | exact HB.out | apply below_alloc | apply pw_below_drewN | apply below_drew1) | exact HB.out)) hb); have n1_ := Aside0.mk (hbox); have n2_ := Aside0.mk ((by rw [hg]; exact (below_size (by repeat (first | (with_reducible first | exact HB.out | apply below_alloc | apply pw_below_drewN | apply below_drew1) | exact HB.out))) : w.heap.size ≤ gb162)); have n3_ := Aside0.mk ((by rw [hg]; exact (below_size (by repeat (first | (with_reducible first | exact HB.out | apply below_alloc | apply pw_below_drewN | apply below_drew1) | exact HB.out))) : w.heap.size ≤ gb162)); clear HB; have HB := n0_; have BK162 := n1_; have GW162 := n2_; have GE162 := n3_; clear n0_ n1_ n2_ n3_; clear hb hbox hg))
  have n0_ := Aside0.mk (blk_drew BK162.out)
  have n1_ := Aside0.mk (below_drew1 HB.out)
  clear BK162
  clear HB
  have BK162 := n0_
  have HB := n1_
  clear n0_ n1_
  refine start_ (n := 5) (S := fun w' => w'.cell? ⟨gb162, 0, none⟩ = some (.int .i64 a0_0) ∧ w'.cell? ⟨gb162, 1, none⟩ = some (.int .i64 a0_1) ∧ w'.cell? ⟨gb162, 2, none⟩ = some (.int .i64 a0_2) ∧ w'.cell? ⟨gb162, 3, none⟩ = some (.int .i64 a0_3) ∧ w'.cell? ⟨gb162, 4, none⟩ = some (.int .i64 a0_4)) (ds := []) #[false, false, false, false, false] (by kernel_rfl) rfl rfl ⟨(blk_cell BK162.out 0).trans rfl, (blk_cell BK162.out 1).trans rfl, (blk_cell BK162.out 2).trans rfl, (blk_cell BK162.out 3).trans rfl, (blk_cell BK162.out 4).trans rfl⟩ (fun hHeld => ?_)
  generalize w7.drew = w8 at BK162 HB hHeld ⊢
  refine pure_ (i := 1) (N := some 6) (v := ?_) (a' := ?_) #[false, true, false, false, false] rfl rfl (by kernel_rfl) (fun _ _ _ h => h) (Or.inl ⟨by rfl, ?_⟩) ?_ ?_
  rotate_left
  ·intro w'
   go_simp
   with_reducible rfl
  rotate_left
  ·simp only [Act.put, List.setIfInBounds_toArray, List.set_cons_zero, List.set_cons_succ, i64_w, i32_w]
   rfl
  refine take_ (i := 0) (N := some 5) (v := ?_) (a' := ?_) #[true, true, false, false, false] rfl rfl (by kernel_rfl) (fun _ _ _ h => h) (Or.inl ⟨by rfl, ?_⟩) hHeld ?_ ?_
  rotate_left
  ·rintro w' ⟨s0, s1, s2, s3, s4⟩
   go_simp
   with_reducible rfl
  rotate_left
  ·simp only [Act.put, List.setIfInBounds_toArray, List.set_cons_zero, List.set_cons_succ, i64_w, i32_w]
   rfl
  refine take_ (i := 2) (N := some 7) (v := ?_) (a' := ?_) #[true, true, true, false, false] rfl rfl (by kernel_rfl) (fun _ _ _ h => h) (Or.inl ⟨by rfl, ?_⟩) hHeld ?_ ?_
  rotate_left
  ·rintro w' ⟨s0, s1, s2, s3, s4⟩
   go_simp
   with_reducible rfl
  rotate_left
  ·simp only [Act.put, List.setIfInBounds_toArray, List.set_cons_zero, List.set_cons_succ, i64_w, i32_w]
   rfl
  refine one_ (i := 3) (N := some 8) #[true, true, true, true, false] rfl rfl (by kernel_rfl) (by decide) (fun K hK => ?_)
  refine goes_ Try.func13 (by kernel_rfl) rfl #[.agg #[.int .i64 a0_0, .int .i64 a0_1, .int .i64 a0_2, .int .i64 a0_3, .int .i64 a0_4]] (by rfl) rfl rfl (by (try simp only [List.map_toArray, List.map_cons, List.map_nil]); first | done | rfl | (simp only [List.length_drop, List.length_take]; rfl)) ?_
  with_reducible refine (corrieref04_Ops.calls k a0_0 a0_1 a0_2 a0_3 a0_4 t163 _ A3.out).mono ?_
  rintro e w9 ⟨rfl, hb⟩
  refine ⟨_, rfl, ?_⟩
  have n0_ := Aside0.mk (blk_below (g := gb162) (o := .cells #[.int .i64 a0_0, .int .i64 a0_1, .int .i64 a0_2, .int .i64 a0_3, .int .i64 a0_4] 23 (0, 0)) (by (with_reducible repeat (first | refine blk_drewN ?_ _ | refine blk_drew ?_ | refine blk_alloc ?_ _)); exact BK162.out) hb)
  have n1_ := Aside0.mk (below_step (by repeat (first | (with_reducible first | exact HB.out | apply below_alloc | apply pw_below_drewN | apply below_drew1 | refine below_set ?_ GE162.out) | exact HB.out)) hb)
  clear BK162
  clear HB
  have BK162 := n0_
  have HB := n1_
  clear n0_ n1_
  (try clear hb)
  (try clear hb2)
  (try clear hk)
  (try clear hi)
  refine hK.out _ _ ⟨(blk_cell BK162.out 0).trans rfl, (blk_cell BK162.out 1).trans rfl, (blk_cell BK162.out 2).trans rfl, (blk_cell BK162.out 3).trans rfl, (blk_cell BK162.out 4).trans rfl⟩ (fun hHeld => ?_)
  clear hK K
  refine norm_ (a' := ?_) ?_ ?_
  rotate_left
  ·show Act.put _ (some 8) _ = _
   simp only [Act.put, List.setIfInBounds_toArray, List.set_cons_zero, List.set_cons_succ, i64_w, i32_w]
   rfl
  refine one_ (i := 4) (N := some 9) #[true, true, true, true, true] rfl rfl (by kernel_rfl) (by decide) (fun K hK => ?_)
  refine goes_ Try.func85 (by kernel_rfl) rfl #[.agg #[.int .i64 a0_0, .int .i64 a0_1, .int .i64 a0_2, .int .i64 a0_3, .int .i64 a0_4], .int .i64 a1, .int .i64 t163] (by rfl) rfl rfl (by (try simp only [List.map_toArray, List.map_cons, List.map_nil]); first | done | rfl | (simp only [List.length_drop, List.length_take]; rfl)) ?_
  with_reducible refine (corrieref05_in.calls k a0_0 a0_1 a0_2 a0_3 a0_4 a1 t163 true _ A4.out).mono ?_
  rintro e w10 ⟨rfl, hb⟩
  refine ⟨_, rfl, ?_⟩
  have n0_ := Aside0.mk (blk_below (g := gb162) (o := .cells #[.int .i64 a0_0, .int .i64 a0_1, .int .i64 a0_2, .int .i64 a0_3, .int .i64 a0_4] 23 (0, 0)) (by (with_reducible repeat (first | refine blk_drewN ?_ _ | refine blk_drew ?_ | refine blk_alloc ?_ _)); exact BK162.out) hb)
  have n1_ := Aside0.mk (below_step (by repeat (first | (with_reducible first | exact HB.out | apply below_alloc | apply pw_below_drewN | apply below_drew1 | refine below_set ?_ GE162.out) | exact HB.out)) hb)
  clear BK162
  clear HB
  have BK162 := n0_
  have HB := n1_
  clear n0_ n1_
  (try clear hb)
  (try clear hb2)
  (try clear hk)
  (try clear hi)
  refine hK.out _ _ ⟨(blk_cell BK162.out 0).trans rfl, (blk_cell BK162.out 1).trans rfl, (blk_cell BK162.out 2).trans rfl, (blk_cell BK162.out 3).trans rfl, (blk_cell BK162.out 4).trans rfl⟩ (fun hHeld => ?_)
  clear hK K
  refine norm_ (a' := ?_) ?_ ?_
  rotate_left
  ·show Act.put _ (some 9) _ = _
   simp only [Act.put, List.setIfInBounds_toArray, List.set_cons_zero, List.set_cons_succ, i64_w, i32_w]
   rfl
  refine done_ (by kernel_rfl) ?_
  have hcz11_0 : w10.cell? ⟨gb162, 0, none⟩ = some (.int .i64 a0_0) := (blk_cell BK162.out 0).trans rfl
  have hcz11_1 : w10.cell? ⟨gb162, 1, none⟩ = some (.int .i64 a0_1) := (blk_cell BK162.out 1).trans rfl
  have hcz11_2 : w10.cell? ⟨gb162, 2, none⟩ = some (.int .i64 a0_2) := (blk_cell BK162.out 2).trans rfl
  have hcz11_3 : w10.cell? ⟨gb162, 3, none⟩ = some (.int .i64 a0_3) := (blk_cell BK162.out 3).trans rfl
  have hcz11_4 : w10.cell? ⟨gb162, 4, none⟩ = some (.int .i64 a0_4) := (blk_cell BK162.out 4).trans rfl
  have hfz11_0 := blk_frozen BK162.out 0
  have hfz11_1 := blk_frozen BK162.out 1
  have hfz11_2 := blk_frozen BK162.out 2
  have hfz11_3 := blk_frozen BK162.out 3
  have hfz11_4 := blk_frozen BK162.out 4
  try go_wp2_with (first | ((with_reducible refine gate_callee (f := 12) rfl ?_); refine goesL_ (some 11) rfl rfl Try.func12 (by kernel_rfl) rfl #[.agg #[.int .i64 a0_0, .int .i64 a0_1, .int .i64 a0_2, .int .i64 a0_3, .int .i64 a0_4]] rfl (by (try simp only [List.map_toArray, List.map_cons, List.map_nil]); first | done | rfl | (simp only [List.length_drop, List.length_take]; rfl)) ?_; (with_reducible refine (corrieref04_Nodes.calls k a0_0 a0_1 a0_2 a0_3 a0_4 t165 _ A6.out).mono ?_); rintro e w12 ⟨rfl, hb⟩; refine ⟨_, rfl, ?_⟩; have n0_ := Aside0.mk (blk_below (g := gb162) (o := .cells #[.int .i64 a0_0, .int .i64 a0_1, .int .i64 a0_2, .int .i64 a0_3, .int .i64 a0_4] 23 (0, 0)) (by (with_reducible repeat (first | refine blk_drewN ?_ _ | refine blk_drew ?_ | refine blk_alloc ?_ _)); exact BK162.out) hb); have n1_ := Aside0.mk (below_step (by repeat (first | (with_reducible first | exact HB.out | apply below_alloc | apply pw_below_drewN | apply below_drew1 | refine below_set ?_ GE162.out) | exact HB.out)) hb); clear BK162; clear HB; have BK162 := n0_; have HB := n1_; clear n0_ n1_; (try clear hb); (try clear hb2); (try clear hk); (try clear hi)))
  go_ret
  exact ⟨by first | rfl | (simp [errW_none, errW_some] <;> rfl) | (simp [*, errW_none, errW_some] <;> rfl), by repeat (first | (with_reducible first | exact HB.out | apply below_alloc | apply pw_below_drewN | apply below_drew1 | refine below_set ?_ GE162.out) | exact HB.out)⟩
 ·replace c5 := Bool.eq_false_iff.mpr c5
  subst c5
  have H1 : (some (-1)) = some r := by rw [if_neg (show ¬ (false = true) by decide)] at H; exact H
  clear H
  have H := H1
  clear H1
  obtain rfl := Option.some.inj H
  go_enter Try.func90, Try.ntmps90
  try go_wp2_with (first | ((with_reducible refine gate_dst (N := 2) rfl ?_); refine box_event ?hg (N := 2) ?hd (cs := #[.int .i64 a0_0, .int .i64 a0_1, .int .i64 a0_2, .int .i64 a0_3, .int .i64 a0_4]) (t := 23) ?hr ?_; (case hd => rfl); (case hg => rfl); (case hr => first | (go_simp; done) | (go_simp; rfl)); intro gb162 hg w13 hbox hb; have n0_ := Aside0.mk (below_step (by repeat (first | (with_reducible first | exact HB.out | apply below_alloc | apply pw_below_drewN | apply below_drew1) | exact HB.out)) hb); have n1_ := Aside0.mk (hbox); have n2_ := Aside0.mk ((by rw [hg]; exact (below_size (by repeat (first | (with_reducible first | exact HB.out | apply below_alloc | apply pw_below_drewN | apply below_drew1) | exact HB.out))) : w.heap.size ≤ gb162)); have n3_ := Aside0.mk ((by rw [hg]; exact (below_size (by repeat (first | (with_reducible first | exact HB.out | apply below_alloc | apply pw_below_drewN | apply below_drew1) | exact HB.out))) : w.heap.size ≤ gb162)); clear HB; have HB := n0_; have BK162 := n1_; have GW162 := n2_; have GE162 := n3_; clear n0_ n1_ n2_ n3_; clear hb hbox hg))
  have n0_ := Aside0.mk (blk_drew BK162.out)
  have n1_ := Aside0.mk (below_drew1 HB.out)
  clear BK162
  clear HB
  have BK162 := n0_
  have HB := n1_
  clear n0_ n1_
  refine start_ (n := 5) (S := fun w' => w'.cell? ⟨gb162, 0, none⟩ = some (.int .i64 a0_0) ∧ w'.cell? ⟨gb162, 1, none⟩ = some (.int .i64 a0_1) ∧ w'.cell? ⟨gb162, 2, none⟩ = some (.int .i64 a0_2) ∧ w'.cell? ⟨gb162, 3, none⟩ = some (.int .i64 a0_3) ∧ w'.cell? ⟨gb162, 4, none⟩ = some (.int .i64 a0_4)) (ds := []) #[false, false, false, false, false] (by kernel_rfl) rfl rfl ⟨(blk_cell BK162.out 0).trans rfl, (blk_cell BK162.out 1).trans rfl, (blk_cell BK162.out 2).trans rfl, (blk_cell BK162.out 3).trans rfl, (blk_cell BK162.out 4).trans rfl⟩ (fun hHeld => ?_)
  generalize w13.drew = w14 at BK162 HB hHeld ⊢
  refine pure_ (i := 1) (N := some 6) (v := ?_) (a' := ?_) #[false, true, false, false, false] rfl rfl (by kernel_rfl) (fun _ _ _ h => h) (Or.inl ⟨by rfl, ?_⟩) ?_ ?_
  rotate_left
  ·intro w'
   go_simp
   with_reducible rfl
  rotate_left
  ·simp only [Act.put, List.setIfInBounds_toArray, List.set_cons_zero, List.set_cons_succ, i64_w, i32_w]
   rfl
  refine take_ (i := 0) (N := some 5) (v := ?_) (a' := ?_) #[true, true, false, false, false] rfl rfl (by kernel_rfl) (fun _ _ _ h => h) (Or.inl ⟨by rfl, ?_⟩) hHeld ?_ ?_
  rotate_left
  ·rintro w' ⟨s0, s1, s2, s3, s4⟩
   go_simp
   with_reducible rfl
  rotate_left
  ·simp only [Act.put, List.setIfInBounds_toArray, List.set_cons_zero, List.set_cons_succ, i64_w, i32_w]
   rfl
  refine take_ (i := 2) (N := some 7) (v := ?_) (a' := ?_) #[true, true, true, false, false] rfl rfl (by kernel_rfl) (fun _ _ _ h => h) (Or.inl ⟨by rfl, ?_⟩) hHeld ?_ ?_
  rotate_left
  ·rintro w' ⟨s0, s1, s2, s3, s4⟩
   go_simp
   with_reducible rfl
  rotate_left
  ·simp only [Act.put, List.setIfInBounds_toArray, List.set_cons_zero, List.set_cons_succ, i64_w, i32_w]
   rfl
  refine one_ (i := 3) (N := some 8) #[true, true, true, true, false] rfl rfl (by kernel_rfl) (by decide) (fun K hK => ?_)
  refine goes_ Try.func13 (by kernel_rfl) rfl #[.agg #[.int .i64 a0_0, .int .i64 a0_1, .int .i64 a0_2, .int .i64 a0_3, .int .i64 a0_4]] (by rfl) rfl rfl (by (try simp only [List.map_toArray, List.map_cons, List.map_nil]); first | done | rfl | (simp only [List.length_drop, List.length_take]; rfl)) ?_
  with_reducible refine (corrieref04_Ops.calls k a0_0 a0_1 a0_2 a0_3 a0_4 t163 _ A3.out).mono ?_
  rintro e w15 ⟨rfl, hb⟩
  refine ⟨_, rfl, ?_⟩
  have n0_ := Aside0.mk (blk_below (g := gb162) (o := .cells #[.int .i64 a0_0, .int .i64 a0_1, .int .i64 a0_2, .int .i64 a0_3, .int .i64 a0_4] 23 (0, 0)) (by (with_reducible repeat (first | refine blk_drewN ?_ _ | refine blk_drew ?_ | refine blk_alloc ?_ _)); exact BK162.out) hb)
  have n1_ := Aside0.mk (below_step (by repeat (first | (with_reducible first | exact HB.out | apply below_alloc | apply pw_below_drewN | apply below_drew1 | refine below_set ?_ GE162.out) | exact HB.out)) hb)
  clear BK162
  clear HB
  have BK162 := n0_
  have HB := n1_
  clear n0_ n1_
  (try clear hb)
  (try clear hb2)
  (try clear hk)
  (try clear hi)
  refine hK.out _ _ ⟨(blk_cell BK162.out 0).trans rfl, (blk_cell BK162.out 1).trans rfl, (blk_cell BK162.out 2).trans rfl, (blk_cell BK162.out 3).trans rfl, (blk_cell BK162.out 4).trans rfl⟩ (fun hHeld => ?_)
  clear hK K
  refine norm_ (a' := ?_) ?_ ?_
  rotate_left
  ·show Act.put _ (some 8) _ = _
   simp only [Act.put, List.setIfInBounds_toArray, List.set_cons_zero, List.set_cons_succ, i64_w, i32_w]
   rfl
  refine one_ (i := 4) (N := some 9) #[true, true, true, true, true] rfl rfl (by kernel_rfl) (by decide) (fun K hK => ?_)
  refine goes_ Try.func85 (by kernel_rfl) rfl #[.agg #[.int .i64 a0_0, .int .i64 a0_1, .int .i64 a0_2, .int .i64 a0_3, .int .i64 a0_4], .int .i64 a1, .int .i64 t163] (by rfl) rfl rfl (by (try simp only [List.map_toArray, List.map_cons, List.map_nil]); first | done | rfl | (simp only [List.length_drop, List.length_take]; rfl)) ?_
  with_reducible refine (corrieref05_in.calls k a0_0 a0_1 a0_2 a0_3 a0_4 a1 t163 false _ A4.out).mono ?_
  rintro e w16 ⟨rfl, hb⟩
  refine ⟨_, rfl, ?_⟩
  have n0_ := Aside0.mk (blk_below (g := gb162) (o := .cells #[.int .i64 a0_0, .int .i64 a0_1, .int .i64 a0_2, .int .i64 a0_3, .int .i64 a0_4] 23 (0, 0)) (by (with_reducible repeat (first | refine blk_drewN ?_ _ | refine blk_drew ?_ | refine blk_alloc ?_ _)); exact BK162.out) hb)
  have n1_ := Aside0.mk (below_step (by repeat (first | (with_reducible first | exact HB.out | apply below_alloc | apply pw_below_drewN | apply below_drew1 | refine below_set ?_ GE162.out) | exact HB.out)) hb)
  clear BK162
  clear HB
  have BK162 := n0_
  have HB := n1_
  clear n0_ n1_
  (try clear hb)
  (try clear hb2)
  (try clear hk)
  (try clear hi)
  refine hK.out _ _ ⟨(blk_cell BK162.out 0).trans rfl, (blk_cell BK162.out 1).trans rfl, (blk_cell BK162.out 2).trans rfl, (blk_cell BK162.out 3).trans rfl, (blk_cell BK162.out 4).trans rfl⟩ (fun hHeld => ?_)
  clear hK K
  refine norm_ (a' := ?_) ?_ ?_
  rotate_left
  ·show Act.put _ (some 9) _ = _
   simp only [Act.put, List.setIfInBounds_toArray, List.set_cons_zero, List.set_cons_succ, i64_w, i32_w]
   rfl
  refine done_ (by kernel_rfl) ?_
  try go_wp2
  go_ret
  exact ⟨by first | rfl | (simp [errW_none, errW_some] <;> rfl) | (simp [*, errW_none, errW_some] <;> rfl), by repeat (first | (with_reducible first | exact HB.out | apply below_alloc | apply pw_below_drewN | apply below_drew1 | refine below_set ?_ GE162.out) | exact HB.out)⟩

end Go.Proofs.Ytpcmoclohepdiag.PWorldActs
