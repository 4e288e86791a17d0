-- Written by a program of this session: a variant of the print that takes proofs by hand (wip/tools/mkprint.py)
import Derived.Test.YtpcmoclohepdiagPWorldHeadsx0
import Derived.Test.YtpcmoclohepdiagPWorldHeadsx4
import Derived.Test.YtpcmoclohepdiagPWorldHeadsx5
import Derived.Test.YtpcmoclohepdiagPWorldHeadsx6
namespace Go.Proofs.Ytpcmoclohepdiag.PWorldHeads
open Go.RowKit Go.Proofs.YtpcmoclohepdiagW.PrintWords Go.Proofs.YtpcmoclohepdiagW.PrintLast Go.Proofs.YtpcmoclohepdiagW.PrintMore
attribute [local go_sem] max2_int min2_int max_two min_two max_three min_three max_four min_four   -- for this text's walks alone
set_option linter.unusedVariables false
set_option linter.unusedSimpArgs false

/-! ### corrieref08_New: function 21 -/
def corrieref08_New.f (k : Nat) (a0_0 : Int) (a0_1 : Int) (a0_2 : Int) (a0_3 : Int) (a0_4 : Int) : Option (Int × Int × Int × Int × Int × List Int × Int × Int × Int × Int × Int × Int × List Int × List Int × List Int × (List (S161)) × (List (S163)) × Int) := (corrieref07_New.f k a0_0 a0_1 a0_2 a0_3 a0_4).bind fun bt152 => (if bt152.2.2.2.2.2.2.2.2.2.2 = 0 then ((corrieref05_Len.f k a0_0 a0_1 a0_2 a0_3 a0_4).bind fun t174 => ((corrieref06_New.f t174).bind fun bt175 => (some (a0_0, a0_1, a0_2, a0_3, a0_4, bt175.1, bt175.2, bt152.1, bt152.2.1, bt152.2.2.1, bt152.2.2.2.1, bt152.2.2.2.2.1, bt152.2.2.2.2.2.1, bt152.2.2.2.2.2.2.1, bt152.2.2.2.2.2.2.2.1, bt152.2.2.2.2.2.2.2.2.1, bt152.2.2.2.2.2.2.2.2.2.1, 0)))) else (some (0, 0, 0, 0, 0, ([] : List Int), 0, 0, 0, 0, 0, 0, ([] : List Int), ([] : List Int), ([] : List Int), ([] : List (S161)), ([] : List (S163)), bt152.2.2.2.2.2.2.2.2.2.2)))
theorem corrieref08_New.mono : ∀ a0 a1 a2 a3 a4 k, LeO (corrieref08_New.f k a0 a1 a2 a3 a4) (corrieref08_New.f (k + 1) a0 a1 a2 a3 a4) := by
  intro a0 a1 a2 a3 a4 k
  unfold corrieref08_New.f
  repeat' first
      | (with_reducible exact corrieref05_Len.mono _ _ _ _ _ _)
      | (with_reducible exact corrieref07_New.mono _ _ _ _ _ _)
      | (with_reducible exact LeO.refl _)
      | (with_reducible exact LeO.none _)
      | (with_reducible refine LeO.ite ?_ ?_)
      | (with_reducible refine LeO.bind ?_ (fun _ => ?_))
      | exact corrieref05_Len.mono _ _ _ _ _ _
      | exact corrieref07_New.mono _ _ _ _ _ _
      | exact LeO.none _
      | refine LeO.ite ?_ ?_
      | refine LeO.bind ?_ (fun _ => ?_)
def corrieref08_New.T4 : Bool × List (List Nat × List Nat) := (true, [([], []), ([], []), ([1], [1]), ([2, 2], [2]), ([], []), ([0, 3, 4], [0, 3, 4]), ([5, 3, 0, 1, 2, 3, 4, 5], [5]), ([6, 0, 1, 2, 3, 4, 5, 6], [])])
def corrieref08_New.B4 : List Nat := [0, 0, 2, 6, 0, 31, 63, 127]
theorem corrieref08_New.tab4 : rtab .any (opsOf Try.f21 4) = corrieref08_New.T4 := by kernel_rfl
theorem corrieref08_New.bits4 : waitsOk corrieref08_New.T4.2 corrieref08_New.B4 = true := by kernel_rfl
set_option maxHeartbeats 8000000 in
set_option maxRecDepth 100000 in
theorem corrieref08_New.calls (k : Nat) (a0_0 : Int) (a0_1 : Int) (a0_2 : Int) (a0_3 : Int) (a0_4 : Int) (r1 : Int) (r2 : Int) (r3 : Int) (r4 : Int) (r5 : Int) (r6 : List Int) (r7 : Int) (r8 : Int) (r9 : Int) (r10 : Int) (r11 : Int) (r12 : Int) (r13 : List Int) (r14 : List Int) (r15 : List Int) (r16 : List (S161)) (r17 : List (S163)) (r18 : Int) (w : World) (h : corrieref08_New.f k a0_0 a0_1 a0_2 a0_3 a0_4 = some (r1, r2, r3, r4, r5, r6, r7, r8, r9, r10, r11, r12, r13, r14, r15, r16, r17, r18)) :
    Calls Try.prog 21 #[.agg #[.int .i64 a0_0, .int .i64 a0_1, .int .i64 a0_2, .int .i64 a0_3, .int .i64 a0_4]] w fun e w' => ∃ v5_ v12_ v13_ v14_ v15_ v16_ : Value, e = .returned (.tuple #[.agg #[.int .i64 r1, .int .i64 r2, .int .i64 r3, .int .i64 r4, .int .i64 r5, v5_, .int .i64 r7, .int .i64 r8, .int .i64 r9, .int .i64 r10, .int .i64 r11, .int .i64 r12, v12_, v13_, v14_, v15_, v16_], .int .i64 r18]) ∧ Kd.R (Kd.int .u64) 25 w' w.heap.size (fun _ => True) v5_ r6 ∧ Kd.R (Kd.int .i64) 3 w' w.heap.size (fun k_ => some k_ ≠ (v13_ : Value).ownBlock ∧ some k_ ≠ (v14_ : Value).ownBlock) v12_ r13 ∧ Kd.R (Kd.int .i64) 3 w' w.heap.size (fun k_ => some k_ ≠ (v12_ : Value).ownBlock ∧ some k_ ≠ (v14_ : Value).ownBlock) v13_ r14 ∧ Kd.R (Kd.int .i64) 3 w' w.heap.size (fun k_ => some k_ ≠ (v12_ : Value).ownBlock ∧ some k_ ≠ (v13_ : Value).ownBlock) v14_ r15 ∧ Kd.R k161 161 w' w.heap.size (fun _ => True) v15_ r16 ∧ Kd.R k163 163 w' w.heap.size (fun _ => True) v16_ r17 ∧ Below w.heap.size w w' := by
  have hu23 := Try.underlying23
  have hu60 := Try.underlying60
  have hu58 := Try.underlying58
  have HB := Aside0.mk (Below.refl w.heap.size w)
  have H : ((corrieref07_New.f k a0_0 a0_1 a0_2 a0_3 a0_4).bind fun bt152 => (if bt152.2.2.2.2.2.2.2.2.2.2 = 0 then ((corrieref05_Len.f k a0_0 a0_1 a0_2 a0_3 a0_4).bind fun t174 => ((corrieref06_New.f t174).bind fun bt175 => (some (a0_0, a0_1, a0_2, a0_3, a0_4, bt175.1, bt175.2, bt152.1, bt152.2.1, bt152.2.2.1, bt152.2.2.2.1, bt152.2.2.2.2.1, bt152.2.2.2.2.2.1, bt152.2.2.2.2.2.2.1, bt152.2.2.2.2.2.2.2.1, bt152.2.2.2.2.2.2.2.2.1, bt152.2.2.2.2.2.2.2.2.2.1, 0)))) else (some (0, 0, 0, 0, 0, ([] : List Int), 0, 0, 0, 0, 0, 0, ([] : List Int), ([] : List Int), ([] : List Int), ([] : List (S161)), ([] : List (S163)), bt152.2.2.2.2.2.2.2.2.2.2)))) = some (r1, r2, r3, r4, r5, r6, r7, r8, r9, r10, r11, r12, r13, r14, r15, r16, r17, r18) := h
  clear h
  replace H := Option.bind_eq_some_iff.mp H
  obtain ⟨⟨t152, t153, t154, t155, t156, t157, t160, t163, t166, t169, t172⟩, A20, H⟩ := H
  replace H : (if t172 = 0 then ((corrieref05_Len.f k a0_0 a0_1 a0_2 a0_3 a0_4).bind fun t174 => ((corrieref06_New.f t174).bind fun bt175 => (some (a0_0, a0_1, a0_2, a0_3, a0_4, bt175.1, bt175.2, t152, t153, t154, t155, t156, t157, t160, t163, t166, t169, 0)))) else (some (0, 0, 0, 0, 0, ([] : List Int), 0, 0, 0, 0, 0, 0, ([] : List Int), ([] : List Int), ([] : List Int), ([] : List (S161)), ([] : List (S163)), t172))) = some (r1, r2, r3, r4, r5, r6, r7, r8, r9, r10, r11, r12, r13, r14, r15, r16, r17, r18) := H
  have A2 := Aside0.mk A20
  clear A20
  by_cases c3 : t172 = 0
  · rw [if_pos c3] at H
    have c3b0 : (t172 == 0) = true := beq_iff_eq.mpr c3
    have c3b1 : (t172 != 0) = false := bne_eq_false_iff_eq.mpr c3
    clear c3
    replace H := Option.bind_eq_some_iff.mp H
    obtain ⟨t174, A40, H⟩ := H
    replace H : ((corrieref06_New.f t174).bind fun bt175 => (some (a0_0, a0_1, a0_2, a0_3, a0_4, bt175.1, bt175.2, t152, t153, t154, t155, t156, t157, t160, t163, t166, t169, 0))) = some (r1, r2, r3, r4, r5, r6, r7, r8, r9, r10, r11, r12, r13, r14, r15, r16, r17, r18) := H
    have A4 := Aside0.mk A40
    clear A40
    replace H := Option.bind_eq_some_iff.mp H
    obtain ⟨⟨t175, t178⟩, A50, H⟩ := H
    replace H : (some (a0_0, a0_1, a0_2, a0_3, a0_4, t175, t178, t152, t153, t154, t155, t156, t157, t160, t163, t166, t169, 0)) = some (r1, r2, r3, r4, r5, r6, r7, r8, r9, r10, r11, r12, r13, r14, r15, r16, r17, r18) := H
    have A5 := Aside0.mk A50
    clear A50
    simp only [Option.some.injEq, Prod.mk.injEq] at H
    obtain ⟨rfl, rfl, rfl, rfl, rfl, rfl, rfl, rfl, rfl, rfl, rfl, rfl, rfl, rfl, rfl, rfl, rfl, rfl⟩ := H
    go_enter Try.func21, Try.ntmps21
    try go_wp2_with (first | ((with_reducible refine gate_dst (N := 1) rfl ?_); refine box_event ?hg (N := 1) ?hd (cs := #[.int .i64 a0_0, .int .i64 a0_1, .int .i64 a0_2, .int .i64 a0_3, .int .i64 a0_4]) (t := 23) ?hr ?_; (case hd => rfl); (case hg => rfl); (case hr => first | (go_simp; done) | (go_simp; rfl)); intro gb150 hg w6 hbox hb; have n0_ := Aside0.mk (below_step (by repeat (first | (with_reducible first | exact HB.out | apply below_alloc | apply pw_below_drewN | apply below_drew1) | exact HB.out)) hb); have n1_ := Aside0.mk (hbox); have n2_ := Aside0.mk ((by rw [hg]; exact (below_size (by repeat (first | (with_reducible first | exact HB.out | apply below_alloc | apply pw_below_drewN | apply below_drew1) | exact HB.out))) : w.heap.size ≤ gb150)); have n3_ := Aside0.mk ((by rw [hg]; exact (below_size (by repeat (first | (with_reducible first | exact HB.out | apply below_alloc | apply pw_below_drewN | apply below_drew1) | exact HB.out))) : w.heap.size ≤ gb150)); clear HB; have HB := n0_; have BK150 := n1_; have GW150 := n2_; have GE150 := n3_; clear n0_ n1_ n2_ n3_; clear hb hbox hg) | ((with_reducible refine gate_dst (N := 2) rfl ?_); refine box_event ?hg (N := 2) ?hd (cs := #[.int .i64 0, .int .i64 0, .int .i64 0, .int .i64 0, .int .i64 0, .slice none 0 0, .int .i64 0, .int .i64 0, .int .i64 0, .int .i64 0, .int .i64 0, .int .i64 0, .slice none 0 0, .slice none 0 0, .slice none 0 0, .slice none 0 0, .slice none 0 0]) (t := 60) ?hr ?_; (case hd => rfl); (case hg => rfl); (case hr => first | (go_simp; done) | (go_simp; rfl)); intro gb151 hg w7 hbox hb; have n0_ := Aside0.mk (blk_below (g := gb150) (o := .cells #[.int .i64 a0_0, .int .i64 a0_1, .int .i64 a0_2, .int .i64 a0_3, .int .i64 a0_4] 23 (0, 0)) (by (with_reducible repeat (first | refine blk_drewN ?_ _ | refine blk_drew ?_ | refine blk_alloc ?_ _)); exact BK150.out) hb); have n1_ := Aside0.mk (below_step (by repeat (first | (with_reducible first | exact HB.out | apply below_alloc | apply pw_below_drewN | apply below_drew1 | refine below_set ?_ GE150.out) | exact HB.out)) hb); have n2_ := Aside0.mk (hbox); have n3_ := Aside0.mk ((by rw [hg]; exact (below_size (by repeat (first | (with_reducible first | exact HB.out | apply below_alloc | apply pw_below_drewN | apply below_drew1 | refine below_set ?_ GE150.out) | exact HB.out))) : w.heap.size ≤ gb151)); have n4_ := Aside0.mk ((by rw [hg]; exact (below_size (by repeat (first | (with_reducible first | exact HB.out | apply below_alloc | apply pw_below_drewN | apply below_drew1 | refine below_set ?_ GE150.out) | exact HB.out))) : w.heap.size ≤ gb151)); have n5_ := Aside0.mk ((by rw [hg]; exact Nat.ne_of_lt (blk_lt (g := gb150) (o := .cells #[.int .i64 a0_0, .int .i64 a0_1, .int .i64 a0_2, .int .i64 a0_3, .int .i64 a0_4] 23 (0, 0)) (by (with_reducible repeat (first | refine blk_drewN ?_ _ | refine blk_drew ?_ | refine blk_alloc ?_ _)); exact BK150.out)) : gb150 ≠ gb151)); have n6_ := Aside0.mk ((by rw [hg]; exact Nat.ne_of_gt (blk_lt (g := gb150) (o := .cells #[.int .i64 a0_0, .int .i64 a0_1, .int .i64 a0_2, .int .i64 a0_3, .int .i64 a0_4] 23 (0, 0)) (by (with_reducible repeat (first | refine blk_drewN ?_ _ | refine blk_drew ?_ | refine blk_alloc ?_ _)); exact BK150.out)) : gb151 ≠ gb150)); clear BK150; clear HB; have BK150 := n0_; have HB := n1_; have BK151 := n2_; have GW151 := n3_; have GE151 := n4_; have NB150_151 := n5_; have NB151_150 := n6_; clear n0_ n1_ n2_ n3_ n4_ n5_ n6_; clear hb hbox hg; have hnb8 := NB150_151.out; have hnc8 := NB151_150.out; have hcz9_0 : w7.cell? ⟨gb150, 0, none⟩ = some (.int .i64 a0_0) := (blk_cell BK150.out 0).trans rfl; have hcz9_1 : w7.cell? ⟨gb150, 1, none⟩ = some (.int .i64 a0_1) := (blk_cell BK150.out 1).trans rfl; have hcz9_2 : w7.cell? ⟨gb150, 2, none⟩ = some (.int .i64 a0_2) := (blk_cell BK150.out 2).trans rfl; have hcz9_3 : w7.cell? ⟨gb150, 3, none⟩ = some (.int .i64 a0_3) := (blk_cell BK150.out 3).trans rfl; have hcz9_4 : w7.cell? ⟨gb150, 4, none⟩ = some (.int .i64 a0_4) := (blk_cell BK150.out 4).trans rfl; have hfz9_0 := blk_frozen BK150.out 0; have hfz9_1 := blk_frozen BK150.out 1; have hfz9_2 := blk_frozen BK150.out 2; have hfz9_3 := blk_frozen BK150.out 3; have hfz9_4 := blk_frozen BK150.out 4) | ((with_reducible refine gate_callee (f := 49) rfl ?_); refine goesL_ (some 8) rfl rfl Try.func49 (by kernel_rfl) rfl #[.agg #[.int .i64 a0_0, .int .i64 a0_1, .int .i64 a0_2, .int .i64 a0_3, .int .i64 a0_4]] rfl (by (try simp only [List.map_toArray, List.map_cons, List.map_nil]); first | done | rfl | (simp only [List.length_drop, List.length_take]; rfl)) ?_; (with_reducible refine (corrieref07_New.calls k a0_0 a0_1 a0_2 a0_3 a0_4 t152 t153 t154 t155 t156 t157 t160 t163 t166 t169 t172 _ A2.out).mono ?_); rintro e w10 ⟨v158, v161, v164, v167, v170, rfl, ho0, ho1, ho2, ho3, ho4, hb⟩; refine ⟨_, rfl, ?_⟩; have n0_ := Aside0.mk (Kd.R_lower ho0 (below_size (by repeat (first | (with_reducible first | exact HB.out | apply below_alloc | apply pw_below_drewN | apply below_drew1 | refine below_set ?_ GE150.out | refine below_set ?_ GE151.out) | exact HB.out)))); have n1_ := Aside0.mk (Kd.R_lower ho1 (below_size (by repeat (first | (with_reducible first | exact HB.out | apply below_alloc | apply pw_below_drewN | apply below_drew1 | refine below_set ?_ GE150.out | refine below_set ?_ GE151.out) | exact HB.out)))); have n2_ := Aside0.mk (Kd.R_lower ho2 (below_size (by repeat (first | (with_reducible first | exact HB.out | apply below_alloc | apply pw_below_drewN | apply below_drew1 | refine below_set ?_ GE150.out | refine below_set ?_ GE151.out) | exact HB.out)))); have n3_ := Aside0.mk (Kd.R_lower ho3 (below_size (by repeat (first | (with_reducible first | exact HB.out | apply below_alloc | apply pw_below_drewN | apply below_drew1 | refine below_set ?_ GE150.out | refine below_set ?_ GE151.out) | exact HB.out)))); have n4_ := Aside0.mk (Kd.R_lower ho4 (below_size (by repeat (first | (with_reducible first | exact HB.out | apply below_alloc | apply pw_below_drewN | apply below_drew1 | refine below_set ?_ GE150.out | refine below_set ?_ GE151.out) | exact HB.out)))); have n5_ := Aside0.mk (blk_below (g := gb150) (o := .cells #[.int .i64 a0_0, .int .i64 a0_1, .int .i64 a0_2, .int .i64 a0_3, .int .i64 a0_4] 23 (0, 0)) (by (with_reducible repeat (first | refine blk_drewN ?_ _ | refine blk_drew ?_ | refine blk_alloc ?_ _)); exact BK150.out) hb); have n6_ := Aside0.mk (blk_below (g := gb151) (o := .cells #[.int .i64 0, .int .i64 0, .int .i64 0, .int .i64 0, .int .i64 0, .slice none 0 0, .int .i64 0, .int .i64 0, .int .i64 0, .int .i64 0, .int .i64 0, .int .i64 0, .slice none 0 0, .slice none 0 0, .slice none 0 0, .slice none 0 0, .slice none 0 0] 60 (0, 0)) (by (with_reducible repeat (first | refine blk_drewN ?_ _ | refine blk_drew ?_ | refine blk_alloc ?_ _)); exact BK151.out) hb); have n7_ := Aside0.mk (below_step (by repeat (first | (with_reducible first | exact HB.out | apply below_alloc | apply pw_below_drewN | apply below_drew1 | refine below_set ?_ GE150.out | refine below_set ?_ GE151.out) | exact HB.out)) hb); clear BK150; clear BK151; clear HB; have HO159 := n0_; have HO162 := n1_; have HO165 := n2_; have HO168 := n3_; have HO171 := n4_; have BK150 := n5_; have BK151 := n6_; have HB := n7_; clear n0_ n1_ n2_ n3_ n4_ n5_ n6_ n7_; (try clear hb); (try clear hb2); (try clear hk); (try clear hi); (try clear ho0); (try clear ho1); (try clear ho2); (try clear ho3); (try clear ho4)) | ((with_reducible refine gate_dst (N := 4) rfl ?_); refine box_event ?hg (N := 4) ?hd (cs := #[.int .i64 0, .int .i64 0, .int .i64 0, .int .i64 0, .int .i64 0, .slice none 0 0, .slice none 0 0, .slice none 0 0, .slice none 0 0, .slice none 0 0]) (t := 58) ?hr ?_; (case hd => rfl); (case hg => rfl); (case hr => first | (go_simp; done) | (go_simp; rfl)); intro gb173 hg w11 hbox hb; have n0_ := Aside0.mk (Kd.R_below (by (with_reducible repeat (first | apply Kd.R_alloc | apply Kd.R_drewN | apply Kd.R_drew)); exact HO159.out) hb); have n1_ := Aside0.mk (Kd.R_below (by (with_reducible repeat (first | apply Kd.R_alloc | apply Kd.R_drewN | apply Kd.R_drew)); exact HO162.out) hb); have n2_ := Aside0.mk (Kd.R_below (by (with_reducible repeat (first | apply Kd.R_alloc | apply Kd.R_drewN | apply Kd.R_drew)); exact HO165.out) hb); have n3_ := Aside0.mk (Kd.R_below (by (with_reducible repeat (first | apply Kd.R_alloc | apply Kd.R_drewN | apply Kd.R_drew)); exact HO168.out) hb); have n4_ := Aside0.mk (Kd.R_below (by (with_reducible repeat (first | apply Kd.R_alloc | apply Kd.R_drewN | apply Kd.R_drew)); exact HO171.out) hb); have n5_ := Aside0.mk (blk_below (g := gb150) (o := .cells #[.int .i64 a0_0, .int .i64 a0_1, .int .i64 a0_2, .int .i64 a0_3, .int .i64 a0_4] 23 (0, 0)) (by (with_reducible repeat (first | refine blk_drewN ?_ _ | refine blk_drew ?_ | refine blk_alloc ?_ _)); exact BK150.out) hb); have n6_ := Aside0.mk (blk_below (g := gb151) (o := .cells #[.int .i64 0, .int .i64 0, .int .i64 0, .int .i64 0, .int .i64 0, .slice none 0 0, .int .i64 0, .int .i64 0, .int .i64 0, .int .i64 0, .int .i64 0, .int .i64 0, .slice none 0 0, .slice none 0 0, .slice none 0 0, .slice none 0 0, .slice none 0 0] 60 (0, 0)) (by (with_reducible repeat (first | refine blk_drewN ?_ _ | refine blk_drew ?_ | refine blk_alloc ?_ _)); exact BK151.out) hb); have n7_ := Aside0.mk (below_step (by repeat (first | (with_reducible first | exact HB.out | apply below_alloc | apply pw_below_drewN | apply below_drew1 | refine below_set ?_ GE150.out | refine below_set ?_ GE151.out) | exact HB.out)) hb); have n8_ := Aside0.mk (hbox); have n9_ := Aside0.mk ((by rw [hg]; exact (below_size (by repeat (first | (with_reducible first | exact HB.out | apply below_alloc | apply pw_below_drewN | apply below_drew1 | refine below_set ?_ GE150.out | refine below_set ?_ GE151.out) | exact HB.out))) : w.heap.size ≤ gb173)); have n10_ := Aside0.mk ((by rw [hg]; exact (below_size (by repeat (first | (with_reducible first | exact HB.out | apply below_alloc | apply pw_below_drewN | apply below_drew1 | refine below_set ?_ GE150.out | refine below_set ?_ GE151.out) | exact HB.out))) : w.heap.size ≤ gb173)); have n11_ := Aside0.mk ((by rw [hg]; exact Nat.ne_of_lt (blk_lt (g := gb150) (o := .cells #[.int .i64 a0_0, .int .i64 a0_1, .int .i64 a0_2, .int .i64 a0_3, .int .i64 a0_4] 23 (0, 0)) (by (with_reducible repeat (first | refine blk_drewN ?_ _ | refine blk_drew ?_ | refine blk_alloc ?_ _)); exact BK150.out)) : gb150 ≠ gb173)); have n12_ := Aside0.mk ((by rw [hg]; exact Nat.ne_of_gt (blk_lt (g := gb150) (o := .cells #[.int .i64 a0_0, .int .i64 a0_1, .int .i64 a0_2, .int .i64 a0_3, .int .i64 a0_4] 23 (0, 0)) (by (with_reducible repeat (first | refine blk_drewN ?_ _ | refine blk_drew ?_ | refine blk_alloc ?_ _)); exact BK150.out)) : gb173 ≠ gb150)); have n13_ := Aside0.mk ((by rw [hg]; exact Nat.ne_of_lt (blk_lt (g := gb151) (o := .cells #[.int .i64 0, .int .i64 0, .int .i64 0, .int .i64 0, .int .i64 0, .slice none 0 0, .int .i64 0, .int .i64 0, .int .i64 0, .int .i64 0, .int .i64 0, .int .i64 0, .slice none 0 0, .slice none 0 0, .slice none 0 0, .slice none 0 0, .slice none 0 0] 60 (0, 0)) (by (with_reducible repeat (first | refine blk_drewN ?_ _ | refine blk_drew ?_ | refine blk_alloc ?_ _)); exact BK151.out)) : gb151 ≠ gb173)); have n14_ := Aside0.mk ((by rw [hg]; exact Nat.ne_of_gt (blk_lt (g := gb151) (o := .cells #[.int .i64 0, .int .i64 0, .int .i64 0, .int .i64 0, .int .i64 0, .slice none 0 0, .int .i64 0, .int .i64 0, .int .i64 0, .int .i64 0, .int .i64 0, .int .i64 0, .slice none 0 0, .slice none 0 0, .slice none 0 0, .slice none 0 0, .slice none 0 0] 60 (0, 0)) (by (with_reducible repeat (first | refine blk_drewN ?_ _ | refine blk_drew ?_ | refine blk_alloc ?_ _)); exact BK151.out)) : gb173 ≠ gb151)); clear HO159; clear HO162; clear HO165; clear HO168; clear HO171; clear BK150; clear BK151; clear HB; have HO159 := n0_; have HO162 := n1_; have HO165 := n2_; have HO168 := n3_; have HO171 := n4_; have BK150 := n5_; have BK151 := n6_; have HB := n7_; have BK173 := n8_; have GW173 := n9_; have GE173 := n10_; have NB150_173 := n11_; have NB173_150 := n12_; have NB151_173 := n13_; have NB173_151 := n14_; clear n0_ n1_ n2_ n3_ n4_ n5_ n6_ n7_ n8_ n9_ n10_ n11_ n12_ n13_ n14_; clear hb hbox hg; have hnb12 := NB173_150.out; have hnc12 := NB150_173.out; have hnb13 := NB173_151.out; have hnc13 := NB151_173.out; have hcz14_0 : w11.cell? ⟨gb173, 0, none⟩ = some (.int .i64 0) := (blk_cell BK173.out 0).trans rfl; have hcz14_1 : w11.cell? ⟨gb173, 1, none⟩ = some (.int .i64 0) := (blk_cell BK173.out 1).trans rfl; have hcz14_2 : w11.cell? ⟨gb173, 2, none⟩ = some (.int .i64 0) := (blk_cell BK173.out 2).trans rfl; have hcz14_3 : w11.cell? ⟨gb173, 3, none⟩ = some (.int .i64 0) := (blk_cell BK173.out 3).trans rfl; have hcz14_4 : w11.cell? ⟨gb173, 4, none⟩ = some (.int .i64 0) := (blk_cell BK173.out 4).trans rfl; have hcz14_5 : w11.cell? ⟨gb173, 5, none⟩ = some (.slice none 0 0) := (blk_cell BK173.out 5).trans rfl; have hcz14_6 : w11.cell? ⟨gb173, 6, none⟩ = some (.slice none 0 0) := (blk_cell BK173.out 6).trans rfl; have hcz14_7 : w11.cell? ⟨gb173, 7, none⟩ = some (.slice none 0 0) := (blk_cell BK173.out 7).trans rfl; have hcz14_8 : w11.cell? ⟨gb173, 8, none⟩ = some (.slice none 0 0) := (blk_cell BK173.out 8).trans rfl; have hcz14_9 : w11.cell? ⟨gb173, 9, none⟩ = some (.slice none 0 0) := (blk_cell BK173.out 9).trans rfl; have hfz14_0 := blk_frozen BK173.out 0; have hfz14_1 := blk_frozen BK173.out 1; have hfz14_2 := blk_frozen BK173.out 2; have hfz14_3 := blk_frozen BK173.out 3; have hfz14_4 := blk_frozen BK173.out 4; have hfz14_5 := blk_frozen BK173.out 5; have hfz14_6 := blk_frozen BK173.out 6; have hfz14_7 := blk_frozen BK173.out 7; have hfz14_8 := blk_frozen BK173.out 8; have hfz14_9 := blk_frozen BK173.out 9; obtain ⟨Ao15, co15, eo15⟩ := Kd.R_slice HO159.out; subst eo15; obtain ⟨Ao16, co16, eo16⟩ := Kd.R_slice HO162.out; subst eo16; obtain ⟨Ao17, co17, eo17⟩ := Kd.R_slice HO165.out; subst eo17; obtain ⟨Ao18, co18, eo18⟩ := Kd.R_slice HO168.out; subst eo18; obtain ⟨Ao19, co19, eo19⟩ := Kd.R_slice HO171.out; subst eo19))
    have n0_ : Aside0 (Kd.R (Kd.int .i64) 3 ((((((((((w11.setCell ⟨gb173, 0, none⟩ (.int .i64 t152)).setCell ⟨gb173, 1, none⟩ (.int .i64 t153)).setCell ⟨gb173, 2, none⟩ (.int .i64 t154)).setCell ⟨gb173, 3, none⟩ (.int .i64 t155)).setCell ⟨gb173, 4, none⟩ (.int .i64 t156)).setCell ⟨gb173, 5, none⟩ (.slice Ao15 t157.length co15)).setCell ⟨gb173, 6, none⟩ (.slice Ao16 t160.length co16)).setCell ⟨gb173, 7, none⟩ (.slice Ao17 t163.length co17)).setCell ⟨gb173, 8, none⟩ (.slice Ao18 t166.length co18)).setCell ⟨gb173, 9, none⟩ (.slice Ao19 t169.length co19)) w.heap.size (fun k_ => some k_ ≠ (.slice Ao16 t160.length co16 : Value).ownBlock ∧ some k_ ≠ (.slice Ao17 t163.length co17 : Value).ownBlock) (.slice Ao15 t157.length co15) t157) := ⟨by (with_reducible repeat (first | apply Kd.R_alloc | apply Kd.R_drewN | apply Kd.R_drew)); exact Kd.R_mono (Kd.R_far (p := ⟨gb173, 9, none⟩) (Kd.R_far (p := ⟨gb173, 8, none⟩) (Kd.R_far (p := ⟨gb173, 7, none⟩) (Kd.R_far (p := ⟨gb173, 6, none⟩) (Kd.R_far (p := ⟨gb173, 5, none⟩) (Kd.R_far (p := ⟨gb173, 4, none⟩) (Kd.R_far (p := ⟨gb173, 3, none⟩) (Kd.R_far (p := ⟨gb173, 2, none⟩) (Kd.R_far (p := ⟨gb173, 1, none⟩) (Kd.R_far (p := ⟨gb173, 0, none⟩) (Kd.R_types HO159.out BK173.out (by decide)) (fun _ hk => hk.2) (.int .i64 t152)) (fun _ hk => hk.2) (.int .i64 t153)) (fun _ hk => hk.2) (.int .i64 t154)) (fun _ hk => hk.2) (.int .i64 t155)) (fun _ hk => hk.2) (.int .i64 t156)) (fun _ hk => hk.2) (.slice Ao15 t157.length co15)) (fun _ hk => hk.2) (.slice Ao16 t160.length co16)) (fun _ hk => hk.2) (.slice Ao17 t163.length co17)) (fun _ hk => hk.2) (.slice Ao18 t166.length co18)) (fun _ hk => hk.2) (.slice Ao19 t169.length co19)) (fun _ hk => ⟨hk.1.1, hk.1.2⟩)⟩
    have n1_ : Aside0 (Kd.R (Kd.int .i64) 3 ((((((((((w11.setCell ⟨gb173, 0, none⟩ (.int .i64 t152)).setCell ⟨gb173, 1, none⟩ (.int .i64 t153)).setCell ⟨gb173, 2, none⟩ (.int .i64 t154)).setCell ⟨gb173, 3, none⟩ (.int .i64 t155)).setCell ⟨gb173, 4, none⟩ (.int .i64 t156)).setCell ⟨gb173, 5, none⟩ (.slice Ao15 t157.length co15)).setCell ⟨gb173, 6, none⟩ (.slice Ao16 t160.length co16)).setCell ⟨gb173, 7, none⟩ (.slice Ao17 t163.length co17)).setCell ⟨gb173, 8, none⟩ (.slice Ao18 t166.length co18)).setCell ⟨gb173, 9, none⟩ (.slice Ao19 t169.length co19)) w.heap.size (fun k_ => some k_ ≠ (.slice Ao15 t157.length co15 : Value).ownBlock ∧ some k_ ≠ (.slice Ao17 t163.length co17 : Value).ownBlock) (.slice Ao16 t160.length co16) t160) := ⟨by (with_reducible repeat (first | apply Kd.R_alloc | apply Kd.R_drewN | apply Kd.R_drew)); exact Kd.R_mono (Kd.R_far (p := ⟨gb173, 9, none⟩) (Kd.R_far (p := ⟨gb173, 8, none⟩) (Kd.R_far (p := ⟨gb173, 7, none⟩) (Kd.R_far (p := ⟨gb173, 6, none⟩) (Kd.R_far (p := ⟨gb173, 5, none⟩) (Kd.R_far (p := ⟨gb173, 4, none⟩) (Kd.R_far (p := ⟨gb173, 3, none⟩) (Kd.R_far (p := ⟨gb173, 2, none⟩) (Kd.R_far (p := ⟨gb173, 1, none⟩) (Kd.R_far (p := ⟨gb173, 0, none⟩) (Kd.R_types HO162.out BK173.out (by decide)) (fun _ hk => hk.2) (.int .i64 t152)) (fun _ hk => hk.2) (.int .i64 t153)) (fun _ hk => hk.2) (.int .i64 t154)) (fun _ hk => hk.2) (.int .i64 t155)) (fun _ hk => hk.2) (.int .i64 t156)) (fun _ hk => hk.2) (.slice Ao15 t157.length co15)) (fun _ hk => hk.2) (.slice Ao16 t160.length co16)) (fun _ hk => hk.2) (.slice Ao17 t163.length co17)) (fun _ hk => hk.2) (.slice Ao18 t166.length co18)) (fun _ hk => hk.2) (.slice Ao19 t169.length co19)) (fun _ hk => ⟨hk.1.1, hk.1.2⟩)⟩
    have n2_ : Aside0 (Kd.R (Kd.int .i64) 3 ((((((((((w11.setCell ⟨gb173, 0, none⟩ (.int .i64 t152)).setCell ⟨gb173, 1, none⟩ (.int .i64 t153)).setCell ⟨gb173, 2, none⟩ (.int .i64 t154)).setCell ⟨gb173, 3, none⟩ (.int .i64 t155)).setCell ⟨gb173, 4, none⟩ (.int .i64 t156)).setCell ⟨gb173, 5, none⟩ (.slice Ao15 t157.length co15)).setCell ⟨gb173, 6, none⟩ (.slice Ao16 t160.length co16)).setCell ⟨gb173, 7, none⟩ (.slice Ao17 t163.length co17)).setCell ⟨gb173, 8, none⟩ (.slice Ao18 t166.length co18)).setCell ⟨gb173, 9, none⟩ (.slice Ao19 t169.length co19)) w.heap.size (fun k_ => some k_ ≠ (.slice Ao15 t157.length co15 : Value).ownBlock ∧ some k_ ≠ (.slice Ao16 t160.length co16 : Value).ownBlock) (.slice Ao17 t163.length co17) t163) := ⟨by (with_reducible repeat (first | apply Kd.R_alloc | apply Kd.R_drewN | apply Kd.R_drew)); exact Kd.R_mono (Kd.R_far (p := ⟨gb173, 9, none⟩) (Kd.R_far (p := ⟨gb173, 8, none⟩) (Kd.R_far (p := ⟨gb173, 7, none⟩) (Kd.R_far (p := ⟨gb173, 6, none⟩) (Kd.R_far (p := ⟨gb173, 5, none⟩) (Kd.R_far (p := ⟨gb173, 4, none⟩) (Kd.R_far (p := ⟨gb173, 3, none⟩) (Kd.R_far (p := ⟨gb173, 2, none⟩) (Kd.R_far (p := ⟨gb173, 1, none⟩) (Kd.R_far (p := ⟨gb173, 0, none⟩) (Kd.R_types HO165.out BK173.out (by decide)) (fun _ hk => hk.2) (.int .i64 t152)) (fun _ hk => hk.2) (.int .i64 t153)) (fun _ hk => hk.2) (.int .i64 t154)) (fun _ hk => hk.2) (.int .i64 t155)) (fun _ hk => hk.2) (.int .i64 t156)) (fun _ hk => hk.2) (.slice Ao15 t157.length co15)) (fun _ hk => hk.2) (.slice Ao16 t160.length co16)) (fun _ hk => hk.2) (.slice Ao17 t163.length co17)) (fun _ hk => hk.2) (.slice Ao18 t166.length co18)) (fun _ hk => hk.2) (.slice Ao19 t169.length co19)) (fun _ hk => ⟨hk.1.1, hk.1.2⟩)⟩
    have n3_ : Aside0 (Kd.R k161 161 ((((((((((w11.setCell ⟨gb173, 0, none⟩ (.int .i64 t152)).setCell ⟨gb173, 1, none⟩ (.int .i64 t153)).setCell ⟨gb173, 2, none⟩ (.int .i64 t154)).setCell ⟨gb173, 3, none⟩ (.int .i64 t155)).setCell ⟨gb173, 4, none⟩ (.int .i64 t156)).setCell ⟨gb173, 5, none⟩ (.slice Ao15 t157.length co15)).setCell ⟨gb173, 6, none⟩ (.slice Ao16 t160.length co16)).setCell ⟨gb173, 7, none⟩ (.slice Ao17 t163.length co17)).setCell ⟨gb173, 8, none⟩ (.slice Ao18 t166.length co18)).setCell ⟨gb173, 9, none⟩ (.slice Ao19 t169.length co19)) w.heap.size (fun _ => True) (.slice Ao18 t166.length co18) t166) := ⟨by (with_reducible repeat (first | apply Kd.R_alloc | apply Kd.R_drewN | apply Kd.R_drew)); exact Kd.R_mono (Kd.R_far (p := ⟨gb173, 9, none⟩) (Kd.R_far (p := ⟨gb173, 8, none⟩) (Kd.R_far (p := ⟨gb173, 7, none⟩) (Kd.R_far (p := ⟨gb173, 6, none⟩) (Kd.R_far (p := ⟨gb173, 5, none⟩) (Kd.R_far (p := ⟨gb173, 4, none⟩) (Kd.R_far (p := ⟨gb173, 3, none⟩) (Kd.R_far (p := ⟨gb173, 2, none⟩) (Kd.R_far (p := ⟨gb173, 1, none⟩) (Kd.R_far (p := ⟨gb173, 0, none⟩) (Kd.R_types HO168.out BK173.out (by decide)) (fun _ hk => hk.2) (.int .i64 t152)) (fun _ hk => hk.2) (.int .i64 t153)) (fun _ hk => hk.2) (.int .i64 t154)) (fun _ hk => hk.2) (.int .i64 t155)) (fun _ hk => hk.2) (.int .i64 t156)) (fun _ hk => hk.2) (.slice Ao15 t157.length co15)) (fun _ hk => hk.2) (.slice Ao16 t160.length co16)) (fun _ hk => hk.2) (.slice Ao17 t163.length co17)) (fun _ hk => hk.2) (.slice Ao18 t166.length co18)) (fun _ hk => hk.2) (.slice Ao19 t169.length co19)) (fun _ hk => trivial)⟩
    have n4_ : Aside0 (Kd.R k163 163 ((((((((((w11.setCell ⟨gb173, 0, none⟩ (.int .i64 t152)).setCell ⟨gb173, 1, none⟩ (.int .i64 t153)).setCell ⟨gb173, 2, none⟩ (.int .i64 t154)).setCell ⟨gb173, 3, none⟩ (.int .i64 t155)).setCell ⟨gb173, 4, none⟩ (.int .i64 t156)).setCell ⟨gb173, 5, none⟩ (.slice Ao15 t157.length co15)).setCell ⟨gb173, 6, none⟩ (.slice Ao16 t160.length co16)).setCell ⟨gb173, 7, none⟩ (.slice Ao17 t163.length co17)).setCell ⟨gb173, 8, none⟩ (.slice Ao18 t166.length co18)).setCell ⟨gb173, 9, none⟩ (.slice Ao19 t169.length co19)) w.heap.size (fun _ => True) (.slice Ao19 t169.length co19) t169) := ⟨by (with_reducible repeat (first | apply Kd.R_alloc | apply Kd.R_drewN | apply Kd.R_drew)); exact Kd.R_mono (Kd.R_far (p := ⟨gb173, 9, none⟩) (Kd.R_far (p := ⟨gb173, 8, none⟩) (Kd.R_far (p := ⟨gb173, 7, none⟩) (Kd.R_far (p := ⟨gb173, 6, none⟩) (Kd.R_far (p := ⟨gb173, 5, none⟩) (Kd.R_far (p := ⟨gb173, 4, none⟩) (Kd.R_far (p := ⟨gb173, 3, none⟩) (Kd.R_far (p := ⟨gb173, 2, none⟩) (Kd.R_far (p := ⟨gb173, 1, none⟩) (Kd.R_far (p := ⟨gb173, 0, none⟩) (Kd.R_types HO171.out BK173.out (by decide)) (fun _ hk => hk.2) (.int .i64 t152)) (fun _ hk => hk.2) (.int .i64 t153)) (fun _ hk => hk.2) (.int .i64 t154)) (fun _ hk => hk.2) (.int .i64 t155)) (fun _ hk => hk.2) (.int .i64 t156)) (fun _ hk => hk.2) (.slice Ao15 t157.length co15)) (fun _ hk => hk.2) (.slice Ao16 t160.length co16)) (fun _ hk => hk.2) (.slice Ao17 t163.length co17)) (fun _ hk => hk.2) (.slice Ao18 t166.length co18)) (fun _ hk => hk.2) (.slice Ao19 t169.length co19)) (fun _ hk => trivial)⟩
    have n5_ : Aside0 (((((((((((w11.setCell ⟨gb173, 0, none⟩ (.int .i64 t152)).setCell ⟨gb173, 1, none⟩ (.int .i64 t153)).setCell ⟨gb173, 2, none⟩ (.int .i64 t154)).setCell ⟨gb173, 3, none⟩ (.int .i64 t155)).setCell ⟨gb173, 4, none⟩ (.int .i64 t156)).setCell ⟨gb173, 5, none⟩ (.slice Ao15 t157.length co15)).setCell ⟨gb173, 6, none⟩ (.slice Ao16 t160.length co16)).setCell ⟨gb173, 7, none⟩ (.slice Ao17 t163.length co17)).setCell ⟨gb173, 8, none⟩ (.slice Ao18 t166.length co18)).setCell ⟨gb173, 9, none⟩ (.slice Ao19 t169.length co19)).heap[gb150]? = some (.cells #[.int .i64 a0_0, .int .i64 a0_1, .int .i64 a0_2, .int .i64 a0_3, .int .i64 a0_4] 23 (0, 0))) := ⟨by (with_reducible repeat (first | refine blk_drewN ?_ _ | refine blk_drew ?_ | refine blk_alloc ?_ _)); refine blk_far ?_ NB150_173.out _; (with_reducible repeat (first | refine blk_drewN ?_ _ | refine blk_drew ?_ | refine blk_alloc ?_ _)); refine blk_far ?_ NB150_173.out _; (with_reducible repeat (first | refine blk_drewN ?_ _ | refine blk_drew ?_ | refine blk_alloc ?_ _)); refine blk_far ?_ NB150_173.out _; (with_reducible repeat (first | refine blk_drewN ?_ _ | refine blk_drew ?_ | refine blk_alloc ?_ _)); refine blk_far ?_ NB150_173.out _; (with_reducible repeat (first | refine blk_drewN ?_ _ | refine blk_drew ?_ | refine blk_alloc ?_ _)); refine blk_far ?_ NB150_173.out _; (with_reducible repeat (first | refine blk_drewN ?_ _ | refine blk_drew ?_ | refine blk_alloc ?_ _)); refine blk_far ?_ NB150_173.out _; (with_reducible repeat (first | refine blk_drewN ?_ _ | refine blk_drew ?_ | refine blk_alloc ?_ _)); refine blk_far ?_ NB150_173.out _; (with_reducible repeat (first | refine blk_drewN ?_ _ | refine blk_drew ?_ | refine blk_alloc ?_ _)); refine blk_far ?_ NB150_173.out _; (with_reducible repeat (first | refine blk_drewN ?_ _ | refine blk_drew ?_ | refine blk_alloc ?_ _)); refine blk_far ?_ NB150_173.out _; (with_reducible repeat (first | refine blk_drewN ?_ _ | refine blk_drew ?_ | refine blk_alloc ?_ _)); refine blk_far ?_ NB150_173.out _; (with_reducible repeat (first | refine blk_drewN ?_ _ | refine blk_drew ?_ | refine blk_alloc ?_ _)); exact BK150.out⟩
    have n6_ : Aside0 (((((((((((w11.setCell ⟨gb173, 0, none⟩ (.int .i64 t152)).setCell ⟨gb173, 1, none⟩ (.int .i64 t153)).setCell ⟨gb173, 2, none⟩ (.int .i64 t154)).setCell ⟨gb173, 3, none⟩ (.int .i64 t155)).setCell ⟨gb173, 4, none⟩ (.int .i64 t156)).setCell ⟨gb173, 5, none⟩ (.slice Ao15 t157.length co15)).setCell ⟨gb173, 6, none⟩ (.slice Ao16 t160.length co16)).setCell ⟨gb173, 7, none⟩ (.slice Ao17 t163.length co17)).setCell ⟨gb173, 8, none⟩ (.slice Ao18 t166.length co18)).setCell ⟨gb173, 9, none⟩ (.slice Ao19 t169.length co19)).heap[gb151]? = some (.cells #[.int .i64 0, .int .i64 0, .int .i64 0, .int .i64 0, .int .i64 0, .slice none 0 0, .int .i64 0, .int .i64 0, .int .i64 0, .int .i64 0, .int .i64 0, .int .i64 0, .slice none 0 0, .slice none 0 0, .slice none 0 0, .slice none 0 0, .slice none 0 0] 60 (0, 0))) := ⟨by (with_reducible repeat (first | refine blk_drewN ?_ _ | refine blk_drew ?_ | refine blk_alloc ?_ _)); refine blk_far ?_ NB151_173.out _; (with_reducible repeat (first | refine blk_drewN ?_ _ | refine blk_drew ?_ | refine blk_alloc ?_ _)); refine blk_far ?_ NB151_173.out _; (with_reducible repeat (first | refine blk_drewN ?_ _ | refine blk_drew ?_ | refine blk_alloc ?_ _)); refine blk_far ?_ NB151_173.out _; (with_reducible repeat (first | refine blk_drewN ?_ _ | refine blk_drew ?_ | refine blk_alloc ?_ _)); refine blk_far ?_ NB151_173.out _; (with_reducible repeat (first | refine blk_drewN ?_ _ | refine blk_drew ?_ | refine blk_alloc ?_ _)); refine blk_far ?_ NB151_173.out _; (with_reducible repeat (first | refine blk_drewN ?_ _ | refine blk_drew ?_ | refine blk_alloc ?_ _)); refine blk_far ?_ NB151_173.out _; (with_reducible repeat (first | refine blk_drewN ?_ _ | refine blk_drew ?_ | refine blk_alloc ?_ _)); refine blk_far ?_ NB151_173.out _; (with_reducible repeat (first | refine blk_drewN ?_ _ | refine blk_drew ?_ | refine blk_alloc ?_ _)); refine blk_far ?_ NB151_173.out _; (with_reducible repeat (first | refine blk_drewN ?_ _ | refine blk_drew ?_ | refine blk_alloc ?_ _)); refine blk_far ?_ NB151_173.out _; (with_reducible repeat (first | refine blk_drewN ?_ _ | refine blk_drew ?_ | refine blk_alloc ?_ _)); refine blk_far ?_ NB151_173.out _; (with_reducible repeat (first | refine blk_drewN ?_ _ | refine blk_drew ?_ | refine blk_alloc ?_ _)); exact BK151.out⟩
    have n7_ : Aside0 (((((((((((w11.setCell ⟨gb173, 0, none⟩ (.int .i64 t152)).setCell ⟨gb173, 1, none⟩ (.int .i64 t153)).setCell ⟨gb173, 2, none⟩ (.int .i64 t154)).setCell ⟨gb173, 3, none⟩ (.int .i64 t155)).setCell ⟨gb173, 4, none⟩ (.int .i64 t156)).setCell ⟨gb173, 5, none⟩ (.slice Ao15 t157.length co15)).setCell ⟨gb173, 6, none⟩ (.slice Ao16 t160.length co16)).setCell ⟨gb173, 7, none⟩ (.slice Ao17 t163.length co17)).setCell ⟨gb173, 8, none⟩ (.slice Ao18 t166.length co18)).setCell ⟨gb173, 9, none⟩ (.slice Ao19 t169.length co19)).heap[gb173]? = some (.cells #[.int .i64 t152, .int .i64 t153, .int .i64 t154, .int .i64 t155, .int .i64 t156, .slice Ao15 t157.length co15, .slice Ao16 t160.length co16, .slice Ao17 t163.length co17, .slice Ao18 t166.length co18, .slice Ao19 t169.length co19] 58 (0, 0))) := ⟨by (with_reducible repeat (first | refine blk_drewN ?_ _ | refine blk_drew ?_ | refine blk_alloc ?_ _)); refine blk_put (cs := #[.int .i64 t152, .int .i64 t153, .int .i64 t154, .int .i64 t155, .int .i64 t156, .slice Ao15 t157.length co15, .slice Ao16 t160.length co16, .slice Ao17 t163.length co17, .slice Ao18 t166.length co18, .slice none 0 0]) ?_ 9 _ rfl; (with_reducible repeat (first | refine blk_drewN ?_ _ | refine blk_drew ?_ | refine blk_alloc ?_ _)); refine blk_put (cs := #[.int .i64 t152, .int .i64 t153, .int .i64 t154, .int .i64 t155, .int .i64 t156, .slice Ao15 t157.length co15, .slice Ao16 t160.length co16, .slice Ao17 t163.length co17, .slice none 0 0, .slice none 0 0]) ?_ 8 _ rfl; (with_reducible repeat (first | refine blk_drewN ?_ _ | refine blk_drew ?_ | refine blk_alloc ?_ _)); refine blk_put (cs := #[.int .i64 t152, .int .i64 t153, .int .i64 t154, .int .i64 t155, .int .i64 t156, .slice Ao15 t157.length co15, .slice Ao16 t160.length co16, .slice none 0 0, .slice none 0 0, .slice none 0 0]) ?_ 7 _ rfl; (with_reducible repeat (first | refine blk_drewN ?_ _ | refine blk_drew ?_ | refine blk_alloc ?_ _)); refine blk_put (cs := #[.int .i64 t152, .int .i64 t153, .int .i64 t154, .int .i64 t155, .int .i64 t156, .slice Ao15 t157.length co15, .slice none 0 0, .slice none 0 0, .slice none 0 0, .slice none 0 0]) ?_ 6 _ rfl; (with_reducible repeat (first | refine blk_drewN ?_ _ | refine blk_drew ?_ | refine blk_alloc ?_ _)); refine blk_put (cs := #[.int .i64 t152, .int .i64 t153, .int .i64 t154, .int .i64 t155, .int .i64 t156, .slice none 0 0, .slice none 0 0, .slice none 0 0, .slice none 0 0, .slice none 0 0]) ?_ 5 _ rfl; (with_reducible repeat (first | refine blk_drewN ?_ _ | refine blk_drew ?_ | refine blk_alloc ?_ _)); refine blk_put (cs := #[.int .i64 t152, .int .i64 t153, .int .i64 t154, .int .i64 t155, .int .i64 0, .slice none 0 0, .slice none 0 0, .slice none 0 0, .slice none 0 0, .slice none 0 0]) ?_ 4 _ rfl; (with_reducible repeat (first | refine blk_drewN ?_ _ | refine blk_drew ?_ | refine blk_alloc ?_ _)); refine blk_put (cs := #[.int .i64 t152, .int .i64 t153, .int .i64 t154, .int .i64 0, .int .i64 0, .slice none 0 0, .slice none 0 0, .slice none 0 0, .slice none 0 0, .slice none 0 0]) ?_ 3 _ rfl; (with_reducible repeat (first | refine blk_drewN ?_ _ | refine blk_drew ?_ | refine blk_alloc ?_ _)); refine blk_put (cs := #[.int .i64 t152, .int .i64 t153, .int .i64 0, .int .i64 0, .int .i64 0, .slice none 0 0, .slice none 0 0, .slice none 0 0, .slice none 0 0, .slice none 0 0]) ?_ 2 _ rfl; (with_reducible repeat (first | refine blk_drewN ?_ _ | refine blk_drew ?_ | refine blk_alloc ?_ _)); refine blk_put (cs := #[.int .i64 t152, .int .i64 0, .int .i64 0, .int .i64 0, .int .i64 0, .slice none 0 0, .slice none 0 0, .slice none 0 0, .slice none 0 0, .slice none 0 0]) ?_ 1 _ rfl; (with_reducible repeat (first | refine blk_drewN ?_ _ | refine blk_drew ?_ | refine blk_alloc ?_ _)); refine blk_put (cs := #[.int .i64 0, .int .i64 0, .int .i64 0, .int .i64 0, .int .i64 0, .slice none 0 0, .slice none 0 0, .slice none 0 0, .slice none 0 0, .slice none 0 0]) ?_ 0 _ rfl; (with_reducible repeat (first | refine blk_drewN ?_ _ | refine blk_drew ?_ | refine blk_alloc ?_ _)); exact BK173.out⟩
    have n8_ : Aside0 (Below w.heap.size w ((((((((((w11.setCell ⟨gb173, 0, none⟩ (.int .i64 t152)).setCell ⟨gb173, 1, none⟩ (.int .i64 t153)).setCell ⟨gb173, 2, none⟩ (.int .i64 t154)).setCell ⟨gb173, 3, none⟩ (.int .i64 t155)).setCell ⟨gb173, 4, none⟩ (.int .i64 t156)).setCell ⟨gb173, 5, none⟩ (.slice Ao15 t157.length co15)).setCell ⟨gb173, 6, none⟩ (.slice Ao16 t160.length co16)).setCell ⟨gb173, 7, none⟩ (.slice Ao17 t163.length co17)).setCell ⟨gb173, 8, none⟩ (.slice Ao18 t166.length co18)).setCell ⟨gb173, 9, none⟩ (.slice Ao19 t169.length co19))) := ⟨by repeat (first | (with_reducible first | exact HB.out | apply below_alloc | apply pw_below_drewN | apply below_drew1 | refine below_set ?_ GE150.out | refine below_set ?_ GE151.out | refine below_set ?_ GE173.out) | exact HB.out)⟩
    (try clear HO159)
    (try clear HO162)
    (try clear HO165)
    (try clear HO168)
    (try clear HO171)
    (try clear BK150)
    (try clear BK151)
    (try clear BK173)
    (try clear HB)
    generalize ((((((((((w11.setCell ⟨gb173, 0, none⟩ (.int .i64 t152)).setCell ⟨gb173, 1, none⟩ (.int .i64 t153)).setCell ⟨gb173, 2, none⟩ (.int .i64 t154)).setCell ⟨gb173, 3, none⟩ (.int .i64 t155)).setCell ⟨gb173, 4, none⟩ (.int .i64 t156)).setCell ⟨gb173, 5, none⟩ (.slice Ao15 t157.length co15)).setCell ⟨gb173, 6, none⟩ (.slice Ao16 t160.length co16)).setCell ⟨gb173, 7, none⟩ (.slice Ao17 t163.length co17)).setCell ⟨gb173, 8, none⟩ (.slice Ao18 t166.length co18)).setCell ⟨gb173, 9, none⟩ (.slice Ao19 t169.length co19)) = w20 at n0_ n1_ n2_ n3_ n4_ n5_ n6_ n7_ n8_ ⊢
    have HO159 := n0_
    have HO162 := n1_
    have HO165 := n2_
    have HO168 := n3_
    have HO171 := n4_
    have BK150 := n5_
    have BK151 := n6_
    have BK173 := n7_
    have HB := n8_
    clear n0_ n1_ n2_ n3_ n4_ n5_ n6_ n7_ n8_
    have n0_ := Aside0.mk (Kd.R_drew HO159.out)
    have n1_ := Aside0.mk (Kd.R_drew HO162.out)
    have n2_ := Aside0.mk (Kd.R_drew HO165.out)
    have n3_ := Aside0.mk (Kd.R_drew HO168.out)
    have n4_ := Aside0.mk (Kd.R_drew HO171.out)
    have n5_ := Aside0.mk (blk_drew BK150.out)
    have n6_ := Aside0.mk (blk_drew BK151.out)
    have n7_ := Aside0.mk (blk_drew BK173.out)
    have n8_ := Aside0.mk (below_drew1 HB.out)
    clear HO159
    clear HO162
    clear HO165
    clear HO168
    clear HO171
    clear BK150
    clear BK151
    clear BK173
    clear HB
    have HO159 := n0_
    have HO162 := n1_
    have HO165 := n2_
    have HO168 := n3_
    have HO171 := n4_
    have BK150 := n5_
    have BK151 := n6_
    have BK173 := n7_
    have HB := n8_
    clear n0_ n1_ n2_ n3_ n4_ n5_ n6_ n7_ n8_
    refine start_ (n := 8) (S := fun w' => w'.cell? ⟨gb150, 0, none⟩ = some (.int .i64 a0_0) ∧ w'.cell? ⟨gb150, 1, none⟩ = some (.int .i64 a0_1) ∧ w'.cell? ⟨gb150, 2, none⟩ = some (.int .i64 a0_2) ∧ w'.cell? ⟨gb150, 3, none⟩ = some (.int .i64 a0_3) ∧ w'.cell? ⟨gb150, 4, none⟩ = some (.int .i64 a0_4) ∧ w'.cell? ⟨gb173, 0, none⟩ = some (.int .i64 t152) ∧ w'.cell? ⟨gb173, 1, none⟩ = some (.int .i64 t153) ∧ w'.cell? ⟨gb173, 2, none⟩ = some (.int .i64 t154) ∧ w'.cell? ⟨gb173, 3, none⟩ = some (.int .i64 t155) ∧ w'.cell? ⟨gb173, 4, none⟩ = some (.int .i64 t156) ∧ w'.cell? ⟨gb173, 5, none⟩ = some (.slice Ao15 t157.length co15) ∧ w'.cell? ⟨gb173, 6, none⟩ = some (.slice Ao16 t160.length co16) ∧ w'.cell? ⟨gb173, 7, none⟩ = some (.slice Ao17 t163.length co17) ∧ w'.cell? ⟨gb173, 8, none⟩ = some (.slice Ao18 t166.length co18) ∧ w'.cell? ⟨gb173, 9, none⟩ = some (.slice Ao19 t169.length co19)) (ds := []) #[false, false, false, false, false, false, false, false] (by kernel_rfl) rfl rfl ⟨(blk_cell BK150.out 0).trans rfl, (blk_cell BK150.out 1).trans rfl, (blk_cell BK150.out 2).trans rfl, (blk_cell BK150.out 3).trans rfl, (blk_cell BK150.out 4).trans rfl, (blk_cell BK173.out 0).trans rfl, (blk_cell BK173.out 1).trans rfl, (blk_cell BK173.out 2).trans rfl, (blk_cell BK173.out 3).trans rfl, (blk_cell BK173.out 4).trans rfl, (blk_cell BK173.out 5).trans rfl, (blk_cell BK173.out 6).trans rfl, (blk_cell BK173.out 7).trans rfl, (blk_cell BK173.out 8).trans rfl, (blk_cell BK173.out 9).trans rfl⟩ (fun hHeld => ?_); refine with_tabW corrieref08_New.tab4 corrieref08_New.bits4 (fun HT_ HW_ => ?_)
    generalize w20.drew = w21 at HO159 HO162 HO165 HO168 HO171 BK150 BK151 BK173 HB hHeld ⊢
    refine take_ (i := 0) (N := some 15) (v := ?_) (a' := ?_) #[true, false, false, false, false, false, false, false] rfl rfl (take_ofW HT_.out HW_.out (by kernel_rfl)) (fun _ _ _ h => h) (Or.inl ⟨by rfl, ?_⟩) hHeld ?_ ?_
    rotate_left
    · rintro w' ⟨s0, s1, s2, s3, s4, s5, s6, s7, s8, s9, s10, s11, s12, s13, s14⟩
      go_simp
      with_reducible rfl
    rotate_left
    · simp only [Act.put, List.setIfInBounds_toArray, List.set_cons_zero, List.set_cons_succ, i64_w, i32_w]
      rfl
    refine take_ (i := 1) (N := some 16) (v := ?_) (a' := ?_) #[true, true, false, false, false, false, false, false] rfl rfl (take_ofW HT_.out HW_.out (by kernel_rfl)) (fun _ _ _ h => h) (Or.inl ⟨by rfl, ?_⟩) hHeld ?_ ?_
    rotate_left
    · rintro w' ⟨s0, s1, s2, s3, s4, s5, s6, s7, s8, s9, s10, s11, s12, s13, s14⟩
      go_simp
      with_reducible rfl
    rotate_left
    · simp only [Act.put, List.setIfInBounds_toArray, List.set_cons_zero, List.set_cons_succ, i64_w, i32_w]
      rfl
    refine take_ (i := 4) (N := some 19) (v := ?_) (a' := ?_) #[true, true, false, false, true, false, false, false] rfl rfl (take_ofW HT_.out HW_.out (by kernel_rfl)) (fun _ _ _ h => h) (Or.inl ⟨by rfl, ?_⟩) hHeld ?_ ?_
    rotate_left
    · rintro w' ⟨s0, s1, s2, s3, s4, s5, s6, s7, s8, s9, s10, s11, s12, s13, s14⟩
      go_simp
      with_reducible rfl
    rotate_left
    · simp only [Act.put, List.setIfInBounds_toArray, List.set_cons_zero, List.set_cons_succ, i64_w, i32_w]
      rfl
    refine one_ (i := 2) (N := some 17) #[true, true, true, false, true, false, false, false] rfl rfl (one_of HT_.out (by kernel_rfl)) (by decide) (fun K hK => ?_)
    refine goes_ Try.func28 (by kernel_rfl) rfl #[.agg #[.int .i64 a0_0, .int .i64 a0_1, .int .i64 a0_2, .int .i64 a0_3, .int .i64 a0_4]] (by rfl) rfl rfl (by (try simp only [List.map_toArray, List.map_cons, List.map_nil]); first | done | rfl | (simp only [List.length_drop, List.length_take]; rfl)) ?_
    with_reducible refine (corrieref05_Len.calls k a0_0 a0_1 a0_2 a0_3 a0_4 t174 _ A4.out).mono ?_
    rintro e w22 ⟨rfl, hb⟩
    refine ⟨_, rfl, ?_⟩
    have n0_ := Aside0.mk (Kd.R_below (by (with_reducible repeat (first | apply Kd.R_alloc | apply Kd.R_drewN | apply Kd.R_drew)); exact HO159.out) hb)
    have n1_ := Aside0.mk (Kd.R_below (by (with_reducible repeat (first | apply Kd.R_alloc | apply Kd.R_drewN | apply Kd.R_drew)); exact HO162.out) hb)
    have n2_ := Aside0.mk (Kd.R_below (by (with_reducible repeat (first | apply Kd.R_alloc | apply Kd.R_drewN | apply Kd.R_drew)); exact HO165.out) hb)
    have n3_ := Aside0.mk (Kd.R_below (by (with_reducible repeat (first | apply Kd.R_alloc | apply Kd.R_drewN | apply Kd.R_drew)); exact HO168.out) hb)
    have n4_ := Aside0.mk (Kd.R_below (by (with_reducible repeat (first | apply Kd.R_alloc | apply Kd.R_drewN | apply Kd.R_drew)); exact HO171.out) hb)
    have n5_ := Aside0.mk (blk_below (g := gb150) (o := .cells #[.int .i64 a0_0, .int .i64 a0_1, .int .i64 a0_2, .int .i64 a0_3, .int .i64 a0_4] 23 (0, 0)) (by (with_reducible repeat (first | refine blk_drewN ?_ _ | refine blk_drew ?_ | refine blk_alloc ?_ _)); exact BK150.out) hb)
    have n6_ := Aside0.mk (blk_below (g := gb151) (o := .cells #[.int .i64 0, .int .i64 0, .int .i64 0, .int .i64 0, .int .i64 0, .slice none 0 0, .int .i64 0, .int .i64 0, .int .i64 0, .int .i64 0, .int .i64 0, .int .i64 0, .slice none 0 0, .slice none 0 0, .slice none 0 0, .slice none 0 0, .slice none 0 0] 60 (0, 0)) (by (with_reducible repeat (first | refine blk_drewN ?_ _ | refine blk_drew ?_ | refine blk_alloc ?_ _)); exact BK151.out) hb)
    have n7_ := Aside0.mk (blk_below (g := gb173) (o := .cells #[.int .i64 t152, .int .i64 t153, .int .i64 t154, .int .i64 t155, .int .i64 t156, .slice Ao15 t157.length co15, .slice Ao16 t160.length co16, .slice Ao17 t163.length co17, .slice Ao18 t166.length co18, .slice Ao19 t169.length co19] 58 (0, 0)) (by (with_reducible repeat (first | refine blk_drewN ?_ _ | refine blk_drew ?_ | refine blk_alloc ?_ _)); exact BK173.out) hb)
    have n8_ := Aside0.mk (below_step (by repeat (first | (with_reducible first | exact HB.out | apply below_alloc | apply pw_below_drewN | apply below_drew1 | refine below_set ?_ GE150.out | refine below_set ?_ GE151.out | refine below_set ?_ GE173.out) | exact HB.out)) hb)
    clear HO159
    clear HO162
    clear HO165
    clear HO168
    clear HO171
    clear BK150
    clear BK151
    clear BK173
    clear HB
    have HO159 := n0_
    have HO162 := n1_
    have HO165 := n2_
    have HO168 := n3_
    have HO171 := n4_
    have BK150 := n5_
    have BK151 := n6_
    have BK173 := n7_
    have HB := n8_
    clear n0_ n1_ n2_ n3_ n4_ n5_ n6_ n7_ n8_
    (try clear hb)
    (try clear hb2)
    (try clear hk)
    (try clear hi)
    refine hK.out _ _ ⟨(blk_cell BK150.out 0).trans rfl, (blk_cell BK150.out 1).trans rfl, (blk_cell BK150.out 2).trans rfl, (blk_cell BK150.out 3).trans rfl, (blk_cell BK150.out 4).trans rfl, (blk_cell BK173.out 0).trans rfl, (blk_cell BK173.out 1).trans rfl, (blk_cell BK173.out 2).trans rfl, (blk_cell BK173.out 3).trans rfl, (blk_cell BK173.out 4).trans rfl, (blk_cell BK173.out 5).trans rfl, (blk_cell BK173.out 6).trans rfl, (blk_cell BK173.out 7).trans rfl, (blk_cell BK173.out 8).trans rfl, (blk_cell BK173.out 9).trans rfl⟩ (fun hHeld => ?_)
    clear hK K
    refine norm_ (a' := ?_) ?_ ?_
    rotate_left
    · show Act.put _ (some 17) _ = _
      simp only [Act.put, List.setIfInBounds_toArray, List.set_cons_zero, List.set_cons_succ, i64_w, i32_w]
      rfl
    refine one_ (i := 3) (N := some 18) #[true, true, true, true, true, false, false, false] rfl rfl (one_of HT_.out (by kernel_rfl)) (by decide) (fun K hK => ?_)
    refine goes_ Try.func50 (by kernel_rfl) rfl #[.int .i64 t174] (by rfl) rfl rfl (by (try simp only [List.map_toArray, List.map_cons, List.map_nil]); first | done | rfl | (simp only [List.length_drop, List.length_take]; rfl)) ?_
    with_reducible refine (corrieref06_New.calls t174 t175 t178 _ A5.out).mono ?_
    rintro e w23 ⟨v176, rfl, ho0, hb⟩
    refine ⟨_, rfl, ?_⟩
    have n0_ := Aside0.mk (Kd.R_below (by (with_reducible repeat (first | apply Kd.R_alloc | apply Kd.R_drewN | apply Kd.R_drew)); exact HO159.out) hb)
    have n1_ := Aside0.mk (Kd.R_below (by (with_reducible repeat (first | apply Kd.R_alloc | apply Kd.R_drewN | apply Kd.R_drew)); exact HO162.out) hb)
    have n2_ := Aside0.mk (Kd.R_below (by (with_reducible repeat (first | apply Kd.R_alloc | apply Kd.R_drewN | apply Kd.R_drew)); exact HO165.out) hb)
    have n3_ := Aside0.mk (Kd.R_below (by (with_reducible repeat (first | apply Kd.R_alloc | apply Kd.R_drewN | apply Kd.R_drew)); exact HO168.out) hb)
    have n4_ := Aside0.mk (Kd.R_below (by (with_reducible repeat (first | apply Kd.R_alloc | apply Kd.R_drewN | apply Kd.R_drew)); exact HO171.out) hb)
    have n5_ := Aside0.mk (Kd.R_lower ho0 (below_size (by repeat (first | (with_reducible first | exact HB.out | apply below_alloc | apply pw_below_drewN | apply below_drew1 | refine below_set ?_ GE150.out | refine below_set ?_ GE151.out | refine below_set ?_ GE173.out) | exact HB.out))))
    have n6_ := Aside0.mk (blk_below (g := gb150) (o := .cells #[.int .i64 a0_0, .int .i64 a0_1, .int .i64 a0_2, .int .i64 a0_3, .int .i64 a0_4] 23 (0, 0)) (by (with_reducible repeat (first | refine blk_drewN ?_ _ | refine blk_drew ?_ | refine blk_alloc ?_ _)); exact BK150.out) hb)
    have n7_ := Aside0.mk (blk_below (g := gb151) (o := .cells #[.int .i64 0, .int .i64 0, .int .i64 0, .int .i64 0, .int .i64 0, .slice none 0 0, .int .i64 0, .int .i64 0, .int .i64 0, .int .i64 0, .int .i64 0, .int .i64 0, .slice none 0 0, .slice none 0 0, .slice none 0 0, .slice none 0 0, .slice none 0 0] 60 (0, 0)) (by (with_reducible repeat (first | refine blk_drewN ?_ _ | refine blk_drew ?_ | refine blk_alloc ?_ _)); exact BK151.out) hb)
    have n8_ := Aside0.mk (blk_below (g := gb173) (o := .cells #[.int .i64 t152, .int .i64 t153, .int .i64 t154, .int .i64 t155, .int .i64 t156, .slice Ao15 t157.length co15, .slice Ao16 t160.length co16, .slice Ao17 t163.length co17, .slice Ao18 t166.length co18, .slice Ao19 t169.length co19] 58 (0, 0)) (by (with_reducible repeat (first | refine blk_drewN ?_ _ | refine blk_drew ?_ | refine blk_alloc ?_ _)); exact BK173.out) hb)
    have n9_ := Aside0.mk (below_step (by repeat (first | (with_reducible first | exact HB.out | apply below_alloc | apply pw_below_drewN | apply below_drew1 | refine below_set ?_ GE150.out | refine below_set ?_ GE151.out | refine below_set ?_ GE173.out) | exact HB.out)) hb)
    clear HO159
    clear HO162
    clear HO165
    clear HO168
    clear HO171
    clear BK150
    clear BK151
    clear BK173
    clear HB
    have HO159 := n0_
    have HO162 := n1_
    have HO165 := n2_
    have HO168 := n3_
    have HO171 := n4_
    have HO177 := n5_
    have BK150 := n6_
    have BK151 := n7_
    have BK173 := n8_
    have HB := n9_
    clear n0_ n1_ n2_ n3_ n4_ n5_ n6_ n7_ n8_ n9_
    (try clear hb)
    (try clear hb2)
    (try clear hk)
    (try clear hi)
    (try clear ho0)
    obtain ⟨Ao24, co24, eo24⟩ := Kd.R_slice HO177.out
    (first | subst eo24 | (injection eo24 with f1_ f2_ f3_; have f4_ := f1_.symm; have f5_ := f3_.symm; clear f1_ f2_ f3_; subst f4_; subst f5_))
    refine hK.out _ _ ⟨(blk_cell BK150.out 0).trans rfl, (blk_cell BK150.out 1).trans rfl, (blk_cell BK150.out 2).trans rfl, (blk_cell BK150.out 3).trans rfl, (blk_cell BK150.out 4).trans rfl, (blk_cell BK173.out 0).trans rfl, (blk_cell BK173.out 1).trans rfl, (blk_cell BK173.out 2).trans rfl, (blk_cell BK173.out 3).trans rfl, (blk_cell BK173.out 4).trans rfl, (blk_cell BK173.out 5).trans rfl, (blk_cell BK173.out 6).trans rfl, (blk_cell BK173.out 7).trans rfl, (blk_cell BK173.out 8).trans rfl, (blk_cell BK173.out 9).trans rfl⟩ (fun hHeld => ?_)
    clear hK K
    refine norm_ (a' := ?_) ?_ ?_
    rotate_left
    · show Act.put _ (some 18) _ = _
      simp only [Act.put, List.setIfInBounds_toArray, List.set_cons_zero, List.set_cons_succ, i64_w, i32_w]
      rfl
    refine pure_ (i := 5) (N := some 20) (v := ?_) (a' := ?_) #[true, true, true, true, true, true, false, false] rfl rfl (any_of HT_.out (by kernel_rfl)) (fun _ _ _ h => h) (Or.inl ⟨by rfl, ?_⟩) ?_ ?_
    rotate_left
    · intro w'
      go_simp
      with_reducible rfl
    rotate_left
    · simp only [Act.put, List.setIfInBounds_toArray, List.set_cons_zero, List.set_cons_succ, i64_w, i32_w]
      rfl
    refine one_ (i := 6) (N := none) #[true, true, true, true, true, true, true, false] rfl rfl (one_of HT_.out (by kernel_rfl)) (by decide) (fun K hK => ?_)
    have hs25 : w23.cell? ⟨gb151, 0, none⟩ = some (.int .i64 0) := (blk_cell BK151.out 0).trans rfl
    have hfs25 := blk_frozen BK151.out 0
    have hns25_0 := NB150_151.out
    have hns25_2 := NB173_151.out
    have hms25_0 := NB151_150.out
    have hms25_2 := NB151_173.out
    have hs26 : w23.cell? ⟨gb151, 1, none⟩ = some (.int .i64 0) := (blk_cell BK151.out 1).trans rfl
    have hfs26 := blk_frozen BK151.out 1
    have hns26_0 := NB150_151.out
    have hns26_2 := NB173_151.out
    have hms26_0 := NB151_150.out
    have hms26_2 := NB151_173.out
    have hs27 : w23.cell? ⟨gb151, 2, none⟩ = some (.int .i64 0) := (blk_cell BK151.out 2).trans rfl
    have hfs27 := blk_frozen BK151.out 2
    have hns27_0 := NB150_151.out
    have hns27_2 := NB173_151.out
    have hms27_0 := NB151_150.out
    have hms27_2 := NB151_173.out
    have hs28 : w23.cell? ⟨gb151, 3, none⟩ = some (.int .i64 0) := (blk_cell BK151.out 3).trans rfl
    have hfs28 := blk_frozen BK151.out 3
    have hns28_0 := NB150_151.out
    have hns28_2 := NB173_151.out
    have hms28_0 := NB151_150.out
    have hms28_2 := NB151_173.out
    have hs29 : w23.cell? ⟨gb151, 4, none⟩ = some (.int .i64 0) := (blk_cell BK151.out 4).trans rfl
    have hfs29 := blk_frozen BK151.out 4
    have hns29_0 := NB150_151.out
    have hns29_2 := NB173_151.out
    have hms29_0 := NB151_150.out
    have hms29_2 := NB151_173.out
    have hs30 : w23.cell? ⟨gb151, 5, none⟩ = some (.slice none 0 0) := (blk_cell BK151.out 5).trans rfl
    have hfs30 := blk_frozen BK151.out 5
    have hns30_0 := NB150_151.out
    have hns30_2 := NB173_151.out
    have hms30_0 := NB151_150.out
    have hms30_2 := NB151_173.out
    have hs31 : w23.cell? ⟨gb151, 6, none⟩ = some (.int .i64 0) := (blk_cell BK151.out 6).trans rfl
    have hfs31 := blk_frozen BK151.out 6
    have hns31_0 := NB150_151.out
    have hns31_2 := NB173_151.out
    have hms31_0 := NB151_150.out
    have hms31_2 := NB151_173.out
    have hs32 : w23.cell? ⟨gb151, 7, none⟩ = some (.int .i64 0) := (blk_cell BK151.out 7).trans rfl
    have hfs32 := blk_frozen BK151.out 7
    have hns32_0 := NB150_151.out
    have hns32_2 := NB173_151.out
    have hms32_0 := NB151_150.out
    have hms32_2 := NB151_173.out
    have hs33 : w23.cell? ⟨gb151, 8, none⟩ = some (.int .i64 0) := (blk_cell BK151.out 8).trans rfl
    have hfs33 := blk_frozen BK151.out 8
    have hns33_0 := NB150_151.out
    have hns33_2 := NB173_151.out
    have hms33_0 := NB151_150.out
    have hms33_2 := NB151_173.out
    have hs34 : w23.cell? ⟨gb151, 9, none⟩ = some (.int .i64 0) := (blk_cell BK151.out 9).trans rfl
    have hfs34 := blk_frozen BK151.out 9
    have hns34_0 := NB150_151.out
    have hns34_2 := NB173_151.out
    have hms34_0 := NB151_150.out
    have hms34_2 := NB151_173.out
    have hs35 : w23.cell? ⟨gb151, 10, none⟩ = some (.int .i64 0) := (blk_cell BK151.out 10).trans rfl
    have hfs35 := blk_frozen BK151.out 10
    have hns35_0 := NB150_151.out
    have hns35_2 := NB173_151.out
    have hms35_0 := NB151_150.out
    have hms35_2 := NB151_173.out
    have hs36 : w23.cell? ⟨gb151, 11, none⟩ = some (.int .i64 0) := (blk_cell BK151.out 11).trans rfl
    have hfs36 := blk_frozen BK151.out 11
    have hns36_0 := NB150_151.out
    have hns36_2 := NB173_151.out
    have hms36_0 := NB151_150.out
    have hms36_2 := NB151_173.out
    have hs37 : w23.cell? ⟨gb151, 12, none⟩ = some (.slice none 0 0) := (blk_cell BK151.out 12).trans rfl
    have hfs37 := blk_frozen BK151.out 12
    have hns37_0 := NB150_151.out
    have hns37_2 := NB173_151.out
    have hms37_0 := NB151_150.out
    have hms37_2 := NB151_173.out
    have hs38 : w23.cell? ⟨gb151, 13, none⟩ = some (.slice none 0 0) := (blk_cell BK151.out 13).trans rfl
    have hfs38 := blk_frozen BK151.out 13
    have hns38_0 := NB150_151.out
    have hns38_2 := NB173_151.out
    have hms38_0 := NB151_150.out
    have hms38_2 := NB151_173.out
    have hs39 : w23.cell? ⟨gb151, 14, none⟩ = some (.slice none 0 0) := (blk_cell BK151.out 14).trans rfl
    have hfs39 := blk_frozen BK151.out 14
    have hns39_0 := NB150_151.out
    have hns39_2 := NB173_151.out
    have hms39_0 := NB151_150.out
    have hms39_2 := NB151_173.out
    have hs40 : w23.cell? ⟨gb151, 15, none⟩ = some (.slice none 0 0) := (blk_cell BK151.out 15).trans rfl
    have hfs40 := blk_frozen BK151.out 15
    have hns40_0 := NB150_151.out
    have hns40_2 := NB173_151.out
    have hms40_0 := NB151_150.out
    have hms40_2 := NB151_173.out
    have hs41 : w23.cell? ⟨gb151, 16, none⟩ = some (.slice none 0 0) := (blk_cell BK151.out 16).trans rfl
    have hfs41 := blk_frozen BK151.out 16
    have hns41_0 := NB150_151.out
    have hns41_2 := NB173_151.out
    have hms41_0 := NB151_150.out
    have hms41_2 := NB151_173.out
    refine skip_ (w1 := ?_) (by rfl) rfl ?_ ?_
    rotate_left
    · go_simp
      rfl
    refine hK.out _ _ ⟨((cell_far (p := ⟨gb151, _, none⟩) NB150_151.out _).trans (((cell_far (p := ⟨gb151, _, none⟩) NB150_151.out _).trans (((cell_far (p := ⟨gb151, _, none⟩) NB150_151.out _).trans (((cell_far (p := ⟨gb151, _, none⟩) NB150_151.out _).trans (((cell_far (p := ⟨gb151, _, none⟩) NB150_151.out _).trans (((cell_far (p := ⟨gb151, _, none⟩) NB150_151.out _).trans (((cell_far (p := ⟨gb151, _, none⟩) NB150_151.out _).trans (((cell_far (p := ⟨gb151, _, none⟩) NB150_151.out _).trans (((cell_far (p := ⟨gb151, _, none⟩) NB150_151.out _).trans (((cell_far (p := ⟨gb151, _, none⟩) NB150_151.out _).trans (((cell_far (p := ⟨gb151, _, none⟩) NB150_151.out _).trans (((cell_far (p := ⟨gb151, _, none⟩) NB150_151.out _).trans (((cell_far (p := ⟨gb151, _, none⟩) NB150_151.out _).trans (((cell_far (p := ⟨gb151, _, none⟩) NB150_151.out _).trans (((cell_far (p := ⟨gb151, _, none⟩) NB150_151.out _).trans (((cell_far (p := ⟨gb151, _, none⟩) NB150_151.out _).trans (((cell_far (p := ⟨gb151, _, none⟩) NB150_151.out _).trans (hHeld.1)))))))))))))))))))))))))))))))))), ((cell_far (p := ⟨gb151, _, none⟩) NB150_151.out _).trans (((cell_far (p := ⟨gb151, _, none⟩) NB150_151.out _).trans (((cell_far (p := ⟨gb151, _, none⟩) NB150_151.out _).trans (((cell_far (p := ⟨gb151, _, none⟩) NB150_151.out _).trans (((cell_far (p := ⟨gb151, _, none⟩) NB150_151.out _).trans (((cell_far (p := ⟨gb151, _, none⟩) NB150_151.out _).trans (((cell_far (p := ⟨gb151, _, none⟩) NB150_151.out _).trans (((cell_far (p := ⟨gb151, _, none⟩) NB150_151.out _).trans (((cell_far (p := ⟨gb151, _, none⟩) NB150_151.out _).trans (((cell_far (p := ⟨gb151, _, none⟩) NB150_151.out _).trans (((cell_far (p := ⟨gb151, _, none⟩) NB150_151.out _).trans (((cell_far (p := ⟨gb151, _, none⟩) NB150_151.out _).trans (((cell_far (p := ⟨gb151, _, none⟩) NB150_151.out _).trans (((cell_far (p := ⟨gb151, _, none⟩) NB150_151.out _).trans (((cell_far (p := ⟨gb151, _, none⟩) NB150_151.out _).trans (((cell_far (p := ⟨gb151, _, none⟩) NB150_151.out _).trans (((cell_far (p := ⟨gb151, _, none⟩) NB150_151.out _).trans (hHeld.2.1)))))))))))))))))))))))))))))))))), ((cell_far (p := ⟨gb151, _, none⟩) NB150_151.out _).trans (((cell_far (p := ⟨gb151, _, none⟩) NB150_151.out _).trans (((cell_far (p := ⟨gb151, _, none⟩) NB150_151.out _).trans (((cell_far (p := ⟨gb151, _, none⟩) NB150_151.out _).trans (((cell_far (p := ⟨gb151, _, none⟩) NB150_151.out _).trans (((cell_far (p := ⟨gb151, _, none⟩) NB150_151.out _).trans (((cell_far (p := ⟨gb151, _, none⟩) NB150_151.out _).trans (((cell_far (p := ⟨gb151, _, none⟩) NB150_151.out _).trans (((cell_far (p := ⟨gb151, _, none⟩) NB150_151.out _).trans (((cell_far (p := ⟨gb151, _, none⟩) NB150_151.out _).trans (((cell_far (p := ⟨gb151, _, none⟩) NB150_151.out _).trans (((cell_far (p := ⟨gb151, _, none⟩) NB150_151.out _).trans (((cell_far (p := ⟨gb151, _, none⟩) NB150_151.out _).trans (((cell_far (p := ⟨gb151, _, none⟩) NB150_151.out _).trans (((cell_far (p := ⟨gb151, _, none⟩) NB150_151.out _).trans (((cell_far (p := ⟨gb151, _, none⟩) NB150_151.out _).trans (((cell_far (p := ⟨gb151, _, none⟩) NB150_151.out _).trans (hHeld.2.2.1)))))))))))))))))))))))))))))))))), ((cell_far (p := ⟨gb151, _, none⟩) NB150_151.out _).trans (((cell_far (p := ⟨gb151, _, none⟩) NB150_151.out _).trans (((cell_far (p := ⟨gb151, _, none⟩) NB150_151.out _).trans (((cell_far (p := ⟨gb151, _, none⟩) NB150_151.out _).trans (((cell_far (p := ⟨gb151, _, none⟩) NB150_151.out _).trans (((cell_far (p := ⟨gb151, _, none⟩) NB150_151.out _).trans (((cell_far (p := ⟨gb151, _, none⟩) NB150_151.out _).trans (((cell_far (p := ⟨gb151, _, none⟩) NB150_151.out _).trans (((cell_far (p := ⟨gb151, _, none⟩) NB150_151.out _).trans (((cell_far (p := ⟨gb151, _, none⟩) NB150_151.out _).trans (((cell_far (p := ⟨gb151, _, none⟩) NB150_151.out _).trans (((cell_far (p := ⟨gb151, _, none⟩) NB150_151.out _).trans (((cell_far (p := ⟨gb151, _, none⟩) NB150_151.out _).trans (((cell_far (p := ⟨gb151, _, none⟩) NB150_151.out _).trans (((cell_far (p := ⟨gb151, _, none⟩) NB150_151.out _).trans (((cell_far (p := ⟨gb151, _, none⟩) NB150_151.out _).trans (((cell_far (p := ⟨gb151, _, none⟩) NB150_151.out _).trans (hHeld.2.2.2.1)))))))))))))))))))))))))))))))))), ((cell_far (p := ⟨gb151, _, none⟩) NB150_151.out _).trans (((cell_far (p := ⟨gb151, _, none⟩) NB150_151.out _).trans (((cell_far (p := ⟨gb151, _, none⟩) NB150_151.out _).trans (((cell_far (p := ⟨gb151, _, none⟩) NB150_151.out _).trans (((cell_far (p := ⟨gb151, _, none⟩) NB150_151.out _).trans (((cell_far (p := ⟨gb151, _, none⟩) NB150_151.out _).trans (((cell_far (p := ⟨gb151, _, none⟩) NB150_151.out _).trans (((cell_far (p := ⟨gb151, _, none⟩) NB150_151.out _).trans (((cell_far (p := ⟨gb151, _, none⟩) NB150_151.out _).trans (((cell_far (p := ⟨gb151, _, none⟩) NB150_151.out _).trans (((cell_far (p := ⟨gb151, _, none⟩) NB150_151.out _).trans (((cell_far (p := ⟨gb151, _, none⟩) NB150_151.out _).trans (((cell_far (p := ⟨gb151, _, none⟩) NB150_151.out _).trans (((cell_far (p := ⟨gb151, _, none⟩) NB150_151.out _).trans (((cell_far (p := ⟨gb151, _, none⟩) NB150_151.out _).trans (((cell_far (p := ⟨gb151, _, none⟩) NB150_151.out _).trans (((cell_far (p := ⟨gb151, _, none⟩) NB150_151.out _).trans (hHeld.2.2.2.2.1)))))))))))))))))))))))))))))))))), ((cell_far (p := ⟨gb151, _, none⟩) NB173_151.out _).trans (((cell_far (p := ⟨gb151, _, none⟩) NB173_151.out _).trans (((cell_far (p := ⟨gb151, _, none⟩) NB173_151.out _).trans (((cell_far (p := ⟨gb151, _, none⟩) NB173_151.out _).trans (((cell_far (p := ⟨gb151, _, none⟩) NB173_151.out _).trans (((cell_far (p := ⟨gb151, _, none⟩) NB173_151.out _).trans (((cell_far (p := ⟨gb151, _, none⟩) NB173_151.out _).trans (((cell_far (p := ⟨gb151, _, none⟩) NB173_151.out _).trans (((cell_far (p := ⟨gb151, _, none⟩) NB173_151.out _).trans (((cell_far (p := ⟨gb151, _, none⟩) NB173_151.out _).trans (((cell_far (p := ⟨gb151, _, none⟩) NB173_151.out _).trans (((cell_far (p := ⟨gb151, _, none⟩) NB173_151.out _).trans (((cell_far (p := ⟨gb151, _, none⟩) NB173_151.out _).trans (((cell_far (p := ⟨gb151, _, none⟩) NB173_151.out _).trans (((cell_far (p := ⟨gb151, _, none⟩) NB173_151.out _).trans (((cell_far (p := ⟨gb151, _, none⟩) NB173_151.out _).trans (((cell_far (p := ⟨gb151, _, none⟩) NB173_151.out _).trans (hHeld.2.2.2.2.2.1)))))))))))))))))))))))))))))))))), ((cell_far (p := ⟨gb151, _, none⟩) NB173_151.out _).trans (((cell_far (p := ⟨gb151, _, none⟩) NB173_151.out _).trans (((cell_far (p := ⟨gb151, _, none⟩) NB173_151.out _).trans (((cell_far (p := ⟨gb151, _, none⟩) NB173_151.out _).trans (((cell_far (p := ⟨gb151, _, none⟩) NB173_151.out _).trans (((cell_far (p := ⟨gb151, _, none⟩) NB173_151.out _).trans (((cell_far (p := ⟨gb151, _, none⟩) NB173_151.out _).trans (((cell_far (p := ⟨gb151, _, none⟩) NB173_151.out _).trans (((cell_far (p := ⟨gb151, _, none⟩) NB173_151.out _).trans (((cell_far (p := ⟨gb151, _, none⟩) NB173_151.out _).trans (((cell_far (p := ⟨gb151, _, none⟩) NB173_151.out _).trans (((cell_far (p := ⟨gb151, _, none⟩) NB173_151.out _).trans (((cell_far (p := ⟨gb151, _, none⟩) NB173_151.out _).trans (((cell_far (p := ⟨gb151, _, none⟩) NB173_151.out _).trans (((cell_far (p := ⟨gb151, _, none⟩) NB173_151.out _).trans (((cell_far (p := ⟨gb151, _, none⟩) NB173_151.out _).trans (((cell_far (p := ⟨gb151, _, none⟩) NB173_151.out _).trans (hHeld.2.2.2.2.2.2.1)))))))))))))))))))))))))))))))))), ((cell_far (p := ⟨gb151, _, none⟩) NB173_151.out _).trans (((cell_far (p := ⟨gb151, _, none⟩) NB173_151.out _).trans (((cell_far (p := ⟨gb151, _, none⟩) NB173_151.out _).trans (((cell_far (p := ⟨gb151, _, none⟩) NB173_151.out _).trans (((cell_far (p := ⟨gb151, _, none⟩) NB173_151.out _).trans (((cell_far (p := ⟨gb151, _, none⟩) NB173_151.out _).trans (((cell_far (p := ⟨gb151, _, none⟩) NB173_151.out _).trans (((cell_far (p := ⟨gb151, _, none⟩) NB173_151.out _).trans (((cell_far (p := ⟨gb151, _, none⟩) NB173_151.out _).trans (((cell_far (p := ⟨gb151, _, none⟩) NB173_151.out _).trans (((cell_far (p := ⟨gb151, _, none⟩) NB173_151.out _).trans (((cell_far (p := ⟨gb151, _, none⟩) NB173_151.out _).trans (((cell_far (p := ⟨gb151, _, none⟩) NB173_151.out _).trans (((cell_far (p := ⟨gb151, _, none⟩) NB173_151.out _).trans (((cell_far (p := ⟨gb151, _, none⟩) NB173_151.out _).trans (((cell_far (p := ⟨gb151, _, none⟩) NB173_151.out _).trans (((cell_far (p := ⟨gb151, _, none⟩) NB173_151.out _).trans (hHeld.2.2.2.2.2.2.2.1)))))))))))))))))))))))))))))))))), ((cell_far (p := ⟨gb151, _, none⟩) NB173_151.out _).trans (((cell_far (p := ⟨gb151, _, none⟩) NB173_151.out _).trans (((cell_far (p := ⟨gb151, _, none⟩) NB173_151.out _).trans (((cell_far (p := ⟨gb151, _, none⟩) NB173_151.out _).trans (((cell_far (p := ⟨gb151, _, none⟩) NB173_151.out _).trans (((cell_far (p := ⟨gb151, _, none⟩) NB173_151.out _).trans (((cell_far (p := ⟨gb151, _, none⟩) NB173_151.out _).trans (((cell_far (p := ⟨gb151, _, none⟩) NB173_151.out _).trans (((cell_far (p := ⟨gb151, _, none⟩) NB173_151.out _).trans (((cell_far (p := ⟨gb151, _, none⟩) NB173_151.out _).trans (((cell_far (p := ⟨gb151, _, none⟩) NB173_151.out _).trans (((cell_far (p := ⟨gb151, _, none⟩) NB173_151.out _).trans (((cell_far (p := ⟨gb151, _, none⟩) NB173_151.out _).trans (((cell_far (p := ⟨gb151, _, none⟩) NB173_151.out _).trans (((cell_far (p := ⟨gb151, _, none⟩) NB173_151.out _).trans (((cell_far (p := ⟨gb151, _, none⟩) NB173_151.out _).trans (((cell_far (p := ⟨gb151, _, none⟩) NB173_151.out _).trans (hHeld.2.2.2.2.2.2.2.2.1)))))))))))))))))))))))))))))))))), ((cell_far (p := ⟨gb151, _, none⟩) NB173_151.out _).trans (((cell_far (p := ⟨gb151, _, none⟩) NB173_151.out _).trans (((cell_far (p := ⟨gb151, _, none⟩) NB173_151.out _).trans (((cell_far (p := ⟨gb151, _, none⟩) NB173_151.out _).trans (((cell_far (p := ⟨gb151, _, none⟩) NB173_151.out _).trans (((cell_far (p := ⟨gb151, _, none⟩) NB173_151.out _).trans (((cell_far (p := ⟨gb151, _, none⟩) NB173_151.out _).trans (((cell_far (p := ⟨gb151, _, none⟩) NB173_151.out _).trans (((cell_far (p := ⟨gb151, _, none⟩) NB173_151.out _).trans (((cell_far (p := ⟨gb151, _, none⟩) NB173_151.out _).trans (((cell_far (p := ⟨gb151, _, none⟩) NB173_151.out _).trans (((cell_far (p := ⟨gb151, _, none⟩) NB173_151.out _).trans (((cell_far (p := ⟨gb151, _, none⟩) NB173_151.out _).trans (((cell_far (p := ⟨gb151, _, none⟩) NB173_151.out _).trans (((cell_far (p := ⟨gb151, _, none⟩) NB173_151.out _).trans (((cell_far (p := ⟨gb151, _, none⟩) NB173_151.out _).trans (((cell_far (p := ⟨gb151, _, none⟩) NB173_151.out _).trans (hHeld.2.2.2.2.2.2.2.2.2.1)))))))))))))))))))))))))))))))))), ((cell_far (p := ⟨gb151, _, none⟩) NB173_151.out _).trans (((cell_far (p := ⟨gb151, _, none⟩) NB173_151.out _).trans (((cell_far (p := ⟨gb151, _, none⟩) NB173_151.out _).trans (((cell_far (p := ⟨gb151, _, none⟩) NB173_151.out _).trans (((cell_far (p := ⟨gb151, _, none⟩) NB173_151.out _).trans (((cell_far (p := ⟨gb151, _, none⟩) NB173_151.out _).trans (((cell_far (p := ⟨gb151, _, none⟩) NB173_151.out _).trans (((cell_far (p := ⟨gb151, _, none⟩) NB173_151.out _).trans (((cell_far (p := ⟨gb151, _, none⟩) NB173_151.out _).trans (((cell_far (p := ⟨gb151, _, none⟩) NB173_151.out _).trans (((cell_far (p := ⟨gb151, _, none⟩) NB173_151.out _).trans (((cell_far (p := ⟨gb151, _, none⟩) NB173_151.out _).trans (((cell_far (p := ⟨gb151, _, none⟩) NB173_151.out _).trans (((cell_far (p := ⟨gb151, _, none⟩) NB173_151.out _).trans (((cell_far (p := ⟨gb151, _, none⟩) NB173_151.out _).trans (((cell_far (p := ⟨gb151, _, none⟩) NB173_151.out _).trans (((cell_far (p := ⟨gb151, _, none⟩) NB173_151.out _).trans (hHeld.2.2.2.2.2.2.2.2.2.2.1)))))))))))))))))))))))))))))))))), ((cell_far (p := ⟨gb151, _, none⟩) NB173_151.out _).trans (((cell_far (p := ⟨gb151, _, none⟩) NB173_151.out _).trans (((cell_far (p := ⟨gb151, _, none⟩) NB173_151.out _).trans (((cell_far (p := ⟨gb151, _, none⟩) NB173_151.out _).trans (((cell_far (p := ⟨gb151, _, none⟩) NB173_151.out _).trans (((cell_far (p := ⟨gb151, _, none⟩) NB173_151.out _).trans (((cell_far (p := ⟨gb151, _, none⟩) NB173_151.out _).trans (((cell_far (p := ⟨gb151, _, none⟩) NB173_151.out _).trans (((cell_far (p := ⟨gb151, _, none⟩) NB173_151.out _).trans (((cell_far (p := ⟨gb151, _, none⟩) NB173_151.out _).trans (((cell_far (p := ⟨gb151, _, none⟩) NB173_151.out _).trans (((cell_far (p := ⟨gb151, _, none⟩) NB173_151.out _).trans (((cell_far (p := ⟨gb151, _, none⟩) NB173_151.out _).trans (((cell_far (p := ⟨gb151, _, none⟩) NB173_151.out _).trans (((cell_far (p := ⟨gb151, _, none⟩) NB173_151.out _).trans (((cell_far (p := ⟨gb151, _, none⟩) NB173_151.out _).trans (((cell_far (p := ⟨gb151, _, none⟩) NB173_151.out _).trans (hHeld.2.2.2.2.2.2.2.2.2.2.2.1)))))))))))))))))))))))))))))))))), ((cell_far (p := ⟨gb151, _, none⟩) NB173_151.out _).trans (((cell_far (p := ⟨gb151, _, none⟩) NB173_151.out _).trans (((cell_far (p := ⟨gb151, _, none⟩) NB173_151.out _).trans (((cell_far (p := ⟨gb151, _, none⟩) NB173_151.out _).trans (((cell_far (p := ⟨gb151, _, none⟩) NB173_151.out _).trans (((cell_far (p := ⟨gb151, _, none⟩) NB173_151.out _).trans (((cell_far (p := ⟨gb151, _, none⟩) NB173_151.out _).trans (((cell_far (p := ⟨gb151, _, none⟩) NB173_151.out _).trans (((cell_far (p := ⟨gb151, _, none⟩) NB173_151.out _).trans (((cell_far (p := ⟨gb151, _, none⟩) NB173_151.out _).trans (((cell_far (p := ⟨gb151, _, none⟩) NB173_151.out _).trans (((cell_far (p := ⟨gb151, _, none⟩) NB173_151.out _).trans (((cell_far (p := ⟨gb151, _, none⟩) NB173_151.out _).trans (((cell_far (p := ⟨gb151, _, none⟩) NB173_151.out _).trans (((cell_far (p := ⟨gb151, _, none⟩) NB173_151.out _).trans (((cell_far (p := ⟨gb151, _, none⟩) NB173_151.out _).trans (((cell_far (p := ⟨gb151, _, none⟩) NB173_151.out _).trans (hHeld.2.2.2.2.2.2.2.2.2.2.2.2.1)))))))))))))))))))))))))))))))))), ((cell_far (p := ⟨gb151, _, none⟩) NB173_151.out _).trans (((cell_far (p := ⟨gb151, _, none⟩) NB173_151.out _).trans (((cell_far (p := ⟨gb151, _, none⟩) NB173_151.out _).trans (((cell_far (p := ⟨gb151, _, none⟩) NB173_151.out _).trans (((cell_far (p := ⟨gb151, _, none⟩) NB173_151.out _).trans (((cell_far (p := ⟨gb151, _, none⟩) NB173_151.out _).trans (((cell_far (p := ⟨gb151, _, none⟩) NB173_151.out _).trans (((cell_far (p := ⟨gb151, _, none⟩) NB173_151.out _).trans (((cell_far (p := ⟨gb151, _, none⟩) NB173_151.out _).trans (((cell_far (p := ⟨gb151, _, none⟩) NB173_151.out _).trans (((cell_far (p := ⟨gb151, _, none⟩) NB173_151.out _).trans (((cell_far (p := ⟨gb151, _, none⟩) NB173_151.out _).trans (((cell_far (p := ⟨gb151, _, none⟩) NB173_151.out _).trans (((cell_far (p := ⟨gb151, _, none⟩) NB173_151.out _).trans (((cell_far (p := ⟨gb151, _, none⟩) NB173_151.out _).trans (((cell_far (p := ⟨gb151, _, none⟩) NB173_151.out _).trans (((cell_far (p := ⟨gb151, _, none⟩) NB173_151.out _).trans (hHeld.2.2.2.2.2.2.2.2.2.2.2.2.2.1)))))))))))))))))))))))))))))))))), ((cell_far (p := ⟨gb151, _, none⟩) NB173_151.out _).trans (((cell_far (p := ⟨gb151, _, none⟩) NB173_151.out _).trans (((cell_far (p := ⟨gb151, _, none⟩) NB173_151.out _).trans (((cell_far (p := ⟨gb151, _, none⟩) NB173_151.out _).trans (((cell_far (p := ⟨gb151, _, none⟩) NB173_151.out _).trans (((cell_far (p := ⟨gb151, _, none⟩) NB173_151.out _).trans (((cell_far (p := ⟨gb151, _, none⟩) NB173_151.out _).trans (((cell_far (p := ⟨gb151, _, none⟩) NB173_151.out _).trans (((cell_far (p := ⟨gb151, _, none⟩) NB173_151.out _).trans (((cell_far (p := ⟨gb151, _, none⟩) NB173_151.out _).trans (((cell_far (p := ⟨gb151, _, none⟩) NB173_151.out _).trans (((cell_far (p := ⟨gb151, _, none⟩) NB173_151.out _).trans (((cell_far (p := ⟨gb151, _, none⟩) NB173_151.out _).trans (((cell_far (p := ⟨gb151, _, none⟩) NB173_151.out _).trans (((cell_far (p := ⟨gb151, _, none⟩) NB173_151.out _).trans (((cell_far (p := ⟨gb151, _, none⟩) NB173_151.out _).trans (((cell_far (p := ⟨gb151, _, none⟩) NB173_151.out _).trans (hHeld.2.2.2.2.2.2.2.2.2.2.2.2.2.2))))))))))))))))))))))))))))))))))⟩ (fun hHeld => ?_)
    clear hK K
    refine pure_ (i := 7) (N := some 3) (v := ?_) (a' := ?_) #[true, true, true, true, true, true, true, true] rfl rfl (any_of HT_.out (by kernel_rfl)) (fun _ _ _ h => h) (Or.inl ⟨by rfl, ?_⟩) ?_ ?_
    rotate_left
    · intro w'
      go_simp
      with_reducible rfl
    rotate_left
    · simp only [Act.put, List.setIfInBounds_toArray, List.set_cons_zero, List.set_cons_succ, i64_w, i32_w]
      rfl
    refine done_ (done_of HT_.out (by kernel_rfl)) ?_
    try go_wp2
    refine bodyPost_ret (results_ct rfl _ _ gb151 60 #[.int .i64 a0_0, .int .i64 a0_1, .int .i64 a0_2, .int .i64 a0_3, .int .i64 a0_4, .slice Ao24 t175.length co24, .int .i64 t178, .int .i64 t152, .int .i64 t153, .int .i64 t154, .int .i64 t155, .int .i64 t156, .slice Ao15 t157.length co15, .slice Ao16 t160.length co16, .slice Ao17 t163.length co17, .slice Ao18 t166.length co18, .slice Ao19 t169.length co19] (0, 0) _ rfl (by (with_reducible repeat (first | refine blk_drewN ?_ _ | refine blk_drew ?_ | refine blk_alloc ?_ _)); refine blk_put (cs := #[.int .i64 a0_0, .int .i64 a0_1, .int .i64 a0_2, .int .i64 a0_3, .int .i64 a0_4, .slice Ao24 t175.length co24, .int .i64 t178, .int .i64 t152, .int .i64 t153, .int .i64 t154, .int .i64 t155, .int .i64 t156, .slice Ao15 t157.length co15, .slice Ao16 t160.length co16, .slice Ao17 t163.length co17, .slice Ao18 t166.length co18, .slice none 0 0]) ?_ 16 _ rfl; (with_reducible repeat (first | refine blk_drewN ?_ _ | refine blk_drew ?_ | refine blk_alloc ?_ _)); refine blk_put (cs := #[.int .i64 a0_0, .int .i64 a0_1, .int .i64 a0_2, .int .i64 a0_3, .int .i64 a0_4, .slice Ao24 t175.length co24, .int .i64 t178, .int .i64 t152, .int .i64 t153, .int .i64 t154, .int .i64 t155, .int .i64 t156, .slice Ao15 t157.length co15, .slice Ao16 t160.length co16, .slice Ao17 t163.length co17, .slice none 0 0, .slice none 0 0]) ?_ 15 _ rfl; (with_reducible repeat (first | refine blk_drewN ?_ _ | refine blk_drew ?_ | refine blk_alloc ?_ _)); refine blk_put (cs := #[.int .i64 a0_0, .int .i64 a0_1, .int .i64 a0_2, .int .i64 a0_3, .int .i64 a0_4, .slice Ao24 t175.length co24, .int .i64 t178, .int .i64 t152, .int .i64 t153, .int .i64 t154, .int .i64 t155, .int .i64 t156, .slice Ao15 t157.length co15, .slice Ao16 t160.length co16, .slice none 0 0, .slice none 0 0, .slice none 0 0]) ?_ 14 _ rfl; (with_reducible repeat (first | refine blk_drewN ?_ _ | refine blk_drew ?_ | refine blk_alloc ?_ _)); refine blk_put (cs := #[.int .i64 a0_0, .int .i64 a0_1, .int .i64 a0_2, .int .i64 a0_3, .int .i64 a0_4, .slice Ao24 t175.length co24, .int .i64 t178, .int .i64 t152, .int .i64 t153, .int .i64 t154, .int .i64 t155, .int .i64 t156, .slice Ao15 t157.length co15, .slice none 0 0, .slice none 0 0, .slice none 0 0, .slice none 0 0]) ?_ 13 _ rfl; (with_reducible repeat (first | refine blk_drewN ?_ _ | refine blk_drew ?_ | refine blk_alloc ?_ _)); refine blk_put (cs := #[.int .i64 a0_0, .int .i64 a0_1, .int .i64 a0_2, .int .i64 a0_3, .int .i64 a0_4, .slice Ao24 t175.length co24, .int .i64 t178, .int .i64 t152, .int .i64 t153, .int .i64 t154, .int .i64 t155, .int .i64 t156, .slice none 0 0, .slice none 0 0, .slice none 0 0, .slice none 0 0, .slice none 0 0]) ?_ 12 _ rfl; (with_reducible repeat (first | refine blk_drewN ?_ _ | refine blk_drew ?_ | refine blk_alloc ?_ _)); refine blk_put (cs := #[.int .i64 a0_0, .int .i64 a0_1, .int .i64 a0_2, .int .i64 a0_3, .int .i64 a0_4, .slice Ao24 t175.length co24, .int .i64 t178, .int .i64 t152, .int .i64 t153, .int .i64 t154, .int .i64 t155, .int .i64 0, .slice none 0 0, .slice none 0 0, .slice none 0 0, .slice none 0 0, .slice none 0 0]) ?_ 11 _ rfl; (with_reducible repeat (first | refine blk_drewN ?_ _ | refine blk_drew ?_ | refine blk_alloc ?_ _)); refine blk_put (cs := #[.int .i64 a0_0, .int .i64 a0_1, .int .i64 a0_2, .int .i64 a0_3, .int .i64 a0_4, .slice Ao24 t175.length co24, .int .i64 t178, .int .i64 t152, .int .i64 t153, .int .i64 t154, .int .i64 0, .int .i64 0, .slice none 0 0, .slice none 0 0, .slice none 0 0, .slice none 0 0, .slice none 0 0]) ?_ 10 _ rfl; (with_reducible repeat (first | refine blk_drewN ?_ _ | refine blk_drew ?_ | refine blk_alloc ?_ _)); refine blk_put (cs := #[.int .i64 a0_0, .int .i64 a0_1, .int .i64 a0_2, .int .i64 a0_3, .int .i64 a0_4, .slice Ao24 t175.length co24, .int .i64 t178, .int .i64 t152, .int .i64 t153, .int .i64 0, .int .i64 0, .int .i64 0, .slice none 0 0, .slice none 0 0, .slice none 0 0, .slice none 0 0, .slice none 0 0]) ?_ 9 _ rfl; (with_reducible repeat (first | refine blk_drewN ?_ _ | refine blk_drew ?_ | refine blk_alloc ?_ _)); refine blk_put (cs := #[.int .i64 a0_0, .int .i64 a0_1, .int .i64 a0_2, .int .i64 a0_3, .int .i64 a0_4, .slice Ao24 t175.length co24, .int .i64 t178, .int .i64 t152, .int .i64 0, .int .i64 0, .int .i64 0, .int .i64 0, .slice none 0 0, .slice none 0 0, .slice none 0 0, .slice none 0 0, .slice none 0 0]) ?_ 8 _ rfl; (with_reducible repeat (first | refine blk_drewN ?_ _ | refine blk_drew ?_ | refine blk_alloc ?_ _)); refine blk_put (cs := #[.int .i64 a0_0, .int .i64 a0_1, .int .i64 a0_2, .int .i64 a0_3, .int .i64 a0_4, .slice Ao24 t175.length co24, .int .i64 t178, .int .i64 0, .int .i64 0, .int .i64 0, .int .i64 0, .int .i64 0, .slice none 0 0, .slice none 0 0, .slice none 0 0, .slice none 0 0, .slice none 0 0]) ?_ 7 _ rfl; (with_reducible repeat (first | refine blk_drewN ?_ _ | refine blk_drew ?_ | refine blk_alloc ?_ _)); refine blk_put (cs := #[.int .i64 a0_0, .int .i64 a0_1, .int .i64 a0_2, .int .i64 a0_3, .int .i64 a0_4, .slice Ao24 t175.length co24, .int .i64 0, .int .i64 0, .int .i64 0, .int .i64 0, .int .i64 0, .int .i64 0, .slice none 0 0, .slice none 0 0, .slice none 0 0, .slice none 0 0, .slice none 0 0]) ?_ 6 _ rfl; (with_reducible repeat (first | refine blk_drewN ?_ _ | refine blk_drew ?_ | refine blk_alloc ?_ _)); refine blk_put (cs := #[.int .i64 a0_0, .int .i64 a0_1, .int .i64 a0_2, .int .i64 a0_3, .int .i64 a0_4, .slice none 0 0, .int .i64 0, .int .i64 0, .int .i64 0, .int .i64 0, .int .i64 0, .int .i64 0, .slice none 0 0, .slice none 0 0, .slice none 0 0, .slice none 0 0, .slice none 0 0]) ?_ 5 _ rfl; (with_reducible repeat (first | refine blk_drewN ?_ _ | refine blk_drew ?_ | refine blk_alloc ?_ _)); refine blk_put (cs := #[.int .i64 a0_0, .int .i64 a0_1, .int .i64 a0_2, .int .i64 a0_3, .int .i64 0, .slice none 0 0, .int .i64 0, .int .i64 0, .int .i64 0, .int .i64 0, .int .i64 0, .int .i64 0, .slice none 0 0, .slice none 0 0, .slice none 0 0, .slice none 0 0, .slice none 0 0]) ?_ 4 _ rfl; (with_reducible repeat (first | refine blk_drewN ?_ _ | refine blk_drew ?_ | refine blk_alloc ?_ _)); refine blk_put (cs := #[.int .i64 a0_0, .int .i64 a0_1, .int .i64 a0_2, .int .i64 0, .int .i64 0, .slice none 0 0, .int .i64 0, .int .i64 0, .int .i64 0, .int .i64 0, .int .i64 0, .int .i64 0, .slice none 0 0, .slice none 0 0, .slice none 0 0, .slice none 0 0, .slice none 0 0]) ?_ 3 _ rfl; (with_reducible repeat (first | refine blk_drewN ?_ _ | refine blk_drew ?_ | refine blk_alloc ?_ _)); refine blk_put (cs := #[.int .i64 a0_0, .int .i64 a0_1, .int .i64 0, .int .i64 0, .int .i64 0, .slice none 0 0, .int .i64 0, .int .i64 0, .int .i64 0, .int .i64 0, .int .i64 0, .int .i64 0, .slice none 0 0, .slice none 0 0, .slice none 0 0, .slice none 0 0, .slice none 0 0]) ?_ 2 _ rfl; (with_reducible repeat (first | refine blk_drewN ?_ _ | refine blk_drew ?_ | refine blk_alloc ?_ _)); refine blk_put (cs := #[.int .i64 a0_0, .int .i64 0, .int .i64 0, .int .i64 0, .int .i64 0, .slice none 0 0, .int .i64 0, .int .i64 0, .int .i64 0, .int .i64 0, .int .i64 0, .int .i64 0, .slice none 0 0, .slice none 0 0, .slice none 0 0, .slice none 0 0, .slice none 0 0]) ?_ 1 _ rfl; (with_reducible repeat (first | refine blk_drewN ?_ _ | refine blk_drew ?_ | refine blk_alloc ?_ _)); refine blk_put (cs := #[.int .i64 0, .int .i64 0, .int .i64 0, .int .i64 0, .int .i64 0, .slice none 0 0, .int .i64 0, .int .i64 0, .int .i64 0, .int .i64 0, .int .i64 0, .int .i64 0, .slice none 0 0, .slice none 0 0, .slice none 0 0, .slice none 0 0, .slice none 0 0]) ?_ 0 _ rfl; (with_reducible repeat (first | refine blk_drewN ?_ _ | refine blk_drew ?_ | refine blk_alloc ?_ _)); exact BK151.out) Try.underlying60 rfl (by kernel_rfl)) rfl ?_
    exact ⟨_, _, _, _, _, _, by first | rfl | (simp [errW_none, errW_some] <;> rfl) | (simp [*, errW_none, errW_some] <;> rfl), by (with_reducible repeat (first | apply Kd.R_alloc | apply Kd.R_drewN | apply Kd.R_drew)); exact Kd.R_mono (Kd.R_far (p := ⟨gb151, 16, none⟩) (Kd.R_far (p := ⟨gb151, 15, none⟩) (Kd.R_far (p := ⟨gb151, 14, none⟩) (Kd.R_far (p := ⟨gb151, 13, none⟩) (Kd.R_far (p := ⟨gb151, 12, none⟩) (Kd.R_far (p := ⟨gb151, 11, none⟩) (Kd.R_far (p := ⟨gb151, 10, none⟩) (Kd.R_far (p := ⟨gb151, 9, none⟩) (Kd.R_far (p := ⟨gb151, 8, none⟩) (Kd.R_far (p := ⟨gb151, 7, none⟩) (Kd.R_far (p := ⟨gb151, 6, none⟩) (Kd.R_far (p := ⟨gb151, 5, none⟩) (Kd.R_far (p := ⟨gb151, 4, none⟩) (Kd.R_far (p := ⟨gb151, 3, none⟩) (Kd.R_far (p := ⟨gb151, 2, none⟩) (Kd.R_far (p := ⟨gb151, 1, none⟩) (Kd.R_far (p := ⟨gb151, 0, none⟩) (Kd.R_types HO177.out BK151.out (by decide)) (fun _ hk => hk.2) (.int .i64 a0_0)) (fun _ hk => hk.2) (.int .i64 a0_1)) (fun _ hk => hk.2) (.int .i64 a0_2)) (fun _ hk => hk.2) (.int .i64 a0_3)) (fun _ hk => hk.2) (.int .i64 a0_4)) (fun _ hk => hk.2) (.slice Ao24 t175.length co24)) (fun _ hk => hk.2) (.int .i64 t178)) (fun _ hk => hk.2) (.int .i64 t152)) (fun _ hk => hk.2) (.int .i64 t153)) (fun _ hk => hk.2) (.int .i64 t154)) (fun _ hk => hk.2) (.int .i64 t155)) (fun _ hk => hk.2) (.int .i64 t156)) (fun _ hk => hk.2) (.slice Ao15 t157.length co15)) (fun _ hk => hk.2) (.slice Ao16 t160.length co16)) (fun _ hk => hk.2) (.slice Ao17 t163.length co17)) (fun _ hk => hk.2) (.slice Ao18 t166.length co18)) (fun _ hk => hk.2) (.slice Ao19 t169.length co19)) (fun _ hk => trivial), by (with_reducible repeat (first | apply Kd.R_alloc | apply Kd.R_drewN | apply Kd.R_drew)); exact Kd.R_mono (Kd.R_far (p := ⟨gb151, 16, none⟩) (Kd.R_far (p := ⟨gb151, 15, none⟩) (Kd.R_far (p := ⟨gb151, 14, none⟩) (Kd.R_far (p := ⟨gb151, 13, none⟩) (Kd.R_far (p := ⟨gb151, 12, none⟩) (Kd.R_far (p := ⟨gb151, 11, none⟩) (Kd.R_far (p := ⟨gb151, 10, none⟩) (Kd.R_far (p := ⟨gb151, 9, none⟩) (Kd.R_far (p := ⟨gb151, 8, none⟩) (Kd.R_far (p := ⟨gb151, 7, none⟩) (Kd.R_far (p := ⟨gb151, 6, none⟩) (Kd.R_far (p := ⟨gb151, 5, none⟩) (Kd.R_far (p := ⟨gb151, 4, none⟩) (Kd.R_far (p := ⟨gb151, 3, none⟩) (Kd.R_far (p := ⟨gb151, 2, none⟩) (Kd.R_far (p := ⟨gb151, 1, none⟩) (Kd.R_far (p := ⟨gb151, 0, none⟩) (Kd.R_types HO159.out BK151.out (by decide)) (fun _ hk => hk.2) (.int .i64 a0_0)) (fun _ hk => hk.2) (.int .i64 a0_1)) (fun _ hk => hk.2) (.int .i64 a0_2)) (fun _ hk => hk.2) (.int .i64 a0_3)) (fun _ hk => hk.2) (.int .i64 a0_4)) (fun _ hk => hk.2) (.slice Ao24 t175.length co24)) (fun _ hk => hk.2) (.int .i64 t178)) (fun _ hk => hk.2) (.int .i64 t152)) (fun _ hk => hk.2) (.int .i64 t153)) (fun _ hk => hk.2) (.int .i64 t154)) (fun _ hk => hk.2) (.int .i64 t155)) (fun _ hk => hk.2) (.int .i64 t156)) (fun _ hk => hk.2) (.slice Ao15 t157.length co15)) (fun _ hk => hk.2) (.slice Ao16 t160.length co16)) (fun _ hk => hk.2) (.slice Ao17 t163.length co17)) (fun _ hk => hk.2) (.slice Ao18 t166.length co18)) (fun _ hk => hk.2) (.slice Ao19 t169.length co19)) (fun _ hk => ⟨hk.1.1, hk.1.2⟩), by (with_reducible repeat (first | apply Kd.R_alloc | apply Kd.R_drewN | apply Kd.R_drew)); exact Kd.R_mono (Kd.R_far (p := ⟨gb151, 16, none⟩) (Kd.R_far (p := ⟨gb151, 15, none⟩) (Kd.R_far (p := ⟨gb151, 14, none⟩) (Kd.R_far (p := ⟨gb151, 13, none⟩) (Kd.R_far (p := ⟨gb151, 12, none⟩) (Kd.R_far (p := ⟨gb151, 11, none⟩) (Kd.R_far (p := ⟨gb151, 10, none⟩) (Kd.R_far (p := ⟨gb151, 9, none⟩) (Kd.R_far (p := ⟨gb151, 8, none⟩) (Kd.R_far (p := ⟨gb151, 7, none⟩) (Kd.R_far (p := ⟨gb151, 6, none⟩) (Kd.R_far (p := ⟨gb151, 5, none⟩) (Kd.R_far (p := ⟨gb151, 4, none⟩) (Kd.R_far (p := ⟨gb151, 3, none⟩) (Kd.R_far (p := ⟨gb151, 2, none⟩) (Kd.R_far (p := ⟨gb151, 1, none⟩) (Kd.R_far (p := ⟨gb151, 0, none⟩) (Kd.R_types HO162.out BK151.out (by decide)) (fun _ hk => hk.2) (.int .i64 a0_0)) (fun _ hk => hk.2) (.int .i64 a0_1)) (fun _ hk => hk.2) (.int .i64 a0_2)) (fun _ hk => hk.2) (.int .i64 a0_3)) (fun _ hk => hk.2) (.int .i64 a0_4)) (fun _ hk => hk.2) (.slice Ao24 t175.length co24)) (fun _ hk => hk.2) (.int .i64 t178)) (fun _ hk => hk.2) (.int .i64 t152)) (fun _ hk => hk.2) (.int .i64 t153)) (fun _ hk => hk.2) (.int .i64 t154)) (fun _ hk => hk.2) (.int .i64 t155)) (fun _ hk => hk.2) (.int .i64 t156)) (fun _ hk => hk.2) (.slice Ao15 t157.length co15)) (fun _ hk => hk.2) (.slice Ao16 t160.length co16)) (fun _ hk => hk.2) (.slice Ao17 t163.length co17)) (fun _ hk => hk.2) (.slice Ao18 t166.length co18)) (fun _ hk => hk.2) (.slice Ao19 t169.length co19)) (fun _ hk => ⟨hk.1.1, hk.1.2⟩), by (with_reducible repeat (first | apply Kd.R_alloc | apply Kd.R_drewN | apply Kd.R_drew)); exact Kd.R_mono (Kd.R_far (p := ⟨gb151, 16, none⟩) (Kd.R_far (p := ⟨gb151, 15, none⟩) (Kd.R_far (p := ⟨gb151, 14, none⟩) (Kd.R_far (p := ⟨gb151, 13, none⟩) (Kd.R_far (p := ⟨gb151, 12, none⟩) (Kd.R_far (p := ⟨gb151, 11, none⟩) (Kd.R_far (p := ⟨gb151, 10, none⟩) (Kd.R_far (p := ⟨gb151, 9, none⟩) (Kd.R_far (p := ⟨gb151, 8, none⟩) (Kd.R_far (p := ⟨gb151, 7, none⟩) (Kd.R_far (p := ⟨gb151, 6, none⟩) (Kd.R_far (p := ⟨gb151, 5, none⟩) (Kd.R_far (p := ⟨gb151, 4, none⟩) (Kd.R_far (p := ⟨gb151, 3, none⟩) (Kd.R_far (p := ⟨gb151, 2, none⟩) (Kd.R_far (p := ⟨gb151, 1, none⟩) (Kd.R_far (p := ⟨gb151, 0, none⟩) (Kd.R_types HO165.out BK151.out (by decide)) (fun _ hk => hk.2) (.int .i64 a0_0)) (fun _ hk => hk.2) (.int .i64 a0_1)) (fun _ hk => hk.2) (.int .i64 a0_2)) (fun _ hk => hk.2) (.int .i64 a0_3)) (fun _ hk => hk.2) (.int .i64 a0_4)) (fun _ hk => hk.2) (.slice Ao24 t175.length co24)) (fun _ hk => hk.2) (.int .i64 t178)) (fun _ hk => hk.2) (.int .i64 t152)) (fun _ hk => hk.2) (.int .i64 t153)) (fun _ hk => hk.2) (.int .i64 t154)) (fun _ hk => hk.2) (.int .i64 t155)) (fun _ hk => hk.2) (.int .i64 t156)) (fun _ hk => hk.2) (.slice Ao15 t157.length co15)) (fun _ hk => hk.2) (.slice Ao16 t160.length co16)) (fun _ hk => hk.2) (.slice Ao17 t163.length co17)) (fun _ hk => hk.2) (.slice Ao18 t166.length co18)) (fun _ hk => hk.2) (.slice Ao19 t169.length co19)) (fun _ hk => ⟨hk.1.1, hk.1.2⟩), by (with_reducible repeat (first | apply Kd.R_alloc | apply Kd.R_drewN | apply Kd.R_drew)); exact Kd.R_mono (Kd.R_far (p := ⟨gb151, 16, none⟩) (Kd.R_far (p := ⟨gb151, 15, none⟩) (Kd.R_far (p := ⟨gb151, 14, none⟩) (Kd.R_far (p := ⟨gb151, 13, none⟩) (Kd.R_far (p := ⟨gb151, 12, none⟩) (Kd.R_far (p := ⟨gb151, 11, none⟩) (Kd.R_far (p := ⟨gb151, 10, none⟩) (Kd.R_far (p := ⟨gb151, 9, none⟩) (Kd.R_far (p := ⟨gb151, 8, none⟩) (Kd.R_far (p := ⟨gb151, 7, none⟩) (Kd.R_far (p := ⟨gb151, 6, none⟩) (Kd.R_far (p := ⟨gb151, 5, none⟩) (Kd.R_far (p := ⟨gb151, 4, none⟩) (Kd.R_far (p := ⟨gb151, 3, none⟩) (Kd.R_far (p := ⟨gb151, 2, none⟩) (Kd.R_far (p := ⟨gb151, 1, none⟩) (Kd.R_far (p := ⟨gb151, 0, none⟩) (Kd.R_types HO168.out BK151.out (by decide)) (fun _ hk => hk.2) (.int .i64 a0_0)) (fun _ hk => hk.2) (.int .i64 a0_1)) (fun _ hk => hk.2) (.int .i64 a0_2)) (fun _ hk => hk.2) (.int .i64 a0_3)) (fun _ hk => hk.2) (.int .i64 a0_4)) (fun _ hk => hk.2) (.slice Ao24 t175.length co24)) (fun _ hk => hk.2) (.int .i64 t178)) (fun _ hk => hk.2) (.int .i64 t152)) (fun _ hk => hk.2) (.int .i64 t153)) (fun _ hk => hk.2) (.int .i64 t154)) (fun _ hk => hk.2) (.int .i64 t155)) (fun _ hk => hk.2) (.int .i64 t156)) (fun _ hk => hk.2) (.slice Ao15 t157.length co15)) (fun _ hk => hk.2) (.slice Ao16 t160.length co16)) (fun _ hk => hk.2) (.slice Ao17 t163.length co17)) (fun _ hk => hk.2) (.slice Ao18 t166.length co18)) (fun _ hk => hk.2) (.slice Ao19 t169.length co19)) (fun _ hk => trivial), by (with_reducible repeat (first | apply Kd.R_alloc | apply Kd.R_drewN | apply Kd.R_drew)); exact Kd.R_mono (Kd.R_far (p := ⟨gb151, 16, none⟩) (Kd.R_far (p := ⟨gb151, 15, none⟩) (Kd.R_far (p := ⟨gb151, 14, none⟩) (Kd.R_far (p := ⟨gb151, 13, none⟩) (Kd.R_far (p := ⟨gb151, 12, none⟩) (Kd.R_far (p := ⟨gb151, 11, none⟩) (Kd.R_far (p := ⟨gb151, 10, none⟩) (Kd.R_far (p := ⟨gb151, 9, none⟩) (Kd.R_far (p := ⟨gb151, 8, none⟩) (Kd.R_far (p := ⟨gb151, 7, none⟩) (Kd.R_far (p := ⟨gb151, 6, none⟩) (Kd.R_far (p := ⟨gb151, 5, none⟩) (Kd.R_far (p := ⟨gb151, 4, none⟩) (Kd.R_far (p := ⟨gb151, 3, none⟩) (Kd.R_far (p := ⟨gb151, 2, none⟩) (Kd.R_far (p := ⟨gb151, 1, none⟩) (Kd.R_far (p := ⟨gb151, 0, none⟩) (Kd.R_types HO171.out BK151.out (by decide)) (fun _ hk => hk.2) (.int .i64 a0_0)) (fun _ hk => hk.2) (.int .i64 a0_1)) (fun _ hk => hk.2) (.int .i64 a0_2)) (fun _ hk => hk.2) (.int .i64 a0_3)) (fun _ hk => hk.2) (.int .i64 a0_4)) (fun _ hk => hk.2) (.slice Ao24 t175.length co24)) (fun _ hk => hk.2) (.int .i64 t178)) (fun _ hk => hk.2) (.int .i64 t152)) (fun _ hk => hk.2) (.int .i64 t153)) (fun _ hk => hk.2) (.int .i64 t154)) (fun _ hk => hk.2) (.int .i64 t155)) (fun _ hk => hk.2) (.int .i64 t156)) (fun _ hk => hk.2) (.slice Ao15 t157.length co15)) (fun _ hk => hk.2) (.slice Ao16 t160.length co16)) (fun _ hk => hk.2) (.slice Ao17 t163.length co17)) (fun _ hk => hk.2) (.slice Ao18 t166.length co18)) (fun _ hk => hk.2) (.slice Ao19 t169.length co19)) (fun _ hk => trivial), by repeat (first | (with_reducible first | exact HB.out | apply below_alloc | apply pw_below_drewN | apply below_drew1 | refine below_set ?_ GE150.out | refine below_set ?_ GE151.out | refine below_set ?_ GE173.out) | exact HB.out)⟩
  · rw [if_neg c3] at H
    have c3b0 : (t172 == 0) = false := beq_eq_false_iff_ne.mpr c3
    have c3b1 : (t172 != 0) = true := bne_iff_ne.mpr c3
    simp only [Option.some.injEq, Prod.mk.injEq] at H
    obtain ⟨rfl, rfl, rfl, rfl, rfl, rfl, rfl, rfl, rfl, rfl, rfl, rfl, rfl, rfl, rfl, rfl, rfl, rfl⟩ := H
    go_enter Try.func21, Try.ntmps21
    go_wp2_with (first | ((with_reducible refine gate_dst (N := 1) rfl ?_); refine box_event ?hg (N := 1) ?hd (cs := #[.int .i64 a0_0, .int .i64 a0_1, .int .i64 a0_2, .int .i64 a0_3, .int .i64 a0_4]) (t := 23) ?hr ?_; (case hd => rfl); (case hg => rfl); (case hr => first | (go_simp; done) | (go_simp; rfl)); intro gb150 hg w42 hbox hb; have n0_ := Aside0.mk (below_step (by repeat (first | (with_reducible first | exact HB.out | apply below_alloc | apply pw_below_drewN | apply below_drew1) | exact HB.out)) hb); have n1_ := Aside0.mk (hbox); have n2_ := Aside0.mk ((by rw [hg]; exact (below_size (by repeat (first | (with_reducible first | exact HB.out | apply below_alloc | apply pw_below_drewN | apply below_drew1) | exact HB.out))) : w.heap.size ≤ gb150)); have n3_ := Aside0.mk ((by rw [hg]; exact (below_size (by repeat (first | (with_reducible first | exact HB.out | apply below_alloc | apply pw_below_drewN | apply below_drew1) | exact HB.out))) : w.heap.size ≤ gb150)); clear HB; have HB := n0_; have BK150 := n1_; have GW150 := n2_; have GE150 := n3_; clear n0_ n1_ n2_ n3_; clear hb hbox hg) | ((with_reducible refine gate_dst (N := 2) rfl ?_); refine box_event ?hg (N := 2) ?hd (cs := #[.int .i64 0, .int .i64 0, .int .i64 0, .int .i64 0, .int .i64 0, .slice none 0 0, .int .i64 0, .int .i64 0, .int .i64 0, .int .i64 0, .int .i64 0, .int .i64 0, .slice none 0 0, .slice none 0 0, .slice none 0 0, .slice none 0 0, .slice none 0 0]) (t := 60) ?hr ?_; (case hd => rfl); (case hg => rfl); (case hr => first | (go_simp; done) | (go_simp; rfl)); intro gb151 hg w43 hbox hb; have n0_ := Aside0.mk (blk_below (g := gb150) (o := .cells #[.int .i64 a0_0, .int .i64 a0_1, .int .i64 a0_2, .int .i64 a0_3, .int .i64 a0_4] 23 (0, 0)) (by (with_reducible repeat (first | refine blk_drewN ?_ _ | refine blk_drew ?_ | refine blk_alloc ?_ _)); exact BK150.out) hb); have n1_ := Aside0.mk (below_step (by repeat (first | (with_reducible first | exact HB.out | apply below_alloc | apply pw_below_drewN | apply below_drew1 | refine below_set ?_ GE150.out) | exact HB.out)) hb); have n2_ := Aside0.mk (hbox); have n3_ := Aside0.mk ((by rw [hg]; exact (below_size (by repeat (first | (with_reducible first | exact HB.out | apply below_alloc | apply pw_below_drewN | apply below_drew1 | refine below_set ?_ GE150.out) | exact HB.out))) : w.heap.size ≤ gb151)); have n4_ := Aside0.mk ((by rw [hg]; exact (below_size (by repeat (first | (with_reducible first | exact HB.out | apply below_alloc | apply pw_below_drewN | apply below_drew1 | refine below_set ?_ GE150.out) | exact HB.out))) : w.heap.size ≤ gb151)); have n5_ := Aside0.mk ((by rw [hg]; exact Nat.ne_of_lt (blk_lt (g := gb150) (o := .cells #[.int .i64 a0_0, .int .i64 a0_1, .int .i64 a0_2, .int .i64 a0_3, .int .i64 a0_4] 23 (0, 0)) (by (with_reducible repeat (first | refine blk_drewN ?_ _ | refine blk_drew ?_ | refine blk_alloc ?_ _)); exact BK150.out)) : gb150 ≠ gb151)); have n6_ := Aside0.mk ((by rw [hg]; exact Nat.ne_of_gt (blk_lt (g := gb150) (o := .cells #[.int .i64 a0_0, .int .i64 a0_1, .int .i64 a0_2, .int .i64 a0_3, .int .i64 a0_4] 23 (0, 0)) (by (with_reducible repeat (first | refine blk_drewN ?_ _ | refine blk_drew ?_ | refine blk_alloc ?_ _)); exact BK150.out)) : gb151 ≠ gb150)); clear BK150; clear HB; have BK150 := n0_; have HB := n1_; have BK151 := n2_; have GW151 := n3_; have GE151 := n4_; have NB150_151 := n5_; have NB151_150 := n6_; clear n0_ n1_ n2_ n3_ n4_ n5_ n6_; clear hb hbox hg; have hnb44 := NB150_151.out; have hnc44 := NB151_150.out; have hcz45_0 : w43.cell? ⟨gb150, 0, none⟩ = some (.int .i64 a0_0) := (blk_cell BK150.out 0).trans rfl; have hcz45_1 : w43.cell? ⟨gb150, 1, none⟩ = some (.int .i64 a0_1) := (blk_cell BK150.out 1).trans rfl; have hcz45_2 : w43.cell? ⟨gb150, 2, none⟩ = some (.int .i64 a0_2) := (blk_cell BK150.out 2).trans rfl; have hcz45_3 : w43.cell? ⟨gb150, 3, none⟩ = some (.int .i64 a0_3) := (blk_cell BK150.out 3).trans rfl; have hcz45_4 : w43.cell? ⟨gb150, 4, none⟩ = some (.int .i64 a0_4) := (blk_cell BK150.out 4).trans rfl; have hfz45_0 := blk_frozen BK150.out 0; have hfz45_1 := blk_frozen BK150.out 1; have hfz45_2 := blk_frozen BK150.out 2; have hfz45_3 := blk_frozen BK150.out 3; have hfz45_4 := blk_frozen BK150.out 4) | ((with_reducible refine gate_callee (f := 49) rfl ?_); refine goesL_ (some 8) rfl rfl Try.func49 (by kernel_rfl) rfl #[.agg #[.int .i64 a0_0, .int .i64 a0_1, .int .i64 a0_2, .int .i64 a0_3, .int .i64 a0_4]] rfl (by (try simp only [List.map_toArray, List.map_cons, List.map_nil]); first | done | rfl | (simp only [List.length_drop, List.length_take]; rfl)) ?_; (with_reducible refine (corrieref07_New.calls k a0_0 a0_1 a0_2 a0_3 a0_4 t152 t153 t154 t155 t156 t157 t160 t163 t166 t169 t172 _ A2.out).mono ?_); rintro e w46 ⟨v158, v161, v164, v167, v170, rfl, ho0, ho1, ho2, ho3, ho4, hb⟩; refine ⟨_, rfl, ?_⟩; have n0_ := Aside0.mk (Kd.R_lower ho0 (below_size (by repeat (first | (with_reducible first | exact HB.out | apply below_alloc | apply pw_below_drewN | apply below_drew1 | refine below_set ?_ GE150.out | refine below_set ?_ GE151.out) | exact HB.out)))); have n1_ := Aside0.mk (Kd.R_lower ho1 (below_size (by repeat (first | (with_reducible first | exact HB.out | apply below_alloc | apply pw_below_drewN | apply below_drew1 | refine below_set ?_ GE150.out | refine below_set ?_ GE151.out) | exact HB.out)))); have n2_ := Aside0.mk (Kd.R_lower ho2 (below_size (by repeat (first | (with_reducible first | exact HB.out | apply below_alloc | apply pw_below_drewN | apply below_drew1 | refine below_set ?_ GE150.out | refine below_set ?_ GE151.out) | exact HB.out)))); have n3_ := Aside0.mk (Kd.R_lower ho3 (below_size (by repeat (first | (with_reducible first | exact HB.out | apply below_alloc | apply pw_below_drewN | apply below_drew1 | refine below_set ?_ GE150.out | refine below_set ?_ GE151.out) | exact HB.out)))); have n4_ := Aside0.mk (Kd.R_lower ho4 (below_size (by repeat (first | (with_reducible first | exact HB.out | apply below_alloc | apply pw_below_drewN | apply below_drew1 | refine below_set ?_ GE150.out | refine below_set ?_ GE151.out) | exact HB.out)))); have n5_ := Aside0.mk (blk_below (g := gb150) (o := .cells #[.int .i64 a0_0, .int .i64 a0_1, .int .i64 a0_2, .int .i64 a0_3, .int .i64 a0_4] 23 (0, 0)) (by (with_reducible repeat (first | refine blk_drewN ?_ _ | refine blk_drew ?_ | refine blk_alloc ?_ _)); exact BK150.out) hb); have n6_ := Aside0.mk (blk_below (g := gb151) (o := .cells #[.int .i64 0, .int .i64 0, .int .i64 0, .int .i64 0, .int .i64 0, .slice none 0 0, .int .i64 0, .int .i64 0, .int .i64 0, .int .i64 0, .int .i64 0, .int .i64 0, .slice none 0 0, .slice none 0 0, .slice none 0 0, .slice none 0 0, .slice none 0 0] 60 (0, 0)) (by (with_reducible repeat (first | refine blk_drewN ?_ _ | refine blk_drew ?_ | refine blk_alloc ?_ _)); exact BK151.out) hb); have n7_ := Aside0.mk (below_step (by repeat (first | (with_reducible first | exact HB.out | apply below_alloc | apply pw_below_drewN | apply below_drew1 | refine below_set ?_ GE150.out | refine below_set ?_ GE151.out) | exact HB.out)) hb); clear BK150; clear BK151; clear HB; have HO159 := n0_; have HO162 := n1_; have HO165 := n2_; have HO168 := n3_; have HO171 := n4_; have BK150 := n5_; have BK151 := n6_; have HB := n7_; clear n0_ n1_ n2_ n3_ n4_ n5_ n6_ n7_; (try clear hb); (try clear hb2); (try clear hk); (try clear hi); (try clear ho0); (try clear ho1); (try clear ho2); (try clear ho3); (try clear ho4)) | ((with_reducible refine gate_dst (N := 4) rfl ?_); refine box_event ?hg (N := 4) ?hd (cs := #[.int .i64 0, .int .i64 0, .int .i64 0, .int .i64 0, .int .i64 0, .slice none 0 0, .slice none 0 0, .slice none 0 0, .slice none 0 0, .slice none 0 0]) (t := 58) ?hr ?_; (case hd => rfl); (case hg => rfl); (case hr => first | (go_simp; done) | (go_simp; rfl)); intro gb173 hg w47 hbox hb; have n0_ := Aside0.mk (Kd.R_below (by (with_reducible repeat (first | apply Kd.R_alloc | apply Kd.R_drewN | apply Kd.R_drew)); exact HO159.out) hb); have n1_ := Aside0.mk (Kd.R_below (by (with_reducible repeat (first | apply Kd.R_alloc | apply Kd.R_drewN | apply Kd.R_drew)); exact HO162.out) hb); have n2_ := Aside0.mk (Kd.R_below (by (with_reducible repeat (first | apply Kd.R_alloc | apply Kd.R_drewN | apply Kd.R_drew)); exact HO165.out) hb); have n3_ := Aside0.mk (Kd.R_below (by (with_reducible repeat (first | apply Kd.R_alloc | apply Kd.R_drewN | apply Kd.R_drew)); exact HO168.out) hb); have n4_ := Aside0.mk (Kd.R_below (by (with_reducible repeat (first | apply Kd.R_alloc | apply Kd.R_drewN | apply Kd.R_drew)); exact HO171.out) hb); have n5_ := Aside0.mk (blk_below (g := gb150) (o := .cells #[.int .i64 a0_0, .int .i64 a0_1, .int .i64 a0_2, .int .i64 a0_3, .int .i64 a0_4] 23 (0, 0)) (by (with_reducible repeat (first | refine blk_drewN ?_ _ | refine blk_drew ?_ | refine blk_alloc ?_ _)); exact BK150.out) hb); have n6_ := Aside0.mk (blk_below (g := gb151) (o := .cells #[.int .i64 0, .int .i64 0, .int .i64 0, .int .i64 0, .int .i64 0, .slice none 0 0, .int .i64 0, .int .i64 0, .int .i64 0, .int .i64 0, .int .i64 0, .int .i64 0, .slice none 0 0, .slice none 0 0, .slice none 0 0, .slice none 0 0, .slice none 0 0] 60 (0, 0)) (by (with_reducible repeat (first | refine blk_drewN ?_ _ | refine blk_drew ?_ | refine blk_alloc ?_ _)); exact BK151.out) hb); have n7_ := Aside0.mk (below_step (by repeat (first | (with_reducible first | exact HB.out | apply below_alloc | apply pw_below_drewN | apply below_drew1 | refine below_set ?_ GE150.out | refine below_set ?_ GE151.out) | exact HB.out)) hb); have n8_ := Aside0.mk (hbox); have n9_ := Aside0.mk ((by rw [hg]; exact (below_size (by repeat (first | (with_reducible first | exact HB.out | apply below_alloc | apply pw_below_drewN | apply below_drew1 | refine below_set ?_ GE150.out | refine below_set ?_ GE151.out) | exact HB.out))) : w.heap.size ≤ gb173)); have n10_ := Aside0.mk ((by rw [hg]; exact (below_size (by repeat (first | (with_reducible first | exact HB.out | apply below_alloc | apply pw_below_drewN | apply below_drew1 | refine below_set ?_ GE150.out | refine below_set ?_ GE151.out) | exact HB.out))) : w.heap.size ≤ gb173)); have n11_ := Aside0.mk ((by rw [hg]; exact Nat.ne_of_lt (blk_lt (g := gb150) (o := .cells #[.int .i64 a0_0, .int .i64 a0_1, .int .i64 a0_2, .int .i64 a0_3, .int .i64 a0_4] 23 (0, 0)) (by (with_reducible repeat (first | refine blk_drewN ?_ _ | refine blk_drew ?_ | refine blk_alloc ?_ _)); exact BK150.out)) : gb150 ≠ gb173)); have n12_ := Aside0.mk ((by rw [hg]; exact Nat.ne_of_gt (blk_lt (g := gb150) (o := .cells #[.int .i64 a0_0, .int .i64 a0_1, .int .i64 a0_2, .int .i64 a0_3, .int .i64 a0_4] 23 (0, 0)) (by (with_reducible repeat (first | refine blk_drewN ?_ _ | refine blk_drew ?_ | refine blk_alloc ?_ _)); exact BK150.out)) : gb173 ≠ gb150)); have n13_ := Aside0.mk ((by rw [hg]; exact Nat.ne_of_lt (blk_lt (g := gb151) (o := .cells #[.int .i64 0, .int .i64 0, .int .i64 0, .int .i64 0, .int .i64 0, .slice none 0 0, .int .i64 0, .int .i64 0, .int .i64 0, .int .i64 0, .int .i64 0, .int .i64 0, .slice none 0 0, .slice none 0 0, .slice none 0 0, .slice none 0 0, .slice none 0 0] 60 (0, 0)) (by (with_reducible repeat (first | refine blk_drewN ?_ _ | refine blk_drew ?_ | refine blk_alloc ?_ _)); exact BK151.out)) : gb151 ≠ gb173)); have n14_ := Aside0.mk ((by rw [hg]; exact Nat.ne_of_gt (blk_lt (g := gb151) (o := .cells #[.int .i64 0, .int .i64 0, .int .i64 0, .int .i64 0, .int .i64 0, .slice none 0 0, .int .i64 0, .int .i64 0, .int .i64 0, .int .i64 0, .int .i64 0, .int .i64 0, .slice none 0 0, .slice none 0 0, .slice none 0 0, .slice none 0 0, .slice none 0 0] 60 (0, 0)) (by (with_reducible repeat (first | refine blk_drewN ?_ _ | refine blk_drew ?_ | refine blk_alloc ?_ _)); exact BK151.out)) : gb173 ≠ gb151)); clear HO159; clear HO162; clear HO165; clear HO168; clear HO171; clear BK150; clear BK151; clear HB; have HO159 := n0_; have HO162 := n1_; have HO165 := n2_; have HO168 := n3_; have HO171 := n4_; have BK150 := n5_; have BK151 := n6_; have HB := n7_; have BK173 := n8_; have GW173 := n9_; have GE173 := n10_; have NB150_173 := n11_; have NB173_150 := n12_; have NB151_173 := n13_; have NB173_151 := n14_; clear n0_ n1_ n2_ n3_ n4_ n5_ n6_ n7_ n8_ n9_ n10_ n11_ n12_ n13_ n14_; clear hb hbox hg; have hnb48 := NB173_150.out; have hnc48 := NB150_173.out; have hnb49 := NB173_151.out; have hnc49 := NB151_173.out; have hcz50_0 : w47.cell? ⟨gb173, 0, none⟩ = some (.int .i64 0) := (blk_cell BK173.out 0).trans rfl; have hcz50_1 : w47.cell? ⟨gb173, 1, none⟩ = some (.int .i64 0) := (blk_cell BK173.out 1).trans rfl; have hcz50_2 : w47.cell? ⟨gb173, 2, none⟩ = some (.int .i64 0) := (blk_cell BK173.out 2).trans rfl; have hcz50_3 : w47.cell? ⟨gb173, 3, none⟩ = some (.int .i64 0) := (blk_cell BK173.out 3).trans rfl; have hcz50_4 : w47.cell? ⟨gb173, 4, none⟩ = some (.int .i64 0) := (blk_cell BK173.out 4).trans rfl; have hcz50_5 : w47.cell? ⟨gb173, 5, none⟩ = some (.slice none 0 0) := (blk_cell BK173.out 5).trans rfl; have hcz50_6 : w47.cell? ⟨gb173, 6, none⟩ = some (.slice none 0 0) := (blk_cell BK173.out 6).trans rfl; have hcz50_7 : w47.cell? ⟨gb173, 7, none⟩ = some (.slice none 0 0) := (blk_cell BK173.out 7).trans rfl; have hcz50_8 : w47.cell? ⟨gb173, 8, none⟩ = some (.slice none 0 0) := (blk_cell BK173.out 8).trans rfl; have hcz50_9 : w47.cell? ⟨gb173, 9, none⟩ = some (.slice none 0 0) := (blk_cell BK173.out 9).trans rfl; have hfz50_0 := blk_frozen BK173.out 0; have hfz50_1 := blk_frozen BK173.out 1; have hfz50_2 := blk_frozen BK173.out 2; have hfz50_3 := blk_frozen BK173.out 3; have hfz50_4 := blk_frozen BK173.out 4; have hfz50_5 := blk_frozen BK173.out 5; have hfz50_6 := blk_frozen BK173.out 6; have hfz50_7 := blk_frozen BK173.out 7; have hfz50_8 := blk_frozen BK173.out 8; have hfz50_9 := blk_frozen BK173.out 9; obtain ⟨Ao51, co51, eo51⟩ := Kd.R_slice HO159.out; subst eo51; obtain ⟨Ao52, co52, eo52⟩ := Kd.R_slice HO162.out; subst eo52; obtain ⟨Ao53, co53, eo53⟩ := Kd.R_slice HO165.out; subst eo53; obtain ⟨Ao54, co54, eo54⟩ := Kd.R_slice HO168.out; subst eo54; obtain ⟨Ao55, co55, eo55⟩ := Kd.R_slice HO171.out; subst eo55; have hcz56_0 : w47.cell? ⟨gb151, 0, none⟩ = some (.int .i64 0) := (blk_cell BK151.out 0).trans rfl; have hcz56_1 : w47.cell? ⟨gb151, 1, none⟩ = some (.int .i64 0) := (blk_cell BK151.out 1).trans rfl; have hcz56_2 : w47.cell? ⟨gb151, 2, none⟩ = some (.int .i64 0) := (blk_cell BK151.out 2).trans rfl; have hcz56_3 : w47.cell? ⟨gb151, 3, none⟩ = some (.int .i64 0) := (blk_cell BK151.out 3).trans rfl; have hcz56_4 : w47.cell? ⟨gb151, 4, none⟩ = some (.int .i64 0) := (blk_cell BK151.out 4).trans rfl; have hcz56_5 : w47.cell? ⟨gb151, 5, none⟩ = some (.slice none 0 0) := (blk_cell BK151.out 5).trans rfl; have hcz56_6 : w47.cell? ⟨gb151, 6, none⟩ = some (.int .i64 0) := (blk_cell BK151.out 6).trans rfl; have hcz56_7 : w47.cell? ⟨gb151, 7, none⟩ = some (.int .i64 0) := (blk_cell BK151.out 7).trans rfl; have hcz56_8 : w47.cell? ⟨gb151, 8, none⟩ = some (.int .i64 0) := (blk_cell BK151.out 8).trans rfl; have hcz56_9 : w47.cell? ⟨gb151, 9, none⟩ = some (.int .i64 0) := (blk_cell BK151.out 9).trans rfl; have hcz56_10 : w47.cell? ⟨gb151, 10, none⟩ = some (.int .i64 0) := (blk_cell BK151.out 10).trans rfl; have hcz56_11 : w47.cell? ⟨gb151, 11, none⟩ = some (.int .i64 0) := (blk_cell BK151.out 11).trans rfl; have hcz56_12 : w47.cell? ⟨gb151, 12, none⟩ = some (.slice none 0 0) := (blk_cell BK151.out 12).trans rfl; have hcz56_13 : w47.cell? ⟨gb151, 13, none⟩ = some (.slice none 0 0) := (blk_cell BK151.out 13).trans rfl; have hcz56_14 : w47.cell? ⟨gb151, 14, none⟩ = some (.slice none 0 0) := (blk_cell BK151.out 14).trans rfl; have hcz56_15 : w47.cell? ⟨gb151, 15, none⟩ = some (.slice none 0 0) := (blk_cell BK151.out 15).trans rfl; have hcz56_16 : w47.cell? ⟨gb151, 16, none⟩ = some (.slice none 0 0) := (blk_cell BK151.out 16).trans rfl; have hfz56_0 := blk_frozen BK151.out 0; have hfz56_1 := blk_frozen BK151.out 1; have hfz56_2 := blk_frozen BK151.out 2; have hfz56_3 := blk_frozen BK151.out 3; have hfz56_4 := blk_frozen BK151.out 4; have hfz56_5 := blk_frozen BK151.out 5; have hfz56_6 := blk_frozen BK151.out 6; have hfz56_7 := blk_frozen BK151.out 7; have hfz56_8 := blk_frozen BK151.out 8; have hfz56_9 := blk_frozen BK151.out 9; have hfz56_10 := blk_frozen BK151.out 10; have hfz56_11 := blk_frozen BK151.out 11; have hfz56_12 := blk_frozen BK151.out 12; have hfz56_13 := blk_frozen BK151.out 13; have hfz56_14 := blk_frozen BK151.out 14; have hfz56_15 := blk_frozen BK151.out 15; have hfz56_16 := blk_frozen BK151.out 16))
    refine bodyPost_ret (results_ct rfl _ _ gb151 60 #[.int .i64 0, .int .i64 0, .int .i64 0, .int .i64 0, .int .i64 0, .slice none 0 0, .int .i64 0, .int .i64 0, .int .i64 0, .int .i64 0, .int .i64 0, .int .i64 0, .slice none 0 0, .slice none 0 0, .slice none 0 0, .slice none 0 0, .slice none 0 0] (0, 0) _ rfl (by (with_reducible repeat (first | refine blk_drewN ?_ _ | refine blk_drew ?_ | refine blk_alloc ?_ _)); refine blk_put (cs := #[.int .i64 0, .int .i64 0, .int .i64 0, .int .i64 0, .int .i64 0, .slice none 0 0, .int .i64 0, .int .i64 0, .int .i64 0, .int .i64 0, .int .i64 0, .int .i64 0, .slice none 0 0, .slice none 0 0, .slice none 0 0, .slice none 0 0, .slice none 0 0]) ?_ 16 _ rfl; (with_reducible repeat (first | refine blk_drewN ?_ _ | refine blk_drew ?_ | refine blk_alloc ?_ _)); refine blk_put (cs := #[.int .i64 0, .int .i64 0, .int .i64 0, .int .i64 0, .int .i64 0, .slice none 0 0, .int .i64 0, .int .i64 0, .int .i64 0, .int .i64 0, .int .i64 0, .int .i64 0, .slice none 0 0, .slice none 0 0, .slice none 0 0, .slice none 0 0, .slice none 0 0]) ?_ 15 _ rfl; (with_reducible repeat (first | refine blk_drewN ?_ _ | refine blk_drew ?_ | refine blk_alloc ?_ _)); refine blk_put (cs := #[.int .i64 0, .int .i64 0, .int .i64 0, .int .i64 0, .int .i64 0, .slice none 0 0, .int .i64 0, .int .i64 0, .int .i64 0, .int .i64 0, .int .i64 0, .int .i64 0, .slice none 0 0, .slice none 0 0, .slice none 0 0, .slice none 0 0, .slice none 0 0]) ?_ 14 _ rfl; (with_reducible repeat (first | refine blk_drewN ?_ _ | refine blk_drew ?_ | refine blk_alloc ?_ _)); refine blk_put (cs := #[.int .i64 0, .int .i64 0, .int .i64 0, .int .i64 0, .int .i64 0, .slice none 0 0, .int .i64 0, .int .i64 0, .int .i64 0, .int .i64 0, .int .i64 0, .int .i64 0, .slice none 0 0, .slice none 0 0, .slice none 0 0, .slice none 0 0, .slice none 0 0]) ?_ 13 _ rfl; (with_reducible repeat (first | refine blk_drewN ?_ _ | refine blk_drew ?_ | refine blk_alloc ?_ _)); refine blk_put (cs := #[.int .i64 0, .int .i64 0, .int .i64 0, .int .i64 0, .int .i64 0, .slice none 0 0, .int .i64 0, .int .i64 0, .int .i64 0, .int .i64 0, .int .i64 0, .int .i64 0, .slice none 0 0, .slice none 0 0, .slice none 0 0, .slice none 0 0, .slice none 0 0]) ?_ 12 _ rfl; (with_reducible repeat (first | refine blk_drewN ?_ _ | refine blk_drew ?_ | refine blk_alloc ?_ _)); refine blk_put (cs := #[.int .i64 0, .int .i64 0, .int .i64 0, .int .i64 0, .int .i64 0, .slice none 0 0, .int .i64 0, .int .i64 0, .int .i64 0, .int .i64 0, .int .i64 0, .int .i64 0, .slice none 0 0, .slice none 0 0, .slice none 0 0, .slice none 0 0, .slice none 0 0]) ?_ 11 _ rfl; (with_reducible repeat (first | refine blk_drewN ?_ _ | refine blk_drew ?_ | refine blk_alloc ?_ _)); refine blk_put (cs := #[.int .i64 0, .int .i64 0, .int .i64 0, .int .i64 0, .int .i64 0, .slice none 0 0, .int .i64 0, .int .i64 0, .int .i64 0, .int .i64 0, .int .i64 0, .int .i64 0, .slice none 0 0, .slice none 0 0, .slice none 0 0, .slice none 0 0, .slice none 0 0]) ?_ 10 _ rfl; (with_reducible repeat (first | refine blk_drewN ?_ _ | refine blk_drew ?_ | refine blk_alloc ?_ _)); refine blk_put (cs := #[.int .i64 0, .int .i64 0, .int .i64 0, .int .i64 0, .int .i64 0, .slice none 0 0, .int .i64 0, .int .i64 0, .int .i64 0, .int .i64 0, .int .i64 0, .int .i64 0, .slice none 0 0, .slice none 0 0, .slice none 0 0, .slice none 0 0, .slice none 0 0]) ?_ 9 _ rfl; (with_reducible repeat (first | refine blk_drewN ?_ _ | refine blk_drew ?_ | refine blk_alloc ?_ _)); refine blk_put (cs := #[.int .i64 0, .int .i64 0, .int .i64 0, .int .i64 0, .int .i64 0, .slice none 0 0, .int .i64 0, .int .i64 0, .int .i64 0, .int .i64 0, .int .i64 0, .int .i64 0, .slice none 0 0, .slice none 0 0, .slice none 0 0, .slice none 0 0, .slice none 0 0]) ?_ 8 _ rfl; (with_reducible repeat (first | refine blk_drewN ?_ _ | refine blk_drew ?_ | refine blk_alloc ?_ _)); refine blk_put (cs := #[.int .i64 0, .int .i64 0, .int .i64 0, .int .i64 0, .int .i64 0, .slice none 0 0, .int .i64 0, .int .i64 0, .int .i64 0, .int .i64 0, .int .i64 0, .int .i64 0, .slice none 0 0, .slice none 0 0, .slice none 0 0, .slice none 0 0, .slice none 0 0]) ?_ 7 _ rfl; (with_reducible repeat (first | refine blk_drewN ?_ _ | refine blk_drew ?_ | refine blk_alloc ?_ _)); refine blk_put (cs := #[.int .i64 0, .int .i64 0, .int .i64 0, .int .i64 0, .int .i64 0, .slice none 0 0, .int .i64 0, .int .i64 0, .int .i64 0, .int .i64 0, .int .i64 0, .int .i64 0, .slice none 0 0, .slice none 0 0, .slice none 0 0, .slice none 0 0, .slice none 0 0]) ?_ 6 _ rfl; (with_reducible repeat (first | refine blk_drewN ?_ _ | refine blk_drew ?_ | refine blk_alloc ?_ _)); refine blk_put (cs := #[.int .i64 0, .int .i64 0, .int .i64 0, .int .i64 0, .int .i64 0, .slice none 0 0, .int .i64 0, .int .i64 0, .int .i64 0, .int .i64 0, .int .i64 0, .int .i64 0, .slice none 0 0, .slice none 0 0, .slice none 0 0, .slice none 0 0, .slice none 0 0]) ?_ 5 _ rfl; (with_reducible repeat (first | refine blk_drewN ?_ _ | refine blk_drew ?_ | refine blk_alloc ?_ _)); refine blk_put (cs := #[.int .i64 0, .int .i64 0, .int .i64 0, .int .i64 0, .int .i64 0, .slice none 0 0, .int .i64 0, .int .i64 0, .int .i64 0, .int .i64 0, .int .i64 0, .int .i64 0, .slice none 0 0, .slice none 0 0, .slice none 0 0, .slice none 0 0, .slice none 0 0]) ?_ 4 _ rfl; (with_reducible repeat (first | refine blk_drewN ?_ _ | refine blk_drew ?_ | refine blk_alloc ?_ _)); refine blk_put (cs := #[.int .i64 0, .int .i64 0, .int .i64 0, .int .i64 0, .int .i64 0, .slice none 0 0, .int .i64 0, .int .i64 0, .int .i64 0, .int .i64 0, .int .i64 0, .int .i64 0, .slice none 0 0, .slice none 0 0, .slice none 0 0, .slice none 0 0, .slice none 0 0]) ?_ 3 _ rfl; (with_reducible repeat (first | refine blk_drewN ?_ _ | refine blk_drew ?_ | refine blk_alloc ?_ _)); refine blk_put (cs := #[.int .i64 0, .int .i64 0, .int .i64 0, .int .i64 0, .int .i64 0, .slice none 0 0, .int .i64 0, .int .i64 0, .int .i64 0, .int .i64 0, .int .i64 0, .int .i64 0, .slice none 0 0, .slice none 0 0, .slice none 0 0, .slice none 0 0, .slice none 0 0]) ?_ 2 _ rfl; (with_reducible repeat (first | refine blk_drewN ?_ _ | refine blk_drew ?_ | refine blk_alloc ?_ _)); refine blk_put (cs := #[.int .i64 0, .int .i64 0, .int .i64 0, .int .i64 0, .int .i64 0, .slice none 0 0, .int .i64 0, .int .i64 0, .int .i64 0, .int .i64 0, .int .i64 0, .int .i64 0, .slice none 0 0, .slice none 0 0, .slice none 0 0, .slice none 0 0, .slice none 0 0]) ?_ 1 _ rfl; (with_reducible repeat (first | refine blk_drewN ?_ _ | refine blk_drew ?_ | refine blk_alloc ?_ _)); refine blk_put (cs := #[.int .i64 0, .int .i64 0, .int .i64 0, .int .i64 0, .int .i64 0, .slice none 0 0, .int .i64 0, .int .i64 0, .int .i64 0, .int .i64 0, .int .i64 0, .int .i64 0, .slice none 0 0, .slice none 0 0, .slice none 0 0, .slice none 0 0, .slice none 0 0]) ?_ 0 _ rfl; (with_reducible repeat (first | refine blk_drewN ?_ _ | refine blk_drew ?_ | refine blk_alloc ?_ _)); refine blk_far ?_ NB151_173.out _; (with_reducible repeat (first | refine blk_drewN ?_ _ | refine blk_drew ?_ | refine blk_alloc ?_ _)); refine blk_far ?_ NB151_173.out _; (with_reducible repeat (first | refine blk_drewN ?_ _ | refine blk_drew ?_ | refine blk_alloc ?_ _)); refine blk_far ?_ NB151_173.out _; (with_reducible repeat (first | refine blk_drewN ?_ _ | refine blk_drew ?_ | refine blk_alloc ?_ _)); refine blk_far ?_ NB151_173.out _; (with_reducible repeat (first | refine blk_drewN ?_ _ | refine blk_drew ?_ | refine blk_alloc ?_ _)); refine blk_far ?_ NB151_173.out _; (with_reducible repeat (first | refine blk_drewN ?_ _ | refine blk_drew ?_ | refine blk_alloc ?_ _)); refine blk_far ?_ NB151_173.out _; (with_reducible repeat (first | refine blk_drewN ?_ _ | refine blk_drew ?_ | refine blk_alloc ?_ _)); refine blk_far ?_ NB151_173.out _; (with_reducible repeat (first | refine blk_drewN ?_ _ | refine blk_drew ?_ | refine blk_alloc ?_ _)); refine blk_far ?_ NB151_173.out _; (with_reducible repeat (first | refine blk_drewN ?_ _ | refine blk_drew ?_ | refine blk_alloc ?_ _)); refine blk_far ?_ NB151_173.out _; (with_reducible repeat (first | refine blk_drewN ?_ _ | refine blk_drew ?_ | refine blk_alloc ?_ _)); refine blk_far ?_ NB151_173.out _; (with_reducible repeat (first | refine blk_drewN ?_ _ | refine blk_drew ?_ | refine blk_alloc ?_ _)); exact BK151.out) Try.underlying60 rfl (by kernel_rfl)) rfl ?_
    exact ⟨_, _, _, _, _, _, by first | rfl | (simp [errW_none, errW_some] <;> rfl) | (simp [*, errW_none, errW_some] <;> rfl), by first | exact Kd.R_nil _ _ _ _ _ | exact Kd.N_nil _ _ _ _ _ | exact Kd.V_nil _ _ _ _ _ | exact Kd.Q_nil _ _ _ _ _ | exact Kd.S_nil _ _ _ _ _, by first | exact Kd.R_nil _ _ _ _ _ | exact Kd.N_nil _ _ _ _ _ | exact Kd.V_nil _ _ _ _ _ | exact Kd.Q_nil _ _ _ _ _ | exact Kd.S_nil _ _ _ _ _, by first | exact Kd.R_nil _ _ _ _ _ | exact Kd.N_nil _ _ _ _ _ | exact Kd.V_nil _ _ _ _ _ | exact Kd.Q_nil _ _ _ _ _ | exact Kd.S_nil _ _ _ _ _, by first | exact Kd.R_nil _ _ _ _ _ | exact Kd.N_nil _ _ _ _ _ | exact Kd.V_nil _ _ _ _ _ | exact Kd.Q_nil _ _ _ _ _ | exact Kd.S_nil _ _ _ _ _, by first | exact Kd.R_nil _ _ _ _ _ | exact Kd.N_nil _ _ _ _ _ | exact Kd.V_nil _ _ _ _ _ | exact Kd.Q_nil _ _ _ _ _ | exact Kd.S_nil _ _ _ _ _, by first | exact Kd.R_nil _ _ _ _ _ | exact Kd.N_nil _ _ _ _ _ | exact Kd.V_nil _ _ _ _ _ | exact Kd.Q_nil _ _ _ _ _ | exact Kd.S_nil _ _ _ _ _, by repeat (first | (with_reducible first | exact HB.out | apply below_alloc | apply pw_below_drewN | apply below_drew1 | refine below_set ?_ GE150.out | refine below_set ?_ GE151.out | refine below_set ?_ GE173.out) | exact HB.out)⟩

structure R8 where
  A : Option Addr
  C : Nat
  a5 : Option Addr
  a6 : Option Addr
  a7 : Option Addr
  a8 : Option Addr
  a9 : Option Addr
  c5 : Nat
  c6 : Nat
  c7 : Nat
  c8 : Nat
  c9 : Nat
def rc8 (c : S23) (m : Nat) (st : Int) (t : Nat) (q : R8) : Array Value := #[.int .i64 c.f0, .int .i64 c.f1, .int .i64 c.f2, .int .i64 c.f3, .int .i64 c.f4, .slice q.A m q.C, .int .i64 st, .int .i64 c.f0, .int .i64 c.f1, .int .i64 c.f2, .int .i64 c.f3, .int .i64 c.f4, .slice q.a5 t q.c5, .slice q.a6 t q.c6, .slice q.a7 t q.c7, .slice q.a8 0 q.c8, .slice q.a9 0 q.c9]
theorem d8_New (c : S23) (h : Ok c.f0 c.f1 c.f2 c.f3 c.f4) (m : Nat) (hm : (m : Int) = 1 + c.f1 + 2 * (c.f0 * c.f4) + c.f0 * c.f4 + c.f0) (W : World) :
    Calls Try.prog 21 #[.agg #[.int .i64 c.f0, .int .i64 c.f1, .int .i64 c.f2, .int .i64 c.f3, .int .i64 c.f4]] W fun e w' => ∃ q : R8, e = .returned (.tuple #[.agg (rc8 c m 0 c.f0.toNat q), .int .i64 0]) ∧ Kd.R (Kd.int .u64) 25 w' W.heap.size (fun _ => True) (.slice q.A m q.C) (List.replicate m 0) ∧ Below W.heap.size W w' := by
  have ht := bnds h
  have e1 := rmay_eq 0 c.f0 c.f1 c.f2 c.f3 c.f4
  rw [if_pos h] at e1
  have e2 := rlen_eq 0 c.f0 c.f1 c.f2 c.f3 c.f4
  rw [if_pos h, ← hm] at e2
  have e3 : corrieref06_New.f (m : Int) = some (List.replicate m 0, 0) := by
    unfold corrieref06_New.f
    rw [if_neg (by omega), if_neg (by omega), if_pos (by omega), if_pos (by omega)]
    rfl
  refine (corrieref08_New.calls 1 c.f0 c.f1 c.f2 c.f3 c.f4 c.f0 c.f1 c.f2 c.f3 c.f4 (List.replicate m 0) 0 c.f0 c.f1 c.f2 c.f3 c.f4 (List.replicate c.f0.toNat 0) (List.replicate c.f0.toNat 0) (List.replicate c.f0.toNat 0) [] [] 0 W ?_).mono (fun e w' hh => ?_)
  · unfold corrieref08_New.f corrieref07_New.f
    rw [e1, Option.bind_some, if_pos rfl, if_pos (by omega), if_pos (by omega), Option.bind_some, if_pos rfl, e2, Option.bind_some, e3, Option.bind_some]
  · obtain ⟨v5, v6, v7, v8, v9, v10, rfl, h5, h6, h7, h8, h9, h10, hb⟩ := hh
    obtain ⟨A, C, rfl⟩ := Kd.R_slice h5
    obtain ⟨a5, c5, rfl⟩ := Kd.R_slice h6
    obtain ⟨a6, c6, rfl⟩ := Kd.R_slice h7
    obtain ⟨a7, c7, rfl⟩ := Kd.R_slice h8
    obtain ⟨a8, c8, rfl⟩ := Kd.R_slice h9
    obtain ⟨a9, c9, rfl⟩ := Kd.R_slice h10
    simp only [List.length_replicate] at *
    exact ⟨⟨A, C, a5, a6, a7, a8, a9, c5, c6, c7, c8, c9⟩, rfl, h5, hb⟩
theorem d8_New_no (c : S23) (h : ¬ Ok c.f0 c.f1 c.f2 c.f3 c.f4) (W : World) :
    Calls Try.prog 21 #[.agg #[.int .i64 c.f0, .int .i64 c.f1, .int .i64 c.f2, .int .i64 c.f3, .int .i64 c.f4]] W fun e w' => ∃ q : R8, e = .returned (.tuple #[.agg (rc8 ⟨0, 0, 0, 0, 0⟩ 0 0 0 q), .int .i64 1]) ∧ Below W.heap.size W w' := by
  have e1 := rmay_eq 0 c.f0 c.f1 c.f2 c.f3 c.f4
  rw [if_neg h] at e1
  refine (corrieref08_New.calls 1 c.f0 c.f1 c.f2 c.f3 c.f4 0 0 0 0 0 [] 0 0 0 0 0 0 [] [] [] [] [] 1 W ?_).mono (fun e w' hh => ?_)
  · unfold corrieref08_New.f corrieref07_New.f
    rw [e1, Option.bind_some, if_neg (by decide), Option.bind_some, if_neg (by decide)]
  · obtain ⟨v5, v6, v7, v8, v9, v10, rfl, h5, h6, h7, h8, h9, h10, hb⟩ := hh
    obtain ⟨A, C, rfl⟩ := Kd.R_slice h5
    obtain ⟨a5, c5, rfl⟩ := Kd.R_slice h6
    obtain ⟨a6, c6, rfl⟩ := Kd.R_slice h7
    obtain ⟨a7, c7, rfl⟩ := Kd.R_slice h8
    obtain ⟨a8, c8, rfl⟩ := Kd.R_slice h9
    obtain ⟨a9, c9, rfl⟩ := Kd.R_slice h10
    exact ⟨⟨A, C, a5, a6, a7, a8, a9, c5, c6, c7, c8, c9⟩, rfl, hb⟩

/-! ### corrieref05_in: function 85 -/
def corrieref05_in.f (k : Nat) (a0_0 : Int) (a0_1 : Int) (a0_2 : Int) (a0_3 : Int) (a0_4 : Int) (a1 : Int) (a2 : Int) : Option (Bool) := (corrieref04_May.f k a0_0 a0_1 a0_2 a0_3 a0_4).bind fun t180 => (if t180 = 0 then (if a1 ≥ 0 then (some (decide (a1 < a2))) else (some false)) else (some false))
theorem corrieref05_in.mono : ∀ a0 a1 a2 a3 a4 a5 a6 k, LeO (corrieref05_in.f k a0 a1 a2 a3 a4 a5 a6) (corrieref05_in.f (k + 1) a0 a1 a2 a3 a4 a5 a6) := by
  intro a0 a1 a2 a3 a4 a5 a6 k
  unfold corrieref05_in.f
  repeat' first
      | (with_reducible exact corrieref04_May.mono _ _ _ _ _ _)
      | (with_reducible exact LeO.refl _)
      | (with_reducible exact LeO.none _)
      | (with_reducible refine LeO.ite ?_ ?_)
      | (with_reducible refine LeO.bind ?_ (fun _ => ?_))
      | exact corrieref04_May.mono _ _ _ _ _ _
      | exact LeO.none _
      | refine LeO.ite ?_ ?_
      | refine LeO.bind ?_ (fun _ => ?_)
set_option maxHeartbeats 8000000 in
set_option maxRecDepth 100000 in
theorem corrieref05_in.calls (k : Nat) (a0_0 : Int) (a0_1 : Int) (a0_2 : Int) (a0_3 : Int) (a0_4 : Int) (a1 : Int) (a2 : Int) (r : Bool) (w : World) (h : corrieref05_in.f k a0_0 a0_1 a0_2 a0_3 a0_4 a1 a2 = some r) :
    Calls Try.prog 85 #[.agg #[.int .i64 a0_0, .int .i64 a0_1, .int .i64 a0_2, .int .i64 a0_3, .int .i64 a0_4], .int .i64 a1, .int .i64 a2] w fun e w' => e = .returned (.bool r) ∧ Below w.heap.size w w' := by
  have hu23 := Try.underlying23
  have HB := Aside0.mk (Below.refl w.heap.size w)
  have H : ((corrieref04_May.f k a0_0 a0_1 a0_2 a0_3 a0_4).bind fun t180 => (if t180 = 0 then (if a1 ≥ 0 then (some (decide (a1 < a2))) else (some false)) else (some false))) = some r := h
  clear h
  replace H := Option.bind_eq_some_iff.mp H
  obtain ⟨t180, A40, H⟩ := H
  replace H : (if t180 = 0 then (if a1 ≥ 0 then (some (decide (a1 < a2))) else (some false)) else (some false)) = some r := H
  have A4 := Aside0.mk A40
  clear A40
  by_cases c5 : t180 = 0
  · rw [if_pos c5] at H
    have c5b0 : (t180 == 0) = true := beq_iff_eq.mpr c5
    have c5b1 : (t180 != 0) = false := bne_eq_false_iff_eq.mpr c5
    clear c5
    by_cases c6 : a1 ≥ 0
    · rw [if_pos c6] at H
      have c6b0 : decide (0 ≤ a1) = true := decide_eq_true c6
      clear c6
      obtain rfl := Option.some.inj H
      go_enter Try.func85, Try.ntmps85
      go_wp2_with (first | ((with_reducible refine gate_dst (N := 3) rfl ?_); refine box_event ?hg (N := 3) ?hd (cs := #[.int .i64 a0_0, .int .i64 a0_1, .int .i64 a0_2, .int .i64 a0_3, .int .i64 a0_4]) (t := 23) ?hr ?_; (case hd => rfl); (case hg => rfl); (case hr => first | (go_simp; done) | (go_simp; rfl)); intro gb179 hg w7 hbox hb; have n0_ := Aside0.mk (below_step (by repeat (first | (with_reducible first | exact HB.out | apply below_alloc | apply pw_below_drewN | apply below_drew1) | exact HB.out)) hb); have n1_ := Aside0.mk (hbox); have n2_ := Aside0.mk ((by rw [hg]; exact (below_size (by repeat (first | (with_reducible first | exact HB.out | apply below_alloc | apply pw_below_drewN | apply below_drew1) | exact HB.out))) : w.heap.size ≤ gb179)); have n3_ := Aside0.mk ((by rw [hg]; exact (below_size (by repeat (first | (with_reducible first | exact HB.out | apply below_alloc | apply pw_below_drewN | apply below_drew1) | exact HB.out))) : w.heap.size ≤ gb179)); clear HB; have HB := n0_; have BK179 := n1_; have GW179 := n2_; have GE179 := n3_; clear n0_ n1_ n2_ n3_; clear hb hbox hg; have hcz8_0 : w7.cell? ⟨gb179, 0, none⟩ = some (.int .i64 a0_0) := (blk_cell BK179.out 0).trans rfl; have hcz8_1 : w7.cell? ⟨gb179, 1, none⟩ = some (.int .i64 a0_1) := (blk_cell BK179.out 1).trans rfl; have hcz8_2 : w7.cell? ⟨gb179, 2, none⟩ = some (.int .i64 a0_2) := (blk_cell BK179.out 2).trans rfl; have hcz8_3 : w7.cell? ⟨gb179, 3, none⟩ = some (.int .i64 a0_3) := (blk_cell BK179.out 3).trans rfl; have hcz8_4 : w7.cell? ⟨gb179, 4, none⟩ = some (.int .i64 a0_4) := (blk_cell BK179.out 4).trans rfl; have hfz8_0 := blk_frozen BK179.out 0; have hfz8_1 := blk_frozen BK179.out 1; have hfz8_2 := blk_frozen BK179.out 2; have hfz8_3 := blk_frozen BK179.out 3; have hfz8_4 := blk_frozen BK179.out 4) | ((with_reducible refine gate_callee (f := 31) rfl ?_); refine goesL_ (some 8) rfl rfl Try.func31 (by kernel_rfl) rfl #[.agg #[.int .i64 a0_0, .int .i64 a0_1, .int .i64 a0_2, .int .i64 a0_3, .int .i64 a0_4]] rfl (by (try simp only [List.map_toArray, List.map_cons, List.map_nil]); first | done | rfl | (simp only [List.length_drop, List.length_take]; rfl)) ?_; (with_reducible refine (corrieref04_May.calls k a0_0 a0_1 a0_2 a0_3 a0_4 t180 _ A4.out).mono ?_); rintro e w9 ⟨rfl, hb⟩; refine ⟨_, rfl, ?_⟩; have n0_ := Aside0.mk (blk_below (g := gb179) (o := .cells #[.int .i64 a0_0, .int .i64 a0_1, .int .i64 a0_2, .int .i64 a0_3, .int .i64 a0_4] 23 (0, 0)) (by (with_reducible repeat (first | refine blk_drewN ?_ _ | refine blk_drew ?_ | refine blk_alloc ?_ _)); exact BK179.out) hb); have n1_ := Aside0.mk (below_step (by repeat (first | (with_reducible first | exact HB.out | apply below_alloc | apply pw_below_drewN | apply below_drew1 | refine below_set ?_ GE179.out) | exact HB.out)) hb); clear BK179; clear HB; have BK179 := n0_; have HB := n1_; clear n0_ n1_; (try clear hb); (try clear hb2); (try clear hk); (try clear hi)))
      go_ret
      exact ⟨by first | rfl | (simp [errW_none, errW_some] <;> rfl) | (simp [*, errW_none, errW_some] <;> rfl), by repeat (first | (with_reducible first | exact HB.out | apply below_alloc | apply pw_below_drewN | apply below_drew1 | refine below_set ?_ GE179.out) | exact HB.out)⟩
    · rw [if_neg c6] at H
      have c6b0 : decide (0 ≤ a1) = false := decide_eq_false c6
      clear c6
      obtain rfl := Option.some.inj H
      go_enter Try.func85, Try.ntmps85
      go_wp2_with (first | ((with_reducible refine gate_dst (N := 3) rfl ?_); refine box_event ?hg (N := 3) ?hd (cs := #[.int .i64 a0_0, .int .i64 a0_1, .int .i64 a0_2, .int .i64 a0_3, .int .i64 a0_4]) (t := 23) ?hr ?_; (case hd => rfl); (case hg => rfl); (case hr => first | (go_simp; done) | (go_simp; rfl)); intro gb179 hg w10 hbox hb; have n0_ := Aside0.mk (below_step (by repeat (first | (with_reducible first | exact HB.out | apply below_alloc | apply pw_below_drewN | apply below_drew1) | exact HB.out)) hb); have n1_ := Aside0.mk (hbox); have n2_ := Aside0.mk ((by rw [hg]; exact (below_size (by repeat (first | (with_reducible first | exact HB.out | apply below_alloc | apply pw_below_drewN | apply below_drew1) | exact HB.out))) : w.heap.size ≤ gb179)); have n3_ := Aside0.mk ((by rw [hg]; exact (below_size (by repeat (first | (with_reducible first | exact HB.out | apply below_alloc | apply pw_below_drewN | apply below_drew1) | exact HB.out))) : w.heap.size ≤ gb179)); clear HB; have HB := n0_; have BK179 := n1_; have GW179 := n2_; have GE179 := n3_; clear n0_ n1_ n2_ n3_; clear hb hbox hg; have hcz11_0 : w10.cell? ⟨gb179, 0, none⟩ = some (.int .i64 a0_0) := (blk_cell BK179.out 0).trans rfl; have hcz11_1 : w10.cell? ⟨gb179, 1, none⟩ = some (.int .i64 a0_1) := (blk_cell BK179.out 1).trans rfl; have hcz11_2 : w10.cell? ⟨gb179, 2, none⟩ = some (.int .i64 a0_2) := (blk_cell BK179.out 2).trans rfl; have hcz11_3 : w10.cell? ⟨gb179, 3, none⟩ = some (.int .i64 a0_3) := (blk_cell BK179.out 3).trans rfl; have hcz11_4 : w10.cell? ⟨gb179, 4, none⟩ = some (.int .i64 a0_4) := (blk_cell BK179.out 4).trans rfl; have hfz11_0 := blk_frozen BK179.out 0; have hfz11_1 := blk_frozen BK179.out 1; have hfz11_2 := blk_frozen BK179.out 2; have hfz11_3 := blk_frozen BK179.out 3; have hfz11_4 := blk_frozen BK179.out 4) | ((with_reducible refine gate_callee (f := 31) rfl ?_); refine goesL_ (some 8) rfl rfl Try.func31 (by kernel_rfl) rfl #[.agg #[.int .i64 a0_0, .int .i64 a0_1, .int .i64 a0_2, .int .i64 a0_3, .int .i64 a0_4]] rfl (by (try simp only [List.map_toArray, List.map_cons, List.map_nil]); first | done | rfl | (simp only [List.length_drop, List.length_take]; rfl)) ?_; (with_reducible refine (corrieref04_May.calls k a0_0 a0_1 a0_2 a0_3 a0_4 t180 _ A4.out).mono ?_); rintro e w12 ⟨rfl, hb⟩; refine ⟨_, rfl, ?_⟩; have n0_ := Aside0.mk (blk_below (g := gb179) (o := .cells #[.int .i64 a0_0, .int .i64 a0_1, .int .i64 a0_2, .int .i64 a0_3, .int .i64 a0_4] 23 (0, 0)) (by (with_reducible repeat (first | refine blk_drewN ?_ _ | refine blk_drew ?_ | refine blk_alloc ?_ _)); exact BK179.out) hb); have n1_ := Aside0.mk (below_step (by repeat (first | (with_reducible first | exact HB.out | apply below_alloc | apply pw_below_drewN | apply below_drew1 | refine below_set ?_ GE179.out) | exact HB.out)) hb); clear BK179; clear HB; have BK179 := n0_; have HB := n1_; clear n0_ n1_; (try clear hb); (try clear hb2); (try clear hk); (try clear hi)))
      go_ret
      exact ⟨by first | rfl | (simp [errW_none, errW_some] <;> rfl) | (simp [*, errW_none, errW_some] <;> rfl), by repeat (first | (with_reducible first | exact HB.out | apply below_alloc | apply pw_below_drewN | apply below_drew1 | refine below_set ?_ GE179.out) | exact HB.out)⟩
  · rw [if_neg c5] at H
    have c5b0 : (t180 == 0) = false := beq_eq_false_iff_ne.mpr c5
    have c5b1 : (t180 != 0) = true := bne_iff_ne.mpr c5
    obtain rfl := Option.some.inj H
    go_enter Try.func85, Try.ntmps85
    go_wp2_with (first | ((with_reducible refine gate_dst (N := 3) rfl ?_); refine box_event ?hg (N := 3) ?hd (cs := #[.int .i64 a0_0, .int .i64 a0_1, .int .i64 a0_2, .int .i64 a0_3, .int .i64 a0_4]) (t := 23) ?hr ?_; (case hd => rfl); (case hg => rfl); (case hr => first | (go_simp; done) | (go_simp; rfl)); intro gb179 hg w13 hbox hb; have n0_ := Aside0.mk (below_step (by repeat (first | (with_reducible first | exact HB.out | apply below_alloc | apply pw_below_drewN | apply below_drew1) | exact HB.out)) hb); have n1_ := Aside0.mk (hbox); have n2_ := Aside0.mk ((by rw [hg]; exact (below_size (by repeat (first | (with_reducible first | exact HB.out | apply below_alloc | apply pw_below_drewN | apply below_drew1) | exact HB.out))) : w.heap.size ≤ gb179)); have n3_ := Aside0.mk ((by rw [hg]; exact (below_size (by repeat (first | (with_reducible first | exact HB.out | apply below_alloc | apply pw_below_drewN | apply below_drew1) | exact HB.out))) : w.heap.size ≤ gb179)); clear HB; have HB := n0_; have BK179 := n1_; have GW179 := n2_; have GE179 := n3_; clear n0_ n1_ n2_ n3_; clear hb hbox hg; have hcz14_0 : w13.cell? ⟨gb179, 0, none⟩ = some (.int .i64 a0_0) := (blk_cell BK179.out 0).trans rfl; have hcz14_1 : w13.cell? ⟨gb179, 1, none⟩ = some (.int .i64 a0_1) := (blk_cell BK179.out 1).trans rfl; have hcz14_2 : w13.cell? ⟨gb179, 2, none⟩ = some (.int .i64 a0_2) := (blk_cell BK179.out 2).trans rfl; have hcz14_3 : w13.cell? ⟨gb179, 3, none⟩ = some (.int .i64 a0_3) := (blk_cell BK179.out 3).trans rfl; have hcz14_4 : w13.cell? ⟨gb179, 4, none⟩ = some (.int .i64 a0_4) := (blk_cell BK179.out 4).trans rfl; have hfz14_0 := blk_frozen BK179.out 0; have hfz14_1 := blk_frozen BK179.out 1; have hfz14_2 := blk_frozen BK179.out 2; have hfz14_3 := blk_frozen BK179.out 3; have hfz14_4 := blk_frozen BK179.out 4) | ((with_reducible refine gate_callee (f := 31) rfl ?_); refine goesL_ (some 8) rfl rfl Try.func31 (by kernel_rfl) rfl #[.agg #[.int .i64 a0_0, .int .i64 a0_1, .int .i64 a0_2, .int .i64 a0_3, .int .i64 a0_4]] rfl (by (try simp only [List.map_toArray, List.map_cons, List.map_nil]); first | done | rfl | (simp only [List.length_drop, List.length_take]; rfl)) ?_; (with_reducible refine (corrieref04_May.calls k a0_0 a0_1 a0_2 a0_3 a0_4 t180 _ A4.out).mono ?_); rintro e w15 ⟨rfl, hb⟩; refine ⟨_, rfl, ?_⟩; have n0_ := Aside0.mk (blk_below (g := gb179) (o := .cells #[.int .i64 a0_0, .int .i64 a0_1, .int .i64 a0_2, .int .i64 a0_3, .int .i64 a0_4] 23 (0, 0)) (by (with_reducible repeat (first | refine blk_drewN ?_ _ | refine blk_drew ?_ | refine blk_alloc ?_ _)); exact BK179.out) hb); have n1_ := Aside0.mk (below_step (by repeat (first | (with_reducible first | exact HB.out | apply below_alloc | apply pw_below_drewN | apply below_drew1 | refine below_set ?_ GE179.out) | exact HB.out)) hb); clear BK179; clear HB; have BK179 := n0_; have HB := n1_; clear n0_ n1_; (try clear hb); (try clear hb2); (try clear hk); (try clear hi)))
    go_ret
    exact ⟨by first | rfl | (simp [errW_none, errW_some] <;> rfl) | (simp [*, errW_none, errW_some] <;> rfl), by repeat (first | (with_reducible first | exact HB.out | apply below_alloc | apply pw_below_drewN | apply below_drew1 | refine below_set ?_ GE179.out) | exact HB.out)⟩

theorem in_eq (k : Nat) (t b i f c n top : Int) : corrieref05_in.f (k + 1) t b i f c n top = some (decide (Ok t b i f c ∧ 0 ≤ n ∧ n < top)) := by
  unfold corrieref05_in.f
  rw [rmay_eq]
  simp only [Option.bind_some]
  by_cases h : Ok t b i f c
  · simp only [if_pos h, if_true]
    by_cases g : n ≥ 0
    · rw [if_pos g]; congr 1; rw [Bool.eq_iff_iff]; simp [h]; omega
    · rw [if_neg g]; congr 1; symm; rw [decide_eq_false_iff_not]; intro hh; omega
  · simp only [if_neg h]
    rw [if_neg (by decide)]; congr 1; symm; rw [decide_eq_false_iff_not]; intro hh; exact h hh.1

/-! ### corrieref05_Head: function 53 -/
def corrieref05_Head.f (k : Nat) (a0_0 : Int) (a0_1 : Int) (a0_2 : Int) (a0_3 : Int) (a0_4 : Int) (a1 : Int) : Option (Int) := (corrieref05_in.f k a0_0 a0_1 a0_2 a0_3 a0_4 a1 a0_1).bind fun t182 => (if t182 = true then (some (wrap64 (1 + a1))) else (some (-1)))
theorem corrieref05_Head.mono : ∀ a0 a1 a2 a3 a4 a5 k, LeO (corrieref05_Head.f k a0 a1 a2 a3 a4 a5) (corrieref05_Head.f (k + 1) a0 a1 a2 a3 a4 a5) := by
  intro a0 a1 a2 a3 a4 a5 k
  unfold corrieref05_Head.f
  repeat' first
      | (with_reducible exact corrieref05_in.mono _ _ _ _ _ _ _ _)
      | (with_reducible exact LeO.refl _)
      | (with_reducible exact LeO.none _)
      | (with_reducible refine LeO.ite ?_ ?_)
      | (with_reducible refine LeO.bind ?_ (fun _ => ?_))
      | exact corrieref05_in.mono _ _ _ _ _ _ _ _
      | exact LeO.none _
      | refine LeO.ite ?_ ?_
      | refine LeO.bind ?_ (fun _ => ?_)
set_option maxHeartbeats 8000000 in
set_option maxRecDepth 100000 in
theorem corrieref05_Head.calls (k : Nat) (a0_0 : Int) (a0_1 : Int) (a0_2 : Int) (a0_3 : Int) (a0_4 : Int) (a1 : Int) (r : Int) (w : World) (h : corrieref05_Head.f k a0_0 a0_1 a0_2 a0_3 a0_4 a1 = some r) :
    Calls Try.prog 53 #[.agg #[.int .i64 a0_0, .int .i64 a0_1, .int .i64 a0_2, .int .i64 a0_3, .int .i64 a0_4], .int .i64 a1] w fun e w' => e = .returned (.int .i64 r) ∧ Below w.heap.size w w' := by
  have hu23 := Try.underlying23
  have HB := Aside0.mk (Below.refl w.heap.size w)
  have H : ((corrieref05_in.f k a0_0 a0_1 a0_2 a0_3 a0_4 a1 a0_1).bind fun t182 => (if t182 = true then (some (wrap64 (1 + a1))) else (some (-1)))) = some r := h
  clear h
  replace H := Option.bind_eq_some_iff.mp H
  obtain ⟨t182, A30, H⟩ := H
  replace H : (if t182 = true then (some (wrap64 (1 + a1))) else (some (-1))) = some r := H
  have A3 := Aside0.mk A30
  clear A30
  by_cases c4 : t182 = true
  · subst c4
    have H1 : (some (wrap64 (1 + a1))) = some r := by rw [if_pos rfl] at H; exact H
    clear H
    have H := H1
    clear H1
    obtain rfl := Option.some.inj H
    go_enter Try.func53, Try.ntmps53
    go_wp2_with (first | ((with_reducible refine gate_dst (N := 2) rfl ?_); refine box_event ?hg (N := 2) ?hd (cs := #[.int .i64 a0_0, .int .i64 a0_1, .int .i64 a0_2, .int .i64 a0_3, .int .i64 a0_4]) (t := 23) ?hr ?_; (case hd => rfl); (case hg => rfl); (case hr => first | (go_simp; done) | (go_simp; rfl)); intro gb181 hg w5 hbox hb; have n0_ := Aside0.mk (below_step (by repeat (first | (with_reducible first | exact HB.out | apply below_alloc | apply pw_below_drewN | apply below_drew1) | exact HB.out)) hb); have n1_ := Aside0.mk (hbox); have n2_ := Aside0.mk ((by rw [hg]; exact (below_size (by repeat (first | (with_reducible first | exact HB.out | apply below_alloc | apply pw_below_drewN | apply below_drew1) | exact HB.out))) : w.heap.size ≤ gb181)); have n3_ := Aside0.mk ((by rw [hg]; exact (below_size (by repeat (first | (with_reducible first | exact HB.out | apply below_alloc | apply pw_below_drewN | apply below_drew1) | exact HB.out))) : w.heap.size ≤ gb181)); clear HB; have HB := n0_; have BK181 := n1_; have GW181 := n2_; have GE181 := n3_; clear n0_ n1_ n2_ n3_; clear hb hbox hg; have hcz6_0 : w5.cell? ⟨gb181, 0, none⟩ = some (.int .i64 a0_0) := (blk_cell BK181.out 0).trans rfl; have hcz6_1 : w5.cell? ⟨gb181, 1, none⟩ = some (.int .i64 a0_1) := (blk_cell BK181.out 1).trans rfl; have hcz6_2 : w5.cell? ⟨gb181, 2, none⟩ = some (.int .i64 a0_2) := (blk_cell BK181.out 2).trans rfl; have hcz6_3 : w5.cell? ⟨gb181, 3, none⟩ = some (.int .i64 a0_3) := (blk_cell BK181.out 3).trans rfl; have hcz6_4 : w5.cell? ⟨gb181, 4, none⟩ = some (.int .i64 a0_4) := (blk_cell BK181.out 4).trans rfl; have hfz6_0 := blk_frozen BK181.out 0; have hfz6_1 := blk_frozen BK181.out 1; have hfz6_2 := blk_frozen BK181.out 2; have hfz6_3 := blk_frozen BK181.out 3; have hfz6_4 := blk_frozen BK181.out 4) | ((with_reducible refine gate_callee (f := 85) rfl ?_); refine goesL_ (some 9) rfl rfl Try.func85 (by kernel_rfl) rfl #[.agg #[.int .i64 a0_0, .int .i64 a0_1, .int .i64 a0_2, .int .i64 a0_3, .int .i64 a0_4], .int .i64 a1, .int .i64 a0_1] rfl (by (try simp only [List.map_toArray, List.map_cons, List.map_nil]); first | done | rfl | (simp only [List.length_drop, List.length_take]; rfl)) ?_; (with_reducible refine (corrieref05_in.calls k a0_0 a0_1 a0_2 a0_3 a0_4 a1 a0_1 true _ A3.out).mono ?_); rintro e w7 ⟨rfl, hb⟩; refine ⟨_, rfl, ?_⟩; have n0_ := Aside0.mk (blk_below (g := gb181) (o := .cells #[.int .i64 a0_0, .int .i64 a0_1, .int .i64 a0_2, .int .i64 a0_3, .int .i64 a0_4] 23 (0, 0)) (by (with_reducible repeat (first | refine blk_drewN ?_ _ | refine blk_drew ?_ | refine blk_alloc ?_ _)); exact BK181.out) hb); have n1_ := Aside0.mk (below_step (by repeat (first | (with_reducible first | exact HB.out | apply below_alloc | apply pw_below_drewN | apply below_drew1 | refine below_set ?_ GE181.out) | exact HB.out)) hb); clear BK181; clear HB; have BK181 := n0_; have HB := n1_; clear n0_ n1_; (try clear hb); (try clear hb2); (try clear hk); (try clear hi)))
    go_ret
    exact ⟨by first | rfl | (simp [errW_none, errW_some] <;> rfl) | (simp [*, errW_none, errW_some] <;> rfl), by repeat (first | (with_reducible first | exact HB.out | apply below_alloc | apply pw_below_drewN | apply below_drew1 | refine below_set ?_ GE181.out) | exact HB.out)⟩
  · replace c4 := Bool.eq_false_iff.mpr c4
    subst c4
    have H1 : (some (-1)) = some r := by rw [if_neg (show ¬ (false = true) by decide)] at H; exact H
    clear H
    have H := H1
    clear H1
    obtain rfl := Option.some.inj H
    go_enter Try.func53, Try.ntmps53
    go_wp2_with (first | ((with_reducible refine gate_dst (N := 2) rfl ?_); refine box_event ?hg (N := 2) ?hd (cs := #[.int .i64 a0_0, .int .i64 a0_1, .int .i64 a0_2, .int .i64 a0_3, .int .i64 a0_4]) (t := 23) ?hr ?_; (case hd => rfl); (case hg => rfl); (case hr => first | (go_simp; done) | (go_simp; rfl)); intro gb181 hg w8 hbox hb; have n0_ := Aside0.mk (below_step (by repeat (first | (with_reducible first | exact HB.out | apply below_alloc | apply pw_below_drewN | apply below_drew1) | exact HB.out)) hb); have n1_ := Aside0.mk (hbox); have n2_ := Aside0.mk ((by rw [hg]; exact (below_size (by repeat (first | (with_reducible first | exact HB.out | apply below_alloc | apply pw_below_drewN | apply below_drew1) | exact HB.out))) : w.heap.size ≤ gb181)); have n3_ := Aside0.mk ((by rw [hg]; exact (below_size (by repeat (first | (with_reducible first | exact HB.out | apply below_alloc | apply pw_below_drewN | apply below_drew1) | exact HB.out))) : w.heap.size ≤ gb181)); clear HB; have HB := n0_; have BK181 := n1_; have GW181 := n2_; have GE181 := n3_; clear n0_ n1_ n2_ n3_; clear hb hbox hg; have hcz9_0 : w8.cell? ⟨gb181, 0, none⟩ = some (.int .i64 a0_0) := (blk_cell BK181.out 0).trans rfl; have hcz9_1 : w8.cell? ⟨gb181, 1, none⟩ = some (.int .i64 a0_1) := (blk_cell BK181.out 1).trans rfl; have hcz9_2 : w8.cell? ⟨gb181, 2, none⟩ = some (.int .i64 a0_2) := (blk_cell BK181.out 2).trans rfl; have hcz9_3 : w8.cell? ⟨gb181, 3, none⟩ = some (.int .i64 a0_3) := (blk_cell BK181.out 3).trans rfl; have hcz9_4 : w8.cell? ⟨gb181, 4, none⟩ = some (.int .i64 a0_4) := (blk_cell BK181.out 4).trans rfl; have hfz9_0 := blk_frozen BK181.out 0; have hfz9_1 := blk_frozen BK181.out 1; have hfz9_2 := blk_frozen BK181.out 2; have hfz9_3 := blk_frozen BK181.out 3; have hfz9_4 := blk_frozen BK181.out 4) | ((with_reducible refine gate_callee (f := 85) rfl ?_); refine goesL_ (some 9) rfl rfl Try.func85 (by kernel_rfl) rfl #[.agg #[.int .i64 a0_0, .int .i64 a0_1, .int .i64 a0_2, .int .i64 a0_3, .int .i64 a0_4], .int .i64 a1, .int .i64 a0_1] rfl (by (try simp only [List.map_toArray, List.map_cons, List.map_nil]); first | done | rfl | (simp only [List.length_drop, List.length_take]; rfl)) ?_; (with_reducible refine (corrieref05_in.calls k a0_0 a0_1 a0_2 a0_3 a0_4 a1 a0_1 false _ A3.out).mono ?_); rintro e w10 ⟨rfl, hb⟩; refine ⟨_, rfl, ?_⟩; have n0_ := Aside0.mk (blk_below (g := gb181) (o := .cells #[.int .i64 a0_0, .int .i64 a0_1, .int .i64 a0_2, .int .i64 a0_3, .int .i64 a0_4] 23 (0, 0)) (by (with_reducible repeat (first | refine blk_drewN ?_ _ | refine blk_drew ?_ | refine blk_alloc ?_ _)); exact BK181.out) hb); have n1_ := Aside0.mk (below_step (by repeat (first | (with_reducible first | exact HB.out | apply below_alloc | apply pw_below_drewN | apply below_drew1 | refine below_set ?_ GE181.out) | exact HB.out)) hb); clear BK181; clear HB; have BK181 := n0_; have HB := n1_; clear n0_ n1_; (try clear hb); (try clear hb2); (try clear hk); (try clear hi)))
    go_ret
    exact ⟨by first | rfl | (simp [errW_none, errW_some] <;> rfl) | (simp [*, errW_none, errW_some] <;> rfl), by repeat (first | (with_reducible first | exact HB.out | apply below_alloc | apply pw_below_drewN | apply below_drew1 | refine below_set ?_ GE181.out) | exact HB.out)⟩

theorem rhead_eq (k : Nat) (t b i f c n : Int) : corrieref05_Head.f (k + 1) t b i f c n = some (if Ok t b i f c ∧ 0 ≤ n ∧ n < b then 1 + n else -1) := by
  unfold corrieref05_Head.f
  simp only [Option.bind_some, in_eq]
  by_cases h : Ok t b i f c
  · have hb := bnds h
    simp only [h, true_and, decide_eq_true_eq]
    split
    · rw [wrap64_eq (by omega) (by omega)]
    · rfl
  · simp only [h, false_and, if_false, decide_false, Bool.false_eq_true]

/-! ### corrieref03_Bucket: function 54 -/
def corrieref03_Bucket.l0 : Nat → Int → Int → Int → Option (Int)
  | 0, _, _, _ => none
  | k + 1, x5, x6, x7 => if x7 > 1 then (if x5 ≥ 9223372036854775808 then (corrieref03_Bucket.l0 k (IntKind.u64.wrap (2 * x5)) (wrap64 ((wrap64 (2 * x6)) + 1)) (wrap64 (Int.tdiv x7 2))) else (corrieref03_Bucket.l0 k (IntKind.u64.wrap (2 * x5)) (wrap64 (2 * x6)) (wrap64 (Int.tdiv x7 2)))) else (some x6)
def corrieref03_Bucket.f (k : Nat) (a0 : Int) (a1 : Int) : Option (Int) := (corrieref03_May.f a1).bind fun t183 => (if t183 = true then (corrieref03_Bucket.l0 k (IntKind.u64.wrap (a0 * 11400714819323198485)) 0 a1) else (some 0))
theorem corrieref03_Bucket.mono_l : ∀ k, (∀ y0 y1 y2, LeO (corrieref03_Bucket.l0 k y0 y1 y2) (corrieref03_Bucket.l0 (k + 1) y0 y1 y2))
  | 0 => fun _ _ _ r h => by simp [corrieref03_Bucket.l0] at h
  | k + 1 => by
    have ih0 := corrieref03_Bucket.mono_l k
    · intro y0 y1 y2
      unfold corrieref03_Bucket.l0
      repeat' first
      | (with_reducible exact ih0 _ _ _)
      | (with_reducible exact LeO.refl _)
      | (with_reducible exact LeO.none _)
      | (with_reducible refine LeO.ite ?_ ?_)
      | (with_reducible refine LeO.bind ?_ (fun _ => ?_))
      | exact ih0 _ _ _
      | exact LeO.none _
      | refine LeO.ite ?_ ?_
      | refine LeO.bind ?_ (fun _ => ?_)
theorem corrieref03_Bucket.mono : ∀ a0 a1 k, LeO (corrieref03_Bucket.f k a0 a1) (corrieref03_Bucket.f (k + 1) a0 a1) := by
  intro a0 a1 k
  have ih0 := corrieref03_Bucket.mono_l k
  unfold corrieref03_Bucket.f
  repeat' first
      | (with_reducible exact ih0 _ _ _)
      | (with_reducible exact LeO.refl _)
      | (with_reducible exact LeO.none _)
      | (with_reducible refine LeO.ite ?_ ?_)
      | (with_reducible refine LeO.bind ?_ (fun _ => ?_))
      | exact ih0 _ _ _
      | exact LeO.none _
      | refine LeO.ite ?_ ?_
      | refine LeO.bind ?_ (fun _ => ?_)
set_option maxHeartbeats 8000000 in
set_option maxRecDepth 100000 in
theorem corrieref03_Bucket.calls (k : Nat) (a0 : Int) (a1 : Int) (r : Int) (w : World) (h : corrieref03_Bucket.f k a0 a1 = some r) :
    Calls Try.prog 54 #[.int .u64 a0, .int .i64 a1] w fun e w' => e = .returned (.int .i64 r) ∧ Drawn0 w w' := by
  have H : ((corrieref03_May.f a1).bind fun t183 => (if t183 = true then (corrieref03_Bucket.l0 k (IntKind.u64.wrap (a0 * 11400714819323198485)) 0 a1) else (some 0))) = some r := h
  clear h
  replace H := Option.bind_eq_some_iff.mp H
  obtain ⟨t183, A30, H⟩ := H
  replace H : (if t183 = true then (corrieref03_Bucket.l0 k (IntKind.u64.wrap (a0 * 11400714819323198485)) 0 a1) else (some 0)) = some r := H
  have A3 := Aside0.mk A30
  clear A30
  by_cases c4 : t183 = true
  · subst c4
    have H1 : (corrieref03_Bucket.l0 k (IntKind.u64.wrap (a0 * 11400714819323198485)) 0 a1) = some r := by rw [if_pos rfl] at H; exact H
    clear H
    have H := H1
    clear H1
    have H' := Aside0.mk H
    clear H
    go_enter Try.func54, Try.ntmps54
    go_wp2_with (first | ((with_reducible refine gate_callee (f := 65) rfl ?_); refine goesL_ (some 9) rfl rfl Try.func65 (by kernel_rfl) rfl #[.int .i64 a1] rfl (by (try simp only [List.map_toArray, List.map_cons, List.map_nil]); first | done | rfl | (simp only [List.length_drop, List.length_take]; rfl)) ?_; (with_reducible refine (corrieref03_May.calls a1 true _ A3.out).mono ?_); rintro e w' ⟨rfl, ⟨nd, rfl⟩⟩; refine ⟨_, rfl, ?_⟩))
    go_loopg [5, 6, 7] k (fun kq v5 v6 v7 w' => ∃ (x5_1 : Int) (x6_1 : Int) (x7_1 : Int), v5 = .int .u64 x5_1 ∧ v6 = .int .i64 x6_1 ∧ v7 = .int .i64 x7_1 ∧ Aside0 (corrieref03_Bucket.l0 kq x5_1 x6_1 x7_1 = some r) ∧ Aside0 (kq ≤ k) ∧ Drawn0 w w')
    case atStart => exact ⟨(IntKind.u64.wrap (a0 * 11400714819323198485)), (0), (a1), (by first | rfl | (simp; done) | (simp [*]; done)), (by first | rfl | (simp; done) | (simp [*]; done)), (by first | rfl | (simp; done) | (simp [*]; done)), H', ⟨Nat.le_refl _⟩, by repeat (first | exact Drawn0.refl _ | apply Drawn0.step)⟩
    case round =>
      clear H'
      try clear p2
      try clear c4
      obtain ⟨x5_1, x6_1, x7_1, rfl, rfl, rfl, HA, HK1, ⟨m1, rfl⟩⟩ := hrel
      cases gk with
      | zero => exact absurd HA.out (by simp [corrieref03_Bucket.l0])
      | succ k1 =>
        have H := HA.out
        clear HA
        simp only [corrieref03_Bucket.l0] at H
        by_cases c5 : x7_1 > 1
        · rw [if_pos c5] at H
          have c5b0 : decide (1 < x7_1) = true := decide_eq_true c5
          clear c5
          by_cases c6 : x5_1 ≥ 9223372036854775808
          · rw [if_pos c6] at H
            have c6b0 : decide (9223372036854775808 ≤ x5_1) = true := decide_eq_true c6
            clear c6
            have H' := Aside0.mk H
            clear H
            go_wp2
            go_roundg k1
            case measure => have := HK1.out; omega
            case rel => exact ⟨(IntKind.u64.wrap (2 * x5_1)), (wrap64 ((wrap64 (2 * x6_1)) + 1)), (wrap64 (Int.tdiv x7_1 2)), (by first | rfl | (simp; done) | (simp [*]; done)), (by first | rfl | (simp; done) | (simp [*]; done)), (by first | rfl | (simp; done) | (simp [*]; done)), H', ⟨by have := HK1.out; omega⟩, by repeat (first | exact Drawn0.refl _ | apply Drawn0.step)⟩
          · rw [if_neg c6] at H
            have c6b0 : decide (9223372036854775808 ≤ x5_1) = false := decide_eq_false c6
            clear c6
            have H' := Aside0.mk H
            clear H
            go_wp2
            go_roundg k1
            case measure => have := HK1.out; omega
            case rel => exact ⟨(IntKind.u64.wrap (2 * x5_1)), (wrap64 (2 * x6_1)), (wrap64 (Int.tdiv x7_1 2)), (by first | rfl | (simp; done) | (simp [*]; done)), (by first | rfl | (simp; done) | (simp [*]; done)), (by first | rfl | (simp; done) | (simp [*]; done)), H', ⟨by have := HK1.out; omega⟩, by repeat (first | exact Drawn0.refl _ | apply Drawn0.step)⟩
        · rw [if_neg c5] at H
          have c5b0 : decide (1 < x7_1) = false := decide_eq_false c5
          clear c5
          obtain rfl := Option.some.inj H
          go_wp2
          go_ret
          exact ⟨by first | rfl | (simp; done) | (simp [*]; done), by repeat (first | exact Drawn0.refl _ | apply Drawn0.step)⟩
  · replace c4 := Bool.eq_false_iff.mpr c4
    subst c4
    have H1 : (some 0) = some r := by rw [if_neg (show ¬ (false = true) by decide)] at H; exact H
    clear H
    have H := H1
    clear H1
    obtain rfl := Option.some.inj H
    go_enter Try.func54, Try.ntmps54
    go_wp2_with (first | ((with_reducible refine gate_callee (f := 65) rfl ?_); refine goesL_ (some 9) rfl rfl Try.func65 (by kernel_rfl) rfl #[.int .i64 a1] rfl (by (try simp only [List.map_toArray, List.map_cons, List.map_nil]); first | done | rfl | (simp only [List.length_drop, List.length_take]; rfl)) ?_; (with_reducible refine (corrieref03_May.calls a1 false _ A3.out).mono ?_); rintro e w' ⟨rfl, ⟨nd, rfl⟩⟩; refine ⟨_, rfl, ?_⟩))
    go_ret
    exact ⟨by first | rfl | (simp; done) | (simp [*]; done), by repeat (first | exact Drawn0.refl _ | apply Drawn0.step)⟩

/-! ### corrieref08_Head: function 23 -/
def corrieref08_Head.f (k : Nat) (a0_0 : Int) (a0_1 : Int) (a0_2 : Int) (a0_3 : Int) (a0_4 : Int) (l0_5 : List Int) (a0_6 : Int) (a0_7 : Int) (a0_8 : Int) (a0_9 : Int) (a0_10 : Int) (a0_11 : Int) (l0_12 : List Int) (l0_13 : List Int) (l0_14 : List Int) (l0_15 : List (S161)) (l0_16 : List (S163)) (a1 : Int) : Option (Int) := (corrieref03_Bucket.f k a1 a0_1).bind fun t185 => ((corrieref05_Head.f k a0_0 a0_1 a0_2 a0_3 a0_4 t185).bind fun t186 => (some t186))
theorem corrieref08_Head.mono : ∀ a0 a1 a2 a3 a4 a5 a6 a7 a8 a9 a10 a11 a12 a13 a14 a15 a16 a17 k, LeO (corrieref08_Head.f k a0 a1 a2 a3 a4 a5 a6 a7 a8 a9 a10 a11 a12 a13 a14 a15 a16 a17) (corrieref08_Head.f (k + 1) a0 a1 a2 a3 a4 a5 a6 a7 a8 a9 a10 a11 a12 a13 a14 a15 a16 a17) := by
  intro a0 a1 a2 a3 a4 a5 a6 a7 a8 a9 a10 a11 a12 a13 a14 a15 a16 a17 k
  unfold corrieref08_Head.f
  repeat' first
      | (with_reducible exact corrieref03_Bucket.mono _ _ _)
      | (with_reducible exact corrieref05_Head.mono _ _ _ _ _ _ _)
      | (with_reducible exact LeO.refl _)
      | (with_reducible exact LeO.none _)
      | (with_reducible refine LeO.ite ?_ ?_)
      | (with_reducible refine LeO.bind ?_ (fun _ => ?_))
      | exact corrieref03_Bucket.mono _ _ _
      | exact corrieref05_Head.mono _ _ _ _ _ _ _
      | exact LeO.none _
      | refine LeO.ite ?_ ?_
      | refine LeO.bind ?_ (fun _ => ?_)
def corrieref08_Head.T1 : Bool × List (List Nat × List Nat) := (true, [([], []), ([0], [0]), ([], []), ([], []), ([3], [3]), ([4], [4]), ([2, 5], [2, 5]), ([1, 6, 6], [1, 6]), ([7, 7, 0, 1, 2, 3, 4, 5, 6, 7], [7])])
def corrieref08_Head.B1 : List Nat := [0, 1, 0, 0, 8, 24, 60, 127, 255]
theorem corrieref08_Head.tab1 : rtab .any (opsOf Try.f23 1) = corrieref08_Head.T1 := by kernel_rfl
theorem corrieref08_Head.bits1 : waitsOk corrieref08_Head.T1.2 corrieref08_Head.B1 = true := by kernel_rfl
set_option maxHeartbeats 8000000 in
set_option maxRecDepth 100000 in
theorem corrieref08_Head.calls (k : Nat) (a0_0 : Int) (a0_1 : Int) (a0_2 : Int) (a0_3 : Int) (a0_4 : Int) (A0_5 : Option Addr) (c0_5 : Nat) (l0_5 : List Int) (a0_6 : Int) (a0_7 : Int) (a0_8 : Int) (a0_9 : Int) (a0_10 : Int) (a0_11 : Int) (A0_12 : Option Addr) (c0_12 : Nat) (l0_12 : List Int) (A0_13 : Option Addr) (c0_13 : Nat) (l0_13 : List Int) (A0_14 : Option Addr) (c0_14 : Nat) (l0_14 : List Int) (A0_15 : Option Addr) (c0_15 : Nat) (l0_15 : List (S161)) (A0_16 : Option Addr) (c0_16 : Nat) (l0_16 : List (S163)) (a1 : Int) (r : Int) (w : World) (hr0_5 : Kd.C (Kd.int .u64) w A0_5 l0_5.length l0_5) (hc0_5 : l0_5.length ≤ c0_5) (hr0_12 : Kd.C (Kd.int .i64) w A0_12 l0_12.length l0_12) (hc0_12 : l0_12.length ≤ c0_12) (hr0_13 : Kd.C (Kd.int .i64) w A0_13 l0_13.length l0_13) (hc0_13 : l0_13.length ≤ c0_13) (hr0_14 : Kd.C (Kd.int .i64) w A0_14 l0_14.length l0_14) (hc0_14 : l0_14.length ≤ c0_14) (hr0_15 : Kd.C k161 w A0_15 l0_15.length l0_15) (hc0_15 : l0_15.length ≤ c0_15) (hr0_16 : Kd.C k163 w A0_16 l0_16.length l0_16) (hc0_16 : l0_16.length ≤ c0_16) (h : corrieref08_Head.f k a0_0 a0_1 a0_2 a0_3 a0_4 l0_5 a0_6 a0_7 a0_8 a0_9 a0_10 a0_11 l0_12 l0_13 l0_14 l0_15 l0_16 a1 = some r) :
    Calls Try.prog 23 #[.agg #[.int .i64 a0_0, .int .i64 a0_1, .int .i64 a0_2, .int .i64 a0_3, .int .i64 a0_4, .slice A0_5 l0_5.length c0_5, .int .i64 a0_6, .int .i64 a0_7, .int .i64 a0_8, .int .i64 a0_9, .int .i64 a0_10, .int .i64 a0_11, .slice A0_12 l0_12.length c0_12, .slice A0_13 l0_13.length c0_13, .slice A0_14 l0_14.length c0_14, .slice A0_15 l0_15.length c0_15, .slice A0_16 l0_16.length c0_16], .int .u64 a1] w fun e w' => e = .returned (.int .i64 r) ∧ Below w.heap.size w w' := by
  have hu60 := Try.underlying60
  have hu23 := Try.underlying23
  have HR0_5 := Aside0.mk hr0_5
  have HC0_5 := Aside0.mk hc0_5
  clear hr0_5 hc0_5
  have HR0_12 := Aside0.mk hr0_12
  have HC0_12 := Aside0.mk hc0_12
  clear hr0_12 hc0_12
  have HR0_13 := Aside0.mk hr0_13
  have HC0_13 := Aside0.mk hc0_13
  clear hr0_13 hc0_13
  have HR0_14 := Aside0.mk hr0_14
  have HC0_14 := Aside0.mk hc0_14
  clear hr0_14 hc0_14
  have HR0_15 := Aside0.mk hr0_15
  have HC0_15 := Aside0.mk hc0_15
  clear hr0_15 hc0_15
  have HR0_16 := Aside0.mk hr0_16
  have HC0_16 := Aside0.mk hc0_16
  clear hr0_16 hc0_16
  have HB := Aside0.mk (Below.refl w.heap.size w)
  have H : ((corrieref03_Bucket.f k a1 a0_1).bind fun t185 => ((corrieref05_Head.f k a0_0 a0_1 a0_2 a0_3 a0_4 t185).bind fun t186 => (some t186))) = some r := h
  clear h
  replace H := Option.bind_eq_some_iff.mp H
  obtain ⟨t185, A30, H⟩ := H
  replace H : ((corrieref05_Head.f k a0_0 a0_1 a0_2 a0_3 a0_4 t185).bind fun t186 => (some t186)) = some r := H
  have A3 := Aside0.mk A30
  clear A30
  replace H := Option.bind_eq_some_iff.mp H
  obtain ⟨t186, A40, H⟩ := H
  replace H : (some t186) = some r := H
  have A4 := Aside0.mk A40
  clear A40
  obtain rfl := Option.some.inj H
  go_enter Try.func23, Try.ntmps23
  try go_wp2_with (first | ((with_reducible refine gate_dst (N := 2) rfl ?_); refine box_event ?hg (N := 2) ?hd (cs := #[.int .i64 a0_0, .int .i64 a0_1, .int .i64 a0_2, .int .i64 a0_3, .int .i64 a0_4, .slice A0_5 l0_5.length c0_5, .int .i64 a0_6, .int .i64 a0_7, .int .i64 a0_8, .int .i64 a0_9, .int .i64 a0_10, .int .i64 a0_11, .slice A0_12 l0_12.length c0_12, .slice A0_13 l0_13.length c0_13, .slice A0_14 l0_14.length c0_14, .slice A0_15 l0_15.length c0_15, .slice A0_16 l0_16.length c0_16]) (t := 60) ?hr ?_; (case hd => rfl); (case hg => rfl); (case hr => first | (go_simp; done) | (go_simp; rfl)); intro gb184 hg w5 hbox hb; have n0_ := Aside0.mk (below_step (by repeat (first | (with_reducible first | exact HB.out | apply below_alloc | apply pw_below_drewN | apply below_drew1) | exact HB.out)) hb); have n1_ := Aside0.mk (hbox); have n2_ := Aside0.mk ((by rw [hg]; exact (below_size (by repeat (first | (with_reducible first | exact HB.out | apply below_alloc | apply pw_below_drewN | apply below_drew1) | exact HB.out))) : w.heap.size ≤ gb184)); have n3_ := Aside0.mk ((by rw [hg]; exact (below_size (by repeat (first | (with_reducible first | exact HB.out | apply below_alloc | apply pw_below_drewN | apply below_drew1) | exact HB.out))) : w.heap.size ≤ gb184)); clear HB; have HB := n0_; have BK184 := n1_; have GW184 := n2_; have GE184 := n3_; clear n0_ n1_ n2_ n3_; clear hb hbox hg))
  have n0_ := Aside0.mk (blk_drew BK184.out)
  have n1_ := Aside0.mk (below_drew1 HB.out)
  clear BK184
  clear HB
  have BK184 := n0_
  have HB := n1_
  clear n0_ n1_
  refine start_ (n := 9) (S := fun w' => w'.cell? ⟨gb184, 0, none⟩ = some (.int .i64 a0_0) ∧ w'.cell? ⟨gb184, 1, none⟩ = some (.int .i64 a0_1) ∧ w'.cell? ⟨gb184, 2, none⟩ = some (.int .i64 a0_2) ∧ w'.cell? ⟨gb184, 3, none⟩ = some (.int .i64 a0_3) ∧ w'.cell? ⟨gb184, 4, none⟩ = some (.int .i64 a0_4) ∧ w'.cell? ⟨gb184, 5, none⟩ = some (.slice A0_5 l0_5.length c0_5) ∧ w'.cell? ⟨gb184, 6, none⟩ = some (.int .i64 a0_6) ∧ w'.cell? ⟨gb184, 7, none⟩ = some (.int .i64 a0_7) ∧ w'.cell? ⟨gb184, 8, none⟩ = some (.int .i64 a0_8) ∧ w'.cell? ⟨gb184, 9, none⟩ = some (.int .i64 a0_9) ∧ w'.cell? ⟨gb184, 10, none⟩ = some (.int .i64 a0_10) ∧ w'.cell? ⟨gb184, 11, none⟩ = some (.int .i64 a0_11) ∧ w'.cell? ⟨gb184, 12, none⟩ = some (.slice A0_12 l0_12.length c0_12) ∧ w'.cell? ⟨gb184, 13, none⟩ = some (.slice A0_13 l0_13.length c0_13) ∧ w'.cell? ⟨gb184, 14, none⟩ = some (.slice A0_14 l0_14.length c0_14) ∧ w'.cell? ⟨gb184, 15, none⟩ = some (.slice A0_15 l0_15.length c0_15) ∧ w'.cell? ⟨gb184, 16, none⟩ = some (.slice A0_16 l0_16.length c0_16)) (ds := []) #[false, false, false, false, false, false, false, false, false] (by kernel_rfl) rfl rfl ⟨(blk_cell BK184.out 0).trans rfl, (blk_cell BK184.out 1).trans rfl, (blk_cell BK184.out 2).trans rfl, (blk_cell BK184.out 3).trans rfl, (blk_cell BK184.out 4).trans rfl, (blk_cell BK184.out 5).trans rfl, (blk_cell BK184.out 6).trans rfl, (blk_cell BK184.out 7).trans rfl, (blk_cell BK184.out 8).trans rfl, (blk_cell BK184.out 9).trans rfl, (blk_cell BK184.out 10).trans rfl, (blk_cell BK184.out 11).trans rfl, (blk_cell BK184.out 12).trans rfl, (blk_cell BK184.out 13).trans rfl, (blk_cell BK184.out 14).trans rfl, (blk_cell BK184.out 15).trans rfl, (blk_cell BK184.out 16).trans rfl⟩ (fun hHeld => ?_); refine with_tabW corrieref08_Head.tab1 corrieref08_Head.bits1 (fun HT_ HW_ => ?_)
  generalize w5.drew = w6 at BK184 HB hHeld ⊢
  refine pure_ (i := 0) (N := some 5) (v := ?_) (a' := ?_) #[true, false, false, false, false, false, false, false, false] rfl rfl (any_of HT_.out (by kernel_rfl)) (fun _ _ _ h => h) (Or.inl ⟨by rfl, ?_⟩) ?_ ?_
  rotate_left
  · intro w'
    go_simp
    with_reducible rfl
  rotate_left
  · simp only [Act.put, List.setIfInBounds_toArray, List.set_cons_zero, List.set_cons_succ, i64_w, i32_w]
    rfl
  refine pure_ (i := 2) (N := some 7) (v := ?_) (a' := ?_) #[true, false, true, false, false, false, false, false, false] rfl rfl (any_of HT_.out (by kernel_rfl)) (fun _ _ _ h => h) (Or.inl ⟨by rfl, ?_⟩) ?_ ?_
  rotate_left
  · intro w'
    go_simp
    with_reducible rfl
  rotate_left
  · simp only [Act.put, List.setIfInBounds_toArray, List.set_cons_zero, List.set_cons_succ, i64_w, i32_w]
    rfl
  refine pure_ (i := 3) (N := some 8) (v := ?_) (a' := ?_) #[true, false, true, true, false, false, false, false, false] rfl rfl (any_of HT_.out (by kernel_rfl)) (fun _ _ _ h => h) (Or.inl ⟨by rfl, ?_⟩) ?_ ?_
  rotate_left
  · intro w'
    go_simp
    with_reducible rfl
  rotate_left
  · simp only [Act.put, List.setIfInBounds_toArray, List.set_cons_zero, List.set_cons_succ, i64_w, i32_w]
    rfl
  refine pure_ (i := 4) (N := some 9) (v := ?_) (a' := ?_) #[true, false, true, true, true, false, false, false, false] rfl rfl (any_of HT_.out (by kernel_rfl)) (fun _ _ _ h => h) (Or.inl ⟨by rfl, ?_⟩) ?_ ?_
  rotate_left
  · intro w'
    go_simp
    with_reducible rfl
  rotate_left
  · simp only [Act.put, List.setIfInBounds_toArray, List.set_cons_zero, List.set_cons_succ, i64_w, i32_w]
    rfl
  refine take_ (i := 1) (N := some 6) (v := ?_) (a' := ?_) #[true, true, true, true, true, false, false, false, false] rfl rfl (take_ofW HT_.out HW_.out (by kernel_rfl)) (fun _ _ _ h => h) (Or.inl ⟨by rfl, ?_⟩) hHeld ?_ ?_
  rotate_left
  · rintro w' ⟨s0, s1, s2, s3, s4, s5, s6, s7, s8, s9, s10, s11, s12, s13, s14, s15, s16⟩
    go_simp
    with_reducible rfl
  rotate_left
  · simp only [Act.put, List.setIfInBounds_toArray, List.set_cons_zero, List.set_cons_succ, i64_w, i32_w]
    rfl
  refine take_ (i := 5) (N := some 10) (v := ?_) (a' := ?_) #[true, true, true, true, true, true, false, false, false] rfl rfl (take_ofW HT_.out HW_.out (by kernel_rfl)) (fun _ _ _ h => h) (Or.inl ⟨by rfl, ?_⟩) hHeld ?_ ?_
  rotate_left
  · rintro w' ⟨s0, s1, s2, s3, s4, s5, s6, s7, s8, s9, s10, s11, s12, s13, s14, s15, s16⟩
    go_simp
    with_reducible rfl
  rotate_left
  · simp only [Act.put, List.setIfInBounds_toArray, List.set_cons_zero, List.set_cons_succ, i64_w, i32_w]
    rfl
  refine one_ (i := 6) (N := some 11) #[true, true, true, true, true, true, true, false, false] rfl rfl (one_of HT_.out (by kernel_rfl)) (by decide) (fun K hK => ?_)
  refine goes_ Try.func54 (by kernel_rfl) rfl #[.int .u64 a1, .int .i64 a0_1] (by rfl) rfl rfl (by (try simp only [List.map_toArray, List.map_cons, List.map_nil]); first | done | rfl | (simp only [List.length_drop, List.length_take]; rfl)) ?_
  with_reducible refine (corrieref03_Bucket.calls k a1 a0_1 t185 _ A3.out).mono ?_
  rintro e w' ⟨rfl, ⟨nd, rfl⟩⟩
  refine ⟨_, rfl, ?_⟩
  refine hK.out _ _ ⟨(blk_cell BK184.out 0).trans rfl, (blk_cell BK184.out 1).trans rfl, (blk_cell BK184.out 2).trans rfl, (blk_cell BK184.out 3).trans rfl, (blk_cell BK184.out 4).trans rfl, (blk_cell BK184.out 5).trans rfl, (blk_cell BK184.out 6).trans rfl, (blk_cell BK184.out 7).trans rfl, (blk_cell BK184.out 8).trans rfl, (blk_cell BK184.out 9).trans rfl, (blk_cell BK184.out 10).trans rfl, (blk_cell BK184.out 11).trans rfl, (blk_cell BK184.out 12).trans rfl, (blk_cell BK184.out 13).trans rfl, (blk_cell BK184.out 14).trans rfl, (blk_cell BK184.out 15).trans rfl, (blk_cell BK184.out 16).trans rfl⟩ (fun hHeld => ?_)
  clear hK K
  refine norm_ (a' := ?_) ?_ ?_
  rotate_left
  · show Act.put _ (some 11) _ = _
    simp only [Act.put, List.setIfInBounds_toArray, List.set_cons_zero, List.set_cons_succ, i64_w, i32_w]
    rfl
  refine one_ (i := 7) (N := some 12) #[true, true, true, true, true, true, true, true, false] rfl rfl (one_of HT_.out (by kernel_rfl)) (by decide) (fun K hK => ?_)
  refine goes_ Try.func53 (by kernel_rfl) rfl #[.agg #[.int .i64 a0_0, .int .i64 a0_1, .int .i64 a0_2, .int .i64 a0_3, .int .i64 a0_4], .int .i64 t185] (by rfl) rfl rfl (by (try simp only [List.map_toArray, List.map_cons, List.map_nil]); first | done | rfl | (simp only [List.length_drop, List.length_take]; rfl)) ?_
  with_reducible refine (corrieref05_Head.calls k a0_0 a0_1 a0_2 a0_3 a0_4 t185 t186 _ A4.out).mono ?_
  rintro e w7 ⟨rfl, hb⟩
  refine ⟨_, rfl, ?_⟩
  have n0_ := Aside0.mk (blk_below (g := gb184) (o := .cells #[.int .i64 a0_0, .int .i64 a0_1, .int .i64 a0_2, .int .i64 a0_3, .int .i64 a0_4, .slice A0_5 l0_5.length c0_5, .int .i64 a0_6, .int .i64 a0_7, .int .i64 a0_8, .int .i64 a0_9, .int .i64 a0_10, .int .i64 a0_11, .slice A0_12 l0_12.length c0_12, .slice A0_13 l0_13.length c0_13, .slice A0_14 l0_14.length c0_14, .slice A0_15 l0_15.length c0_15, .slice A0_16 l0_16.length c0_16] 60 (0, 0)) (by (with_reducible repeat (first | refine blk_drewN ?_ _ | refine blk_drew ?_ | refine blk_alloc ?_ _)); exact BK184.out) hb)
  have n1_ := Aside0.mk (below_step (by repeat (first | (with_reducible first | exact HB.out | apply below_alloc | apply pw_below_drewN | apply below_drew1 | refine below_set ?_ GE184.out) | exact HB.out)) hb)
  clear BK184
  clear HB
  have BK184 := n0_
  have HB := n1_
  clear n0_ n1_
  (try clear hb)
  (try clear hb2)
  (try clear hk)
  (try clear hi)
  refine hK.out _ _ ⟨(blk_cell BK184.out 0).trans rfl, (blk_cell BK184.out 1).trans rfl, (blk_cell BK184.out 2).trans rfl, (blk_cell BK184.out 3).trans rfl, (blk_cell BK184.out 4).trans rfl, (blk_cell BK184.out 5).trans rfl, (blk_cell BK184.out 6).trans rfl, (blk_cell BK184.out 7).trans rfl, (blk_cell BK184.out 8).trans rfl, (blk_cell BK184.out 9).trans rfl, (blk_cell BK184.out 10).trans rfl, (blk_cell BK184.out 11).trans rfl, (blk_cell BK184.out 12).trans rfl, (blk_cell BK184.out 13).trans rfl, (blk_cell BK184.out 14).trans rfl, (blk_cell BK184.out 15).trans rfl, (blk_cell BK184.out 16).trans rfl⟩ (fun hHeld => ?_)
  clear hK K
  refine norm_ (a' := ?_) ?_ ?_
  rotate_left
  · show Act.put _ (some 12) _ = _
    simp only [Act.put, List.setIfInBounds_toArray, List.set_cons_zero, List.set_cons_succ, i64_w, i32_w]
    rfl
  refine pure_ (i := 8) (N := some 4) (v := ?_) (a' := ?_) #[true, true, true, true, true, true, true, true, true] rfl rfl (any_of HT_.out (by kernel_rfl)) (fun _ _ _ h => h) (Or.inl ⟨by rfl, ?_⟩) ?_ ?_
  rotate_left
  · intro w'
    go_simp
    with_reducible rfl
  rotate_left
  · simp only [Act.put, List.setIfInBounds_toArray, List.set_cons_zero, List.set_cons_succ, i64_w, i32_w]
    rfl
  refine done_ (done_of HT_.out (by kernel_rfl)) ?_
  try go_wp2
  go_ret
  exact ⟨by first | rfl | (simp [errW_none, errW_some] <;> rfl) | (simp [*, errW_none, errW_some] <;> rfl), by repeat (first | (with_reducible first | exact HB.out | apply below_alloc | apply pw_below_drewN | apply below_drew1 | refine below_set ?_ GE184.out) | exact HB.out)⟩

end Go.Proofs.Ytpcmoclohepdiag.PWorldHeads
