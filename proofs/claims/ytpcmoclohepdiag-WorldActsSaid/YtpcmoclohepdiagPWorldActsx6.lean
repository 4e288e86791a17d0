-- Written by a program of this session: a variant of the print that takes proofs by hand (wip/tools/mkprint.py)
import Derived.Test.YtpcmoclohepdiagPWorldActsx0
import Derived.Test.YtpcmoclohepdiagPWorldActsx4
import Derived.Test.YtpcmoclohepdiagPWorldActsx5
namespace Go.Proofs.Ytpcmoclohepdiag.PWorldActs
open Go.RowKit Go.Proofs.YtpcmoclohepdiagW.PrintWords Go.Proofs.YtpcmoclohepdiagW.PrintLast
set_option linter.unusedVariables false
set_option linter.unusedSimpArgs false

/-! ### corrieref05_Len: function 28 -/
def corrieref05_Len.f (k : Nat) (a0_0 : Int) (a0_1 : Int) (a0_2 : Int) (a0_3 : Int) (a0_4 : Int) : Option (Int) := (corrieref04_May.f k a0_0 a0_1 a0_2 a0_3 a0_4).bind fun t131 => (if t131 = 0 then ((corrieref04_Nodes.f k a0_0 a0_1 a0_2 a0_3 a0_4).bind fun t132 => ((corrieref04_Ops.f k a0_0 a0_1 a0_2 a0_3 a0_4).bind fun t133 => (some (wrap64 ((wrap64 (t132 + t133)) + a0_0))))) else (some 0))
theorem corrieref05_Len.mono : ∀ a0 a1 a2 a3 a4 k, LeO (corrieref05_Len.f k a0 a1 a2 a3 a4) (corrieref05_Len.f (k + 1) a0 a1 a2 a3 a4) := by
 intro a0 a1 a2 a3 a4 k
 unfold corrieref05_Len.f
 repeat' first
   | (with_reducible exact corrieref04_May.mono _ _ _ _ _ _)
   | (with_reducible exact corrieref04_Nodes.mono _ _ _ _ _ _)
   | (with_reducible exact corrieref04_Ops.mono _ _ _ _ _ _)
   | (with_reducible exact LeO.refl _)
   | (with_reducible exact LeO.none _)
   | (with_reducible refine LeO.ite ?_ ?_)
   | (with_reducible refine LeO.bind ?_ (fun _ => ?_))
   | exact corrieref04_May.mono _ _ _ _ _ _
   | exact corrieref04_Nodes.mono _ _ _ _ _ _
   | exact corrieref04_Ops.mono _ _ _ _ _ _
   | exact LeO.none _
   | refine LeO.ite ?_ ?_
   | refine LeO.bind ?_ (fun _ => ?_)
def corrieref05_Len.T3 : Bool × List (List Nat × List Nat) := (true, [([], []), ([0], [0]), ([], []), ([2, 1], [2]), ([1, 3], [1, 3]), ([], []), ([5], [5]), ([4, 6], [4, 6]), ([7, 3, 0, 1, 2, 3, 4, 5, 6, 7], [7])])
def corrieref05_Len.B3 : List Nat := [0, 1, 0, 7, 15, 0, 32, 127, 255]
theorem corrieref05_Len.tab3 : rtab .any (opsOf Try.f28 3) = corrieref05_Len.T3 := by kernel_rfl
theorem corrieref05_Len.bits3 : waitsOk corrieref05_Len.T3.2 corrieref05_Len.B3 = true := by kernel_rfl
set_option maxHeartbeats 8000000 in
set_option maxRecDepth 100000 in
theorem corrieref05_Len.calls (k : Nat) (a0_0 : Int) (a0_1 : Int) (a0_2 : Int) (a0_3 : Int) (a0_4 : Int) (r : Int) (w : World) (h : corrieref05_Len.f k a0_0 a0_1 a0_2 a0_3 a0_4 = some r) :
  Calls Try.prog 28 #[.agg #[.int .i64 a0_0, .int .i64 a0_1, .int .i64 a0_2, .int .i64 a0_3, .int .i64 a0_4]] w fun e w' => e = .returned (.int .i64 r) ∧ Below w.heap.size w w' := by
 have hu23 := Try.underlying23
 have HB := Aside0.mk (Below.refl w.heap.size w)
 have H : ((corrieref04_May.f k a0_0 a0_1 a0_2 a0_3 a0_4).bind fun t131 => (if t131 = 0 then ((corrieref04_Nodes.f k a0_0 a0_1 a0_2 a0_3 a0_4).bind fun t132 => ((corrieref04_Ops.f k a0_0 a0_1 a0_2 a0_3 a0_4).bind fun t133 => (some (wrap64 ((wrap64 (t132 + t133)) + a0_0))))) else (some 0))) = some r := h
 clear h
 replace H := Option.bind_eq_some_iff.mp H
 obtain ⟨t131, A20, H⟩ := H
 replace H : (if t131 = 0 then ((corrieref04_Nodes.f k a0_0 a0_1 a0_2 a0_3 a0_4).bind fun t132 => ((corrieref04_Ops.f k a0_0 a0_1 a0_2 a0_3 a0_4).bind fun t133 => (some (wrap64 ((wrap64 (t132 + t133)) + a0_0))))) else (some 0)) = some r := H
 have A2 := Aside0.mk A20
 clear A20
 by_cases c3 : t131 = 0
 ·rw [if_pos c3] at H
  have c3b0 : (t131 == 0) = true := beq_iff_eq.mpr c3
  have c3b1 : (t131 != 0) = false := bne_eq_false_iff_eq.mpr c3
  clear c3
  replace H := Option.bind_eq_some_iff.mp H
  obtain ⟨t132, A40, H⟩ := H
  replace H : ((corrieref04_Ops.f k a0_0 a0_1 a0_2 a0_3 a0_4).bind fun t133 => (some (wrap64 ((wrap64 (t132 + t133)) + a0_0)))) = some r := H
  have A4 := Aside0.mk A40
  clear A40
  replace H := Option.bind_eq_some_iff.mp H
  obtain ⟨t133, A50, H⟩ := H
  replace H : (some (wrap64 ((wrap64 (t132 + t133)) + a0_0))) = some r := H
  have A5 := Aside0.mk A50
  clear A50
  obtain rfl := Option.some.inj H
  go_enter Try.func28, Try.ntmps28
  try go_wp2_with (first | ((with_reducible refine gate_dst (N := 1) rfl ?_); refine box_event ?hg (N := 1) ?hd (cs := #[.int .i64 a0_0, .int .i64 a0_1, .int .i64 a0_2, .int .i64 a0_3, .int .i64 a0_4]) (t := 23) ?hr ?_; (case hd => rfl); (case hg => rfl); (case hr => first | (go_simp; done) | (go_simp; rfl)); intro gb130 hg w6 hbox hb; have n0_ := Aside0.mk (below_step (by repeat (first | (with_reducible first | exact HB.out | apply below_alloc | apply pw_below_drewN | apply below_drew1) | exact HB.out)) hb); have n1_ := Aside0.mk (hbox); have n2_ := Aside0.mk ((by rw [hg]; exact (below_size (by repeat (first | (with_reducible first | exact HB.out | apply below_alloc | apply pw_below_drewN | apply below_drew1) | exact HB.out))) : w.heap.size ≤ gb130)); have n3_ := Aside0.mk ((by rw [hg]; exact (below_size (by repeat (first | (with_reducible first | exact HB.out | apply below_alloc | apply pw_below_drewN | apply below_drew1) | exact HB.out))) : w.heap.size ≤ gb130)); clear HB; have HB := n0_; have BK130 := n1_; have GW130 := n2_; have GE130 := n3_; clear n0_ n1_ n2_ n3_; clear hb hbox hg; have hcz7_0 : w6.cell? ⟨gb130, 0, none⟩ = some (.int .i64 a0_0) := (blk_cell BK130.out 0).trans rfl; have hcz7_1 : w6.cell? ⟨gb130, 1, none⟩ = some (.int .i64 a0_1) := (blk_cell BK130.out 1).trans rfl; have hcz7_2 : w6.cell? ⟨gb130, 2, none⟩ = some (.int .i64 a0_2) := (blk_cell BK130.out 2).trans rfl; have hcz7_3 : w6.cell? ⟨gb130, 3, none⟩ = some (.int .i64 a0_3) := (blk_cell BK130.out 3).trans rfl; have hcz7_4 : w6.cell? ⟨gb130, 4, none⟩ = some (.int .i64 a0_4) := (blk_cell BK130.out 4).trans rfl; have hfz7_0 := blk_frozen BK130.out 0; have hfz7_1 := blk_frozen BK130.out 1; have hfz7_2 := blk_frozen BK130.out 2; have hfz7_3 := blk_frozen BK130.out 3; have hfz7_4 := blk_frozen BK130.out 4) | ((with_reducible refine gate_callee (f := 31) rfl ?_); refine goesL_ (some 4) rfl rfl Try.func31 (by kernel_rfl) rfl #[.agg #[.int .i64 a0_0, .int .i64 a0_1, .int .i64 a0_2, .int .i64 a0_3, .int .i64 a0_4]] rfl (by (try simp only [List.map_toArray, List.map_cons, List.map_nil]); first | done | rfl | (simp only [List.length_drop, List.length_take]; rfl)) ?_; (with_reducible refine (corrieref04_May.calls k a0_0 a0_1 a0_2 a0_3 a0_4 t131 _ A2.out).mono ?_); rintro e w8 ⟨rfl, hb⟩; refine ⟨_, rfl, ?_⟩; have n0_ := Aside0.mk (blk_below (g := gb130) (o := .cells #[.int .i64 a0_0, .int .i64 a0_1, .int .i64 a0_2, .int .i64 a0_3, .int .i64 a0_4] 23 (0, 0)) (by (with_reducible repeat (first | refine blk_drewN ?_ _ | refine blk_drew ?_ | refine blk_alloc ?_ _)); exact BK130.out) hb); have n1_ := Aside0.mk (below_step (by repeat (first | (with_reducible first | exact HB.out | apply below_alloc | apply pw_below_drewN | apply below_drew1 | refine below_set ?_ GE130.out) | exact HB.out)) hb); clear BK130; clear HB; have BK130 := n0_; have HB := n1_; clear n0_ n1_; (try clear hb); (try clear hb2); (try clear hk); (try clear hi)))
  have n0_ := Aside0.mk (blk_drew BK130.out)
  have n1_ := Aside0.mk (below_drew1 HB.out)
  clear BK130
  clear HB
  have BK130 := n0_
  have HB := n1_
  clear n0_ n1_
  refine start_ (n := 9) (S := fun w' => w'.cell? ⟨gb130, 0, none⟩ = some (.int .i64 a0_0) ∧ w'.cell? ⟨gb130, 1, none⟩ = some (.int .i64 a0_1) ∧ w'.cell? ⟨gb130, 2, none⟩ = some (.int .i64 a0_2) ∧ w'.cell? ⟨gb130, 3, none⟩ = some (.int .i64 a0_3) ∧ w'.cell? ⟨gb130, 4, none⟩ = some (.int .i64 a0_4)) (ds := []) #[false, false, false, false, false, false, false, false, false] (by kernel_rfl) rfl rfl ⟨(blk_cell BK130.out 0).trans rfl, (blk_cell BK130.out 1).trans rfl, (blk_cell BK130.out 2).trans rfl, (blk_cell BK130.out 3).trans rfl, (blk_cell BK130.out 4).trans rfl⟩ (fun hHeld => ?_); refine with_tabW corrieref05_Len.tab3 corrieref05_Len.bits3 (fun HT_ HW_ => ?_)
  generalize w8.drew = w9 at BK130 HB hHeld ⊢
  refine pure_ (i := 5) (N := some 11) (v := ?_) (a' := ?_) #[false, false, false, false, false, true, false, false, false] rfl rfl (any_of HT_.out (by kernel_rfl)) (fun _ _ _ h => h) (Or.inl ⟨by rfl, ?_⟩) ?_ ?_
  rotate_left
  ·intro w'
   go_simp
   with_reducible rfl
  rotate_left
  ·simp only [Act.put, List.setIfInBounds_toArray, List.set_cons_zero, List.set_cons_succ, i64_w, i32_w]
   rfl
  refine take_ (i := 0) (N := some 6) (v := ?_) (a' := ?_) #[true, false, false, false, false, true, false, false, false] rfl rfl (take_ofW HT_.out HW_.out (by kernel_rfl)) (fun _ _ _ h => h) (Or.inl ⟨by rfl, ?_⟩) hHeld ?_ ?_
  rotate_left
  ·rintro w' ⟨s0, s1, s2, s3, s4⟩
   go_simp
   with_reducible rfl
  rotate_left
  ·simp only [Act.put, List.setIfInBounds_toArray, List.set_cons_zero, List.set_cons_succ, i64_w, i32_w]
   rfl
  refine take_ (i := 2) (N := some 8) (v := ?_) (a' := ?_) #[true, false, true, false, false, true, false, false, false] rfl rfl (take_ofW HT_.out HW_.out (by kernel_rfl)) (fun _ _ _ h => h) (Or.inl ⟨by rfl, ?_⟩) hHeld ?_ ?_
  rotate_left
  ·rintro w' ⟨s0, s1, s2, s3, s4⟩
   go_simp
   with_reducible rfl
  rotate_left
  ·simp only [Act.put, List.setIfInBounds_toArray, List.set_cons_zero, List.set_cons_succ, i64_w, i32_w]
   rfl
  refine take_ (i := 6) (N := some 12) (v := ?_) (a' := ?_) #[true, false, true, false, false, true, true, false, false] rfl rfl (take_ofW HT_.out HW_.out (by kernel_rfl)) (fun _ _ _ h => h) (Or.inl ⟨by rfl, ?_⟩) hHeld ?_ ?_
  rotate_left
  ·rintro w' ⟨s0, s1, s2, s3, s4⟩
   go_simp
   with_reducible rfl
  rotate_left
  ·simp only [Act.put, List.setIfInBounds_toArray, List.set_cons_zero, List.set_cons_succ, i64_w, i32_w]
   rfl
  refine one_ (i := 1) (N := some 7) #[true, true, true, false, false, true, true, false, false] rfl rfl (one_of HT_.out (by kernel_rfl)) (by decide) (fun K hK => ?_)
  refine goes_ Try.func12 (by kernel_rfl) rfl #[.agg #[.int .i64 a0_0, .int .i64 a0_1, .int .i64 a0_2, .int .i64 a0_3, .int .i64 a0_4]] (by rfl) rfl rfl (by (try simp only [List.map_toArray, List.map_cons, List.map_nil]); first | done | rfl | (simp only [List.length_drop, List.length_take]; rfl)) ?_
  with_reducible refine (corrieref04_Nodes.calls k a0_0 a0_1 a0_2 a0_3 a0_4 t132 _ A4.out).mono ?_
  rintro e w10 ⟨rfl, hb⟩
  refine ⟨_, rfl, ?_⟩
  have n0_ := Aside0.mk (blk_below (g := gb130) (o := .cells #[.int .i64 a0_0, .int .i64 a0_1, .int .i64 a0_2, .int .i64 a0_3, .int .i64 a0_4] 23 (0, 0)) (by (with_reducible repeat (first | refine blk_drewN ?_ _ | refine blk_drew ?_ | refine blk_alloc ?_ _)); exact BK130.out) hb)
  have n1_ := Aside0.mk (below_step (by repeat (first | (with_reducible first | exact HB.out | apply below_alloc | apply pw_below_drewN | apply below_drew1 | refine below_set ?_ GE130.out) | exact HB.out)) hb)
  clear BK130
  clear HB
  have BK130 := n0_
  have HB := n1_
  clear n0_ n1_
  (try clear hb)
  (try clear hb2)
  (try clear hk)
  (try clear hi)
  refine hK.out _ _ ⟨(blk_cell BK130.out 0).trans rfl, (blk_cell BK130.out 1).trans rfl, (blk_cell BK130.out 2).trans rfl, (blk_cell BK130.out 3).trans rfl, (blk_cell BK130.out 4).trans rfl⟩ (fun hHeld => ?_)
  clear hK K
  refine norm_ (a' := ?_) ?_ ?_
  rotate_left
  ·show Act.put _ (some 7) _ = _
   simp only [Act.put, List.setIfInBounds_toArray, List.set_cons_zero, List.set_cons_succ, i64_w, i32_w]
   rfl
  refine one_ (i := 3) (N := some 9) #[true, true, true, true, false, true, true, false, false] rfl rfl (one_of HT_.out (by kernel_rfl)) (by decide) (fun K hK => ?_)
  refine goes_ Try.func13 (by kernel_rfl) rfl #[.agg #[.int .i64 a0_0, .int .i64 a0_1, .int .i64 a0_2, .int .i64 a0_3, .int .i64 a0_4]] (by rfl) rfl rfl (by (try simp only [List.map_toArray, List.map_cons, List.map_nil]); first | done | rfl | (simp only [List.length_drop, List.length_take]; rfl)) ?_
  with_reducible refine (corrieref04_Ops.calls k a0_0 a0_1 a0_2 a0_3 a0_4 t133 _ A5.out).mono ?_
  rintro e w11 ⟨rfl, hb⟩
  refine ⟨_, rfl, ?_⟩
  have n0_ := Aside0.mk (blk_below (g := gb130) (o := .cells #[.int .i64 a0_0, .int .i64 a0_1, .int .i64 a0_2, .int .i64 a0_3, .int .i64 a0_4] 23 (0, 0)) (by (with_reducible repeat (first | refine blk_drewN ?_ _ | refine blk_drew ?_ | refine blk_alloc ?_ _)); exact BK130.out) hb)
  have n1_ := Aside0.mk (below_step (by repeat (first | (with_reducible first | exact HB.out | apply below_alloc | apply pw_below_drewN | apply below_drew1 | refine below_set ?_ GE130.out) | exact HB.out)) hb)
  clear BK130
  clear HB
  have BK130 := n0_
  have HB := n1_
  clear n0_ n1_
  (try clear hb)
  (try clear hb2)
  (try clear hk)
  (try clear hi)
  refine hK.out _ _ ⟨(blk_cell BK130.out 0).trans rfl, (blk_cell BK130.out 1).trans rfl, (blk_cell BK130.out 2).trans rfl, (blk_cell BK130.out 3).trans rfl, (blk_cell BK130.out 4).trans rfl⟩ (fun hHeld => ?_)
  clear hK K
  refine norm_ (a' := ?_) ?_ ?_
  rotate_left
  ·show Act.put _ (some 9) _ = _
   simp only [Act.put, List.setIfInBounds_toArray, List.set_cons_zero, List.set_cons_succ, i64_w, i32_w]
   rfl
  refine pure_ (i := 4) (N := some 10) (v := ?_) (a' := ?_) #[true, true, true, true, true, true, true, false, false] rfl rfl (any_of HT_.out (by kernel_rfl)) (fun _ _ _ h => h) (Or.inl ⟨by rfl, ?_⟩) ?_ ?_
  rotate_left
  ·intro w'
   go_simp
   with_reducible rfl
  rotate_left
  ·simp only [Act.put, List.setIfInBounds_toArray, List.set_cons_zero, List.set_cons_succ, i64_w, i32_w]
   rfl
  refine pure_ (i := 7) (N := some 13) (v := ?_) (a' := ?_) #[true, true, true, true, true, true, true, true, false] rfl rfl (any_of HT_.out (by kernel_rfl)) (fun _ _ _ h => h) (Or.inl ⟨by rfl, ?_⟩) ?_ ?_
  rotate_left
  ·intro w'
   go_simp
   with_reducible rfl
  rotate_left
  ·simp only [Act.put, List.setIfInBounds_toArray, List.set_cons_zero, List.set_cons_succ, i64_w, i32_w]
   rfl
  refine pure_ (i := 8) (N := some 2) (v := ?_) (a' := ?_) #[true, true, true, true, true, true, true, true, true] rfl rfl (any_of HT_.out (by kernel_rfl)) (fun _ _ _ h => h) (Or.inl ⟨by rfl, ?_⟩) ?_ ?_
  rotate_left
  ·intro w'
   go_simp
   with_reducible rfl
  rotate_left
  ·simp only [Act.put, List.setIfInBounds_toArray, List.set_cons_zero, List.set_cons_succ, i64_w, i32_w]
   rfl
  refine done_ (done_of HT_.out (by kernel_rfl)) ?_
  try go_wp2
  go_ret
  exact ⟨by first | rfl | (simp [errW_none, errW_some] <;> rfl) | (simp [*, errW_none, errW_some] <;> rfl), by repeat (first | (with_reducible first | exact HB.out | apply below_alloc | apply pw_below_drewN | apply below_drew1 | refine below_set ?_ GE130.out) | exact HB.out)⟩
 ·rw [if_neg c3] at H
  have c3b0 : (t131 == 0) = false := beq_eq_false_iff_ne.mpr c3
  have c3b1 : (t131 != 0) = true := bne_iff_ne.mpr c3
  obtain rfl := Option.some.inj H
  go_enter Try.func28, Try.ntmps28
  go_wp2_with (first | ((with_reducible refine gate_dst (N := 1) rfl ?_); refine box_event ?hg (N := 1) ?hd (cs := #[.int .i64 a0_0, .int .i64 a0_1, .int .i64 a0_2, .int .i64 a0_3, .int .i64 a0_4]) (t := 23) ?hr ?_; (case hd => rfl); (case hg => rfl); (case hr => first | (go_simp; done) | (go_simp; rfl)); intro gb130 hg w12 hbox hb; have n0_ := Aside0.mk (below_step (by repeat (first | (with_reducible first | exact HB.out | apply below_alloc | apply pw_below_drewN | apply below_drew1) | exact HB.out)) hb); have n1_ := Aside0.mk (hbox); have n2_ := Aside0.mk ((by rw [hg]; exact (below_size (by repeat (first | (with_reducible first | exact HB.out | apply below_alloc | apply pw_below_drewN | apply below_drew1) | exact HB.out))) : w.heap.size ≤ gb130)); have n3_ := Aside0.mk ((by rw [hg]; exact (below_size (by repeat (first | (with_reducible first | exact HB.out | apply below_alloc | apply pw_below_drewN | apply below_drew1) | exact HB.out))) : w.heap.size ≤ gb130)); clear HB; have HB := n0_; have BK130 := n1_; have GW130 := n2_; have GE130 := n3_; clear n0_ n1_ n2_ n3_; clear hb hbox hg; have hcz13_0 : w12.cell? ⟨gb130, 0, none⟩ = some (.int .i64 a0_0) := (blk_cell BK130.out 0).trans rfl; have hcz13_1 : w12.cell? ⟨gb130, 1, none⟩ = some (.int .i64 a0_1) := (blk_cell BK130.out 1).trans rfl; have hcz13_2 : w12.cell? ⟨gb130, 2, none⟩ = some (.int .i64 a0_2) := (blk_cell BK130.out 2).trans rfl; have hcz13_3 : w12.cell? ⟨gb130, 3, none⟩ = some (.int .i64 a0_3) := (blk_cell BK130.out 3).trans rfl; have hcz13_4 : w12.cell? ⟨gb130, 4, none⟩ = some (.int .i64 a0_4) := (blk_cell BK130.out 4).trans rfl; have hfz13_0 := blk_frozen BK130.out 0; have hfz13_1 := blk_frozen BK130.out 1; have hfz13_2 := blk_frozen BK130.out 2; have hfz13_3 := blk_frozen BK130.out 3; have hfz13_4 := blk_frozen BK130.out 4) | ((with_reducible refine gate_callee (f := 31) rfl ?_); refine goesL_ (some 4) rfl rfl Try.func31 (by kernel_rfl) rfl #[.agg #[.int .i64 a0_0, .int .i64 a0_1, .int .i64 a0_2, .int .i64 a0_3, .int .i64 a0_4]] rfl (by (try simp only [List.map_toArray, List.map_cons, List.map_nil]); first | done | rfl | (simp only [List.length_drop, List.length_take]; rfl)) ?_; (with_reducible refine (corrieref04_May.calls k a0_0 a0_1 a0_2 a0_3 a0_4 t131 _ A2.out).mono ?_); rintro e w14 ⟨rfl, hb⟩; refine ⟨_, rfl, ?_⟩; have n0_ := Aside0.mk (blk_below (g := gb130) (o := .cells #[.int .i64 a0_0, .int .i64 a0_1, .int .i64 a0_2, .int .i64 a0_3, .int .i64 a0_4] 23 (0, 0)) (by (with_reducible repeat (first | refine blk_drewN ?_ _ | refine blk_drew ?_ | refine blk_alloc ?_ _)); exact BK130.out) hb); have n1_ := Aside0.mk (below_step (by repeat (first | (with_reducible first | exact HB.out | apply below_alloc | apply pw_below_drewN | apply below_drew1 | refine below_set ?_ GE130.out) | exact HB.out)) hb); clear BK130; clear HB; have BK130 := n0_; have HB := n1_; clear n0_ n1_; (try clear hb); (try clear hb2); (try clear hk); (try clear hi)))
  go_ret
  exact ⟨by first | rfl | (simp [errW_none, errW_some] <;> rfl) | (simp [*, errW_none, errW_some] <;> rfl), by repeat (first | (with_reducible first | exact HB.out | apply below_alloc | apply pw_below_drewN | apply below_drew1 | refine below_set ?_ GE130.out) | exact HB.out)⟩

theorem rlen_eq (k : Nat) (t b i f c : Int) : corrieref05_Len.f (k + 1) t b i f c = some (if Ok t b i f c then 1 + b + 2 * (t * c) + t * c + t else 0) := by
 unfold corrieref05_Len.f
 rw [rmay_eq, rops_eq, rnodes_eq]
 simp only [Option.bind_some]
 by_cases h : Ok t b i f c
 ·have hb := bnds h
  simp only [if_pos h, if_true]
  rw [wrap64_eq (n := 1 + b + 2 * (t * c) + t * c) (by omega) (by omega), wrap64_eq (by omega) (by omega)]
 ·simp only [if_neg h]
  rw [if_neg (by decide)]

/-! ### corrieref07_New: function 49 (by hand) -/
theorem wq_add (g i j : Nat) : (⟨g, i, none⟩ : Addr).add j = ⟨g, i + j, none⟩ := by unfold Addr.add; split <;> simp_all
def wqPut (cs : Array Value) (k : Nat) : List Value → Array Value
 | [] => cs
 | v :: r => wqPut (cs.setIfInBounds k v) (k + 1) r
theorem wq_grown_set {W W1 : World} {g j : Nat} (h : W.grownBy W1 (some g)) (v : Value) : W.grownBy (W1.setCell ⟨g, j, none⟩ v) (some g) :=
 ⟨h.os, h.tape, h.output, Nat.le_trans h.size (by simp), fun k hk hne => (Below.heap_setCell W1 ⟨g, j, none⟩ v k (fun e => hne (by rw [e]))).trans (h.block k hk hne)⟩
theorem wq_grown_self (W : World) (g : Nat) : W.grownBy W (some g) := ⟨rfl, rfl, rfl, Nat.le_refl _, fun _ _ _ => rfl⟩
theorem wq_grown_trans {a b c : World} {g : Nat} (h : a.grownBy b (some g)) (k : b.grownBy c (some g)) : a.grownBy c (some g) :=
 ⟨k.os.trans h.os, k.tape.trans h.tape, k.output.trans h.output, Nat.le_trans h.size k.size, fun j hj hne => (k.block j (Nat.lt_of_lt_of_le hj h.size) hne).trans (h.block j hj hne)⟩
theorem wq_stores {P : Program} (g i : Nat) (t : TypeId) : ∀ (vs : List Value) (j : Nat) (w : World) (cs : Array Value), w.heap[g]? = some (.cells cs t (0, 0)) → i + j + vs.length ≤ cs.size → (∀ v, v ∈ vs → v.oneCell' = true) →
  ∃ w', (storeCells ⟨g, i, none⟩ vs j).run P w = .ok () w' ∧ w'.heap[g]? = some (.cells (wqPut cs (i + j) vs) t (0, 0)) ∧ w.grownBy w' (some g) := by
 intro vs
 induction vs with
 | nil => exact fun j w cs hb _ _ => ⟨w, rfl, hb, wq_grown_self w g⟩
 | cons v r ih =>
  intro j w cs hb hsz hvH
  simp only [List.length_cons] at hsz
  have hc : w.cell? ⟨g, i + j, none⟩ = some (cs[i + j]'(by omega)) := by rw [blk_cell hb]; simp
  have hf : w.frozen? ⟨g, i + j, none⟩ = false := blk_frozen hb (i + j)
  have hb1 : (w.setCell ⟨g, i + j, none⟩ v).heap[g]? = some (.cells (cs.setIfInBounds (i + j) v) t (0, 0)) := heap_setCell_same w g (i + j) cs t v hb
  obtain ⟨w', h1, h2, h3⟩ := ih (j + 1) _ _ hb1 (by simp only [Array.size_setIfInBounds]; omega) (fun u hu => hvH u (List.mem_cons_of_mem _ hu))
  refine ⟨w', ?_, h2, wq_grown_trans (wq_grown_set (wq_grown_self w g) v) h3⟩
  unfold storeCells
  rw [Sem.run_bind, wq_add, run_store P w ⟨g, i + j, none⟩ v _ (hvH v List.mem_cons_self), hc]
  simp only [hf, Bool.false_eq_true, if_false, Result.andThen_ok]
  exact h1
theorem wq_storeAt {P : Program} (ty : TypeId) (v : Value) (vs : List Value) (hvc : v.cells.toList = vs) {k : Nat} (hi : (P.info? ty).map (·.size) = some k) (hk : vs.length = k) (h1 : vs.all (fun u => u.oneCell') = true)
  {g i : Nat} {t : TypeId} {cs cs' : Array Value} {w : World} (hb : w.heap[g]? = some (.cells cs t (0, 0))) (hsz : i + k ≤ cs.size) (hcs : wqPut cs i vs = cs') :
  ∃ w', (Instr.storeAt ty (.pointer (some ⟨g, i, none⟩)) v).run P w = .ok () w' ∧ w'.heap[g]? = some (.cells cs' t (0, 0)) ∧ w.grownBy w' (some g) := by
 obtain ⟨w', e1, e2, e3⟩ := wq_stores (P := P) g i t vs 0 w cs hb (by omega) (by simpa [List.all_eq_true] using h1)
 rw [Nat.add_zero, hcs] at e2
 refine ⟨w', ?_, e2, e3⟩
 have hl : v.cells.size = k := by rw [← hk, ← hvc, Array.length_toList]
 cases hq : P.info? ty with
 | none => simp [hq] at hi
 | some q =>
  have hs : q.size = k := by simpa [hq] using hi
  subst hvc
  simp [Instr.storeAt, Instr.sureAddr, storeVar, Sem.run_bind, sizeOf, typeInfo, hq, hs, hl, e1]
theorem wq_loads {P : Program} (w : World) (g i : Nat) (cs : Array Value) (t : TypeId) (k : Nat) (vs : List Value) (hb : w.heap[g]? = some (.cells cs t (0, 0))) (hvH : (cs.toList.drop i).take k = vs) (hk : vs.length = k) :
  (loadCells ⟨g, i, none⟩ k).run P w = .ok vs.toArray w := by
 rw [← hk]
 exact run_loadCells_list (P := P) w ⟨g, i, none⟩ vs (fun j v h => by
  rw [wq_add, blk_cell hb, ← h, ← hvH]
  have hj : j < vs.length := (List.getElem?_eq_some_iff.mp h).1
  rw [List.getElem?_take, if_pos (by omega), List.getElem?_drop, Array.getElem?_toList])
theorem wq_load_agg {P : Program} (ty : TypeId) {d : TypeDesc} {k : Nat} (hu : P.underlying ty = some d) (hd : (match d with | .struct _ | .array _ _ => true | _ => false) = true) (hi : (P.info? ty).map (·.size) = some k)
  {g i : Nat} {t : TypeId} {cs : Array Value} {w : World} {vs : List Value} (hb : w.heap[g]? = some (.cells cs t (0, 0))) (hvH : (cs.toList.drop i).take k = vs) (hk : vs.length = k) :
  (Instr.loadAt ty (.pointer (some ⟨g, i, none⟩))).run P w = .ok (.agg vs.toArray) w := by
 cases hq : P.info? ty with
 | none => simp [hq] at hi
 | some q =>
  have hs : q.size = k := by simpa [hq] using hi
  have hagg : (isAgg ty).run P w = .ok true w := by
   unfold isAgg
   rw [Sem.run_bind, run_underlying hu w]
   cases d <;> simp_all
  simp [Instr.loadAt, Instr.sureAddr, loadVar, Sem.run_bind, hagg, sizeOf, typeInfo, hq, hs, wq_loads w g i cs t k vs hb hvH hk]
theorem wq_load_one {P : Program} (ty : TypeId) {d : TypeDesc} (hu : P.underlying ty = some d) (hd : (match d with | .struct _ | .array _ _ => true | _ => false) = false)
  {g i : Nat} {t : TypeId} {cs : Array Value} {w : World} {v : Value} (hb : w.heap[g]? = some (.cells cs t (0, 0))) (hvH : cs[i]? = some v) :
  (Instr.loadAt ty (.pointer (some ⟨g, i, none⟩))).run P w = .ok v w := by
 have hagg : (isAgg ty).run P w = .ok false w := by
  unfold isAgg
  rw [Sem.run_bind, run_underlying hu w]
  cases d <;> simp_all
 have hc : w.cell? ⟨g, i, none⟩ = some v := (blk_cell hb i).trans hvH
 simp [Instr.loadAt, Instr.sureAddr, loadVar, Sem.run_bind, hagg, load, Sem.run, hc]
section
variable {P : Program} {ops : Array Oper} {rest : List Oper} {o : Oper} {a : Act} {Q : Exit → Act → World → Prop}
/-- what an operation comes to -/
theorem wq_run_loadA {W : World} {ty : TypeId} {p : Operand} {d : TypeDesc} {k g i : Nat} {t : TypeId} {cs : Array Value} {vs : List Value} (ho : o.op = .load ty p) (hp : a.eval p = .pointer (some ⟨g, i, none⟩)) (hu : P.underlying ty = some d) (hd : (match d with | .struct _ | .array _ _ => true | _ => false) = true) (hi : (P.info? ty).map (·.size) = some k)
  (hb : W.heap[g]? = some (.cells cs t (0, 0))) (hvH : (cs.toList.drop i).take k = vs) (hk : vs.length = k) : (execOp a.eval o).run P W = .ok (.value (.agg vs.toArray)) W := by
 unfold execOp
 simp only [ho, hp, Sem.run_bind, wq_load_agg ty hu hd hi hb hvH hk, Result.andThen_ok, Sem.run_pure]
theorem wq_run_load1 {W : World} {ty : TypeId} {p : Operand} {d : TypeDesc} {g i : Nat} {t : TypeId} {cs : Array Value} {v : Value} (ho : o.op = .load ty p) (hp : a.eval p = .pointer (some ⟨g, i, none⟩)) (hu : P.underlying ty = some d) (hd : (match d with | .struct _ | .array _ _ => true | _ => false) = false)
  (hb : W.heap[g]? = some (.cells cs t (0, 0))) (hvH : cs[i]? = some v) : (execOp a.eval o).run P W = .ok (.value v) W := by
 unfold execOp
 simp only [ho, hp, Sem.run_bind, wq_load_one ty hu hd hb hvH, Result.andThen_ok, Sem.run_pure]
theorem wq_run_store {W : World} {ty : TypeId} {p x : Operand} {g i k : Nat} {t : TypeId} {v : Value} {cs cs' : Array Value} {vs : List Value} (ho : o.op = .store ty p x) (hp : a.eval p = .pointer (some ⟨g, i, none⟩)) (hx : a.eval x = v) (hvc : v.cells.toList = vs) (hi : (P.info? ty).map (·.size) = some k) (hk : vs.length = k) (h1 : vs.all (fun u => u.oneCell') = true)
  (hb : W.heap[g]? = some (.cells cs t (0, 0))) (hsz : i + k ≤ cs.size) (hcs : wqPut cs i vs = cs') : ∃ w', (execOp a.eval o).run P W = .ok .skip w' ∧ w'.heap[g]? = some (.cells cs' t (0, 0)) ∧ W.grownBy w' (some g) := by
 obtain ⟨w', e1, e2, e3⟩ := wq_storeAt ty v vs hvc hi hk h1 hb hsz hcs
 refine ⟨w', ?_, e2, e3⟩
 unfold execOp
 simp only [ho, hp, hx, Sem.run_bind, e1, Result.andThen_ok, Sem.run_pure]
theorem wq_loadA {W : World} {ty : TypeId} {p : Operand} {d : TypeDesc} {k g i : Nat} {t : TypeId} {cs : Array Value} {vs : List Value} (hgd : o.guard = none) (ho : o.op = .load ty p) (hp : a.eval p = .pointer (some ⟨g, i, none⟩)) (hu : P.underlying ty = some d) (hd : (match d with | .struct _ | .array _ _ => true | _ => false) = true) (hi : (P.info? ty).map (·.size) = some k)
  (hb : W.heap[g]? = some (.cells cs t (0, 0))) (hvH : (cs.toList.drop i).take k = vs) (hk : vs.length = k) (h : wpList P ops Q rest (a.put o.dst (.agg vs.toArray)) W) : wpList P ops Q (o :: rest) a W :=
 Kd.event_run hgd (wq_run_loadA ho hp hu hd hi hb hvH hk) h
theorem wq_load1 {W : World} {ty : TypeId} {p : Operand} {d : TypeDesc} {g i : Nat} {t : TypeId} {cs : Array Value} {v : Value} (hgd : o.guard = none) (ho : o.op = .load ty p) (hp : a.eval p = .pointer (some ⟨g, i, none⟩)) (hu : P.underlying ty = some d) (hd : (match d with | .struct _ | .array _ _ => true | _ => false) = false)
  (hb : W.heap[g]? = some (.cells cs t (0, 0))) (hvH : cs[i]? = some v) (h : wpList P ops Q rest (a.put o.dst v) W) : wpList P ops Q (o :: rest) a W :=
 Kd.event_run hgd (wq_run_load1 ho hp hu hd hb hvH) h
theorem wq_store {W : World} {ty : TypeId} {p x : Operand} {g i k : Nat} {t : TypeId} {v : Value} {cs cs' : Array Value} {vs : List Value} (hgd : o.guard = none) (hdst : o.dst = none) (ho : o.op = .store ty p x) (hp : a.eval p = .pointer (some ⟨g, i, none⟩)) (hx : a.eval x = v) (hvc : v.cells.toList = vs) (hi : (P.info? ty).map (·.size) = some k) (hk : vs.length = k) (h1 : vs.all (fun u => u.oneCell') = true)
  (hb : W.heap[g]? = some (.cells cs t (0, 0))) (hsz : i + k ≤ cs.size) (hcs : wqPut cs i vs = cs') (h : ∀ w1, w1.heap[g]? = some (.cells cs' t (0, 0)) → W.grownBy w1 (some g) → wpList P ops Q rest a w1) : wpList P ops Q (o :: rest) a W := by
 obtain ⟨w', e1, e2, e3⟩ := wq_run_store ho hp hx hvc hi hk h1 hb hsz hcs
 refine wpList_plain hgd fun K hK => ?_
 unfold Oper.wp
 rw [e1]
 show K (a.put o.dst undef) w'
 rw [hdst]
 exact hK _ _ (h w' e2 e3)
end
section
variable {P : Program} {oi : Oper} {a : Act} {w : World} {K : Act → World → Prop} {Q : Exit → Act → World → Prop} {ops : Array Oper}
/-- a store, a box, as one step of a region that draws -/
theorem wq_skip {ty : TypeId} {p x : Operand} {g i k : Nat} {t : TypeId} {v : Value} {cs cs' : Array Value} {vs : List Value} (hw : Region.wanted oi (yielded ops a.tmps) = true) (hN : oi.dst = none) (ho : oi.op = .store ty p x) (hp : a.eval p = .pointer (some ⟨g, i, none⟩)) (hx : a.eval x = v) (hvc : v.cells.toList = vs) (hi : (P.info? ty).map (·.size) = some k) (hk : vs.length = k) (h1 : vs.all (fun u => u.oneCell') = true)
  (hb : w.heap[g]? = some (.cells cs t (0, 0))) (hsz : i + k ≤ cs.size) (hcs : wqPut cs i vs = cs') (h : ∀ w1, w1.heap[g]? = some (.cells cs' t (0, 0)) → w.grownBy w1 (some g) → K a w1) : if Region.wanted oi (yielded ops a.tmps) = true then Oper.wp P oi a w K Q else K (a.put none undef) w := by
 obtain ⟨w', e1, e2, e3⟩ := wq_run_store ho hp hx hvc hi hk h1 hb hsz hcs
 exact skip_ hw hN e1 (h w' e2 e3)
theorem wq_value {N : Option Tmp} {cs : Array Value} {t : TypeId} (hw : Region.wanted oi (yielded ops a.tmps) = true) (hN : oi.dst = N) (hrun : (execOp a.eval oi).run P w = .ok (.value (.pointer (some ⟨w.heap.size, 0, none⟩))) (w.alloc (.cells cs t (0, 0))))
  (h : ∀ g, g = w.heap.size → ∀ w1, w1.heap[g]? = some (.cells cs t (0, 0)) → Below w.heap.size w w1 → K (a.put N (.pointer (some ⟨g, 0, none⟩))) w1) : if Region.wanted oi (yielded ops a.tmps) = true then Oper.wp P oi a w K Q else K (a.put N undef) w :=
 value_ hw hN hrun (h _ rfl _ (blk_new w _) (below_alloc (Below.refl _ _) _))
end
theorem wq_name {w : World} {g : Nat} {cs : Array Value} {t : TypeId} {fr : Nat × Nat} (h : w.heap[g]? = some (.cells cs t fr)) : ∃ X : Array Value, X = cs ∧ w.heap[g]? = some (.cells X t fr) := ⟨cs, rfl, h⟩
theorem wq_blk {W W1 : World} {g k : Nat} {ob : Obj} (h : W.heap[k]? = some ob) (hg : W.grownBy W1 (some g)) (hne : k ≠ g) : W1.heap[k]? = some ob :=
 (hg.block k ((Array.getElem?_eq_some_iff.mp h).1) (fun e => hne (Option.some.inj e))).trans h

structure R8 where
 A : Option Addr
 C : Nat
 a5 : Option Addr
 a6 : Option Addr
 a7 : Option Addr
 a8 : Option Addr
 a9 : Option Addr
 c5 : Nat
 c6 : Nat
 c7 : Nat
 c8 : Nat
 c9 : Nat
theorem nw_info : (Try.prog.info? 3).map (fun i => (i.zero, i.size, i.bytes)) = some (some (.int .i64 0), 1, 8) := by kernel_rfl
theorem nw_run (n : Nat) (hn : n ≤ 8) (W : World) : ∃ cs : Array Value, (Instr.makeSlice 54 (.int .i64 (n : Int)) (.int .i64 (n : Int))).run Try.prog W = .ok (.slice (some ⟨W.heap.size, 0, none⟩) n n) (W.alloc (.cells cs 3)) := by
 obtain ⟨i0, hi, hz0, hz1, hz2⟩ := info_parts nw_info
 have h := run_make (P := Try.prog) W 54 3 i0 (.int .i64 0) Try.underlying54 hi hz0 .i64 .i64 (n : Int) (n : Int) (by omega) (by omega) (by rw [hz2]; omega) (by omega)
 rw [hz1] at h
 exact ⟨_, by simpa using h⟩
theorem nw_make {oi : Oper} {N : Option Tmp} {a : Act} {w : World} {K : Act → World → Prop} {Q : Exit → Act → World → Prop} {ops : Array Oper} {x y : Operand} (n : Nat) (hn : n ≤ 8) (hw : Region.wanted oi (yielded ops a.tmps) = true) (hN : oi.dst = N) (ho : oi.op = .makeSlice 54 x y) (hx : a.eval x = .int .i64 (n : Int)) (hy : a.eval y = .int .i64 (n : Int))
  (h : ∀ g w1, Below w.heap.size w w1 → K (a.put N (.slice (some ⟨g, 0, none⟩) n n)) w1) : if Region.wanted oi (yielded ops a.tmps) = true then Oper.wp Try.prog oi a w K Q else K (a.put N undef) w := by
 obtain ⟨cs, hr⟩ := nw_run n hn w
 refine value_ (w1 := w.alloc (.cells cs 3)) (v := .slice (some ⟨w.heap.size, 0, none⟩) n n) hw hN ?_ (h _ _ (below_alloc (Below.refl _ _) _))
 unfold execOp
 simp [ho, hx, hy, Sem.run_bind, hr]
theorem nw_ct {P : Program} {fn : Func} {p u : Tmp} {ty : TypeId} (h : fn.results = #[.cell p ty, .tmp u]) (tmps : Array Value) (w : World) (g : Nat) (t0 : TypeId) (cs : Array Value) (fr : Nat × Nat) (d : TypeDesc)
  (hp : tmps.getD p undef = .pointer (some ⟨g, 0, none⟩)) (hg : w.heap[g]? = some (.cells cs t0 fr))
  (hu : P.underlying ty = some d) (hd : (match d with | .struct _ | .array _ _ => true | _ => false) = true) (hi : (P.info? ty).map (·.size) = some cs.size) :
  (results fn tmps).run P w = .ok (.tuple #[.agg cs, tmps.getD u undef]) w := by
 have hp' : tmps[p]?.getD undef = .pointer (some ⟨g, 0, none⟩) := by simpa using hp
 simp [results, h, hp', asAddr, run_loadVar_row w g t0 ty cs fr d hg hu hd hi]
def d7_New_lb (n m : Nat) : Array Bool := ((List.range n).map (fun i => m.testBit i)).toArray
def d7_New.T3 : Bool × List (List Nat × List Nat) := (true, [([], []), ([], []), ([1], [1]), ([2, 2], [2]), ([], []), ([4], [4]), ([5, 5], [5]), ([], []), ([7], [7]), ([8, 8], [8]), ([0, 3, 6, 9], [0, 3, 6, 9]), ([10, 0, 1, 2, 3, 4, 5, 6, 7, 8, 9, 10], [10]), ([11, 0, 1, 2, 3, 4, 5, 6, 7, 8, 9, 10, 11], [])])
def d7_New.B3 : List Nat := [0, 0, 2, 6, 0, 16, 48, 0, 128, 384, 1023, 2047, 4095]
theorem d7_New.tab3 : rtab .any (opsOf Try.f49 3) = d7_New.T3 := by kernel_rfl
theorem d7_New.bits3 : waitsOk d7_New.T3.2 d7_New.B3 = true := by kernel_rfl
set_option maxHeartbeats 8000000 in
set_option maxRecDepth 100000 in
theorem d7_New' (c : S23) (n : Nat) (hn : n ≤ 8) (W : World) (hM : ∀ W : World, Calls Try.prog 31 #[.agg #[.int .i64 (n : Int), .int .i64 c.f1, .int .i64 c.f2, .int .i64 c.f3, .int .i64 c.f4]] W (fun e w' => e = .returned (.int .i64 0) ∧ Below W.heap.size W w')) :
  Calls Try.prog 49 #[.agg #[.int .i64 (n : Int), .int .i64 c.f1, .int .i64 c.f2, .int .i64 c.f3, .int .i64 c.f4]] W fun e w' => ∃ q : R8, e = .returned (.tuple #[.agg #[.int .i64 (n : Int), .int .i64 c.f1, .int .i64 c.f2, .int .i64 c.f3, .int .i64 c.f4, .slice q.a5 n q.c5, .slice q.a6 n q.c6, .slice q.a7 n q.c7, .slice q.a8 0 q.c8, .slice q.a9 0 q.c9], .int .i64 0]) ∧ Below W.heap.size W w' := by
 have HB := Aside0.mk (Below.refl W.heap.size W)
 go_enter Try.func49, Try.ntmps49
 go_upto_region 3 with (first | ((with_reducible refine gate_dst (N := 1) rfl ?_); refine box_event ?hg1 (N := 1) ?hd1 (cs := #[.int .i64 (n : Int), .int .i64 c.f1, .int .i64 c.f2, .int .i64 c.f3, .int .i64 c.f4]) (t := 23) ?hr1 ?_; (case hd1 => rfl); (case hg1 => rfl); (case hr1 => first | (go_simp; done) | (go_simp; rfl)); intro g1 hg w1_ hbox hbk; have HGB1 := Aside0.mk (show W.heap.size ≤ g1 from by rw [hg]; have := HB.out.size; omega); have n_HB := Aside0.mk (below_step HB.out hbk); clear HB; have HB := n_HB; clear n_HB; have B1 := Aside0.mk hbox; clear hbk hbox hg) | ((with_reducible refine gate_dst (N := 2) rfl ?_); refine box_event ?hg2 (N := 2) ?hd2 (cs := #[.int .i64 0, .int .i64 0, .int .i64 0, .int .i64 0, .int .i64 0, .slice none 0 0, .slice none 0 0, .slice none 0 0, .slice none 0 0, .slice none 0 0]) (t := 58) ?hr2 ?_; (case hd2 => rfl); (case hg2 => rfl); (case hr2 => first | (go_simp; done) | (go_simp; rfl)); intro g2 hg w2_ hbox hbk; have HGB2 := Aside0.mk (show g1 ≠ g2 ∧ W.heap.size ≤ g2 from by rw [hg]; have := blk_lt B1.out; have := HB.out.size; omega); have n_HB := Aside0.mk (below_step HB.out hbk); have n_B1 := Aside0.mk (blk_below B1.out hbk); clear HB B1; have HB := n_HB; have B1 := n_B1; clear n_HB n_B1; have B2 := Aside0.mk hbox; clear hbk hbox hg) | ((with_reducible refine gate_dst (N := 4) rfl ?_); refine wq_loadA (ty := 23) (p := .tmp 1) (g := g1) (i := 0) (k := 5) (vs := ?vs3) ?hgd3 ?ho3 ?hp3 Try.underlying23 ?hd3 ?hi3 B1.out ?hv3 ?hk3 ?_; (case hd3 => rfl); (case hi3 => kernel_rfl); (case hgd3 => rfl); (case ho3 => rfl); (case hp3 => rfl); (case hv3 => simp only [List.drop_succ_cons, List.drop_zero, List.take_succ_cons, List.take_zero, List.take_nil, List.drop_nil]; with_reducible rfl); (case hk3 => rfl)) | (go_at_call 31; (with_reducible refine (hM _).mono ?_); rintro e u3_ ⟨rfl, hbk⟩; have n_HB := Aside0.mk (below_step HB.out hbk); have n_B1 := Aside0.mk (blk_below B1.out hbk); have n_B2 := Aside0.mk (blk_below B2.out hbk); clear HB B1 B2; have HB := n_HB; have B1 := n_B1; have B2 := n_B2; clear n_HB n_B1 n_B2; clear hbk))
 obtain ⟨XB1, hXB1, hb_B1⟩ := wq_name B1.out
 clear B1
 have B1 := Aside0.mk hb_B1
 have HXB1 := Aside0.mk hXB1
 clear hXB1 hb_B1
 have n_HB := Aside0.mk (below_drew1 HB.out)
 have n_B1 := Aside0.mk (blk_drew B1.out)
 have n_B2 := Aside0.mk (blk_drew B2.out)
 clear HB B1 B2
 have HB := n_HB
 have B1 := n_B1
 have B2 := n_B2
 clear n_HB n_B1 n_B2
 refine start_ (n := 13) (S := fun w' => w'.heap[g1]? = some (.cells XB1 23 (0, 0))) (ds := [11]) #[false, false, false, false, false, false, false, false, false, false, false, false, false] (by kernel_rfl) rfl rfl (B1.out) (fun hHeld => ?_); refine with_tabW d7_New.tab3 d7_New.bits3 (fun HT_ HW_ => ?_)
 generalize u3_.drew = v4_ at HB B1 B2 hHeld ⊢
 refine pure_ (i := 1) (N := some 9) (v := ?_) (a' := ?_) (d7_New_lb 13 2) rfl rfl (any_of HT_.out (by kernel_rfl)) (fun _ _ _ h => h) (Or.inl ⟨by rfl, ?_⟩) ?_ ?_; rotate_left
 ·intro w'; go_simp; with_reducible rfl
 rotate_left
 ·simp only [Act.put, List.setIfInBounds_toArray, List.set_cons_zero, List.set_cons_succ, i64_w, i32_w]; rfl
 refine pure_ (i := 4) (N := some 12) (v := ?_) (a' := ?_) (d7_New_lb 13 18) rfl rfl (any_of HT_.out (by kernel_rfl)) (fun _ _ _ h => h) (Or.inl ⟨by rfl, ?_⟩) ?_ ?_; rotate_left
 ·intro w'; go_simp; with_reducible rfl
 rotate_left
 ·simp only [Act.put, List.setIfInBounds_toArray, List.set_cons_zero, List.set_cons_succ, i64_w, i32_w]; rfl
 refine pure_ (i := 7) (N := some 15) (v := ?_) (a' := ?_) (d7_New_lb 13 146) rfl rfl (any_of HT_.out (by kernel_rfl)) (fun _ _ _ h => h) (Or.inl ⟨by rfl, ?_⟩) ?_ ?_; rotate_left
 ·intro w'; go_simp; with_reducible rfl
 rotate_left
 ·simp only [Act.put, List.setIfInBounds_toArray, List.set_cons_zero, List.set_cons_succ, i64_w, i32_w]; rfl
 refine take_ (i := 0) (N := some 8) (v := ?_) (a' := ?_) (d7_New_lb 13 147) rfl rfl (take_ofW HT_.out HW_.out (by kernel_rfl)) (fun _ _ _ h => h) (Or.inl ⟨by rfl, ?_⟩) hHeld ?_ ?_; rotate_left
 ·intro w' s0; refine Eq.trans (wq_run_loadA (ty := 23) (p := .tmp 1) (g := g1) (i := 0) (k := 5) (vs := ?vs21) ?ho21 ?hp21 Try.underlying23 ?hd21 ?hi21 s0 ?hv21 ?hk21) ?fin21; (case hd21 => rfl); (case hi21 => kernel_rfl); (case ho21 => rfl); (case hp21 => rfl); (case hv21 => rewrite [HXB1.out]; simp only [List.drop_succ_cons, List.drop_zero, List.take_succ_cons, List.take_zero, List.take_nil, List.drop_nil]; with_reducible rfl); (case hk21 => rfl); (case fin21 => with_reducible rfl)
 rotate_left
 ·simp only [Act.put, List.setIfInBounds_toArray, List.set_cons_zero, List.set_cons_succ, i64_w, i32_w]; rfl
 refine take_ (i := 2) (N := some 10) (v := ?_) (a' := ?_) (d7_New_lb 13 151) rfl rfl (take_ofW HT_.out HW_.out (by kernel_rfl)) (fun _ _ _ h => h) (Or.inl ⟨by rfl, ?_⟩) hHeld ?_ ?_; rotate_left
 ·intro w' s0; refine Eq.trans (wq_run_load1 (ty := 3) (p := .tmp 9) (g := g1) (i := 0) (v := ?v22) ?ho22 ?hp22 Try.underlying3 ?hd22 s0 ?hv22) ?fin22; (case hd22 => rfl); (case ho22 => rfl); (case hp22 => rfl); (case hv22 => rewrite [HXB1.out]; rfl); (case fin22 => with_reducible rfl)
 rotate_left
 ·simp only [Act.put, List.setIfInBounds_toArray, List.set_cons_zero, List.set_cons_succ, i64_w, i32_w]; rfl
 refine take_ (i := 5) (N := some 13) (v := ?_) (a' := ?_) (d7_New_lb 13 183) rfl rfl (take_ofW HT_.out HW_.out (by kernel_rfl)) (fun _ _ _ h => h) (Or.inl ⟨by rfl, ?_⟩) hHeld ?_ ?_; rotate_left
 ·intro w' s0; refine Eq.trans (wq_run_load1 (ty := 3) (p := .tmp 12) (g := g1) (i := 0) (v := ?v23) ?ho23 ?hp23 Try.underlying3 ?hd23 s0 ?hv23) ?fin23; (case hd23 => rfl); (case ho23 => rfl); (case hp23 => rfl); (case hv23 => rewrite [HXB1.out]; rfl); (case fin23 => with_reducible rfl)
 rotate_left
 ·simp only [Act.put, List.setIfInBounds_toArray, List.set_cons_zero, List.set_cons_succ, i64_w, i32_w]; rfl
 refine take_ (i := 8) (N := some 16) (v := ?_) (a' := ?_) (d7_New_lb 13 439) rfl rfl (take_ofW HT_.out HW_.out (by kernel_rfl)) (fun _ _ _ h => h) (Or.inl ⟨by rfl, ?_⟩) hHeld ?_ ?_; rotate_left
 ·intro w' s0; refine Eq.trans (wq_run_load1 (ty := 3) (p := .tmp 15) (g := g1) (i := 0) (v := ?v24) ?ho24 ?hp24 Try.underlying3 ?hd24 s0 ?hv24) ?fin24; (case hd24 => rfl); (case ho24 => rfl); (case hp24 => rfl); (case hv24 => rewrite [HXB1.out]; rfl); (case fin24 => with_reducible rfl)
 rotate_left
 ·simp only [Act.put, List.setIfInBounds_toArray, List.set_cons_zero, List.set_cons_succ, i64_w, i32_w]; rfl
 refine join_ (σ := Nat × Nat × Nat) 3 (d7_New_lb 13 1023) (fun s => [(11, .slice (some ⟨s.1, 0, none⟩) n n), (14, .slice (some ⟨s.2.1, 0, none⟩) n n), (17, .slice (some ⟨s.2.2, 0, none⟩) n n)]) (fun s w' => Aside0 (Below W.heap.size W w') ∧ Aside0 (w'.heap[g1]? = some (.cells XB1 23 (0, 0))) ∧ Aside0 (w'.heap[g2]? = some (.cells #[.int .i64 0, .int .i64 0, .int .i64 0, .int .i64 0, .int .i64 0, .slice none 0 0, .slice none 0 0, .slice none 0 0, .slice none 0 0, .slice none 0 0] 58 (0, 0)))) ?_ ?_
 rotate_left
 ·intro hCont
  refine three_ (i := 3) (j := 6) (k := 9) (Ni := some 11) (Nj := some 14) (Nk := some 17) (d7_New_lb 13 447) (d7_New_lb 13 503) (d7_New_lb 13 951) rfl rfl rfl rfl rfl rfl (by kernel_rfl) (by decide) (by decide) (by decide) (fun K hK => ?_) (fun K hK => ?_) (fun K hK => ?_)
  ·skip
   refine nw_make (x := .tmp 10) (y := .tmp 10) n hn ?hw6 ?hN6 ?ho6 ?hx6 ?hy6 ?_
   case hw6 => rfl
   case hN6 => rfl
   case ho6 => rfl
   case hx6 => rfl
   case hy6 => rfl
   intro k3 m3 hbk
   have n_HB := Aside0.mk (below_step HB.out hbk)
   have n_B1 := Aside0.mk (blk_below B1.out hbk)
   have n_B2 := Aside0.mk (blk_below B2.out hbk)
   clear HB B1 B2
   have HB := n_HB
   have B1 := n_B1
   have B2 := n_B2
   clear n_HB n_B1 n_B2
   clear hbk
   refine hK.out _ _ (B1.out) (fun hHeld => ?_)
   clear hK K
   refine norm_ (a' := ?_) ?_ ?_
   rotate_left
   ·show Act.put _ (some 11) _ = _
    simp only [Act.put, List.setIfInBounds_toArray, List.set_cons_zero, List.set_cons_succ, i64_w, i32_w]
    rfl
   refine two_ (i := 6) (j := 9) (Ni := some 14) (Nj := some 17) (d7_New_lb 13 511) (d7_New_lb 13 959) rfl rfl rfl rfl (two_of HT_.out (by kernel_rfl)) (by decide) (by decide) (fun K hK => ?_) (fun K hK => ?_)
   ·skip
    refine nw_make (x := .tmp 13) (y := .tmp 13) n hn ?hw7 ?hN7 ?ho7 ?hx7 ?hy7 ?_
    case hw7 => rfl
    case hN7 => rfl
    case ho7 => rfl
    case hx7 => rfl
    case hy7 => rfl
    intro k6 m6 hbk
    have n_HB := Aside0.mk (below_step HB.out hbk)
    have n_B1 := Aside0.mk (blk_below B1.out hbk)
    have n_B2 := Aside0.mk (blk_below B2.out hbk)
    clear HB B1 B2
    have HB := n_HB
    have B1 := n_B1
    have B2 := n_B2
    clear n_HB n_B1 n_B2
    clear hbk
    refine hK.out _ _ (B1.out) (fun hHeld => ?_)
    clear hK K
    refine norm_ (a' := ?_) ?_ ?_
    rotate_left
    ·show Act.put _ (some 14) _ = _
     simp only [Act.put, List.setIfInBounds_toArray, List.set_cons_zero, List.set_cons_succ, i64_w, i32_w]
     rfl
    refine one_ (i := 9) (N := some 17) (d7_New_lb 13 1023) rfl rfl (one_of HT_.out (by kernel_rfl)) (by decide) (fun K hK => ?_)
    refine nw_make (x := .tmp 16) (y := .tmp 16) n hn ?hw8 ?hN8 ?ho8 ?hx8 ?hy8 ?_
    case hw8 => rfl
    case hN8 => rfl
    case ho8 => rfl
    case hx8 => rfl
    case hy8 => rfl
    intro k9 m9 hbk
    have n_HB := Aside0.mk (below_step HB.out hbk)
    have n_B1 := Aside0.mk (blk_below B1.out hbk)
    have n_B2 := Aside0.mk (blk_below B2.out hbk)
    clear HB B1 B2
    have HB := n_HB
    have B1 := n_B1
    have B2 := n_B2
    clear n_HB n_B1 n_B2
    clear hbk
    refine hK.out _ _ (B1.out) (fun hHeld => ?_)
    clear hK K
    refine norm_ (a' := ?_) ?_ ?_
    rotate_left
    ·show Act.put _ (some 17) _ = _
     simp only [Act.put, List.setIfInBounds_toArray, List.set_cons_zero, List.set_cons_succ, i64_w, i32_w]
     rfl
    exact norm_ (by simp only [putAll, Act.put, List.setIfInBounds_toArray, List.set_cons_zero, List.set_cons_succ]) (hCont (k3, k6, k9) _ ⟨HB, B1, B2⟩)
   ·skip
    refine nw_make (x := .tmp 16) (y := .tmp 16) n hn ?hw9 ?hN9 ?ho9 ?hx9 ?hy9 ?_
    case hw9 => rfl
    case hN9 => rfl
    case ho9 => rfl
    case hx9 => rfl
    case hy9 => rfl
    intro k9 m9 hbk
    have n_HB := Aside0.mk (below_step HB.out hbk)
    have n_B1 := Aside0.mk (blk_below B1.out hbk)
    have n_B2 := Aside0.mk (blk_below B2.out hbk)
    clear HB B1 B2
    have HB := n_HB
    have B1 := n_B1
    have B2 := n_B2
    clear n_HB n_B1 n_B2
    clear hbk
    refine hK.out _ _ (B1.out) (fun hHeld => ?_)
    clear hK K
    refine norm_ (a' := ?_) ?_ ?_
    rotate_left
    ·show Act.put _ (some 17) _ = _
     simp only [Act.put, List.setIfInBounds_toArray, List.set_cons_zero, List.set_cons_succ, i64_w, i32_w]
     rfl
    refine one_ (i := 6) (N := some 14) (d7_New_lb 13 1023) rfl rfl (one_of HT_.out (by kernel_rfl)) (by decide) (fun K hK => ?_)
    refine nw_make (x := .tmp 13) (y := .tmp 13) n hn ?hw10 ?hN10 ?ho10 ?hx10 ?hy10 ?_
    case hw10 => rfl
    case hN10 => rfl
    case ho10 => rfl
    case hx10 => rfl
    case hy10 => rfl
    intro k6 m6 hbk
    have n_HB := Aside0.mk (below_step HB.out hbk)
    have n_B1 := Aside0.mk (blk_below B1.out hbk)
    have n_B2 := Aside0.mk (blk_below B2.out hbk)
    clear HB B1 B2
    have HB := n_HB
    have B1 := n_B1
    have B2 := n_B2
    clear n_HB n_B1 n_B2
    clear hbk
    refine hK.out _ _ (B1.out) (fun hHeld => ?_)
    clear hK K
    refine norm_ (a' := ?_) ?_ ?_
    rotate_left
    ·show Act.put _ (some 14) _ = _
     simp only [Act.put, List.setIfInBounds_toArray, List.set_cons_zero, List.set_cons_succ, i64_w, i32_w]
     rfl
    exact norm_ (by simp only [putAll, Act.put, List.setIfInBounds_toArray, List.set_cons_zero, List.set_cons_succ]) (hCont (k3, k6, k9) _ ⟨HB, B1, B2⟩)
  ·skip
   refine nw_make (x := .tmp 13) (y := .tmp 13) n hn ?hw11 ?hN11 ?ho11 ?hx11 ?hy11 ?_
   case hw11 => rfl
   case hN11 => rfl
   case ho11 => rfl
   case hx11 => rfl
   case hy11 => rfl
   intro k6 m6 hbk
   have n_HB := Aside0.mk (below_step HB.out hbk)
   have n_B1 := Aside0.mk (blk_below B1.out hbk)
   have n_B2 := Aside0.mk (blk_below B2.out hbk)
   clear HB B1 B2
   have HB := n_HB
   have B1 := n_B1
   have B2 := n_B2
   clear n_HB n_B1 n_B2
   clear hbk
   refine hK.out _ _ (B1.out) (fun hHeld => ?_)
   clear hK K
   refine norm_ (a' := ?_) ?_ ?_
   rotate_left
   ·show Act.put _ (some 14) _ = _
    simp only [Act.put, List.setIfInBounds_toArray, List.set_cons_zero, List.set_cons_succ, i64_w, i32_w]
    rfl
   refine two_ (i := 3) (j := 9) (Ni := some 11) (Nj := some 17) (d7_New_lb 13 511) (d7_New_lb 13 1015) rfl rfl rfl rfl (two_of HT_.out (by kernel_rfl)) (by decide) (by decide) (fun K hK => ?_) (fun K hK => ?_)
   ·skip
    refine nw_make (x := .tmp 10) (y := .tmp 10) n hn ?hw12 ?hN12 ?ho12 ?hx12 ?hy12 ?_
    case hw12 => rfl
    case hN12 => rfl
    case ho12 => rfl
    case hx12 => rfl
    case hy12 => rfl
    intro k3 m3 hbk
    have n_HB := Aside0.mk (below_step HB.out hbk)
    have n_B1 := Aside0.mk (blk_below B1.out hbk)
    have n_B2 := Aside0.mk (blk_below B2.out hbk)
    clear HB B1 B2
    have HB := n_HB
    have B1 := n_B1
    have B2 := n_B2
    clear n_HB n_B1 n_B2
    clear hbk
    refine hK.out _ _ (B1.out) (fun hHeld => ?_)
    clear hK K
    refine norm_ (a' := ?_) ?_ ?_
    rotate_left
    ·show Act.put _ (some 11) _ = _
     simp only [Act.put, List.setIfInBounds_toArray, List.set_cons_zero, List.set_cons_succ, i64_w, i32_w]
     rfl
    refine one_ (i := 9) (N := some 17) (d7_New_lb 13 1023) rfl rfl (one_of HT_.out (by kernel_rfl)) (by decide) (fun K hK => ?_)
    refine nw_make (x := .tmp 16) (y := .tmp 16) n hn ?hw13 ?hN13 ?ho13 ?hx13 ?hy13 ?_
    case hw13 => rfl
    case hN13 => rfl
    case ho13 => rfl
    case hx13 => rfl
    case hy13 => rfl
    intro k9 m9 hbk
    have n_HB := Aside0.mk (below_step HB.out hbk)
    have n_B1 := Aside0.mk (blk_below B1.out hbk)
    have n_B2 := Aside0.mk (blk_below B2.out hbk)
    clear HB B1 B2
    have HB := n_HB
    have B1 := n_B1
    have B2 := n_B2
    clear n_HB n_B1 n_B2
    clear hbk
    refine hK.out _ _ (B1.out) (fun hHeld => ?_)
    clear hK K
    refine norm_ (a' := ?_) ?_ ?_
    rotate_left
    ·show Act.put _ (some 17) _ = _
     simp only [Act.put, List.setIfInBounds_toArray, List.set_cons_zero, List.set_cons_succ, i64_w, i32_w]
     rfl
    exact norm_ (by simp only [putAll, Act.put, List.setIfInBounds_toArray, List.set_cons_zero, List.set_cons_succ]) (hCont (k3, k6, k9) _ ⟨HB, B1, B2⟩)
   ·skip
    refine nw_make (x := .tmp 16) (y := .tmp 16) n hn ?hw14 ?hN14 ?ho14 ?hx14 ?hy14 ?_
    case hw14 => rfl
    case hN14 => rfl
    case ho14 => rfl
    case hx14 => rfl
    case hy14 => rfl
    intro k9 m9 hbk
    have n_HB := Aside0.mk (below_step HB.out hbk)
    have n_B1 := Aside0.mk (blk_below B1.out hbk)
    have n_B2 := Aside0.mk (blk_below B2.out hbk)
    clear HB B1 B2
    have HB := n_HB
    have B1 := n_B1
    have B2 := n_B2
    clear n_HB n_B1 n_B2
    clear hbk
    refine hK.out _ _ (B1.out) (fun hHeld => ?_)
    clear hK K
    refine norm_ (a' := ?_) ?_ ?_
    rotate_left
    ·show Act.put _ (some 17) _ = _
     simp only [Act.put, List.setIfInBounds_toArray, List.set_cons_zero, List.set_cons_succ, i64_w, i32_w]
     rfl
    refine one_ (i := 3) (N := some 11) (d7_New_lb 13 1023) rfl rfl (one_of HT_.out (by kernel_rfl)) (by decide) (fun K hK => ?_)
    refine nw_make (x := .tmp 10) (y := .tmp 10) n hn ?hw15 ?hN15 ?ho15 ?hx15 ?hy15 ?_
    case hw15 => rfl
    case hN15 => rfl
    case ho15 => rfl
    case hx15 => rfl
    case hy15 => rfl
    intro k3 m3 hbk
    have n_HB := Aside0.mk (below_step HB.out hbk)
    have n_B1 := Aside0.mk (blk_below B1.out hbk)
    have n_B2 := Aside0.mk (blk_below B2.out hbk)
    clear HB B1 B2
    have HB := n_HB
    have B1 := n_B1
    have B2 := n_B2
    clear n_HB n_B1 n_B2
    clear hbk
    refine hK.out _ _ (B1.out) (fun hHeld => ?_)
    clear hK K
    refine norm_ (a' := ?_) ?_ ?_
    rotate_left
    ·show Act.put _ (some 11) _ = _
     simp only [Act.put, List.setIfInBounds_toArray, List.set_cons_zero, List.set_cons_succ, i64_w, i32_w]
     rfl
    exact norm_ (by simp only [putAll, Act.put, List.setIfInBounds_toArray, List.set_cons_zero, List.set_cons_succ]) (hCont (k3, k6, k9) _ ⟨HB, B1, B2⟩)
  ·skip
   refine nw_make (x := .tmp 16) (y := .tmp 16) n hn ?hw16 ?hN16 ?ho16 ?hx16 ?hy16 ?_
   case hw16 => rfl
   case hN16 => rfl
   case ho16 => rfl
   case hx16 => rfl
   case hy16 => rfl
   intro k9 m9 hbk
   have n_HB := Aside0.mk (below_step HB.out hbk)
   have n_B1 := Aside0.mk (blk_below B1.out hbk)
   have n_B2 := Aside0.mk (blk_below B2.out hbk)
   clear HB B1 B2
   have HB := n_HB
   have B1 := n_B1
   have B2 := n_B2
   clear n_HB n_B1 n_B2
   clear hbk
   refine hK.out _ _ (B1.out) (fun hHeld => ?_)
   clear hK K
   refine norm_ (a' := ?_) ?_ ?_
   rotate_left
   ·show Act.put _ (some 17) _ = _
    simp only [Act.put, List.setIfInBounds_toArray, List.set_cons_zero, List.set_cons_succ, i64_w, i32_w]
    rfl
   refine two_ (i := 3) (j := 6) (Ni := some 11) (Nj := some 14) (d7_New_lb 13 959) (d7_New_lb 13 1015) rfl rfl rfl rfl (two_of HT_.out (by kernel_rfl)) (by decide) (by decide) (fun K hK => ?_) (fun K hK => ?_)
   ·skip
    refine nw_make (x := .tmp 10) (y := .tmp 10) n hn ?hw17 ?hN17 ?ho17 ?hx17 ?hy17 ?_
    case hw17 => rfl
    case hN17 => rfl
    case ho17 => rfl
    case hx17 => rfl
    case hy17 => rfl
    intro k3 m3 hbk
    have n_HB := Aside0.mk (below_step HB.out hbk)
    have n_B1 := Aside0.mk (blk_below B1.out hbk)
    have n_B2 := Aside0.mk (blk_below B2.out hbk)
    clear HB B1 B2
    have HB := n_HB
    have B1 := n_B1
    have B2 := n_B2
    clear n_HB n_B1 n_B2
    clear hbk
    refine hK.out _ _ (B1.out) (fun hHeld => ?_)
    clear hK K
    refine norm_ (a' := ?_) ?_ ?_
    rotate_left
    ·show Act.put _ (some 11) _ = _
     simp only [Act.put, List.setIfInBounds_toArray, List.set_cons_zero, List.set_cons_succ, i64_w, i32_w]
     rfl
    refine one_ (i := 6) (N := some 14) (d7_New_lb 13 1023) rfl rfl (one_of HT_.out (by kernel_rfl)) (by decide) (fun K hK => ?_)
    refine nw_make (x := .tmp 13) (y := .tmp 13) n hn ?hw18 ?hN18 ?ho18 ?hx18 ?hy18 ?_
    case hw18 => rfl
    case hN18 => rfl
    case ho18 => rfl
    case hx18 => rfl
    case hy18 => rfl
    intro k6 m6 hbk
    have n_HB := Aside0.mk (below_step HB.out hbk)
    have n_B1 := Aside0.mk (blk_below B1.out hbk)
    have n_B2 := Aside0.mk (blk_below B2.out hbk)
    clear HB B1 B2
    have HB := n_HB
    have B1 := n_B1
    have B2 := n_B2
    clear n_HB n_B1 n_B2
    clear hbk
    refine hK.out _ _ (B1.out) (fun hHeld => ?_)
    clear hK K
    refine norm_ (a' := ?_) ?_ ?_
    rotate_left
    ·show Act.put _ (some 14) _ = _
     simp only [Act.put, List.setIfInBounds_toArray, List.set_cons_zero, List.set_cons_succ, i64_w, i32_w]
     rfl
    exact norm_ (by simp only [putAll, Act.put, List.setIfInBounds_toArray, List.set_cons_zero, List.set_cons_succ]) (hCont (k3, k6, k9) _ ⟨HB, B1, B2⟩)
   ·skip
    refine nw_make (x := .tmp 13) (y := .tmp 13) n hn ?hw19 ?hN19 ?ho19 ?hx19 ?hy19 ?_
    case hw19 => rfl
    case hN19 => rfl
    case ho19 => rfl
    case hx19 => rfl
    case hy19 => rfl
    intro k6 m6 hbk
    have n_HB := Aside0.mk (below_step HB.out hbk)
    have n_B1 := Aside0.mk (blk_below B1.out hbk)
    have n_B2 := Aside0.mk (blk_below B2.out hbk)
    clear HB B1 B2
    have HB := n_HB
    have B1 := n_B1
    have B2 := n_B2
    clear n_HB n_B1 n_B2
    clear hbk
    refine hK.out _ _ (B1.out) (fun hHeld => ?_)
    clear hK K
    refine norm_ (a' := ?_) ?_ ?_
    rotate_left
    ·show Act.put _ (some 14) _ = _
     simp only [Act.put, List.setIfInBounds_toArray, List.set_cons_zero, List.set_cons_succ, i64_w, i32_w]
     rfl
    refine one_ (i := 3) (N := some 11) (d7_New_lb 13 1023) rfl rfl (one_of HT_.out (by kernel_rfl)) (by decide) (fun K hK => ?_)
    refine nw_make (x := .tmp 10) (y := .tmp 10) n hn ?hw20 ?hN20 ?ho20 ?hx20 ?hy20 ?_
    case hw20 => rfl
    case hN20 => rfl
    case ho20 => rfl
    case hx20 => rfl
    case hy20 => rfl
    intro k3 m3 hbk
    have n_HB := Aside0.mk (below_step HB.out hbk)
    have n_B1 := Aside0.mk (blk_below B1.out hbk)
    have n_B2 := Aside0.mk (blk_below B2.out hbk)
    clear HB B1 B2
    have HB := n_HB
    have B1 := n_B1
    have B2 := n_B2
    clear n_HB n_B1 n_B2
    clear hbk
    refine hK.out _ _ (B1.out) (fun hHeld => ?_)
    clear hK K
    refine norm_ (a' := ?_) ?_ ?_
    rotate_left
    ·show Act.put _ (some 11) _ = _
     simp only [Act.put, List.setIfInBounds_toArray, List.set_cons_zero, List.set_cons_succ, i64_w, i32_w]
     rfl
    exact norm_ (by simp only [putAll, Act.put, List.setIfInBounds_toArray, List.set_cons_zero, List.set_cons_succ]) (hCont (k3, k6, k9) _ ⟨HB, B1, B2⟩)
 clear HB B1 B2 hHeld
 rintro ⟨k3, k6, k9⟩ w6_ ⟨HB, B1, B2⟩
 have hHeld := (show w6_.heap[g1]? = some (.cells XB1 23 (0, 0)) from B1.out)
 refine norm_ (a' := ?_) ?_ ?_
 rotate_left
 ·simp only [putAll, Act.put, List.setIfInBounds_toArray, List.set_cons_zero, List.set_cons_succ]
  rfl
 refine pure_ (i := 10) (N := some 18) (v := ?_) (a' := ?_) (d7_New_lb 13 2047) rfl rfl (any_of HT_.out (by kernel_rfl)) (fun _ _ _ h => h) (Or.inl ⟨by rfl, ?_⟩) ?_ ?_; rotate_left
 ·intro w'; go_simp; with_reducible rfl
 rotate_left
 ·simp only [Act.put, List.setIfInBounds_toArray, List.set_cons_zero, List.set_cons_succ, i64_w, i32_w]; rfl
 refine last_ (i := 11) (N := none) (d7_New_lb 13 4095) rfl rfl (one_of HT_.out (by kernel_rfl)) (by decide) (fun K hK => ?_)
 refine wq_skip (ty := 58) (p := .tmp 2) (x := .tmp 18) (g := g2) (i := 0) (k := 10) (v := ?v5) (vs := ?vs5) (cs' := ?cs5) ?hw5 ?hN5 ?ho5 ?hp5 ?hx5 ?hvc5 ?hi5 ?hk5 ?h15 B2.out ?hsz5 ?hcs5 ?_
 case hi5 => kernel_rfl
 case hw5 => rfl
 case hN5 => rfl
 case ho5 => rfl
 case hp5 => rfl
 case hx5 => go_simp; with_reducible rfl
 case hvc5 => simp only [Value.cells]; with_reducible rfl
 case hk5 => rfl
 case h15 => rfl
 case hsz5 => exact Nat.le_of_ble_eq_true rfl
 case hcs5 => simp only [wqPut, List.setIfInBounds_toArray, List.set_cons_succ, List.set_cons_zero, Nat.reduceAdd]; with_reducible rfl
 intro w7_ hb hgr
 have n_HB := Aside0.mk (HB.out.grown hgr HB.out.size (fun k hk => by cases hk; exact HGB2.out.2))
 have n_B1 := Aside0.mk (wq_blk B1.out hgr HGB2.out.1)
 have n_B2 := Aside0.mk hb
 clear HB B1 B2 hb hgr
 have HB := n_HB
 have B1 := n_B1
 have B2 := n_B2
 clear n_HB n_B1 n_B2
 refine hK.out _ _ ?_
 clear hK K
 refine pure_ (i := 12) (N := some 3) (v := ?_) (a' := ?_) (d7_New_lb 13 8191) rfl rfl (any_of HT_.out (by kernel_rfl)) (fun _ _ _ h => h) (Or.inl ⟨by rfl, ?_⟩) ?_ ?_; rotate_left
 ·intro w'; go_simp; with_reducible rfl
 rotate_left
 ·simp only [Act.put, List.setIfInBounds_toArray, List.set_cons_zero, List.set_cons_succ, i64_w, i32_w]; rfl
 refine done_ (done_of HT_.out (by kernel_rfl)) ?_
 have hX := HXB1.out
 subst hX
 clear HXB1
 go_wp2
 refine bodyPost_ret (nw_ct rfl _ _ _ _ _ _ _ rfl B2.out Try.underlying58 rfl (by kernel_rfl)) rfl ?_
 exact ⟨⟨none, 0, some ⟨k3, 0, none⟩, some ⟨k6, 0, none⟩, some ⟨k9, 0, none⟩, none, none, n, n, n, 0, 0⟩, rfl, HB.out⟩
theorem d7_New (c : S23) (h : Ok c.f0 c.f1 c.f2 c.f3 c.f4) (t : Nat) (ht : t = c.f0.toNat) (W : World) :
  Calls Try.prog 49 #[.agg #[.int .i64 c.f0, .int .i64 c.f1, .int .i64 c.f2, .int .i64 c.f3, .int .i64 c.f4]] W fun e w' => ∃ q : R8, e = .returned (.tuple #[.agg #[.int .i64 c.f0, .int .i64 c.f1, .int .i64 c.f2, .int .i64 c.f3, .int .i64 c.f4, .slice q.a5 t q.c5, .slice q.a6 t q.c6, .slice q.a7 t q.c7, .slice q.a8 0 q.c8, .slice q.a9 0 q.c9], .int .i64 0]) ∧ Below W.heap.size W w' := by
 have hb := bnds h
 have e : (t : Int) = c.f0 := by omega
 have h2 := d7_New' c t (by omega) W (fun W => by
  rw [e]
  exact corrieref04_May.calls 1 c.f0 c.f1 c.f2 c.f3 c.f4 0 W (by rw [rmay_eq 0, if_pos h]))
 rw [e] at h2
 exact h2




/-! ### corrieref06_New: function 50 -/
def corrieref06_New.f (a0 : Int) : Option (List Int × Int) := if a0 < 0 then (some (([] : List Int), 0)) else (if a0 > 1048576 then (some (([] : List Int), 0)) else (if 0 ≤ a0 then (if (a0 : Int).toNat ≤ 35184372088832 then (some ((List.replicate (a0 : Int).toNat 0), 0)) else (none)) else (none)))
set_option maxHeartbeats 8000000 in
set_option maxRecDepth 100000 in
theorem corrieref06_New.calls (a0 : Int) (r1 : List Int) (r2 : Int) (w : World) (h : corrieref06_New.f a0 = some (r1, r2)) :
  Calls Try.prog 50 #[.int .i64 a0] w fun e w' => ∃ v0_ : Value, e = .returned (.agg #[v0_, .int .i64 r2]) ∧ Kd.R (Kd.int .u64) 25 w' w.heap.size (fun _ => True) v0_ r1 ∧ Below w.heap.size w w' := by
 have hu53 := Try.underlying53
 have HB := Aside0.mk (Below.refl w.heap.size w)
 have H : (if a0 < 0 then (some (([] : List Int), 0)) else (if a0 > 1048576 then (some (([] : List Int), 0)) else (if 0 ≤ a0 then (if (a0 : Int).toNat ≤ 35184372088832 then (some ((List.replicate (a0 : Int).toNat 0), 0)) else (none)) else (none)))) = some (r1, r2) := h
 clear h
 by_cases c2 : a0 < 0
 ·rw [if_pos c2] at H
  have c2b0 : decide (a0 < 0) = true := decide_eq_true c2
  clear c2
  simp only [Option.some.injEq, Prod.mk.injEq] at H
  obtain ⟨rfl, rfl⟩ := H
  go_enter Try.func50, Try.ntmps50
  go_wp2_with (first | ((with_reducible refine gate_dst (N := 2) rfl ?_); refine box_event ?hg (N := 2) ?hd (cs := #[.slice none 0 0, .int .i64 0]) (t := 53) ?hr ?_; (case hd => rfl); (case hg => rfl); (case hr => first | (go_simp; done) | (go_simp; rfl)); intro gb134 hg w3 hbox hb; have n0_ := Aside0.mk (below_step (by repeat (first | (with_reducible first | exact HB.out | apply below_alloc | apply pw_below_drewN | apply below_drew1) | exact HB.out)) hb); have n1_ := Aside0.mk (hbox); have n2_ := Aside0.mk ((by rw [hg]; exact (below_size (by repeat (first | (with_reducible first | exact HB.out | apply below_alloc | apply pw_below_drewN | apply below_drew1) | exact HB.out))) : w.heap.size ≤ gb134)); have n3_ := Aside0.mk ((by rw [hg]; exact (below_size (by repeat (first | (with_reducible first | exact HB.out | apply below_alloc | apply pw_below_drewN | apply below_drew1) | exact HB.out))) : w.heap.size ≤ gb134)); clear HB; have HB := n0_; have BK134 := n1_; have GW134 := n2_; have GE134 := n3_; clear n0_ n1_ n2_ n3_; clear hb hbox hg; have hcz4_0 : w3.cell? ⟨gb134, 0, none⟩ = some (.slice none 0 0) := (blk_cell BK134.out 0).trans rfl; have hcz4_1 : w3.cell? ⟨gb134, 1, none⟩ = some (.int .i64 0) := (blk_cell BK134.out 1).trans rfl; have hfz4_0 := blk_frozen BK134.out 0; have hfz4_1 := blk_frozen BK134.out 1))
  refine bodyPost_ret (results_cell_row rfl _ _ gb134 53 #[.slice none 0 0, .int .i64 0] (0, 0) _ rfl (by (with_reducible repeat (first | refine blk_drewN ?_ _ | refine blk_drew ?_ | refine blk_alloc ?_ _)); refine blk_put (cs := #[.slice none 0 0, .int .i64 0]) ?_ 1 _ rfl; (with_reducible repeat (first | refine blk_drewN ?_ _ | refine blk_drew ?_ | refine blk_alloc ?_ _)); refine blk_put (cs := #[.slice none 0 0, .int .i64 0]) ?_ 0 _ rfl; (with_reducible repeat (first | refine blk_drewN ?_ _ | refine blk_drew ?_ | refine blk_alloc ?_ _)); exact BK134.out) Try.underlying53 rfl (by kernel_rfl)) rfl ?_
  exact ⟨_, by first | rfl | (simp [errW_none, errW_some] <;> rfl) | (simp [*, errW_none, errW_some] <;> rfl), by first | exact Kd.R_nil _ _ _ _ _ | exact Kd.N_nil _ _ _ _ _ | exact Kd.V_nil _ _ _ _ _ | exact Kd.Q_nil _ _ _ _ _ | exact Kd.S_nil _ _ _ _ _, by repeat (first | (with_reducible first | exact HB.out | apply below_alloc | apply pw_below_drewN | apply below_drew1 | refine below_set ?_ GE134.out) | exact HB.out)⟩
 ·rw [if_neg c2] at H
  have c2b0 : decide (a0 < 0) = false := decide_eq_false c2
  clear c2
  by_cases c5 : a0 > 1048576
  ·rw [if_pos c5] at H
   have c5b0 : decide (1048576 < a0) = true := decide_eq_true c5
   clear c5
   simp only [Option.some.injEq, Prod.mk.injEq] at H
   obtain ⟨rfl, rfl⟩ := H
   go_enter Try.func50, Try.ntmps50
   go_wp2_with (first | ((with_reducible refine gate_dst (N := 2) rfl ?_); refine box_event ?hg (N := 2) ?hd (cs := #[.slice none 0 0, .int .i64 0]) (t := 53) ?hr ?_; (case hd => rfl); (case hg => rfl); (case hr => first | (go_simp; done) | (go_simp; rfl)); intro gb134 hg w6 hbox hb; have n0_ := Aside0.mk (below_step (by repeat (first | (with_reducible first | exact HB.out | apply below_alloc | apply pw_below_drewN | apply below_drew1) | exact HB.out)) hb); have n1_ := Aside0.mk (hbox); have n2_ := Aside0.mk ((by rw [hg]; exact (below_size (by repeat (first | (with_reducible first | exact HB.out | apply below_alloc | apply pw_below_drewN | apply below_drew1) | exact HB.out))) : w.heap.size ≤ gb134)); have n3_ := Aside0.mk ((by rw [hg]; exact (below_size (by repeat (first | (with_reducible first | exact HB.out | apply below_alloc | apply pw_below_drewN | apply below_drew1) | exact HB.out))) : w.heap.size ≤ gb134)); clear HB; have HB := n0_; have BK134 := n1_; have GW134 := n2_; have GE134 := n3_; clear n0_ n1_ n2_ n3_; clear hb hbox hg; have hcz7_0 : w6.cell? ⟨gb134, 0, none⟩ = some (.slice none 0 0) := (blk_cell BK134.out 0).trans rfl; have hcz7_1 : w6.cell? ⟨gb134, 1, none⟩ = some (.int .i64 0) := (blk_cell BK134.out 1).trans rfl; have hfz7_0 := blk_frozen BK134.out 0; have hfz7_1 := blk_frozen BK134.out 1))
   refine bodyPost_ret (results_cell_row rfl _ _ gb134 53 #[.slice none 0 0, .int .i64 0] (0, 0) _ rfl (by (with_reducible repeat (first | refine blk_drewN ?_ _ | refine blk_drew ?_ | refine blk_alloc ?_ _)); refine blk_put (cs := #[.slice none 0 0, .int .i64 0]) ?_ 1 _ rfl; (with_reducible repeat (first | refine blk_drewN ?_ _ | refine blk_drew ?_ | refine blk_alloc ?_ _)); refine blk_put (cs := #[.slice none 0 0, .int .i64 0]) ?_ 0 _ rfl; (with_reducible repeat (first | refine blk_drewN ?_ _ | refine blk_drew ?_ | refine blk_alloc ?_ _)); exact BK134.out) Try.underlying53 rfl (by kernel_rfl)) rfl ?_
   exact ⟨_, by first | rfl | (simp [errW_none, errW_some] <;> rfl) | (simp [*, errW_none, errW_some] <;> rfl), by first | exact Kd.R_nil _ _ _ _ _ | exact Kd.N_nil _ _ _ _ _ | exact Kd.V_nil _ _ _ _ _ | exact Kd.Q_nil _ _ _ _ _ | exact Kd.S_nil _ _ _ _ _, by repeat (first | (with_reducible first | exact HB.out | apply below_alloc | apply pw_below_drewN | apply below_drew1 | refine below_set ?_ GE134.out) | exact HB.out)⟩
  ·rw [if_neg c5] at H
   have c5b0 : decide (1048576 < a0) = false := decide_eq_false c5
   clear c5
   by_cases c8 : 0 ≤ a0
   ·rw [if_pos c8] at H
    have c8b0 := eq_true c8
    have c8b1 : decide (0 ≤ a0) = true := decide_eq_true c8
    clear c8
    by_cases c9 : (a0 : Int).toNat ≤ 35184372088832
    ·rw [if_pos c9] at H
     have c9b0 := eq_true c9
     have c9b1 : decide ((a0 : Int).toNat ≤ 35184372088832) = true := decide_eq_true c9
     clear c9
     obtain ⟨y135, hy135⟩ : ∃ y_ : List Int, y_ = (List.replicate (a0 : Int).toNat 0) := ⟨_, rfl⟩
     replace H : (some (y135, 0)) = some (r1, r2) := by first | (rw [hy135]; with_reducible exact H) | (have H2_ := (Option.bind_some _ _).symm.trans H; rw [hy135]; with_reducible exact H2_) | (have H2_ := (Option.bind_some _ _).symm.trans H; with_reducible exact H2_) | with_reducible exact H | (rw [hy135]; exact H) | exact H
     have Ny135 := Aside0.mk hy135
     clear hy135
     simp only [Option.some.injEq, Prod.mk.injEq] at H
     obtain ⟨rfl, rfl⟩ := H
     go_enter Try.func50, Try.ntmps50
     go_wp2_with (first | ((with_reducible refine gate_dst (N := 2) rfl ?_); refine box_event ?hg (N := 2) ?hd (cs := #[.slice none 0 0, .int .i64 0]) (t := 53) ?hr ?_; (case hd => rfl); (case hg => rfl); (case hr => first | (go_simp; done) | (go_simp; rfl)); intro gb134 hg w10 hbox hb; have n0_ := Aside0.mk (below_step (by repeat (first | (with_reducible first | exact HB.out | apply below_alloc | apply pw_below_drewN | apply below_drew1) | exact HB.out)) hb); have n1_ := Aside0.mk (hbox); have n2_ := Aside0.mk ((by rw [hg]; exact (below_size (by repeat (first | (with_reducible first | exact HB.out | apply below_alloc | apply pw_below_drewN | apply below_drew1) | exact HB.out))) : w.heap.size ≤ gb134)); have n3_ := Aside0.mk ((by rw [hg]; exact (below_size (by repeat (first | (with_reducible first | exact HB.out | apply below_alloc | apply pw_below_drewN | apply below_drew1) | exact HB.out))) : w.heap.size ≤ gb134)); clear HB; have HB := n0_; have BK134 := n1_; have GW134 := n2_; have GE134 := n3_; clear n0_ n1_ n2_ n3_; clear hb hbox hg) | ((with_reducible refine gate_dst (N := 11) rfl ?_); refine Kd.R_make (Kd.int .u64) _ 25 rfl (N := 11) rfl 51 _ _ rfl a0 rfl rfl Try.underlying51 (.int .u64 0) 8 info25 rfl (by decide) (by omega) 0 (ok := fun _ => True) (okp := fun _ => True) rfl (fun _ hk => hk) trivial (of_decide_eq_true (by first | (with_reducible assumption) | assumption)) (Nat.le_trans (Nat.mul_le_mul_right _ (of_decide_eq_true (by first | (with_reducible assumption) | assumption) : a0.toNat ≤ 35184372088832)) (by omega)) (Below.refl _ _) (Nat.le_refl _) ?_; intro v136 w11 ho12 hb hg_ hnew_; clear hg_ hnew_; (first | rw [← Ny135.out] at ho12 | (simp only [Int.reduceToNat] at ho12; rw [← Ny135.out] at ho12)); have n0_ := Aside0.mk (Kd.R_lower ho12 (below_size (by repeat (first | (with_reducible first | exact HB.out | apply below_alloc | apply pw_below_drewN | apply below_drew1 | refine below_set ?_ GE134.out) | exact HB.out)))); have n1_ := Aside0.mk (blk_below (g := gb134) (o := .cells #[.slice none 0 0, .int .i64 0] 53 (0, 0)) (by (with_reducible repeat (first | refine blk_drewN ?_ _ | refine blk_drew ?_ | refine blk_alloc ?_ _)); exact BK134.out) hb); have n2_ := Aside0.mk (below_step (by repeat (first | (with_reducible first | exact HB.out | apply below_alloc | apply pw_below_drewN | apply below_drew1 | refine below_set ?_ GE134.out) | exact HB.out)) hb); clear BK134; clear HB; have HO137 := n0_; have BK134 := n1_; have HB := n2_; clear n0_ n1_ n2_; clear hb ho12; obtain ⟨Ao13, co13, eo13⟩ := Kd.R_slice HO137.out; subst eo13; have hcz14_0 : w11.cell? ⟨gb134, 0, none⟩ = some (.slice none 0 0) := (blk_cell BK134.out 0).trans rfl; have hcz14_1 : w11.cell? ⟨gb134, 1, none⟩ = some (.int .i64 0) := (blk_cell BK134.out 1).trans rfl; have hfz14_0 := blk_frozen BK134.out 0; have hfz14_1 := blk_frozen BK134.out 1))
     refine bodyPost_ret (results_cell_row rfl _ _ gb134 53 #[.slice Ao13 y135.length co13, .int .i64 0] (0, 0) _ rfl (by (with_reducible repeat (first | refine blk_drewN ?_ _ | refine blk_drew ?_ | refine blk_alloc ?_ _)); refine blk_put (cs := #[.slice Ao13 y135.length co13, .int .i64 0]) ?_ 1 _ rfl; (with_reducible repeat (first | refine blk_drewN ?_ _ | refine blk_drew ?_ | refine blk_alloc ?_ _)); refine blk_put (cs := #[.slice none 0 0, .int .i64 0]) ?_ 0 _ rfl; (with_reducible repeat (first | refine blk_drewN ?_ _ | refine blk_drew ?_ | refine blk_alloc ?_ _)); exact BK134.out) Try.underlying53 rfl (by kernel_rfl)) rfl ?_
     exact ⟨_, by first | rfl | (simp [errW_none, errW_some] <;> rfl) | (simp [*, errW_none, errW_some] <;> rfl), by (with_reducible repeat (first | apply Kd.R_alloc | apply Kd.R_drewN | apply Kd.R_drew)); exact Kd.R_mono (Kd.R_far (p := ⟨gb134, 1, none⟩) (Kd.R_far (p := ⟨gb134, 0, none⟩) (Kd.R_types HO137.out BK134.out (by decide)) (fun _ hk => hk.2) (.slice Ao13 y135.length co13)) (fun _ hk => hk.2) (.int .i64 0)) (fun _ hk => trivial), by repeat (first | (with_reducible first | exact HB.out | apply below_alloc | apply pw_below_drewN | apply below_drew1 | refine below_set ?_ GE134.out) | exact HB.out)⟩
    ·rw [if_neg c9] at H
     exact absurd H (by simp)
   ·rw [if_neg c8] at H
    exact absurd H (by simp)

end Go.Proofs.Ytpcmoclohepdiag.PWorldActs
