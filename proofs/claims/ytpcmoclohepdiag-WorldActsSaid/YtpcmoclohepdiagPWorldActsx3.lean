-- Written by a program of this session: a variant of the print that takes proofs by hand (wip/tools/mkprint.py)
import Derived.Test.YtpcmoclohepdiagPWorldActsx0
import Derived.Test.YtpcmoclohepdiagPWorldActsx1
import Derived.Test.YtpcmoclohepdiagPWorldActsx2
namespace Go.Proofs.Ytpcmoclohepdiag.PWorldActs
open Go.RowKit Go.Proofs.YtpcmoclohepdiagW.PrintWords Go.Proofs.YtpcmoclohepdiagW.PrintLast
set_option linter.unusedVariables false
set_option linter.unusedSimpArgs false

/-! ### conf_Nodes: function 67 -/
def conf_Nodes.f (k : Nat) (a0_0 : Int) (a0_1 : Int) (a0_2 : Int) (a0_3 : Int) (a0_4 : Int) : Option (Int) := (conf_May.f k a0_0 a0_1 a0_2 a0_3 a0_4).bind fun t113 => (if t113 = 0 then ((conf_Ops.f k a0_0 a0_1 a0_2 a0_3 a0_4).bind fun t114 => (some (wrap64 ((wrap64 (1 + a0_1)) + (wrap64 (2 * t114)))))) else (some 0))
theorem conf_Nodes.mono : ∀ a0 a1 a2 a3 a4 k, LeO (conf_Nodes.f k a0 a1 a2 a3 a4) (conf_Nodes.f (k + 1) a0 a1 a2 a3 a4) := by
 intro a0 a1 a2 a3 a4 k
 unfold conf_Nodes.f
 repeat' first
   | (with_reducible exact conf_May.mono _ _ _ _ _ _)
   | (with_reducible exact conf_Ops.mono _ _ _ _ _ _)
   | (with_reducible exact LeO.refl _)
   | (with_reducible exact LeO.none _)
   | (with_reducible refine LeO.ite ?_ ?_)
   | (with_reducible refine LeO.bind ?_ (fun _ => ?_))
   | exact conf_May.mono _ _ _ _ _ _
   | exact conf_Ops.mono _ _ _ _ _ _
   | exact LeO.none _
   | refine LeO.ite ?_ ?_
   | refine LeO.bind ?_ (fun _ => ?_)
def conf_Nodes.T3 : Bool × List (List Nat × List Nat) := (true, [([], []), ([0], [0]), ([1], [1]), ([], []), ([3], [3]), ([4], [4]), ([2, 5], [2, 5]), ([6, 4, 0, 1, 2, 3, 4, 5, 6], [6])])
def conf_Nodes.B3 : List Nat := [0, 1, 3, 0, 8, 24, 63, 127]
theorem conf_Nodes.tab3 : rtab .any (opsOf Try.f67 3) = conf_Nodes.T3 := by kernel_rfl
theorem conf_Nodes.bits3 : waitsOk conf_Nodes.T3.2 conf_Nodes.B3 = true := by kernel_rfl
set_option maxHeartbeats 8000000 in
set_option maxRecDepth 100000 in
theorem conf_Nodes.calls (k : Nat) (a0_0 : Int) (a0_1 : Int) (a0_2 : Int) (a0_3 : Int) (a0_4 : Int) (r : Int) (w : World) (h : conf_Nodes.f k a0_0 a0_1 a0_2 a0_3 a0_4 = some r) :
  Calls Try.prog 67 #[.agg #[.int .i64 a0_0, .int .i64 a0_1, .int .i64 a0_2, .int .i64 a0_3, .int .i64 a0_4]] w fun e w' => e = .returned (.int .i64 r) ∧ Below w.heap.size w w' := by
 have hu23 := Try.underlying23
 have HB := Aside0.mk (Below.refl w.heap.size w)
 have H : ((conf_May.f k a0_0 a0_1 a0_2 a0_3 a0_4).bind fun t113 => (if t113 = 0 then ((conf_Ops.f k a0_0 a0_1 a0_2 a0_3 a0_4).bind fun t114 => (some (wrap64 ((wrap64 (1 + a0_1)) + (wrap64 (2 * t114)))))) else (some 0))) = some r := h
 clear h
 replace H := Option.bind_eq_some_iff.mp H
 obtain ⟨t113, A20, H⟩ := H
 replace H : (if t113 = 0 then ((conf_Ops.f k a0_0 a0_1 a0_2 a0_3 a0_4).bind fun t114 => (some (wrap64 ((wrap64 (1 + a0_1)) + (wrap64 (2 * t114)))))) else (some 0)) = some r := H
 have A2 := Aside0.mk A20
 clear A20
 by_cases c3 : t113 = 0
 ·rw [if_pos c3] at H
  have c3b0 : (t113 == 0) = true := beq_iff_eq.mpr c3
  have c3b1 : (t113 != 0) = false := bne_eq_false_iff_eq.mpr c3
  clear c3
  replace H := Option.bind_eq_some_iff.mp H
  obtain ⟨t114, A40, H⟩ := H
  replace H : (some (wrap64 ((wrap64 (1 + a0_1)) + (wrap64 (2 * t114))))) = some r := H
  have A4 := Aside0.mk A40
  clear A40
  obtain rfl := Option.some.inj H
  go_enter Try.func67, Try.ntmps67
  try go_wp2_with (first | ((with_reducible refine gate_dst (N := 1) rfl ?_); refine box_event ?hg (N := 1) ?hd (cs := #[.int .i64 a0_0, .int .i64 a0_1, .int .i64 a0_2, .int .i64 a0_3, .int .i64 a0_4]) (t := 23) ?hr ?_; (case hd => rfl); (case hg => rfl); (case hr => first | (go_simp; done) | (go_simp; rfl)); intro gb112 hg w5 hbox hb; have n0_ := Aside0.mk (below_step (by repeat (first | (with_reducible first | exact HB.out | apply below_alloc | apply pw_below_drewN | apply below_drew1) | exact HB.out)) hb); have n1_ := Aside0.mk (hbox); have n2_ := Aside0.mk ((by rw [hg]; exact (below_size (by repeat (first | (with_reducible first | exact HB.out | apply below_alloc | apply pw_below_drewN | apply below_drew1) | exact HB.out))) : w.heap.size ≤ gb112)); have n3_ := Aside0.mk ((by rw [hg]; exact (below_size (by repeat (first | (with_reducible first | exact HB.out | apply below_alloc | apply pw_below_drewN | apply below_drew1) | exact HB.out))) : w.heap.size ≤ gb112)); clear HB; have HB := n0_; have BK112 := n1_; have GW112 := n2_; have GE112 := n3_; clear n0_ n1_ n2_ n3_; clear hb hbox hg; have hcz6_0 : w5.cell? ⟨gb112, 0, none⟩ = some (.int .i64 a0_0) := (blk_cell BK112.out 0).trans rfl; have hcz6_1 : w5.cell? ⟨gb112, 1, none⟩ = some (.int .i64 a0_1) := (blk_cell BK112.out 1).trans rfl; have hcz6_2 : w5.cell? ⟨gb112, 2, none⟩ = some (.int .i64 a0_2) := (blk_cell BK112.out 2).trans rfl; have hcz6_3 : w5.cell? ⟨gb112, 3, none⟩ = some (.int .i64 a0_3) := (blk_cell BK112.out 3).trans rfl; have hcz6_4 : w5.cell? ⟨gb112, 4, none⟩ = some (.int .i64 a0_4) := (blk_cell BK112.out 4).trans rfl; have hfz6_0 := blk_frozen BK112.out 0; have hfz6_1 := blk_frozen BK112.out 1; have hfz6_2 := blk_frozen BK112.out 2; have hfz6_3 := blk_frozen BK112.out 3; have hfz6_4 := blk_frozen BK112.out 4) | ((with_reducible refine gate_callee (f := 66) rfl ?_); refine goesL_ (some 4) rfl rfl Try.func66 (by kernel_rfl) rfl #[.agg #[.int .i64 a0_0, .int .i64 a0_1, .int .i64 a0_2, .int .i64 a0_3, .int .i64 a0_4]] rfl (by (try simp only [List.map_toArray, List.map_cons, List.map_nil]); first | done | rfl | (simp only [List.length_drop, List.length_take]; rfl)) ?_; (with_reducible refine (conf_May.calls k a0_0 a0_1 a0_2 a0_3 a0_4 t113 _ A2.out).mono ?_); rintro e w7 ⟨rfl, hb⟩; refine ⟨_, rfl, ?_⟩; have n0_ := Aside0.mk (blk_below (g := gb112) (o := .cells #[.int .i64 a0_0, .int .i64 a0_1, .int .i64 a0_2, .int .i64 a0_3, .int .i64 a0_4] 23 (0, 0)) (by (with_reducible repeat (first | refine blk_drewN ?_ _ | refine blk_drew ?_ | refine blk_alloc ?_ _)); exact BK112.out) hb); have n1_ := Aside0.mk (below_step (by repeat (first | (with_reducible first | exact HB.out | apply below_alloc | apply pw_below_drewN | apply below_drew1 | refine below_set ?_ GE112.out) | exact HB.out)) hb); clear BK112; clear HB; have BK112 := n0_; have HB := n1_; clear n0_ n1_; (try clear hb); (try clear hb2); (try clear hk); (try clear hi)))
  have n0_ := Aside0.mk (blk_drew BK112.out)
  have n1_ := Aside0.mk (below_drew1 HB.out)
  clear BK112
  clear HB
  have BK112 := n0_
  have HB := n1_
  clear n0_ n1_
  refine start_ (n := 8) (S := fun w' => w'.cell? ⟨gb112, 0, none⟩ = some (.int .i64 a0_0) ∧ w'.cell? ⟨gb112, 1, none⟩ = some (.int .i64 a0_1) ∧ w'.cell? ⟨gb112, 2, none⟩ = some (.int .i64 a0_2) ∧ w'.cell? ⟨gb112, 3, none⟩ = some (.int .i64 a0_3) ∧ w'.cell? ⟨gb112, 4, none⟩ = some (.int .i64 a0_4)) (ds := []) #[false, false, false, false, false, false, false, false] (by kernel_rfl) rfl rfl ⟨(blk_cell BK112.out 0).trans rfl, (blk_cell BK112.out 1).trans rfl, (blk_cell BK112.out 2).trans rfl, (blk_cell BK112.out 3).trans rfl, (blk_cell BK112.out 4).trans rfl⟩ (fun hHeld => ?_); refine with_tabW conf_Nodes.tab3 conf_Nodes.bits3 (fun HT_ HW_ => ?_)
  generalize w7.drew = w8 at BK112 HB hHeld ⊢
  refine pure_ (i := 0) (N := some 6) (v := ?_) (a' := ?_) #[true, false, false, false, false, false, false, false] rfl rfl (any_of HT_.out (by kernel_rfl)) (fun _ _ _ h => h) (Or.inl ⟨by rfl, ?_⟩) ?_ ?_
  rotate_left
  ·intro w'
   go_simp
   with_reducible rfl
  rotate_left
  ·simp only [Act.put, List.setIfInBounds_toArray, List.set_cons_zero, List.set_cons_succ, i64_w, i32_w]
   rfl
  refine take_ (i := 1) (N := some 7) (v := ?_) (a' := ?_) #[true, true, false, false, false, false, false, false] rfl rfl (take_ofW HT_.out HW_.out (by kernel_rfl)) (fun _ _ _ h => h) (Or.inl ⟨by rfl, ?_⟩) hHeld ?_ ?_
  rotate_left
  ·rintro w' ⟨s0, s1, s2, s3, s4⟩
   go_simp
   with_reducible rfl
  rotate_left
  ·simp only [Act.put, List.setIfInBounds_toArray, List.set_cons_zero, List.set_cons_succ, i64_w, i32_w]
   rfl
  refine pure_ (i := 2) (N := some 8) (v := ?_) (a' := ?_) #[true, true, true, false, false, false, false, false] rfl rfl (any_of HT_.out (by kernel_rfl)) (fun _ _ _ h => h) (Or.inl ⟨by rfl, ?_⟩) ?_ ?_
  rotate_left
  ·intro w'
   go_simp
   with_reducible rfl
  rotate_left
  ·simp only [Act.put, List.setIfInBounds_toArray, List.set_cons_zero, List.set_cons_succ, i64_w, i32_w]
   rfl
  refine take_ (i := 3) (N := some 9) (v := ?_) (a' := ?_) #[true, true, true, true, false, false, false, false] rfl rfl (take_ofW HT_.out HW_.out (by kernel_rfl)) (fun _ _ _ h => h) (Or.inl ⟨by rfl, ?_⟩) hHeld ?_ ?_
  rotate_left
  ·rintro w' ⟨s0, s1, s2, s3, s4⟩
   go_simp
   with_reducible rfl
  rotate_left
  ·simp only [Act.put, List.setIfInBounds_toArray, List.set_cons_zero, List.set_cons_succ, i64_w, i32_w]
   rfl
  refine one_ (i := 4) (N := some 10) #[true, true, true, true, true, false, false, false] rfl rfl (one_of HT_.out (by kernel_rfl)) (by decide) (fun K hK => ?_)
  refine goes_ Try.func68 (by kernel_rfl) rfl #[.agg #[.int .i64 a0_0, .int .i64 a0_1, .int .i64 a0_2, .int .i64 a0_3, .int .i64 a0_4]] (by rfl) rfl rfl (by (try simp only [List.map_toArray, List.map_cons, List.map_nil]); first | done | rfl | (simp only [List.length_drop, List.length_take]; rfl)) ?_
  with_reducible refine (conf_Ops.calls k a0_0 a0_1 a0_2 a0_3 a0_4 t114 _ A4.out).mono ?_
  rintro e w9 ⟨rfl, hb⟩
  refine ⟨_, rfl, ?_⟩
  have n0_ := Aside0.mk (blk_below (g := gb112) (o := .cells #[.int .i64 a0_0, .int .i64 a0_1, .int .i64 a0_2, .int .i64 a0_3, .int .i64 a0_4] 23 (0, 0)) (by (with_reducible repeat (first | refine blk_drewN ?_ _ | refine blk_drew ?_ | refine blk_alloc ?_ _)); exact BK112.out) hb)
  have n1_ := Aside0.mk (below_step (by repeat (first | (with_reducible first | exact HB.out | apply below_alloc | apply pw_below_drewN | apply below_drew1 | refine below_set ?_ GE112.out) | exact HB.out)) hb)
  clear BK112
  clear HB
  have BK112 := n0_
  have HB := n1_
  clear n0_ n1_
  (try clear hb)
  (try clear hb2)
  (try clear hk)
  (try clear hi)
  refine hK.out _ _ ⟨(blk_cell BK112.out 0).trans rfl, (blk_cell BK112.out 1).trans rfl, (blk_cell BK112.out 2).trans rfl, (blk_cell BK112.out 3).trans rfl, (blk_cell BK112.out 4).trans rfl⟩ (fun hHeld => ?_)
  clear hK K
  refine norm_ (a' := ?_) ?_ ?_
  rotate_left
  ·show Act.put _ (some 10) _ = _
   simp only [Act.put, List.setIfInBounds_toArray, List.set_cons_zero, List.set_cons_succ, i64_w, i32_w]
   rfl
  refine pure_ (i := 5) (N := some 11) (v := ?_) (a' := ?_) #[true, true, true, true, true, true, false, false] rfl rfl (any_of HT_.out (by kernel_rfl)) (fun _ _ _ h => h) (Or.inl ⟨by rfl, ?_⟩) ?_ ?_
  rotate_left
  ·intro w'
   go_simp
   with_reducible rfl
  rotate_left
  ·simp only [Act.put, List.setIfInBounds_toArray, List.set_cons_zero, List.set_cons_succ, i64_w, i32_w]
   rfl
  refine pure_ (i := 6) (N := some 12) (v := ?_) (a' := ?_) #[true, true, true, true, true, true, true, false] rfl rfl (any_of HT_.out (by kernel_rfl)) (fun _ _ _ h => h) (Or.inl ⟨by rfl, ?_⟩) ?_ ?_
  rotate_left
  ·intro w'
   go_simp
   with_reducible rfl
  rotate_left
  ·simp only [Act.put, List.setIfInBounds_toArray, List.set_cons_zero, List.set_cons_succ, i64_w, i32_w]
   rfl
  refine pure_ (i := 7) (N := some 2) (v := ?_) (a' := ?_) #[true, true, true, true, true, true, true, true] rfl rfl (any_of HT_.out (by kernel_rfl)) (fun _ _ _ h => h) (Or.inl ⟨by rfl, ?_⟩) ?_ ?_
  rotate_left
  ·intro w'
   go_simp
   with_reducible rfl
  rotate_left
  ·simp only [Act.put, List.setIfInBounds_toArray, List.set_cons_zero, List.set_cons_succ, i64_w, i32_w]
   rfl
  refine done_ (done_of HT_.out (by kernel_rfl)) ?_
  try go_wp2
  go_ret
  exact ⟨by first | rfl | (simp [errW_none, errW_some] <;> rfl) | (simp [*, errW_none, errW_some] <;> rfl), by repeat (first | (with_reducible first | exact HB.out | apply below_alloc | apply pw_below_drewN | apply below_drew1 | refine below_set ?_ GE112.out) | exact HB.out)⟩
 ·rw [if_neg c3] at H
  have c3b0 : (t113 == 0) = false := beq_eq_false_iff_ne.mpr c3
  have c3b1 : (t113 != 0) = true := bne_iff_ne.mpr c3
  obtain rfl := Option.some.inj H
  go_enter Try.func67, Try.ntmps67
  go_wp2_with (first | ((with_reducible refine gate_dst (N := 1) rfl ?_); refine box_event ?hg (N := 1) ?hd (cs := #[.int .i64 a0_0, .int .i64 a0_1, .int .i64 a0_2, .int .i64 a0_3, .int .i64 a0_4]) (t := 23) ?hr ?_; (case hd => rfl); (case hg => rfl); (case hr => first | (go_simp; done) | (go_simp; rfl)); intro gb112 hg w10 hbox hb; have n0_ := Aside0.mk (below_step (by repeat (first | (with_reducible first | exact HB.out | apply below_alloc | apply pw_below_drewN | apply below_drew1) | exact HB.out)) hb); have n1_ := Aside0.mk (hbox); have n2_ := Aside0.mk ((by rw [hg]; exact (below_size (by repeat (first | (with_reducible first | exact HB.out | apply below_alloc | apply pw_below_drewN | apply below_drew1) | exact HB.out))) : w.heap.size ≤ gb112)); have n3_ := Aside0.mk ((by rw [hg]; exact (below_size (by repeat (first | (with_reducible first | exact HB.out | apply below_alloc | apply pw_below_drewN | apply below_drew1) | exact HB.out))) : w.heap.size ≤ gb112)); clear HB; have HB := n0_; have BK112 := n1_; have GW112 := n2_; have GE112 := n3_; clear n0_ n1_ n2_ n3_; clear hb hbox hg; have hcz11_0 : w10.cell? ⟨gb112, 0, none⟩ = some (.int .i64 a0_0) := (blk_cell BK112.out 0).trans rfl; have hcz11_1 : w10.cell? ⟨gb112, 1, none⟩ = some (.int .i64 a0_1) := (blk_cell BK112.out 1).trans rfl; have hcz11_2 : w10.cell? ⟨gb112, 2, none⟩ = some (.int .i64 a0_2) := (blk_cell BK112.out 2).trans rfl; have hcz11_3 : w10.cell? ⟨gb112, 3, none⟩ = some (.int .i64 a0_3) := (blk_cell BK112.out 3).trans rfl; have hcz11_4 : w10.cell? ⟨gb112, 4, none⟩ = some (.int .i64 a0_4) := (blk_cell BK112.out 4).trans rfl; have hfz11_0 := blk_frozen BK112.out 0; have hfz11_1 := blk_frozen BK112.out 1; have hfz11_2 := blk_frozen BK112.out 2; have hfz11_3 := blk_frozen BK112.out 3; have hfz11_4 := blk_frozen BK112.out 4) | ((with_reducible refine gate_callee (f := 66) rfl ?_); refine goesL_ (some 4) rfl rfl Try.func66 (by kernel_rfl) rfl #[.agg #[.int .i64 a0_0, .int .i64 a0_1, .int .i64 a0_2, .int .i64 a0_3, .int .i64 a0_4]] rfl (by (try simp only [List.map_toArray, List.map_cons, List.map_nil]); first | done | rfl | (simp only [List.length_drop, List.length_take]; rfl)) ?_; (with_reducible refine (conf_May.calls k a0_0 a0_1 a0_2 a0_3 a0_4 t113 _ A2.out).mono ?_); rintro e w12 ⟨rfl, hb⟩; refine ⟨_, rfl, ?_⟩; have n0_ := Aside0.mk (blk_below (g := gb112) (o := .cells #[.int .i64 a0_0, .int .i64 a0_1, .int .i64 a0_2, .int .i64 a0_3, .int .i64 a0_4] 23 (0, 0)) (by (with_reducible repeat (first | refine blk_drewN ?_ _ | refine blk_drew ?_ | refine blk_alloc ?_ _)); exact BK112.out) hb); have n1_ := Aside0.mk (below_step (by repeat (first | (with_reducible first | exact HB.out | apply below_alloc | apply pw_below_drewN | apply below_drew1 | refine below_set ?_ GE112.out) | exact HB.out)) hb); clear BK112; clear HB; have BK112 := n0_; have HB := n1_; clear n0_ n1_; (try clear hb); (try clear hb2); (try clear hk); (try clear hi)))
  go_ret
  exact ⟨by first | rfl | (simp [errW_none, errW_some] <;> rfl) | (simp [*, errW_none, errW_some] <;> rfl), by repeat (first | (with_reducible first | exact HB.out | apply below_alloc | apply pw_below_drewN | apply below_drew1 | refine below_set ?_ GE112.out) | exact HB.out)⟩

/-! ### layout_threads: function 69 -/
def layout_threads.f (k : Nat) (a0_0 : Int) (a0_1 : Int) (a0_2 : Int) (a0_3 : Int) (a0_4 : Int) : Option (Int) := (conf_May.f k a0_0 a0_1 a0_2 a0_3 a0_4).bind fun t116 => (if t116 = 0 then (some a0_0) else (some 0))
theorem layout_threads.mono : ∀ a0 a1 a2 a3 a4 k, LeO (layout_threads.f k a0 a1 a2 a3 a4) (layout_threads.f (k + 1) a0 a1 a2 a3 a4) := by
 intro a0 a1 a2 a3 a4 k
 unfold layout_threads.f
 repeat' first
   | (with_reducible exact conf_May.mono _ _ _ _ _ _)
   | (with_reducible exact LeO.refl _)
   | (with_reducible exact LeO.none _)
   | (with_reducible refine LeO.ite ?_ ?_)
   | (with_reducible refine LeO.bind ?_ (fun _ => ?_))
   | exact conf_May.mono _ _ _ _ _ _
   | exact LeO.none _
   | refine LeO.ite ?_ ?_
   | refine LeO.bind ?_ (fun _ => ?_)
set_option maxHeartbeats 8000000 in
set_option maxRecDepth 100000 in
theorem layout_threads.calls (k : Nat) (a0_0 : Int) (a0_1 : Int) (a0_2 : Int) (a0_3 : Int) (a0_4 : Int) (r : Int) (w : World) (h : layout_threads.f k a0_0 a0_1 a0_2 a0_3 a0_4 = some r) :
  Calls Try.prog 69 #[.agg #[.int .i64 a0_0, .int .i64 a0_1, .int .i64 a0_2, .int .i64 a0_3, .int .i64 a0_4]] w fun e w' => e = .returned (.int .i64 r) ∧ Below w.heap.size w w' := by
 have hu23 := Try.underlying23
 have HB := Aside0.mk (Below.refl w.heap.size w)
 have H : ((conf_May.f k a0_0 a0_1 a0_2 a0_3 a0_4).bind fun t116 => (if t116 = 0 then (some a0_0) else (some 0))) = some r := h
 clear h
 replace H := Option.bind_eq_some_iff.mp H
 obtain ⟨t116, A20, H⟩ := H
 replace H : (if t116 = 0 then (some a0_0) else (some 0)) = some r := H
 have A2 := Aside0.mk A20
 clear A20
 by_cases c3 : t116 = 0
 ·rw [if_pos c3] at H
  have c3b0 : (t116 == 0) = true := beq_iff_eq.mpr c3
  have c3b1 : (t116 != 0) = false := bne_eq_false_iff_eq.mpr c3
  clear c3
  obtain rfl := Option.some.inj H
  go_enter Try.func69, Try.ntmps69
  go_wp2_with (first | ((with_reducible refine gate_dst (N := 1) rfl ?_); refine box_event ?hg (N := 1) ?hd (cs := #[.int .i64 a0_0, .int .i64 a0_1, .int .i64 a0_2, .int .i64 a0_3, .int .i64 a0_4]) (t := 23) ?hr ?_; (case hd => rfl); (case hg => rfl); (case hr => first | (go_simp; done) | (go_simp; rfl)); intro gb115 hg w4 hbox hb; have n0_ := Aside0.mk (below_step (by repeat (first | (with_reducible first | exact HB.out | apply below_alloc | apply pw_below_drewN | apply below_drew1) | exact HB.out)) hb); have n1_ := Aside0.mk (hbox); have n2_ := Aside0.mk ((by rw [hg]; exact (below_size (by repeat (first | (with_reducible first | exact HB.out | apply below_alloc | apply pw_below_drewN | apply below_drew1) | exact HB.out))) : w.heap.size ≤ gb115)); have n3_ := Aside0.mk ((by rw [hg]; exact (below_size (by repeat (first | (with_reducible first | exact HB.out | apply below_alloc | apply pw_below_drewN | apply below_drew1) | exact HB.out))) : w.heap.size ≤ gb115)); clear HB; have HB := n0_; have BK115 := n1_; have GW115 := n2_; have GE115 := n3_; clear n0_ n1_ n2_ n3_; clear hb hbox hg; have hcz5_0 : w4.cell? ⟨gb115, 0, none⟩ = some (.int .i64 a0_0) := (blk_cell BK115.out 0).trans rfl; have hcz5_1 : w4.cell? ⟨gb115, 1, none⟩ = some (.int .i64 a0_1) := (blk_cell BK115.out 1).trans rfl; have hcz5_2 : w4.cell? ⟨gb115, 2, none⟩ = some (.int .i64 a0_2) := (blk_cell BK115.out 2).trans rfl; have hcz5_3 : w4.cell? ⟨gb115, 3, none⟩ = some (.int .i64 a0_3) := (blk_cell BK115.out 3).trans rfl; have hcz5_4 : w4.cell? ⟨gb115, 4, none⟩ = some (.int .i64 a0_4) := (blk_cell BK115.out 4).trans rfl; have hfz5_0 := blk_frozen BK115.out 0; have hfz5_1 := blk_frozen BK115.out 1; have hfz5_2 := blk_frozen BK115.out 2; have hfz5_3 := blk_frozen BK115.out 3; have hfz5_4 := blk_frozen BK115.out 4) | ((with_reducible refine gate_callee (f := 66) rfl ?_); refine goesL_ (some 4) rfl rfl Try.func66 (by kernel_rfl) rfl #[.agg #[.int .i64 a0_0, .int .i64 a0_1, .int .i64 a0_2, .int .i64 a0_3, .int .i64 a0_4]] rfl (by (try simp only [List.map_toArray, List.map_cons, List.map_nil]); first | done | rfl | (simp only [List.length_drop, List.length_take]; rfl)) ?_; (with_reducible refine (conf_May.calls k a0_0 a0_1 a0_2 a0_3 a0_4 t116 _ A2.out).mono ?_); rintro e w6 ⟨rfl, hb⟩; refine ⟨_, rfl, ?_⟩; have n0_ := Aside0.mk (blk_below (g := gb115) (o := .cells #[.int .i64 a0_0, .int .i64 a0_1, .int .i64 a0_2, .int .i64 a0_3, .int .i64 a0_4] 23 (0, 0)) (by (with_reducible repeat (first | refine blk_drewN ?_ _ | refine blk_drew ?_ | refine blk_alloc ?_ _)); exact BK115.out) hb); have n1_ := Aside0.mk (below_step (by repeat (first | (with_reducible first | exact HB.out | apply below_alloc | apply pw_below_drewN | apply below_drew1 | refine below_set ?_ GE115.out) | exact HB.out)) hb); clear BK115; clear HB; have BK115 := n0_; have HB := n1_; clear n0_ n1_; (try clear hb); (try clear hb2); (try clear hk); (try clear hi); have hcz7_0 : w6.cell? ⟨gb115, 0, none⟩ = some (.int .i64 a0_0) := (blk_cell BK115.out 0).trans rfl; have hcz7_1 : w6.cell? ⟨gb115, 1, none⟩ = some (.int .i64 a0_1) := (blk_cell BK115.out 1).trans rfl; have hcz7_2 : w6.cell? ⟨gb115, 2, none⟩ = some (.int .i64 a0_2) := (blk_cell BK115.out 2).trans rfl; have hcz7_3 : w6.cell? ⟨gb115, 3, none⟩ = some (.int .i64 a0_3) := (blk_cell BK115.out 3).trans rfl; have hcz7_4 : w6.cell? ⟨gb115, 4, none⟩ = some (.int .i64 a0_4) := (blk_cell BK115.out 4).trans rfl; have hfz7_0 := blk_frozen BK115.out 0; have hfz7_1 := blk_frozen BK115.out 1; have hfz7_2 := blk_frozen BK115.out 2; have hfz7_3 := blk_frozen BK115.out 3; have hfz7_4 := blk_frozen BK115.out 4))
  go_ret
  exact ⟨by first | rfl | (simp [errW_none, errW_some] <;> rfl) | (simp [*, errW_none, errW_some] <;> rfl), by repeat (first | (with_reducible first | exact HB.out | apply below_alloc | apply pw_below_drewN | apply below_drew1 | refine below_set ?_ GE115.out) | exact HB.out)⟩
 ·rw [if_neg c3] at H
  have c3b0 : (t116 == 0) = false := beq_eq_false_iff_ne.mpr c3
  have c3b1 : (t116 != 0) = true := bne_iff_ne.mpr c3
  obtain rfl := Option.some.inj H
  go_enter Try.func69, Try.ntmps69
  go_wp2_with (first | ((with_reducible refine gate_dst (N := 1) rfl ?_); refine box_event ?hg (N := 1) ?hd (cs := #[.int .i64 a0_0, .int .i64 a0_1, .int .i64 a0_2, .int .i64 a0_3, .int .i64 a0_4]) (t := 23) ?hr ?_; (case hd => rfl); (case hg => rfl); (case hr => first | (go_simp; done) | (go_simp; rfl)); intro gb115 hg w8 hbox hb; have n0_ := Aside0.mk (below_step (by repeat (first | (with_reducible first | exact HB.out | apply below_alloc | apply pw_below_drewN | apply below_drew1) | exact HB.out)) hb); have n1_ := Aside0.mk (hbox); have n2_ := Aside0.mk ((by rw [hg]; exact (below_size (by repeat (first | (with_reducible first | exact HB.out | apply below_alloc | apply pw_below_drewN | apply below_drew1) | exact HB.out))) : w.heap.size ≤ gb115)); have n3_ := Aside0.mk ((by rw [hg]; exact (below_size (by repeat (first | (with_reducible first | exact HB.out | apply below_alloc | apply pw_below_drewN | apply below_drew1) | exact HB.out))) : w.heap.size ≤ gb115)); clear HB; have HB := n0_; have BK115 := n1_; have GW115 := n2_; have GE115 := n3_; clear n0_ n1_ n2_ n3_; clear hb hbox hg; have hcz9_0 : w8.cell? ⟨gb115, 0, none⟩ = some (.int .i64 a0_0) := (blk_cell BK115.out 0).trans rfl; have hcz9_1 : w8.cell? ⟨gb115, 1, none⟩ = some (.int .i64 a0_1) := (blk_cell BK115.out 1).trans rfl; have hcz9_2 : w8.cell? ⟨gb115, 2, none⟩ = some (.int .i64 a0_2) := (blk_cell BK115.out 2).trans rfl; have hcz9_3 : w8.cell? ⟨gb115, 3, none⟩ = some (.int .i64 a0_3) := (blk_cell BK115.out 3).trans rfl; have hcz9_4 : w8.cell? ⟨gb115, 4, none⟩ = some (.int .i64 a0_4) := (blk_cell BK115.out 4).trans rfl; have hfz9_0 := blk_frozen BK115.out 0; have hfz9_1 := blk_frozen BK115.out 1; have hfz9_2 := blk_frozen BK115.out 2; have hfz9_3 := blk_frozen BK115.out 3; have hfz9_4 := blk_frozen BK115.out 4) | ((with_reducible refine gate_callee (f := 66) rfl ?_); refine goesL_ (some 4) rfl rfl Try.func66 (by kernel_rfl) rfl #[.agg #[.int .i64 a0_0, .int .i64 a0_1, .int .i64 a0_2, .int .i64 a0_3, .int .i64 a0_4]] rfl (by (try simp only [List.map_toArray, List.map_cons, List.map_nil]); first | done | rfl | (simp only [List.length_drop, List.length_take]; rfl)) ?_; (with_reducible refine (conf_May.calls k a0_0 a0_1 a0_2 a0_3 a0_4 t116 _ A2.out).mono ?_); rintro e w10 ⟨rfl, hb⟩; refine ⟨_, rfl, ?_⟩; have n0_ := Aside0.mk (blk_below (g := gb115) (o := .cells #[.int .i64 a0_0, .int .i64 a0_1, .int .i64 a0_2, .int .i64 a0_3, .int .i64 a0_4] 23 (0, 0)) (by (with_reducible repeat (first | refine blk_drewN ?_ _ | refine blk_drew ?_ | refine blk_alloc ?_ _)); exact BK115.out) hb); have n1_ := Aside0.mk (below_step (by repeat (first | (with_reducible first | exact HB.out | apply below_alloc | apply pw_below_drewN | apply below_drew1 | refine below_set ?_ GE115.out) | exact HB.out)) hb); clear BK115; clear HB; have BK115 := n0_; have HB := n1_; clear n0_ n1_; (try clear hb); (try clear hb2); (try clear hk); (try clear hi)))
  go_ret
  exact ⟨by first | rfl | (simp [errW_none, errW_some] <;> rfl) | (simp [*, errW_none, errW_some] <;> rfl), by repeat (first | (with_reducible first | exact HB.out | apply below_alloc | apply pw_below_drewN | apply below_drew1 | refine below_set ?_ GE115.out) | exact HB.out)⟩

/-! ### layout_Len: function 34 -/
def layout_Len.f (k : Nat) (a0_0 : Int) (a0_1 : Int) (a0_2 : Int) (a0_3 : Int) (a0_4 : Int) : Option (Int) := (conf_Nodes.f k a0_0 a0_1 a0_2 a0_3 a0_4).bind fun t118 => ((conf_Ops.f k a0_0 a0_1 a0_2 a0_3 a0_4).bind fun t119 => ((layout_threads.f k a0_0 a0_1 a0_2 a0_3 a0_4).bind fun t120 => (some (wrap64 ((wrap64 (t118 + t119)) + t120)))))
theorem layout_Len.mono : ∀ a0 a1 a2 a3 a4 k, LeO (layout_Len.f k a0 a1 a2 a3 a4) (layout_Len.f (k + 1) a0 a1 a2 a3 a4) := by
 intro a0 a1 a2 a3 a4 k
 unfold layout_Len.f
 repeat' first
   | (with_reducible exact conf_Nodes.mono _ _ _ _ _ _)
   | (with_reducible exact conf_Ops.mono _ _ _ _ _ _)
   | (with_reducible exact layout_threads.mono _ _ _ _ _ _)
   | (with_reducible exact LeO.refl _)
   | (with_reducible exact LeO.none _)
   | (with_reducible refine LeO.ite ?_ ?_)
   | (with_reducible refine LeO.bind ?_ (fun _ => ?_))
   | exact conf_Nodes.mono _ _ _ _ _ _
   | exact conf_Ops.mono _ _ _ _ _ _
   | exact layout_threads.mono _ _ _ _ _ _
   | exact LeO.none _
   | refine LeO.ite ?_ ?_
   | refine LeO.bind ?_ (fun _ => ?_)
def layout_Len.T1 : Bool × List (List Nat × List Nat) := (true, [([], []), ([0], [0]), ([], []), ([2, 1], [2]), ([1, 3], [1, 3]), ([], []), ([5, 3], [5]), ([4, 6], [4, 6]), ([7, 6, 0, 1, 2, 3, 4, 5, 6, 7], [7])])
def layout_Len.B1 : List Nat := [0, 1, 0, 7, 15, 0, 47, 127, 255]
theorem layout_Len.tab1 : rtab .any (opsOf Try.f34 1) = layout_Len.T1 := by kernel_rfl
theorem layout_Len.bits1 : waitsOk layout_Len.T1.2 layout_Len.B1 = true := by kernel_rfl
set_option maxHeartbeats 8000000 in
set_option maxRecDepth 100000 in
theorem layout_Len.calls (k : Nat) (a0_0 : Int) (a0_1 : Int) (a0_2 : Int) (a0_3 : Int) (a0_4 : Int) (r : Int) (w : World) (h : layout_Len.f k a0_0 a0_1 a0_2 a0_3 a0_4 = some r) :
  Calls Try.prog 34 #[.agg #[.int .i64 a0_0, .int .i64 a0_1, .int .i64 a0_2, .int .i64 a0_3, .int .i64 a0_4]] w fun e w' => e = .returned (.int .i64 r) ∧ Below w.heap.size w w' := by
 have hu23 := Try.underlying23
 have HB := Aside0.mk (Below.refl w.heap.size w)
 have H : ((conf_Nodes.f k a0_0 a0_1 a0_2 a0_3 a0_4).bind fun t118 => ((conf_Ops.f k a0_0 a0_1 a0_2 a0_3 a0_4).bind fun t119 => ((layout_threads.f k a0_0 a0_1 a0_2 a0_3 a0_4).bind fun t120 => (some (wrap64 ((wrap64 (t118 + t119)) + t120)))))) = some r := h
 clear h
 replace H := Option.bind_eq_some_iff.mp H
 obtain ⟨t118, A20, H⟩ := H
 replace H : ((conf_Ops.f k a0_0 a0_1 a0_2 a0_3 a0_4).bind fun t119 => ((layout_threads.f k a0_0 a0_1 a0_2 a0_3 a0_4).bind fun t120 => (some (wrap64 ((wrap64 (t118 + t119)) + t120))))) = some r := H
 have A2 := Aside0.mk A20
 clear A20
 replace H := Option.bind_eq_some_iff.mp H
 obtain ⟨t119, A30, H⟩ := H
 replace H : ((layout_threads.f k a0_0 a0_1 a0_2 a0_3 a0_4).bind fun t120 => (some (wrap64 ((wrap64 (t118 + t119)) + t120)))) = some r := H
 have A3 := Aside0.mk A30
 clear A30
 replace H := Option.bind_eq_some_iff.mp H
 obtain ⟨t120, A40, H⟩ := H
 replace H : (some (wrap64 ((wrap64 (t118 + t119)) + t120))) = some r := H
 have A4 := Aside0.mk A40
 clear A40
 obtain rfl := Option.some.inj H
 go_enter Try.func34, Try.ntmps34
 try go_wp2_with (first | ((with_reducible refine gate_dst (N := 1) rfl ?_); refine box_event ?hg (N := 1) ?hd (cs := #[.int .i64 a0_0, .int .i64 a0_1, .int .i64 a0_2, .int .i64 a0_3, .int .i64 a0_4]) (t := 23) ?hr ?_; (case hd => rfl); (case hg => rfl); (case hr => first | (go_simp; done) | (go_simp; rfl)); intro gb117 hg w5 hbox hb; have n0_ := Aside0.mk (below_step (by repeat (first | (with_reducible first | exact HB.out | apply below_alloc | apply pw_below_drewN | apply below_drew1) | exact HB.out)) hb); have n1_ := Aside0.mk (hbox); have n2_ := Aside0.mk ((by rw [hg]; exact (below_size (by repeat (first | (with_reducible first | exact HB.out | apply below_alloc | apply pw_below_drewN | apply below_drew1) | exact HB.out))) : w.heap.size ≤ gb117)); have n3_ := Aside0.mk ((by rw [hg]; exact (below_size (by repeat (first | (with_reducible first | exact HB.out | apply below_alloc | apply pw_below_drewN | apply below_drew1) | exact HB.out))) : w.heap.size ≤ gb117)); clear HB; have HB := n0_; have BK117 := n1_; have GW117 := n2_; have GE117 := n3_; clear n0_ n1_ n2_ n3_; clear hb hbox hg))
 have n0_ := Aside0.mk (blk_drew BK117.out)
 have n1_ := Aside0.mk (below_drew1 HB.out)
 clear BK117
 clear HB
 have BK117 := n0_
 have HB := n1_
 clear n0_ n1_
 refine start_ (n := 9) (S := fun w' => w'.cell? ⟨gb117, 0, none⟩ = some (.int .i64 a0_0) ∧ w'.cell? ⟨gb117, 1, none⟩ = some (.int .i64 a0_1) ∧ w'.cell? ⟨gb117, 2, none⟩ = some (.int .i64 a0_2) ∧ w'.cell? ⟨gb117, 3, none⟩ = some (.int .i64 a0_3) ∧ w'.cell? ⟨gb117, 4, none⟩ = some (.int .i64 a0_4)) (ds := []) #[false, false, false, false, false, false, false, false, false] (by kernel_rfl) rfl rfl ⟨(blk_cell BK117.out 0).trans rfl, (blk_cell BK117.out 1).trans rfl, (blk_cell BK117.out 2).trans rfl, (blk_cell BK117.out 3).trans rfl, (blk_cell BK117.out 4).trans rfl⟩ (fun hHeld => ?_); refine with_tabW layout_Len.tab1 layout_Len.bits1 (fun HT_ HW_ => ?_)
 generalize w5.drew = w6 at BK117 HB hHeld ⊢
 refine take_ (i := 0) (N := some 3) (v := ?_) (a' := ?_) #[true, false, false, false, false, false, false, false, false] rfl rfl (take_ofW HT_.out HW_.out (by kernel_rfl)) (fun _ _ _ h => h) (Or.inl ⟨by rfl, ?_⟩) hHeld ?_ ?_
 rotate_left
 ·rintro w' ⟨s0, s1, s2, s3, s4⟩
  go_simp
  with_reducible rfl
 rotate_left
 ·simp only [Act.put, List.setIfInBounds_toArray, List.set_cons_zero, List.set_cons_succ, i64_w, i32_w]
  rfl
 refine take_ (i := 2) (N := some 5) (v := ?_) (a' := ?_) #[true, false, true, false, false, false, false, false, false] rfl rfl (take_ofW HT_.out HW_.out (by kernel_rfl)) (fun _ _ _ h => h) (Or.inl ⟨by rfl, ?_⟩) hHeld ?_ ?_
 rotate_left
 ·rintro w' ⟨s0, s1, s2, s3, s4⟩
  go_simp
  with_reducible rfl
 rotate_left
 ·simp only [Act.put, List.setIfInBounds_toArray, List.set_cons_zero, List.set_cons_succ, i64_w, i32_w]
  rfl
 refine take_ (i := 5) (N := some 8) (v := ?_) (a' := ?_) #[true, false, true, false, false, true, false, false, false] rfl rfl (take_ofW HT_.out HW_.out (by kernel_rfl)) (fun _ _ _ h => h) (Or.inl ⟨by rfl, ?_⟩) hHeld ?_ ?_
 rotate_left
 ·rintro w' ⟨s0, s1, s2, s3, s4⟩
  go_simp
  with_reducible rfl
 rotate_left
 ·simp only [Act.put, List.setIfInBounds_toArray, List.set_cons_zero, List.set_cons_succ, i64_w, i32_w]
  rfl
 refine one_ (i := 1) (N := some 4) #[true, true, true, false, false, true, false, false, false] rfl rfl (one_of HT_.out (by kernel_rfl)) (by decide) (fun K hK => ?_)
 refine goes_ Try.func67 (by kernel_rfl) rfl #[.agg #[.int .i64 a0_0, .int .i64 a0_1, .int .i64 a0_2, .int .i64 a0_3, .int .i64 a0_4]] (by rfl) rfl rfl (by (try simp only [List.map_toArray, List.map_cons, List.map_nil]); first | done | rfl | (simp only [List.length_drop, List.length_take]; rfl)) ?_
 with_reducible refine (conf_Nodes.calls k a0_0 a0_1 a0_2 a0_3 a0_4 t118 _ A2.out).mono ?_
 rintro e w7 ⟨rfl, hb⟩
 refine ⟨_, rfl, ?_⟩
 have n0_ := Aside0.mk (blk_below (g := gb117) (o := .cells #[.int .i64 a0_0, .int .i64 a0_1, .int .i64 a0_2, .int .i64 a0_3, .int .i64 a0_4] 23 (0, 0)) (by (with_reducible repeat (first | refine blk_drewN ?_ _ | refine blk_drew ?_ | refine blk_alloc ?_ _)); exact BK117.out) hb)
 have n1_ := Aside0.mk (below_step (by repeat (first | (with_reducible first | exact HB.out | apply below_alloc | apply pw_below_drewN | apply below_drew1 | refine below_set ?_ GE117.out) | exact HB.out)) hb)
 clear BK117
 clear HB
 have BK117 := n0_
 have HB := n1_
 clear n0_ n1_
 (try clear hb)
 (try clear hb2)
 (try clear hk)
 (try clear hi)
 refine hK.out _ _ ⟨(blk_cell BK117.out 0).trans rfl, (blk_cell BK117.out 1).trans rfl, (blk_cell BK117.out 2).trans rfl, (blk_cell BK117.out 3).trans rfl, (blk_cell BK117.out 4).trans rfl⟩ (fun hHeld => ?_)
 clear hK K
 refine norm_ (a' := ?_) ?_ ?_
 rotate_left
 ·show Act.put _ (some 4) _ = _
  simp only [Act.put, List.setIfInBounds_toArray, List.set_cons_zero, List.set_cons_succ, i64_w, i32_w]
  rfl
 refine one_ (i := 3) (N := some 6) #[true, true, true, true, false, true, false, false, false] rfl rfl (one_of HT_.out (by kernel_rfl)) (by decide) (fun K hK => ?_)
 refine goes_ Try.func68 (by kernel_rfl) rfl #[.agg #[.int .i64 a0_0, .int .i64 a0_1, .int .i64 a0_2, .int .i64 a0_3, .int .i64 a0_4]] (by rfl) rfl rfl (by (try simp only [List.map_toArray, List.map_cons, List.map_nil]); first | done | rfl | (simp only [List.length_drop, List.length_take]; rfl)) ?_
 with_reducible refine (conf_Ops.calls k a0_0 a0_1 a0_2 a0_3 a0_4 t119 _ A3.out).mono ?_
 rintro e w8 ⟨rfl, hb⟩
 refine ⟨_, rfl, ?_⟩
 have n0_ := Aside0.mk (blk_below (g := gb117) (o := .cells #[.int .i64 a0_0, .int .i64 a0_1, .int .i64 a0_2, .int .i64 a0_3, .int .i64 a0_4] 23 (0, 0)) (by (with_reducible repeat (first | refine blk_drewN ?_ _ | refine blk_drew ?_ | refine blk_alloc ?_ _)); exact BK117.out) hb)
 have n1_ := Aside0.mk (below_step (by repeat (first | (with_reducible first | exact HB.out | apply below_alloc | apply pw_below_drewN | apply below_drew1 | refine below_set ?_ GE117.out) | exact HB.out)) hb)
 clear BK117
 clear HB
 have BK117 := n0_
 have HB := n1_
 clear n0_ n1_
 (try clear hb)
 (try clear hb2)
 (try clear hk)
 (try clear hi)
 refine hK.out _ _ ⟨(blk_cell BK117.out 0).trans rfl, (blk_cell BK117.out 1).trans rfl, (blk_cell BK117.out 2).trans rfl, (blk_cell BK117.out 3).trans rfl, (blk_cell BK117.out 4).trans rfl⟩ (fun hHeld => ?_)
 clear hK K
 refine norm_ (a' := ?_) ?_ ?_
 rotate_left
 ·show Act.put _ (some 6) _ = _
  simp only [Act.put, List.setIfInBounds_toArray, List.set_cons_zero, List.set_cons_succ, i64_w, i32_w]
  rfl
 refine pure_ (i := 4) (N := some 7) (v := ?_) (a' := ?_) #[true, true, true, true, true, true, false, false, false] rfl rfl (any_of HT_.out (by kernel_rfl)) (fun _ _ _ h => h) (Or.inl ⟨by rfl, ?_⟩) ?_ ?_
 rotate_left
 ·intro w'
  go_simp
  with_reducible rfl
 rotate_left
 ·simp only [Act.put, List.setIfInBounds_toArray, List.set_cons_zero, List.set_cons_succ, i64_w, i32_w]
  rfl
 refine one_ (i := 6) (N := some 9) #[true, true, true, true, true, true, true, false, false] rfl rfl (one_of HT_.out (by kernel_rfl)) (by decide) (fun K hK => ?_)
 refine goes_ Try.func69 (by kernel_rfl) rfl #[.agg #[.int .i64 a0_0, .int .i64 a0_1, .int .i64 a0_2, .int .i64 a0_3, .int .i64 a0_4]] (by rfl) rfl rfl (by (try simp only [List.map_toArray, List.map_cons, List.map_nil]); first | done | rfl | (simp only [List.length_drop, List.length_take]; rfl)) ?_
 with_reducible refine (layout_threads.calls k a0_0 a0_1 a0_2 a0_3 a0_4 t120 _ A4.out).mono ?_
 rintro e w9 ⟨rfl, hb⟩
 refine ⟨_, rfl, ?_⟩
 have n0_ := Aside0.mk (blk_below (g := gb117) (o := .cells #[.int .i64 a0_0, .int .i64 a0_1, .int .i64 a0_2, .int .i64 a0_3, .int .i64 a0_4] 23 (0, 0)) (by (with_reducible repeat (first | refine blk_drewN ?_ _ | refine blk_drew ?_ | refine blk_alloc ?_ _)); exact BK117.out) hb)
 have n1_ := Aside0.mk (below_step (by repeat (first | (with_reducible first | exact HB.out | apply below_alloc | apply pw_below_drewN | apply below_drew1 | refine below_set ?_ GE117.out) | exact HB.out)) hb)
 clear BK117
 clear HB
 have BK117 := n0_
 have HB := n1_
 clear n0_ n1_
 (try clear hb)
 (try clear hb2)
 (try clear hk)
 (try clear hi)
 refine hK.out _ _ ⟨(blk_cell BK117.out 0).trans rfl, (blk_cell BK117.out 1).trans rfl, (blk_cell BK117.out 2).trans rfl, (blk_cell BK117.out 3).trans rfl, (blk_cell BK117.out 4).trans rfl⟩ (fun hHeld => ?_)
 clear hK K
 refine norm_ (a' := ?_) ?_ ?_
 rotate_left
 ·show Act.put _ (some 9) _ = _
  simp only [Act.put, List.setIfInBounds_toArray, List.set_cons_zero, List.set_cons_succ, i64_w, i32_w]
  rfl
 refine pure_ (i := 7) (N := some 10) (v := ?_) (a' := ?_) #[true, true, true, true, true, true, true, true, false] rfl rfl (any_of HT_.out (by kernel_rfl)) (fun _ _ _ h => h) (Or.inl ⟨by rfl, ?_⟩) ?_ ?_
 rotate_left
 ·intro w'
  go_simp
  with_reducible rfl
 rotate_left
 ·simp only [Act.put, List.setIfInBounds_toArray, List.set_cons_zero, List.set_cons_succ, i64_w, i32_w]
  rfl
 refine pure_ (i := 8) (N := some 2) (v := ?_) (a' := ?_) #[true, true, true, true, true, true, true, true, true] rfl rfl (any_of HT_.out (by kernel_rfl)) (fun _ _ _ h => h) (Or.inl ⟨by rfl, ?_⟩) ?_ ?_
 rotate_left
 ·intro w'
  go_simp
  with_reducible rfl
 rotate_left
 ·simp only [Act.put, List.setIfInBounds_toArray, List.set_cons_zero, List.set_cons_succ, i64_w, i32_w]
  rfl
 refine done_ (done_of HT_.out (by kernel_rfl)) ?_
 try go_wp2
 go_ret
 exact ⟨by first | rfl | (simp [errW_none, errW_some] <;> rfl) | (simp [*, errW_none, errW_some] <;> rfl), by repeat (first | (with_reducible first | exact HB.out | apply below_alloc | apply pw_below_drewN | apply below_drew1 | refine below_set ?_ GE117.out) | exact HB.out)⟩

-- NOT PRINTED: function 10 (world_New)

-- NOT PRINTED: function 70 (atomic_LoadInt64)

-- NOT PRINTED: function 35 (atomic_Int64_Load)

-- NOT PRINTED: function 14 (cells_Cells_Steps)

-- NOT PRINTED: function 27 (cells_Cells_Len)

-- NOT PRINTED: function 102 (atomic_AddInt64)

-- NOT PRINTED: function 95 (atomic_Int64_Add)

-- NOT PRINTED: function 71 (cells_Cells_step)

-- NOT PRINTED: function 36 (cells_Cells_Store)

-- NOT PRINTED: function 74 (layout_where_int)

/-! ### layout_Next: function 37 (by hand) -/
def layout_Next.f (k : Nat) (t b i f c n : Int) : Option Int := (conf_Nodes.f k t b i f c).bind fun m => if n < 0 then some (-1) else if n ≥ m then some (-1) else some n
theorem layout_Next.mono : ∀ t b i f c n k, LeO (layout_Next.f k t b i f c n) (layout_Next.f (k + 1) t b i f c n) := by
 intro t b i f c n k
 exact LeO.bind (conf_Nodes.mono _ _ _ _ _ _) (fun _ => LeO.ite (LeO.refl _) (LeO.ite (LeO.refl _) (LeO.refl _)))
set_option maxHeartbeats 8000000 in
set_option maxRecDepth 100000 in
theorem layout_Next.calls (k : Nat) (t b i f c n r : Int) (w : World) (h : layout_Next.f k t b i f c n = some r) :
  Calls Try.prog 37 #[.agg #[.int .i64 t, .int .i64 b, .int .i64 i, .int .i64 f, .int .i64 c], .int .i64 n] w fun e w' => e = .returned (.int .i64 r) ∧ Below w.heap.size w w' := by
 have hmf : ∀ (fn : Fn) (first cap : Array Value) (w : World), (Instr.makeFunc fn first cap).run Try.prog w = .ok (.func fn first cap) w := fun _ _ _ _ => rfl
 obtain ⟨m, hm, h⟩ := Option.bind_eq_some_iff.mp h
 have Hm := Aside0.mk hm
 clear hm
 by_cases c1 : n < 0
 ·rw [if_pos c1] at h
  obtain rfl := Option.some.inj h
  clear h
  go_enter Try.func37, Try.ntmps37
  go_wp2_with (first | (go_at_call 67; (with_reducible refine (conf_Nodes.calls k t b i f c m _ Hm.out).mono ?_); rintro e w1 ⟨rfl, hb⟩; have HB := Aside0.mk (below_step (below_alloc (Below.refl w.heap.size w) _) hb); have K1 := Aside0.mk (blk_below (blk_new w (.cells #[.int .i64 t, .int .i64 b, .int .i64 i, .int .i64 f, .int .i64 c] 23)) hb); have cK1_0 : w1.cell? ⟨w.heap.size, 0, none⟩ = some (.int .i64 t) := (blk_cell K1.out 0).trans rfl; have cK1_1 : w1.cell? ⟨w.heap.size, 1, none⟩ = some (.int .i64 b) := (blk_cell K1.out 1).trans rfl; have cK1_2 : w1.cell? ⟨w.heap.size, 2, none⟩ = some (.int .i64 i) := (blk_cell K1.out 2).trans rfl; have cK1_3 : w1.cell? ⟨w.heap.size, 3, none⟩ = some (.int .i64 f) := (blk_cell K1.out 3).trans rfl; have cK1_4 : w1.cell? ⟨w.heap.size, 4, none⟩ = some (.int .i64 c) := (blk_cell K1.out 4).trans rfl; clear hb) | (go_at_call 74; go_in))
  go_ret
  exact ⟨rfl, HB.out⟩
 ·by_cases c2 : n ≥ m
  ·rw [if_neg c1, if_pos c2] at h
   obtain rfl := Option.some.inj h
   clear h
   go_enter Try.func37, Try.ntmps37
   go_wp2_with (first | (go_at_call 67; (with_reducible refine (conf_Nodes.calls k t b i f c m _ Hm.out).mono ?_); rintro e w1 ⟨rfl, hb⟩; have HB := Aside0.mk (below_step (below_alloc (Below.refl w.heap.size w) _) hb); have K1 := Aside0.mk (blk_below (blk_new w (.cells #[.int .i64 t, .int .i64 b, .int .i64 i, .int .i64 f, .int .i64 c] 23)) hb); have cK1_0 : w1.cell? ⟨w.heap.size, 0, none⟩ = some (.int .i64 t) := (blk_cell K1.out 0).trans rfl; have cK1_1 : w1.cell? ⟨w.heap.size, 1, none⟩ = some (.int .i64 b) := (blk_cell K1.out 1).trans rfl; have cK1_2 : w1.cell? ⟨w.heap.size, 2, none⟩ = some (.int .i64 i) := (blk_cell K1.out 2).trans rfl; have cK1_3 : w1.cell? ⟨w.heap.size, 3, none⟩ = some (.int .i64 f) := (blk_cell K1.out 3).trans rfl; have cK1_4 : w1.cell? ⟨w.heap.size, 4, none⟩ = some (.int .i64 c) := (blk_cell K1.out 4).trans rfl; clear hb) | (go_at_call 74; go_in))
   go_ret
   exact ⟨rfl, HB.out⟩
  ·rw [if_neg c1, if_neg c2] at h
   obtain rfl := Option.some.inj h
   clear h
   go_enter Try.func37, Try.ntmps37
   go_wp2_with (first | (go_at_call 67; (with_reducible refine (conf_Nodes.calls k t b i f c m _ Hm.out).mono ?_); rintro e w1 ⟨rfl, hb⟩; have HB := Aside0.mk (below_step (below_alloc (Below.refl w.heap.size w) _) hb); have K1 := Aside0.mk (blk_below (blk_new w (.cells #[.int .i64 t, .int .i64 b, .int .i64 i, .int .i64 f, .int .i64 c] 23)) hb); have cK1_0 : w1.cell? ⟨w.heap.size, 0, none⟩ = some (.int .i64 t) := (blk_cell K1.out 0).trans rfl; have cK1_1 : w1.cell? ⟨w.heap.size, 1, none⟩ = some (.int .i64 b) := (blk_cell K1.out 1).trans rfl; have cK1_2 : w1.cell? ⟨w.heap.size, 2, none⟩ = some (.int .i64 i) := (blk_cell K1.out 2).trans rfl; have cK1_3 : w1.cell? ⟨w.heap.size, 3, none⟩ = some (.int .i64 f) := (blk_cell K1.out 3).trans rfl; have cK1_4 : w1.cell? ⟨w.heap.size, 4, none⟩ = some (.int .i64 c) := (blk_cell K1.out 4).trans rfl; clear hb) | (go_at_call 74; go_in) | (go_at_call 75; go_in))
   go_ret
   exact ⟨rfl, HB.out⟩


-- NOT PRINTED: function 15 (world_World_Set)

-- NOT PRINTED: function 38 (world_of_bool)

-- NOT PRINTED: function 16 (world_World_Turn)

/-! ### layout_Ann: function 42 (by hand) -/
def layout_Ann1.T1 : Bool × List (List Nat × List Nat) := (true, [([], []), ([0], [0]), ([], []), ([2, 1], [2]), ([1, 3], [1, 3]), ([], []), ([4, 5], [4, 5]), ([6, 3, 0, 1, 2, 3, 4, 5, 6], [6])])
def layout_Ann1.B1 : List Nat := [0, 1, 0, 7, 15, 0, 63, 127]
theorem layout_Ann1.tab1 : rtab .any (opsOf Try.f79 1) = layout_Ann1.T1 := by kernel_rfl
theorem layout_Ann1.bits1 : waitsOk layout_Ann1.T1.2 layout_Ann1.B1 = true := by kernel_rfl
set_option maxHeartbeats 8000000 in
set_option maxRecDepth 100000 in
theorem layout_Ann1.calls (k : Nat) (t b i f c n q p : Int) (g : Nat) (W : World) (hg : W.heap[g]? = some (.cells #[.int .i64 t, .int .i64 b, .int .i64 i, .int .i64 f, .int .i64 c] 23 (0, 0))) (hq : conf_Nodes.f k t b i f c = some q) (hp : conf_Ops.f k t b i f c = some p) :
  Calls Try.prog 79 #[.int .i64 n, .pointer (some ⟨g, 0, none⟩)] W fun e w' => e = .returned (.int .i64 (wrap64 (wrap64 (q + p) + n))) ∧ Below W.heap.size W w' := by
 have BK := Aside0.mk hg
 have HB := Aside0.mk (Below.refl W.heap.size W)
 have Hq := Aside0.mk hq
 have Hp := Aside0.mk hp
 clear hg hq hp
 go_enter Try.func79, Try.ntmps79
 go_wp2_with (fail)
 have n0_ := Aside0.mk (blk_drew BK.out)
 have n1_ := Aside0.mk (below_drew1 HB.out)
 clear BK HB
 have BK := n0_
 have HB := n1_
 clear n0_ n1_
 refine start_ (n := 8) (S := fun w' => w'.cell? ⟨g, 0, none⟩ = some (.int .i64 t) ∧ w'.cell? ⟨g, 1, none⟩ = some (.int .i64 b) ∧ w'.cell? ⟨g, 2, none⟩ = some (.int .i64 i) ∧ w'.cell? ⟨g, 3, none⟩ = some (.int .i64 f) ∧ w'.cell? ⟨g, 4, none⟩ = some (.int .i64 c)) (ds := []) #[false, false, false, false, false, false, false, false] (by kernel_rfl) rfl rfl ⟨(blk_cell BK.out 0).trans rfl, (blk_cell BK.out 1).trans rfl, (blk_cell BK.out 2).trans rfl, (blk_cell BK.out 3).trans rfl, (blk_cell BK.out 4).trans rfl⟩ (fun hHeld => ?_); refine with_tabW layout_Ann1.tab1 layout_Ann1.bits1 (fun HT_ HW_ => ?_)
 generalize W.drew = W1 at BK HB hHeld ⊢
 refine take_ (i := 0) (N := some 4) (v := ?_) (a' := ?_) #[true, false, false, false, false, false, false, false] rfl rfl (take_ofW HT_.out HW_.out (by kernel_rfl)) (fun _ _ _ h => h) (Or.inl ⟨by rfl, ?_⟩) hHeld ?_ ?_
 rotate_left
 ·rintro w' ⟨s0, s1, s2, s3, s4⟩
  go_simp
  with_reducible rfl
 rotate_left
 ·simp only [Act.put, List.setIfInBounds_toArray, List.set_cons_zero, List.set_cons_succ, i64_w, i32_w]
  rfl
 refine take_ (i := 2) (N := some 6) (v := ?_) (a' := ?_) #[true, false, true, false, false, false, false, false] rfl rfl (take_ofW HT_.out HW_.out (by kernel_rfl)) (fun _ _ _ h => h) (Or.inl ⟨by rfl, ?_⟩) hHeld ?_ ?_
 rotate_left
 ·rintro w' ⟨s0, s1, s2, s3, s4⟩
  go_simp
  with_reducible rfl
 rotate_left
 ·simp only [Act.put, List.setIfInBounds_toArray, List.set_cons_zero, List.set_cons_succ, i64_w, i32_w]
  rfl
 refine pure_ (i := 5) (N := some 9) (v := ?_) (a' := ?_) #[true, false, true, false, false, true, false, false] rfl rfl (any_of HT_.out (by kernel_rfl)) (fun _ _ _ h => h) (Or.inl ⟨by rfl, ?_⟩) ?_ ?_
 rotate_left
 ·intro w'
  go_simp
  with_reducible rfl
 rotate_left
 ·simp only [Act.put, List.setIfInBounds_toArray, List.set_cons_zero, List.set_cons_succ, i64_w, i32_w]
  rfl
 refine one_ (i := 1) (N := some 5) #[true, true, true, false, false, true, false, false] rfl rfl (one_of HT_.out (by kernel_rfl)) (by decide) (fun K hK => ?_)
 refine goes_ Try.func67 (by kernel_rfl) rfl #[.agg #[.int .i64 t, .int .i64 b, .int .i64 i, .int .i64 f, .int .i64 c]] (by rfl) rfl rfl (by (try simp only [List.map_toArray, List.map_cons, List.map_nil]); first | done | rfl) ?_
 with_reducible refine (conf_Nodes.calls k t b i f c q _ Hq.out).mono ?_
 rintro e w2 ⟨rfl, hb⟩
 refine ⟨_, rfl, ?_⟩
 have n0_ := Aside0.mk (blk_below BK.out hb)
 have n1_ := Aside0.mk (below_step HB.out hb)
 clear BK HB hb
 have BK := n0_
 have HB := n1_
 clear n0_ n1_
 refine hK.out _ _ ⟨(blk_cell BK.out 0).trans rfl, (blk_cell BK.out 1).trans rfl, (blk_cell BK.out 2).trans rfl, (blk_cell BK.out 3).trans rfl, (blk_cell BK.out 4).trans rfl⟩ (fun hHeld => ?_)
 clear hK K
 refine norm_ (a' := ?_) ?_ ?_
 rotate_left
 ·show Act.put _ (some 5) _ = _
  simp only [Act.put, List.setIfInBounds_toArray, List.set_cons_zero, List.set_cons_succ, i64_w, i32_w]
  rfl
 refine one_ (i := 3) (N := some 7) #[true, true, true, true, false, true, false, false] rfl rfl (one_of HT_.out (by kernel_rfl)) (by decide) (fun K hK => ?_)
 refine goes_ Try.func68 (by kernel_rfl) rfl #[.agg #[.int .i64 t, .int .i64 b, .int .i64 i, .int .i64 f, .int .i64 c]] (by rfl) rfl rfl (by (try simp only [List.map_toArray, List.map_cons, List.map_nil]); first | done | rfl) ?_
 with_reducible refine (conf_Ops.calls k t b i f c p _ Hp.out).mono ?_
 rintro e w3 ⟨rfl, hb⟩
 refine ⟨_, rfl, ?_⟩
 have n0_ := Aside0.mk (blk_below BK.out hb)
 have n1_ := Aside0.mk (below_step HB.out hb)
 clear BK HB hb
 have BK := n0_
 have HB := n1_
 clear n0_ n1_
 refine hK.out _ _ ⟨(blk_cell BK.out 0).trans rfl, (blk_cell BK.out 1).trans rfl, (blk_cell BK.out 2).trans rfl, (blk_cell BK.out 3).trans rfl, (blk_cell BK.out 4).trans rfl⟩ (fun hHeld => ?_)
 clear hK K
 refine norm_ (a' := ?_) ?_ ?_
 rotate_left
 ·show Act.put _ (some 7) _ = _
  simp only [Act.put, List.setIfInBounds_toArray, List.set_cons_zero, List.set_cons_succ, i64_w, i32_w]
  rfl
 refine pure_ (i := 4) (N := some 8) (v := ?_) (a' := ?_) #[true, true, true, true, true, true, false, false] rfl rfl (any_of HT_.out (by kernel_rfl)) (fun _ _ _ h => h) (Or.inl ⟨by rfl, ?_⟩) ?_ ?_
 rotate_left
 ·intro w'
  go_simp
  with_reducible rfl
 rotate_left
 ·simp only [Act.put, List.setIfInBounds_toArray, List.set_cons_zero, List.set_cons_succ, i64_w, i32_w]
  rfl
 refine pure_ (i := 6) (N := some 10) (v := ?_) (a' := ?_) #[true, true, true, true, true, true, true, false] rfl rfl (any_of HT_.out (by kernel_rfl)) (fun _ _ _ h => h) (Or.inl ⟨by rfl, ?_⟩) ?_ ?_
 rotate_left
 ·intro w'
  go_simp
  with_reducible rfl
 rotate_left
 ·simp only [Act.put, List.setIfInBounds_toArray, List.set_cons_zero, List.set_cons_succ, i64_w, i32_w]
  rfl
 refine pure_ (i := 7) (N := some 3) (v := ?_) (a' := ?_) #[true, true, true, true, true, true, true, true] rfl rfl (any_of HT_.out (by kernel_rfl)) (fun _ _ _ h => h) (Or.inl ⟨by rfl, ?_⟩) ?_ ?_
 rotate_left
 ·intro w'
  go_simp
  with_reducible rfl
 rotate_left
 ·simp only [Act.put, List.setIfInBounds_toArray, List.set_cons_zero, List.set_cons_succ, i64_w, i32_w]
  rfl
 refine done_ (done_of HT_.out (by kernel_rfl)) ?_
 go_wp2
 go_ret
 exact ⟨rfl, HB.out⟩
def layout_Ann.f (k : Nat) (t b i f c n : Int) : Option Int := (layout_threads.f k t b i f c).bind fun m => if n < 0 then some (-1) else if n ≥ m then some (-1) else (conf_Nodes.f k t b i f c).bind fun q => (conf_Ops.f k t b i f c).bind fun p => some (wrap64 (wrap64 (q + p) + n))
theorem layout_Ann.mono : ∀ t b i f c n k, LeO (layout_Ann.f k t b i f c n) (layout_Ann.f (k + 1) t b i f c n) := by
 intro t b i f c n k
 exact LeO.bind (layout_threads.mono _ _ _ _ _ _) (fun _ => LeO.ite (LeO.refl _) (LeO.ite (LeO.refl _) (LeO.bind (conf_Nodes.mono _ _ _ _ _ _) (fun _ => LeO.bind (conf_Ops.mono _ _ _ _ _ _) (fun _ => LeO.refl _)))))
set_option maxHeartbeats 8000000 in
set_option maxRecDepth 100000 in
theorem layout_Ann.calls (k : Nat) (t b i f c n r : Int) (w : World) (h : layout_Ann.f k t b i f c n = some r) :
  Calls Try.prog 42 #[.agg #[.int .i64 t, .int .i64 b, .int .i64 i, .int .i64 f, .int .i64 c], .int .i64 n] w fun e w' => e = .returned (.int .i64 r) ∧ Below w.heap.size w w' := by
 have hmf : ∀ (fn : Fn) (first cap : Array Value) (w : World), (Instr.makeFunc fn first cap).run Try.prog w = .ok (.func fn first cap) w := fun _ _ _ _ => rfl
 obtain ⟨m, hm, h⟩ := Option.bind_eq_some_iff.mp h
 have Hm := Aside0.mk hm
 clear hm
 by_cases c1 : n < 0
 ·rw [if_pos c1] at h
  obtain rfl := Option.some.inj h
  clear h
  go_enter Try.func42, Try.ntmps42
  go_wp2_with (first | (go_at_call 69; (with_reducible refine (layout_threads.calls k t b i f c m _ Hm.out).mono ?_); rintro e w1 ⟨rfl, hb⟩; have HB := Aside0.mk (below_step (below_alloc (Below.refl w.heap.size w) _) hb); have K1 := Aside0.mk (blk_below (blk_new w (.cells #[.int .i64 t, .int .i64 b, .int .i64 i, .int .i64 f, .int .i64 c] 23)) hb); have cK1_0 : w1.cell? ⟨w.heap.size, 0, none⟩ = some (.int .i64 t) := (blk_cell K1.out 0).trans rfl; have cK1_1 : w1.cell? ⟨w.heap.size, 1, none⟩ = some (.int .i64 b) := (blk_cell K1.out 1).trans rfl; have cK1_2 : w1.cell? ⟨w.heap.size, 2, none⟩ = some (.int .i64 i) := (blk_cell K1.out 2).trans rfl; have cK1_3 : w1.cell? ⟨w.heap.size, 3, none⟩ = some (.int .i64 f) := (blk_cell K1.out 3).trans rfl; have cK1_4 : w1.cell? ⟨w.heap.size, 4, none⟩ = some (.int .i64 c) := (blk_cell K1.out 4).trans rfl; clear hb) | (go_at_call 74; go_in))
  go_ret
  exact ⟨rfl, HB.out⟩
 ·by_cases c2 : n ≥ m
  ·rw [if_neg c1, if_pos c2] at h
   obtain rfl := Option.some.inj h
   clear h
   go_enter Try.func42, Try.ntmps42
   go_wp2_with (first | (go_at_call 69; (with_reducible refine (layout_threads.calls k t b i f c m _ Hm.out).mono ?_); rintro e w1 ⟨rfl, hb⟩; have HB := Aside0.mk (below_step (below_alloc (Below.refl w.heap.size w) _) hb); have K1 := Aside0.mk (blk_below (blk_new w (.cells #[.int .i64 t, .int .i64 b, .int .i64 i, .int .i64 f, .int .i64 c] 23)) hb); have cK1_0 : w1.cell? ⟨w.heap.size, 0, none⟩ = some (.int .i64 t) := (blk_cell K1.out 0).trans rfl; have cK1_1 : w1.cell? ⟨w.heap.size, 1, none⟩ = some (.int .i64 b) := (blk_cell K1.out 1).trans rfl; have cK1_2 : w1.cell? ⟨w.heap.size, 2, none⟩ = some (.int .i64 i) := (blk_cell K1.out 2).trans rfl; have cK1_3 : w1.cell? ⟨w.heap.size, 3, none⟩ = some (.int .i64 f) := (blk_cell K1.out 3).trans rfl; have cK1_4 : w1.cell? ⟨w.heap.size, 4, none⟩ = some (.int .i64 c) := (blk_cell K1.out 4).trans rfl; clear hb) | (go_at_call 74; go_in))
   go_ret
   exact ⟨rfl, HB.out⟩
  ·rw [if_neg c1, if_neg c2] at h
   obtain ⟨q, hq, h⟩ := Option.bind_eq_some_iff.mp h
   obtain ⟨p, hp, h⟩ := Option.bind_eq_some_iff.mp h
   have Hq := Aside0.mk hq
   have Hp := Aside0.mk hp
   clear hq hp
   obtain rfl := Option.some.inj h
   clear h
   go_enter Try.func42, Try.ntmps42
   go_wp2_with (first | (go_at_call 69; (with_reducible refine (layout_threads.calls k t b i f c m _ Hm.out).mono ?_); rintro e w1 ⟨rfl, hb⟩; have HB := Aside0.mk (below_step (below_alloc (Below.refl w.heap.size w) _) hb); have K1 := Aside0.mk (blk_below (blk_new w (.cells #[.int .i64 t, .int .i64 b, .int .i64 i, .int .i64 f, .int .i64 c] 23)) hb); have cK1_0 : w1.cell? ⟨w.heap.size, 0, none⟩ = some (.int .i64 t) := (blk_cell K1.out 0).trans rfl; have cK1_1 : w1.cell? ⟨w.heap.size, 1, none⟩ = some (.int .i64 b) := (blk_cell K1.out 1).trans rfl; have cK1_2 : w1.cell? ⟨w.heap.size, 2, none⟩ = some (.int .i64 i) := (blk_cell K1.out 2).trans rfl; have cK1_3 : w1.cell? ⟨w.heap.size, 3, none⟩ = some (.int .i64 f) := (blk_cell K1.out 3).trans rfl; have cK1_4 : w1.cell? ⟨w.heap.size, 4, none⟩ = some (.int .i64 c) := (blk_cell K1.out 4).trans rfl; clear hb) | (go_at_call 74; go_in) | (go_at_call 79; (with_reducible refine (layout_Ann1.calls k t b i f c n q p w.heap.size _ K1.out Hq.out Hp.out).mono ?_); rintro e w2 ⟨rfl, hb⟩; have HB2 := Aside0.mk (below_step HB.out hb); clear hb))
   go_ret
   exact ⟨rfl, HB2.out⟩


-- NOT PRINTED: function 17 (world_World_Say)

-- NOT PRINTED: function 43 (world_of_uint64)

-- NOT PRINTED: function 18 (world_World_Next)

-- NOT PRINTED: function 19 (world_World_Word)

-- NOT PRINTED: function 47 (world_of_int)

-- NOT PRINTED: function 20 (world_World_Ann)

/-! ### layout_Head: function 51 (by hand) -/
def layout_Head.f (k : Nat) (t b i f c n : Int) : Option Int := (layout_threads.f k t b i f c).bind fun m => if m = 0 then some (-1) else if n < 0 then some (-1) else if n ≥ b then some (-1) else some (wrap64 (1 + n))
theorem layout_Head.mono : ∀ t b i f c n k, LeO (layout_Head.f k t b i f c n) (layout_Head.f (k + 1) t b i f c n) := by
 intro t b i f c n k
 exact LeO.bind (layout_threads.mono _ _ _ _ _ _) (fun _ => LeO.refl _)
set_option maxHeartbeats 8000000 in
set_option maxRecDepth 100000 in
theorem layout_Head.calls (k : Nat) (t b i f c n r : Int) (w : World) (h : layout_Head.f k t b i f c n = some r) :
  Calls Try.prog 51 #[.agg #[.int .i64 t, .int .i64 b, .int .i64 i, .int .i64 f, .int .i64 c], .int .i64 n] w fun e w' => e = .returned (.int .i64 r) ∧ Below w.heap.size w w' := by
 obtain ⟨m, hm, h⟩ := Option.bind_eq_some_iff.mp h
 have Hm := Aside0.mk hm
 clear hm
 by_cases c0 : m = 0
 ·rw [if_pos c0] at h
  obtain rfl := Option.some.inj h
  clear h
  subst c0
  go_enter Try.func51, Try.ntmps51
  go_wp2_with ((go_at_call 69; (with_reducible refine (layout_threads.calls k t b i f c 0 _ Hm.out).mono ?_); rintro e w1 ⟨rfl, hb⟩; have HB := Aside0.mk (below_step (below_alloc (Below.refl w.heap.size w) _) hb); have K1 := Aside0.mk (blk_below (blk_new w (.cells #[.int .i64 t, .int .i64 b, .int .i64 i, .int .i64 f, .int .i64 c] 23)) hb); have cK1_0 : w1.cell? ⟨w.heap.size, 0, none⟩ = some (.int .i64 t) := (blk_cell K1.out 0).trans rfl; have cK1_1 : w1.cell? ⟨w.heap.size, 1, none⟩ = some (.int .i64 b) := (blk_cell K1.out 1).trans rfl; have cK1_2 : w1.cell? ⟨w.heap.size, 2, none⟩ = some (.int .i64 i) := (blk_cell K1.out 2).trans rfl; have cK1_3 : w1.cell? ⟨w.heap.size, 3, none⟩ = some (.int .i64 f) := (blk_cell K1.out 3).trans rfl; have cK1_4 : w1.cell? ⟨w.heap.size, 4, none⟩ = some (.int .i64 c) := (blk_cell K1.out 4).trans rfl; clear hb))
  go_ret
  exact ⟨rfl, HB.out⟩
 ·have c0b : (m == 0) = false := beq_eq_false_iff_ne.mpr c0
  rw [if_neg c0] at h
  clear c0
  by_cases c1 : n < 0
  ·rw [if_pos c1] at h
   obtain rfl := Option.some.inj h
   clear h
   go_enter Try.func51, Try.ntmps51
   go_wp2_with (first | (go_at_call 69; (with_reducible refine (layout_threads.calls k t b i f c m _ Hm.out).mono ?_); rintro e w1 ⟨rfl, hb⟩; have HB := Aside0.mk (below_step (below_alloc (Below.refl w.heap.size w) _) hb); have K1 := Aside0.mk (blk_below (blk_new w (.cells #[.int .i64 t, .int .i64 b, .int .i64 i, .int .i64 f, .int .i64 c] 23)) hb); have cK1_0 : w1.cell? ⟨w.heap.size, 0, none⟩ = some (.int .i64 t) := (blk_cell K1.out 0).trans rfl; have cK1_1 : w1.cell? ⟨w.heap.size, 1, none⟩ = some (.int .i64 b) := (blk_cell K1.out 1).trans rfl; have cK1_2 : w1.cell? ⟨w.heap.size, 2, none⟩ = some (.int .i64 i) := (blk_cell K1.out 2).trans rfl; have cK1_3 : w1.cell? ⟨w.heap.size, 3, none⟩ = some (.int .i64 f) := (blk_cell K1.out 3).trans rfl; have cK1_4 : w1.cell? ⟨w.heap.size, 4, none⟩ = some (.int .i64 c) := (blk_cell K1.out 4).trans rfl; clear hb) | (go_at_call 74; go_in))
   go_ret
   exact ⟨rfl, HB.out⟩
  ·by_cases c2 : n ≥ b
   ·rw [if_neg c1, if_pos c2] at h
    obtain rfl := Option.some.inj h
    clear h
    go_enter Try.func51, Try.ntmps51
    go_wp2_with (first | (go_at_call 69; (with_reducible refine (layout_threads.calls k t b i f c m _ Hm.out).mono ?_); rintro e w1 ⟨rfl, hb⟩; have HB := Aside0.mk (below_step (below_alloc (Below.refl w.heap.size w) _) hb); have K1 := Aside0.mk (blk_below (blk_new w (.cells #[.int .i64 t, .int .i64 b, .int .i64 i, .int .i64 f, .int .i64 c] 23)) hb); have cK1_0 : w1.cell? ⟨w.heap.size, 0, none⟩ = some (.int .i64 t) := (blk_cell K1.out 0).trans rfl; have cK1_1 : w1.cell? ⟨w.heap.size, 1, none⟩ = some (.int .i64 b) := (blk_cell K1.out 1).trans rfl; have cK1_2 : w1.cell? ⟨w.heap.size, 2, none⟩ = some (.int .i64 i) := (blk_cell K1.out 2).trans rfl; have cK1_3 : w1.cell? ⟨w.heap.size, 3, none⟩ = some (.int .i64 f) := (blk_cell K1.out 3).trans rfl; have cK1_4 : w1.cell? ⟨w.heap.size, 4, none⟩ = some (.int .i64 c) := (blk_cell K1.out 4).trans rfl; clear hb) | (go_at_call 74; go_in))
    go_ret
    exact ⟨rfl, HB.out⟩
   ·rw [if_neg c1, if_neg c2] at h
    obtain rfl := Option.some.inj h
    clear h
    go_enter Try.func51, Try.ntmps51
    go_wp2_with (first | (go_at_call 69; (with_reducible refine (layout_threads.calls k t b i f c m _ Hm.out).mono ?_); rintro e w1 ⟨rfl, hb⟩; have HB := Aside0.mk (below_step (below_alloc (Below.refl w.heap.size w) _) hb); have K1 := Aside0.mk (blk_below (blk_new w (.cells #[.int .i64 t, .int .i64 b, .int .i64 i, .int .i64 f, .int .i64 c] 23)) hb); have cK1_0 : w1.cell? ⟨w.heap.size, 0, none⟩ = some (.int .i64 t) := (blk_cell K1.out 0).trans rfl; have cK1_1 : w1.cell? ⟨w.heap.size, 1, none⟩ = some (.int .i64 b) := (blk_cell K1.out 1).trans rfl; have cK1_2 : w1.cell? ⟨w.heap.size, 2, none⟩ = some (.int .i64 i) := (blk_cell K1.out 2).trans rfl; have cK1_3 : w1.cell? ⟨w.heap.size, 3, none⟩ = some (.int .i64 f) := (blk_cell K1.out 3).trans rfl; have cK1_4 : w1.cell? ⟨w.heap.size, 4, none⟩ = some (.int .i64 c) := (blk_cell K1.out 4).trans rfl; clear hb) | (go_at_call 74; go_in) | (go_at_call 81; go_in))
    go_ret
    exact ⟨rfl, HB.out⟩


/-! ### route_Bucket: function 52 (by hand) -/
def route_top (u b : Int) : Option Int :=
 if b = 1 then some (wrap64 (u / 18446744073709551616)) else if b = 2 then some (wrap64 (u / 9223372036854775808)) else if b = 4 then some (wrap64 (u / 4611686018427387904)) else if b = 8 then some (wrap64 (u / 2305843009213693952)) else if b = 16 then some (wrap64 (u / 1152921504606846976)) else if b = 32 then some (wrap64 (u / 576460752303423488)) else if b = 64 then some (wrap64 (u / 288230376151711744)) else none
theorem route_top.cases {u b r : Int} (h : route_top u b = some r) : (b = 1 ∧ r = wrap64 (u / 18446744073709551616)) ∨ (b = 2 ∧ r = wrap64 (u / 9223372036854775808)) ∨ (b = 4 ∧ r = wrap64 (u / 4611686018427387904)) ∨ (b = 8 ∧ r = wrap64 (u / 2305843009213693952)) ∨ (b = 16 ∧ r = wrap64 (u / 1152921504606846976)) ∨ (b = 32 ∧ r = wrap64 (u / 576460752303423488)) ∨ (b = 64 ∧ r = wrap64 (u / 288230376151711744)) := by
 unfold route_top at h
 repeat' (split at h)
 all_goals first | (have := (Option.some.inj h).symm; simp_all; done) | cases h
def route_Bucket.f (k : Nat) (a0 : Int) (a1 : Int) : Option (Int) := (route_May.f k a1).bind fun m => if m = true then (route_top (IntKind.u64.wrap (a0 * 11400714819323198485)) a1) else some 0
theorem route_Bucket.mono : ∀ a0 a1 k, LeO (route_Bucket.f k a0 a1) (route_Bucket.f (k + 1) a0 a1) := by
 intro a0 a1 k
 unfold route_Bucket.f
 exact LeO.bind (route_May.mono _ _) (fun _ => LeO.refl _)
set_option maxHeartbeats 8000000 in
set_option maxRecDepth 100000 in
theorem route_Bucket.calls (k : Nat) (a0 : Int) (a1 : Int) (r : Int) (w : World) (h : route_Bucket.f k a0 a1 = some r) :
  Calls Try.prog 52 #[.int .u64 a0, .int .i64 a1] w fun e w' => e = .returned (.int .i64 r) ∧ Below w.heap.size w w' := by
 have hmf : ∀ (fn : Fn) (first cap : Array Value) (w : World), (Instr.makeFunc fn first cap).run Try.prog w = .ok (.func fn first cap) w := fun _ _ _ _ => rfl
 obtain ⟨m, hm, h⟩ := Option.bind_eq_some_iff.mp h
 have Hm := Aside0.mk hm
 clear hm
 cases m
 ·have hr : r = 0 := (Option.some.inj h).symm
  subst hr
  clear h
  go_enter Try.func52, Try.ntmps52
  go_wp2_with (go_at_call 82; (with_reducible refine (route_May.calls k a1 false _ Hm.out).mono ?_); rintro e w1 ⟨rfl, ⟨n, rfl⟩⟩)
  go_ret
  exact ⟨rfl, by repeat (first | exact Below.refl _ _ | apply below_drew | apply pw_below_drewN | apply below_alloc)⟩
 ·rw [if_pos rfl] at h
  rcases route_top.cases h with ⟨rfl, hr⟩ | ⟨rfl, hr⟩ | ⟨rfl, hr⟩ | ⟨rfl, hr⟩ | ⟨rfl, hr⟩ | ⟨rfl, hr⟩ | ⟨rfl, hr⟩
  ·have Hr := Aside0.mk hr
   clear h hr
   go_enter Try.func52, Try.ntmps52
   go_wp2_with (first | (go_at_call 82; (with_reducible refine (route_May.calls k _ true _ Hm.out).mono ?_); rintro e w1 ⟨rfl, ⟨n, rfl⟩⟩) | (go_at_call 84; (with_reducible refine (bits_Len.calls _ 1 _ (by decide)).mono ?_); rintro e w1 ⟨rfl, ⟨n, rfl⟩⟩) | (go_at_call 83; go_in))
   go_ret
   exact ⟨by rw [Hr.out]; rfl, by repeat (first | exact Below.refl _ _ | apply below_drew | apply pw_below_drewN | apply below_alloc)⟩
  ·have Hr := Aside0.mk hr
   clear h hr
   go_enter Try.func52, Try.ntmps52
   go_wp2_with (first | (go_at_call 82; (with_reducible refine (route_May.calls k _ true _ Hm.out).mono ?_); rintro e w1 ⟨rfl, ⟨n, rfl⟩⟩) | (go_at_call 84; (with_reducible refine (bits_Len.calls _ 2 _ (by decide)).mono ?_); rintro e w1 ⟨rfl, ⟨n, rfl⟩⟩) | (go_at_call 83; go_in))
   go_ret
   exact ⟨by rw [Hr.out]; rfl, by repeat (first | exact Below.refl _ _ | apply below_drew | apply pw_below_drewN | apply below_alloc)⟩
  ·have Hr := Aside0.mk hr
   clear h hr
   go_enter Try.func52, Try.ntmps52
   go_wp2_with (first | (go_at_call 82; (with_reducible refine (route_May.calls k _ true _ Hm.out).mono ?_); rintro e w1 ⟨rfl, ⟨n, rfl⟩⟩) | (go_at_call 84; (with_reducible refine (bits_Len.calls _ 3 _ (by decide)).mono ?_); rintro e w1 ⟨rfl, ⟨n, rfl⟩⟩) | (go_at_call 83; go_in))
   go_ret
   exact ⟨by rw [Hr.out]; rfl, by repeat (first | exact Below.refl _ _ | apply below_drew | apply pw_below_drewN | apply below_alloc)⟩
  ·have Hr := Aside0.mk hr
   clear h hr
   go_enter Try.func52, Try.ntmps52
   go_wp2_with (first | (go_at_call 82; (with_reducible refine (route_May.calls k _ true _ Hm.out).mono ?_); rintro e w1 ⟨rfl, ⟨n, rfl⟩⟩) | (go_at_call 84; (with_reducible refine (bits_Len.calls _ 4 _ (by decide)).mono ?_); rintro e w1 ⟨rfl, ⟨n, rfl⟩⟩) | (go_at_call 83; go_in))
   go_ret
   exact ⟨by rw [Hr.out]; rfl, by repeat (first | exact Below.refl _ _ | apply below_drew | apply pw_below_drewN | apply below_alloc)⟩
  ·have Hr := Aside0.mk hr
   clear h hr
   go_enter Try.func52, Try.ntmps52
   go_wp2_with (first | (go_at_call 82; (with_reducible refine (route_May.calls k _ true _ Hm.out).mono ?_); rintro e w1 ⟨rfl, ⟨n, rfl⟩⟩) | (go_at_call 84; (with_reducible refine (bits_Len.calls _ 5 _ (by decide)).mono ?_); rintro e w1 ⟨rfl, ⟨n, rfl⟩⟩) | (go_at_call 83; go_in))
   go_ret
   exact ⟨by rw [Hr.out]; rfl, by repeat (first | exact Below.refl _ _ | apply below_drew | apply pw_below_drewN | apply below_alloc)⟩
  ·have Hr := Aside0.mk hr
   clear h hr
   go_enter Try.func52, Try.ntmps52
   go_wp2_with (first | (go_at_call 82; (with_reducible refine (route_May.calls k _ true _ Hm.out).mono ?_); rintro e w1 ⟨rfl, ⟨n, rfl⟩⟩) | (go_at_call 84; (with_reducible refine (bits_Len.calls _ 6 _ (by decide)).mono ?_); rintro e w1 ⟨rfl, ⟨n, rfl⟩⟩) | (go_at_call 83; go_in))
   go_ret
   exact ⟨by rw [Hr.out]; rfl, by repeat (first | exact Below.refl _ _ | apply below_drew | apply pw_below_drewN | apply below_alloc)⟩
  ·have Hr := Aside0.mk hr
   clear h hr
   go_enter Try.func52, Try.ntmps52
   go_wp2_with (first | (go_at_call 82; (with_reducible refine (route_May.calls k _ true _ Hm.out).mono ?_); rintro e w1 ⟨rfl, ⟨n, rfl⟩⟩) | (go_at_call 84; (with_reducible refine (bits_Len.calls _ 7 _ (by decide)).mono ?_); rintro e w1 ⟨rfl, ⟨n, rfl⟩⟩) | (go_at_call 83; go_in))
   go_ret
   exact ⟨by rw [Hr.out]; rfl, by repeat (first | exact Below.refl _ _ | apply below_drew | apply pw_below_drewN | apply below_alloc)⟩


-- NOT PRINTED: function 22 (world_World_Head)

-- NOT PRINTED: function 24 (world_World_Link)

/-! ### corrielaw08_small: function 30 -/
def corrielaw08_small.f  : Option (Int × Int × Int × Int × Int) := some (2, 2, 1, 5, 3)
set_option maxHeartbeats 8000000 in
set_option maxRecDepth 100000 in
theorem corrielaw08_small.calls  (r1 : Int) (r2 : Int) (r3 : Int) (r4 : Int) (r5 : Int) (w : World) (h : corrielaw08_small.f  = some (r1, r2, r3, r4, r5)) :
  Calls Try.prog 30 #[] w fun e w' => e = .returned (.agg #[.int .i64 r1, .int .i64 r2, .int .i64 r3, .int .i64 r4, .int .i64 r5]) ∧ Below w.heap.size w w' := by
 have hu23 := Try.underlying23
 have HB := Aside0.mk (Below.refl w.heap.size w)
 have H : (some (2, 2, 1, 5, 3)) = some (r1, r2, r3, r4, r5) := h
 clear h
 simp only [Option.some.injEq, Prod.mk.injEq] at H
 obtain ⟨rfl, rfl, rfl, rfl, rfl⟩ := H
 go_enter Try.func30, Try.ntmps30
 go_wp2_with (first | ((with_reducible refine gate_dst (N := 0) rfl ?_); refine box_event ?hg (N := 0) ?hd (cs := #[.int .i64 0, .int .i64 0, .int .i64 0, .int .i64 0, .int .i64 0]) (t := 23) ?hr ?_; (case hd => rfl); (case hg => rfl); (case hr => first | (go_simp; done) | (go_simp; rfl)); intro gb121 hg w1 hbox hb; have n0_ := Aside0.mk (below_step (by repeat (first | (with_reducible first | exact HB.out | apply below_alloc | apply pw_below_drewN | apply below_drew1) | exact HB.out)) hb); have n1_ := Aside0.mk (hbox); have n2_ := Aside0.mk ((by rw [hg]; exact (below_size (by repeat (first | (with_reducible first | exact HB.out | apply below_alloc | apply pw_below_drewN | apply below_drew1) | exact HB.out))) : w.heap.size ≤ gb121)); have n3_ := Aside0.mk ((by rw [hg]; exact (below_size (by repeat (first | (with_reducible first | exact HB.out | apply below_alloc | apply pw_below_drewN | apply below_drew1) | exact HB.out))) : w.heap.size ≤ gb121)); clear HB; have HB := n0_; have BK121 := n1_; have GW121 := n2_; have GE121 := n3_; clear n0_ n1_ n2_ n3_; clear hb hbox hg; have hcz2_0 : w1.cell? ⟨gb121, 0, none⟩ = some (.int .i64 0) := (blk_cell BK121.out 0).trans rfl; have hcz2_1 : w1.cell? ⟨gb121, 1, none⟩ = some (.int .i64 0) := (blk_cell BK121.out 1).trans rfl; have hcz2_2 : w1.cell? ⟨gb121, 2, none⟩ = some (.int .i64 0) := (blk_cell BK121.out 2).trans rfl; have hcz2_3 : w1.cell? ⟨gb121, 3, none⟩ = some (.int .i64 0) := (blk_cell BK121.out 3).trans rfl; have hcz2_4 : w1.cell? ⟨gb121, 4, none⟩ = some (.int .i64 0) := (blk_cell BK121.out 4).trans rfl; have hfz2_0 := blk_frozen BK121.out 0; have hfz2_1 := blk_frozen BK121.out 1; have hfz2_2 := blk_frozen BK121.out 2; have hfz2_3 := blk_frozen BK121.out 3; have hfz2_4 := blk_frozen BK121.out 4))
 refine bodyPost_ret (results_cell_row rfl _ _ gb121 23 #[.int .i64 2, .int .i64 2, .int .i64 1, .int .i64 5, .int .i64 3] (0, 0) _ rfl (by (with_reducible repeat (first | refine blk_drewN ?_ _ | refine blk_drew ?_ | refine blk_alloc ?_ _)); refine blk_put (cs := #[.int .i64 2, .int .i64 2, .int .i64 1, .int .i64 5, .int .i64 0]) ?_ 4 _ rfl; (with_reducible repeat (first | refine blk_drewN ?_ _ | refine blk_drew ?_ | refine blk_alloc ?_ _)); refine blk_put (cs := #[.int .i64 2, .int .i64 2, .int .i64 1, .int .i64 0, .int .i64 0]) ?_ 3 _ rfl; (with_reducible repeat (first | refine blk_drewN ?_ _ | refine blk_drew ?_ | refine blk_alloc ?_ _)); refine blk_put (cs := #[.int .i64 2, .int .i64 2, .int .i64 0, .int .i64 0, .int .i64 0]) ?_ 2 _ rfl; (with_reducible repeat (first | refine blk_drewN ?_ _ | refine blk_drew ?_ | refine blk_alloc ?_ _)); refine blk_put (cs := #[.int .i64 2, .int .i64 0, .int .i64 0, .int .i64 0, .int .i64 0]) ?_ 1 _ rfl; (with_reducible repeat (first | refine blk_drewN ?_ _ | refine blk_drew ?_ | refine blk_alloc ?_ _)); refine blk_put (cs := #[.int .i64 0, .int .i64 0, .int .i64 0, .int .i64 0, .int .i64 0]) ?_ 0 _ rfl; (with_reducible repeat (first | refine blk_drewN ?_ _ | refine blk_drew ?_ | refine blk_alloc ?_ _)); exact BK121.out) Try.underlying23 rfl (by kernel_rfl)) rfl ?_
 exact ⟨by first | rfl | (simp [errW_none, errW_some] <;> rfl) | (simp [*, errW_none, errW_some] <;> rfl), by repeat (first | (with_reducible first | exact HB.out | apply below_alloc | apply pw_below_drewN | apply below_drew1 | refine below_set ?_ GE121.out) | exact HB.out)⟩

end Go.Proofs.Ytpcmoclohepdiag.PWorldActs
