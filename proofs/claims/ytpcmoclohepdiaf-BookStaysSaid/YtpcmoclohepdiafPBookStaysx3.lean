-- Written by a program of this session: a variant of the print that takes proofs by hand (wip/tools/mkprint.py)
import Derived.Test.YtpcmoclohepdiafPBookStaysx0
import Derived.Test.YtpcmoclohepdiafPBookStaysx2
namespace Go.Proofs.Ytpcmoclohepdiaf.PBookStays
open Go.RowKit Go.Proofs.YtpcmoclohepdiafW.PrintWords Go.Proofs.YtpcmoclohepdiafW.PrintLast
set_option linter.unusedVariables false
set_option linter.unusedSimpArgs false

/-! ### layout_Op: function 33 (by hand) -/
def layout_Op.f (k : Nat) (t b i f c th n : Int) : Option Int := layout_of.f k t b i f c th n c 0
theorem layout_Op.mono : ∀ t b i f c th n k, LeO (layout_Op.f k t b i f c th n) (layout_Op.f (k + 1) t b i f c th n) := fun t b i f c th n k => layout_of.mono _ _ _ _ _ _ _ _ _ _
set_option maxHeartbeats 8000000 in
set_option maxRecDepth 100000 in
theorem layout_Op.calls (k : Nat) (t b i f c th n r : Int) (w : World) (h : layout_Op.f k t b i f c th n = some r) :
  Calls Try.prog 33 #[.agg #[.int .i64 t, .int .i64 b, .int .i64 i, .int .i64 f, .int .i64 c], .int .i64 th, .int .i64 n] w fun e w' => e = .returned (.int .i64 r) ∧ Below w.heap.size w w' := by
 have H := Aside0.mk (show layout_of.f k t b i f c th n c 0 = some r from h)
 clear h
 go_enter Try.func33, Try.ntmps33
 go_wp2_with (go_at_call 41; (with_reducible refine (layout_of.calls k t b i f c th n c 0 r _ H.out).mono ?_); rintro e w1 ⟨rfl, hb⟩; have HB := Aside0.mk (below_step (below_alloc (Below.refl w.heap.size w) _) hb); clear hb)
 go_ret
 exact ⟨rfl, HB.out⟩


-- NOT PRINTED: function 24 (book_Book_Begin)

/-! ### layout_Node: function 34 (by hand) -/
def layout_Node.f (k : Nat) (t b i f c th n : Int) : Option Int := layout_of.f k t b i f c th n (wrap64 (2 * c)) (wrap64 (1 + b))
theorem layout_Node.mono : ∀ t b i f c th n k, LeO (layout_Node.f k t b i f c th n) (layout_Node.f (k + 1) t b i f c th n) := fun t b i f c th n k => layout_of.mono _ _ _ _ _ _ _ _ _ _
set_option maxHeartbeats 8000000 in
set_option maxRecDepth 100000 in
theorem layout_Node.calls (k : Nat) (t b i f c th n r : Int) (w : World) (h : layout_Node.f k t b i f c th n = some r) :
  Calls Try.prog 34 #[.agg #[.int .i64 t, .int .i64 b, .int .i64 i, .int .i64 f, .int .i64 c], .int .i64 th, .int .i64 n] w fun e w' => e = .returned (.int .i64 r) ∧ Below w.heap.size w w' := by
 have H := Aside0.mk (show layout_of.f k t b i f c th n (wrap64 (2 * c)) (wrap64 (1 + b)) = some r from h)
 clear h
 go_enter Try.func34, Try.ntmps34
 go_wp2_with (go_at_call 41; (with_reducible refine (layout_of.calls k t b i f c th n (wrap64 (2 * c)) (wrap64 (1 + b)) r _ H.out).mono ?_); rintro e w1 ⟨rfl, hb⟩; have HB := Aside0.mk (below_step (below_alloc (Below.refl w.heap.size w) _) hb); clear hb)
 go_ret
 exact ⟨rfl, HB.out⟩


-- NOT PRINTED: function 25 (book_Book_Make)

/-! ### corrielaw07_small: function 26 -/
def corrielaw07_small.f  : Option (Int × Int × Int × Int × Int) := some (2, 1, 1, 5, 2)
set_option maxHeartbeats 8000000 in
set_option maxRecDepth 100000 in
theorem corrielaw07_small.calls  (r1 : Int) (r2 : Int) (r3 : Int) (r4 : Int) (r5 : Int) (w : World) (h : corrielaw07_small.f  = some (r1, r2, r3, r4, r5)) :
  Calls Try.prog 26 #[] w fun e w' => e = .returned (.agg #[.int .i64 r1, .int .i64 r2, .int .i64 r3, .int .i64 r4, .int .i64 r5]) ∧ Below w.heap.size w w' := by
 have hu23 := Try.underlying23
 have HB := Aside0.mk (Below.refl w.heap.size w)
 have H : (some (2, 1, 1, 5, 2)) = some (r1, r2, r3, r4, r5) := h
 clear h
 simp only [Option.some.injEq, Prod.mk.injEq] at H
 obtain ⟨rfl, rfl, rfl, rfl, rfl⟩ := H
 go_enter Try.func26, Try.ntmps26
 go_wp2_with (first | ((with_reducible refine gate_dst (N := 0) rfl ?_); refine box_event ?hg (N := 0) ?hd (cs := #[.int .i64 0, .int .i64 0, .int .i64 0, .int .i64 0, .int .i64 0]) (t := 23) ?hr ?_; (case hd => rfl); (case hg => rfl); (case hr => first | (go_simp; done) | (go_simp; rfl)); intro gb112 hg w1 hbox hb; have n0_ := Aside0.mk (below_step (by repeat (first | (with_reducible first | exact HB.out | apply below_alloc | apply pw_below_drewN | apply below_drew1) | exact HB.out)) hb); have n1_ := Aside0.mk (hbox); have n2_ := Aside0.mk ((by rw [hg]; exact (below_size (by repeat (first | (with_reducible first | exact HB.out | apply below_alloc | apply pw_below_drewN | apply below_drew1) | exact HB.out))) : w.heap.size ≤ gb112)); have n3_ := Aside0.mk ((by rw [hg]; exact (below_size (by repeat (first | (with_reducible first | exact HB.out | apply below_alloc | apply pw_below_drewN | apply below_drew1) | exact HB.out))) : w.heap.size ≤ gb112)); clear HB; have HB := n0_; have BK112 := n1_; have GW112 := n2_; have GE112 := n3_; clear n0_ n1_ n2_ n3_; clear hb hbox hg; have hcz2_0 : w1.cell? ⟨gb112, 0, none⟩ = some (.int .i64 0) := (blk_cell BK112.out 0).trans rfl; have hcz2_1 : w1.cell? ⟨gb112, 1, none⟩ = some (.int .i64 0) := (blk_cell BK112.out 1).trans rfl; have hcz2_2 : w1.cell? ⟨gb112, 2, none⟩ = some (.int .i64 0) := (blk_cell BK112.out 2).trans rfl; have hcz2_3 : w1.cell? ⟨gb112, 3, none⟩ = some (.int .i64 0) := (blk_cell BK112.out 3).trans rfl; have hcz2_4 : w1.cell? ⟨gb112, 4, none⟩ = some (.int .i64 0) := (blk_cell BK112.out 4).trans rfl; have hfz2_0 := blk_frozen BK112.out 0; have hfz2_1 := blk_frozen BK112.out 1; have hfz2_2 := blk_frozen BK112.out 2; have hfz2_3 := blk_frozen BK112.out 3; have hfz2_4 := blk_frozen BK112.out 4))
 refine bodyPost_ret (results_cell_row rfl _ _ gb112 23 #[.int .i64 2, .int .i64 1, .int .i64 1, .int .i64 5, .int .i64 2] (0, 0) _ rfl (by (with_reducible repeat (first | refine blk_drewN ?_ _ | refine blk_drew ?_ | refine blk_alloc ?_ _)); refine blk_put (cs := #[.int .i64 2, .int .i64 1, .int .i64 1, .int .i64 5, .int .i64 0]) ?_ 4 _ rfl; (with_reducible repeat (first | refine blk_drewN ?_ _ | refine blk_drew ?_ | refine blk_alloc ?_ _)); refine blk_put (cs := #[.int .i64 2, .int .i64 1, .int .i64 1, .int .i64 0, .int .i64 0]) ?_ 3 _ rfl; (with_reducible repeat (first | refine blk_drewN ?_ _ | refine blk_drew ?_ | refine blk_alloc ?_ _)); refine blk_put (cs := #[.int .i64 2, .int .i64 1, .int .i64 0, .int .i64 0, .int .i64 0]) ?_ 2 _ rfl; (with_reducible repeat (first | refine blk_drewN ?_ _ | refine blk_drew ?_ | refine blk_alloc ?_ _)); refine blk_put (cs := #[.int .i64 2, .int .i64 0, .int .i64 0, .int .i64 0, .int .i64 0]) ?_ 1 _ rfl; (with_reducible repeat (first | refine blk_drewN ?_ _ | refine blk_drew ?_ | refine blk_alloc ?_ _)); refine blk_put (cs := #[.int .i64 0, .int .i64 0, .int .i64 0, .int .i64 0, .int .i64 0]) ?_ 0 _ rfl; (with_reducible repeat (first | refine blk_drewN ?_ _ | refine blk_drew ?_ | refine blk_alloc ?_ _)); exact BK112.out) Try.underlying23 rfl (by kernel_rfl)) rfl ?_
 exact ⟨by first | rfl | (simp [errW_none, errW_some] <;> rfl) | (simp [*, errW_none, errW_some] <;> rfl), by repeat (first | (with_reducible first | exact HB.out | apply below_alloc | apply pw_below_drewN | apply below_drew1 | refine below_set ?_ GE112.out) | exact HB.out)⟩

end Go.Proofs.Ytpcmoclohepdiaf.PBookStays
