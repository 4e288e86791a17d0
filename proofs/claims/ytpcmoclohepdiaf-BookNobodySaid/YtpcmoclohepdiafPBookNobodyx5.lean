-- Written by a program of this session: a variant of the print that takes proofs by hand (wip/tools/mkprint.py)
import Derived.Test.YtpcmoclohepdiafPBookNobodyx0
import Derived.Test.YtpcmoclohepdiafPBookNobodyx4
namespace Go.Proofs.Ytpcmoclohepdiaf.PBookNobody
open Go.RowKit Go.Proofs.YtpcmoclohepdiafW.PrintWords Go.Proofs.YtpcmoclohepdiafW.PrintLast Go.Proofs.YtpcmoclohepdiafW.PrintMore
attribute [local go_sem] max2_int min2_int max_two min_two max_three min_three max_four min_four   -- for this text's walks alone
set_option linter.unusedVariables false
set_option linter.unusedSimpArgs false

/-! ### corrielaw07_BookNobody: function 7 (by hand) -/
def corrielaw07_BookNobody.f (a0 a1_0 a1_1 a1_2 a1_3 : Int) : Option Bool := some true
set_option maxHeartbeats 8000000 in
set_option maxRecDepth 100000 in
theorem corrielaw07_BookNobody.calls (a0 a1_0 a1_1 a1_2 a1_3 : Int) (r : Bool) (w : World) (h : corrielaw07_BookNobody.f a0 a1_0 a1_1 a1_2 a1_3 = some r) :
    Calls Try.prog 7 #[.int .i64 a0, .agg #[.int .i64 a1_0, .int .u64 a1_1, .int .u64 a1_2, .int .i64 a1_3]] w fun e w' => e = .returned (.bool r) ∧ Below w.heap.size w w' := by
  obtain rfl := Option.some.inj h
  clear h
  have HB := Aside0.mk (Below.refl w.heap.size w)
  have H1 := Aside0.mk (show ∀ W : World, Calls Try.prog 24 #[.pointer none, .int .i64 a0, .agg #[.int .i64 a1_0, .int .u64 a1_1, .int .u64 a1_2, .int .i64 a1_3]] W (fun e w' => e = .returned (.tuple #[.int .i64 0, .int .i64 1]) ∧ Below W.heap.size W w') from fun W => bk_Begin_nil a0 ⟨a1_0, a1_1, a1_2, a1_3⟩ W)
  go_enter Try.func7, Try.ntmps7
  go_upto_region 6 with (first | ((with_reducible refine gate_dst (N := 3) rfl ?_); refine box_event ?hg (N := 3) ?hd (cs := #[.int .i64 a1_0, .int .u64 a1_1, .int .u64 a1_2, .int .i64 a1_3]) (t := 38) ?hr ?_; (case hd => rfl); (case hg => rfl); (case hr => first | (go_simp; done) | (go_simp; rfl)); intro g3 hg w1 hbox hbk; have B3 := Aside0.mk hbox; have HGB3 := Aside0.mk (show w.heap.size ≤ g3 from by rw [hg]; exact HB.out.size); have n_HB := Aside0.mk (below_step HB.out hbk); clear HB; have HB := n_HB; clear n_HB; clear hbk hbox hg) | (go_at_call 8; (with_reducible refine (corrielaw07_awake.calls true _ rfl).mono ?_); rintro e w0 ⟨rfl, hbk⟩; have n_B3 := Aside0.mk (blk_below B3.out hbk); have n_HB := Aside0.mk (below_step HB.out hbk); clear B3 HB; have B3 := n_B3; have HB := n_HB; clear n_B3 n_HB; have c3_0 : w0.cell? ⟨g3, 0, none⟩ = some (.int .i64 a1_0) := (blk_cell B3.out 0).trans rfl; have c3_1 : w0.cell? ⟨g3, 1, none⟩ = some (.int .u64 a1_1) := (blk_cell B3.out 1).trans rfl; have c3_2 : w0.cell? ⟨g3, 2, none⟩ = some (.int .u64 a1_2) := (blk_cell B3.out 2).trans rfl; have c3_3 : w0.cell? ⟨g3, 3, none⟩ = some (.int .i64 a1_3) := (blk_cell B3.out 3).trans rfl; clear hbk) | (go_at_call 24; (with_reducible refine (H1.out _).mono ?_); rintro e w2 ⟨rfl, hbk⟩; have n_HB := Aside0.mk (below_step HB.out hbk); clear HB; have HB := n_HB; clear n_HB; clear c3_0 c3_1 c3_2 c3_3; clear hbk) | (go_at_call 25; (with_reducible refine (bk_Make_nil a0 a0 _).mono ?_); rintro e wk ⟨rfl, hq⟩; have hq2 := hq.symm; subst hq2; clear hq) | (go_at_call 12; (with_reducible refine (bk_Call_nil a0 _).mono ?_); rintro e w4 ⟨rfl, hbk⟩; have n_HB := Aside0.mk (below_step HB.out hbk); clear HB; have HB := n_HB; clear n_HB; clear hbk) | ((with_reducible refine gate_dst (N := 11) rfl ?_); refine box_event ?hg (N := 11) ?hd (cs := #[.int .i64 0, .int .u64 0, .int .u64 0, .int .i64 0]) (t := 38) ?hr ?_; (case hd => rfl); (case hg => rfl); (case hr => first | (go_simp; done) | (go_simp; rfl)); intro g11 hg w5 hbox hbk; have B11 := Aside0.mk hbox; have HGB11 := Aside0.mk (show w.heap.size ≤ g11 from by rw [hg]; exact HB.out.size); have n_HB := Aside0.mk (below_step HB.out hbk); clear HB; have HB := n_HB; clear n_HB; have c11_0 : w5.cell? ⟨g11, 0, none⟩ = some (.int .i64 0) := (blk_cell B11.out 0).trans rfl; have fc11_0 : w5.frozen? ⟨g11, 0, none⟩ = false := blk_frozen B11.out 0; have c11_1 : w5.cell? ⟨g11, 1, none⟩ = some (.int .u64 0) := (blk_cell B11.out 1).trans rfl; have fc11_1 : w5.frozen? ⟨g11, 1, none⟩ = false := blk_frozen B11.out 1; have c11_2 : w5.cell? ⟨g11, 2, none⟩ = some (.int .u64 0) := (blk_cell B11.out 2).trans rfl; have fc11_2 : w5.frozen? ⟨g11, 2, none⟩ = false := blk_frozen B11.out 2; have c11_3 : w5.cell? ⟨g11, 3, none⟩ = some (.int .i64 0) := (blk_cell B11.out 3).trans rfl; have fc11_3 : w5.frozen? ⟨g11, 3, none⟩ = false := blk_frozen B11.out 3; clear hbk hbox hg))
  obtain ⟨W6, hW6⟩ : ∃ W, ((((w5.setCell ⟨g11, 0, none⟩ (.int .i64 0)).setCell ⟨g11, 1, none⟩ (.int .u64 0)).setCell ⟨g11, 2, none⟩ (.int .u64 0)).setCell ⟨g11, 3, none⟩ (.int .i64 0)) = W := ⟨_, rfl⟩
  rw [hW6]
  have n_HB := Aside0.mk (show Below w.heap.size w W6 from by rw [← hW6]; exact (((HB.out.setCell (p := ⟨g11, 0, none⟩) HGB11.out _).setCell (p := ⟨g11, 1, none⟩) HGB11.out _).setCell (p := ⟨g11, 2, none⟩) HGB11.out _).setCell (p := ⟨g11, 3, none⟩) HGB11.out _)
  clear hW6 HB
  have HB := n_HB
  clear n_HB
  go_wp2_with (first | (go_at_call 15; (with_reducible refine (bk_Carried_nil a0 _).mono ?_); rintro e wk ⟨rfl, hq⟩; have hq2 := hq.symm; subst hq2; clear hq) | (go_at_call 17; (with_reducible refine (bk_Key_nil a0 _).mono ?_); rintro e w7 ⟨rfl, hbk⟩; have n_HB := Aside0.mk (below_step HB.out hbk); clear HB; have HB := n_HB; clear n_HB; clear hbk) | (go_at_call 19; (with_reducible refine (bk_Calls_nil a0 _).mono ?_); rintro e wk ⟨rfl, hq⟩; have hq2 := hq.symm; subst hq2; clear hq) | (go_at_call 20; (with_reducible refine (bk_Made_nil a0 _).mono ?_); rintro e wk ⟨rfl, hq⟩; have hq2 := hq.symm; subst hq2; clear hq))
  go_ret
  exact ⟨by first | rfl | (simp [*]; done), HB.out⟩


end Go.Proofs.Ytpcmoclohepdiaf.PBookNobody
