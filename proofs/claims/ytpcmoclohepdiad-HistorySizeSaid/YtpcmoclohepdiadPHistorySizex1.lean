-- Written by a program of this session: a variant of the print that takes proofs by hand (wip/tools/mkprint.py)
import Derived.Test.YtpcmoclohepdiadPHistorySizex0
namespace Go.Proofs.Ytpcmoclohepdiad.PHistorySize
open Go.RowKit Go.Proofs.YtpcmoclohepdiadW.PrintWords Go.Proofs.YtpcmoclohepdiadW.PrintLast Go.Proofs.YtpcmoclohepdiadW.PrintMore
attribute [local go_sem] max2_int min2_int max_two min_two max_three min_three max_four min_four   -- for this text's walks alone
set_option linter.unusedVariables false
set_option linter.unusedSimpArgs false

-- NOT PRINTED: function 32 (api_Event_32)

-- NOT PRINTED: function 22 (api_Event_22)

/-! ### history_Valid: function 10 (by hand) -/
theorem hva_heap : Kd.Heap k31 := by
  unfold k31
  refine Kd.heap_iso _ (Kd.heap_pair (Kd.heap_int _) (Kd.heap_pair (Kd.heap_int _) (Kd.heap_pair (Kd.heap_int _) (Kd.heap_pair (Kd.heap_int _) (Kd.heap_pair (Kd.heap_int _) (Kd.heap_pair ?_ ?_))))))
  · exact Kd.heap_iso _ (Kd.heap_pair (Kd.heap_int _) (Kd.heap_pair (Kd.heap_int _) (Kd.heap_pair (Kd.heap_int _) (Kd.heap_int _))))
  · exact Kd.heap_iso _ (Kd.heap_pair (Kd.heap_int _) (Kd.heap_pair Kd.heap_bool (Kd.heap_pair (Kd.heap_int _) (Kd.heap_slice _ (Kd.heap_iso _ (Kd.heap_pair (Kd.heap_int _) (Kd.heap_int _)))))))
theorem hva_up {w w1 : World} {A : Option Addr} {n : Nat} {xs : List S31} (h : Kd.C k31 w A n xs) (hb : Below w.heap.size w w1) : Kd.C k31 w1 A n xs := hva_heap.C (fun k hk => hb.block k hk) h
def hva_Bf.f (a b : S31) : Bool := if a.f3 ≥ 0 then decide (a.f3 < b.f2) else false
set_option maxHeartbeats 8000000 in
set_option maxRecDepth 100000 in
theorem hva_Bf.calls (a b : S31) (A B : Option Addr) (c d : Nat) (W : World) : Calls Try.prog 19 #[.agg #[.int .i64 a.f0, .int .i64 a.f1, .int .i64 a.f2, .int .i64 a.f3, .int .i64 a.f4, .int .i64 a.f5.f0, .int .u64 a.f5.f1, .int .u64 a.f5.f2, .int .i64 a.f5.f3, .int .i64 a.f6.f0, .bool a.f6.f1, .int .u64 a.f6.f2, .slice A a.f6.f3.length c], .agg #[.int .i64 b.f0, .int .i64 b.f1, .int .i64 b.f2, .int .i64 b.f3, .int .i64 b.f4, .int .i64 b.f5.f0, .int .u64 b.f5.f1, .int .u64 b.f5.f2, .int .i64 b.f5.f3, .int .i64 b.f6.f0, .bool b.f6.f1, .int .u64 b.f6.f2, .slice B b.f6.f3.length d]] W fun e w' => e = .returned (.bool (hva_Bf.f a b)) ∧ Below W.heap.size W w' := by
  have HB := Aside0.mk (Below.refl W.heap.size W)
  unfold hva_Bf.f
  by_cases c1 : a.f3 ≥ 0
  · rw [if_pos c1]
    have c1b : decide (0 ≤ a.f3) = true := decide_eq_true c1
    go_enter Try.func19, Try.ntmps19
    go_wp2_with (first | ((with_reducible refine gate_dst (N := 2) rfl ?_); refine box_event ?hg (N := 2) ?hd (cs := #[.int .i64 a.f0, .int .i64 a.f1, .int .i64 a.f2, .int .i64 a.f3, .int .i64 a.f4, .int .i64 a.f5.f0, .int .u64 a.f5.f1, .int .u64 a.f5.f2, .int .i64 a.f5.f3, .int .i64 a.f6.f0, .bool a.f6.f1, .int .u64 a.f6.f2, .slice A a.f6.f3.length c]) (t := 31) ?hr ?_; (case hd => rfl); (case hg => rfl); (case hr => first | (go_simp; done) | (go_simp; rfl)); intro ga hg wb_ga hbox hb; have BKga := Aside0.mk hbox; have n0_ := Aside0.mk (below_step HB.out hb); clear HB; have HB := n0_; clear n0_; clear hb hbox hg) | ((with_reducible refine gate_dst (N := 3) rfl ?_); refine box_event ?hg (N := 3) ?hd (cs := #[.int .i64 b.f0, .int .i64 b.f1, .int .i64 b.f2, .int .i64 b.f3, .int .i64 b.f4, .int .i64 b.f5.f0, .int .u64 b.f5.f1, .int .u64 b.f5.f2, .int .i64 b.f5.f3, .int .i64 b.f6.f0, .bool b.f6.f1, .int .u64 b.f6.f2, .slice B b.f6.f3.length d]) (t := 31) ?hr ?_; (case hd => rfl); (case hg => rfl); (case hr => first | (go_simp; done) | (go_simp; rfl)); intro gb hg wb_gb hbox hb; have BKgb := Aside0.mk hbox; have n_BKga := Aside0.mk (blk_below (g := ga) (o := .cells #[.int .i64 a.f0, .int .i64 a.f1, .int .i64 a.f2, .int .i64 a.f3, .int .i64 a.f4, .int .i64 a.f5.f0, .int .u64 a.f5.f1, .int .u64 a.f5.f2, .int .i64 a.f5.f3, .int .i64 a.f6.f0, .bool a.f6.f1, .int .u64 a.f6.f2, .slice A a.f6.f3.length c] 31 (0, 0)) BKga.out hb); clear BKga; have BKga := n_BKga; clear n_BKga; have n0_ := Aside0.mk (below_step HB.out hb); clear HB; have HB := n0_; clear n0_; have cgb_2 : wb_gb.cell? ⟨gb, 2, none⟩ = some (.int .i64 b.f2) := (blk_cell BKgb.out 2).trans rfl; have cga_3 : wb_gb.cell? ⟨ga, 3, none⟩ = some (.int .i64 a.f3) := (blk_cell BKga.out 3).trans rfl; clear hb hbox hg))
    go_ret
    exact ⟨by first | rfl | (simp [*]; done), by repeat (first | (with_reducible first | exact HB.out | apply below_alloc | apply pw_below_drewN | apply below_drew1) | exact HB.out)⟩
  · rw [if_neg c1]
    have c1b : decide (0 ≤ a.f3) = false := decide_eq_false c1
    go_enter Try.func19, Try.ntmps19
    go_wp2_with (first | ((with_reducible refine gate_dst (N := 2) rfl ?_); refine box_event ?hg (N := 2) ?hd (cs := #[.int .i64 a.f0, .int .i64 a.f1, .int .i64 a.f2, .int .i64 a.f3, .int .i64 a.f4, .int .i64 a.f5.f0, .int .u64 a.f5.f1, .int .u64 a.f5.f2, .int .i64 a.f5.f3, .int .i64 a.f6.f0, .bool a.f6.f1, .int .u64 a.f6.f2, .slice A a.f6.f3.length c]) (t := 31) ?hr ?_; (case hd => rfl); (case hg => rfl); (case hr => first | (go_simp; done) | (go_simp; rfl)); intro ga hg wb_ga hbox hb; have BKga := Aside0.mk hbox; have n0_ := Aside0.mk (below_step HB.out hb); clear HB; have HB := n0_; clear n0_; clear hb hbox hg) | ((with_reducible refine gate_dst (N := 3) rfl ?_); refine box_event ?hg (N := 3) ?hd (cs := #[.int .i64 b.f0, .int .i64 b.f1, .int .i64 b.f2, .int .i64 b.f3, .int .i64 b.f4, .int .i64 b.f5.f0, .int .u64 b.f5.f1, .int .u64 b.f5.f2, .int .i64 b.f5.f3, .int .i64 b.f6.f0, .bool b.f6.f1, .int .u64 b.f6.f2, .slice B b.f6.f3.length d]) (t := 31) ?hr ?_; (case hd => rfl); (case hg => rfl); (case hr => first | (go_simp; done) | (go_simp; rfl)); intro gb hg wb_gb hbox hb; have BKgb := Aside0.mk hbox; have n_BKga := Aside0.mk (blk_below (g := ga) (o := .cells #[.int .i64 a.f0, .int .i64 a.f1, .int .i64 a.f2, .int .i64 a.f3, .int .i64 a.f4, .int .i64 a.f5.f0, .int .u64 a.f5.f1, .int .u64 a.f5.f2, .int .i64 a.f5.f3, .int .i64 a.f6.f0, .bool a.f6.f1, .int .u64 a.f6.f2, .slice A a.f6.f3.length c] 31 (0, 0)) BKga.out hb); clear BKga; have BKga := n_BKga; clear n_BKga; have n0_ := Aside0.mk (below_step HB.out hb); clear HB; have HB := n0_; clear n0_; have cgb_2 : wb_gb.cell? ⟨gb, 2, none⟩ = some (.int .i64 b.f2) := (blk_cell BKgb.out 2).trans rfl; have cga_3 : wb_gb.cell? ⟨ga, 3, none⟩ = some (.int .i64 a.f3) := (blk_cell BKga.out 3).trans rfl; clear hb hbox hg))
    go_ret
    exact ⟨by first | rfl | (simp [*]; done), by repeat (first | (with_reducible first | exact HB.out | apply below_alloc | apply pw_below_drewN | apply below_drew1) | exact HB.out)⟩
def history_Valid1.f (x e : S31) : Bool := if e.f0 = x.f0 then (if hva_Bf.f e x = true then false else !(hva_Bf.f x e)) else false
set_option maxHeartbeats 8000000 in
set_option maxRecDepth 100000 in
theorem history_Valid1.calls (x e : S31) (A Ae : Option Addr) (c ce : Nat) (ge : Nat) (W : World) (hg : W.heap[ge]? = some (.cells #[.int .i64 e.f0, .int .i64 e.f1, .int .i64 e.f2, .int .i64 e.f3, .int .i64 e.f4, .int .i64 e.f5.f0, .int .u64 e.f5.f1, .int .u64 e.f5.f2, .int .i64 e.f5.f3, .int .i64 e.f6.f0, .bool e.f6.f1, .int .u64 e.f6.f2, .slice Ae e.f6.f3.length ce] 31 (0, 0))) :
    Calls Try.prog 21 #[.agg #[.int .i64 x.f0, .int .i64 x.f1, .int .i64 x.f2, .int .i64 x.f3, .int .i64 x.f4, .int .i64 x.f5.f0, .int .u64 x.f5.f1, .int .u64 x.f5.f2, .int .i64 x.f5.f3, .int .i64 x.f6.f0, .bool x.f6.f1, .int .u64 x.f6.f2, .slice A x.f6.f3.length c], .pointer (some ⟨ge, 0, none⟩)] W fun e_ w' => e_ = .returned (.bool (history_Valid1.f x e)) ∧ Below W.heap.size W w' := by
  have BKge := Aside0.mk hg
  have HB := Aside0.mk (Below.refl W.heap.size W)
  clear hg
  unfold history_Valid1.f
  by_cases c1 : e.f0 = x.f0
  · rw [if_pos c1]
    have c1b : (e.f0 == x.f0) = true := beq_iff_eq.mpr c1
    clear c1
    by_cases c2 : hva_Bf.f e x = true
    · rw [if_pos c2]
      go_enter Try.func21, Try.ntmps21
      go_wp2_with (first | ((with_reducible refine gate_dst (N := 2) rfl ?_); refine box_event ?hg (N := 2) ?hd (cs := #[.int .i64 x.f0, .int .i64 x.f1, .int .i64 x.f2, .int .i64 x.f3, .int .i64 x.f4, .int .i64 x.f5.f0, .int .u64 x.f5.f1, .int .u64 x.f5.f2, .int .i64 x.f5.f3, .int .i64 x.f6.f0, .bool x.f6.f1, .int .u64 x.f6.f2, .slice A x.f6.f3.length c]) (t := 31) ?hr ?_; (case hd => rfl); (case hg => rfl); (case hr => first | (go_simp; done) | (go_simp; rfl)); intro gx hg wb_gx hbox hb; have BKgx := Aside0.mk hbox; have n_BKge := Aside0.mk (blk_below (g := ge) (o := .cells #[.int .i64 e.f0, .int .i64 e.f1, .int .i64 e.f2, .int .i64 e.f3, .int .i64 e.f4, .int .i64 e.f5.f0, .int .u64 e.f5.f1, .int .u64 e.f5.f2, .int .i64 e.f5.f3, .int .i64 e.f6.f0, .bool e.f6.f1, .int .u64 e.f6.f2, .slice Ae e.f6.f3.length ce] 31 (0, 0)) BKge.out hb); clear BKge; have BKge := n_BKge; clear n_BKge; have n0_ := Aside0.mk (below_step HB.out hb); clear HB; have HB := n0_; clear n0_; have c0gx_0 : wb_gx.cell? ⟨gx, 0, none⟩ = some (.int .i64 x.f0) := (blk_cell BKgx.out 0).trans rfl; have c0gx_1 : wb_gx.cell? ⟨gx, 1, none⟩ = some (.int .i64 x.f1) := (blk_cell BKgx.out 1).trans rfl; have c0gx_2 : wb_gx.cell? ⟨gx, 2, none⟩ = some (.int .i64 x.f2) := (blk_cell BKgx.out 2).trans rfl; have c0gx_3 : wb_gx.cell? ⟨gx, 3, none⟩ = some (.int .i64 x.f3) := (blk_cell BKgx.out 3).trans rfl; have c0gx_4 : wb_gx.cell? ⟨gx, 4, none⟩ = some (.int .i64 x.f4) := (blk_cell BKgx.out 4).trans rfl; have c0gx_5 : wb_gx.cell? ⟨gx, 5, none⟩ = some (.int .i64 x.f5.f0) := (blk_cell BKgx.out 5).trans rfl; have c0gx_6 : wb_gx.cell? ⟨gx, 6, none⟩ = some (.int .u64 x.f5.f1) := (blk_cell BKgx.out 6).trans rfl; have c0gx_7 : wb_gx.cell? ⟨gx, 7, none⟩ = some (.int .u64 x.f5.f2) := (blk_cell BKgx.out 7).trans rfl; have c0gx_8 : wb_gx.cell? ⟨gx, 8, none⟩ = some (.int .i64 x.f5.f3) := (blk_cell BKgx.out 8).trans rfl; have c0gx_9 : wb_gx.cell? ⟨gx, 9, none⟩ = some (.int .i64 x.f6.f0) := (blk_cell BKgx.out 9).trans rfl; have c0gx_10 : wb_gx.cell? ⟨gx, 10, none⟩ = some (.bool x.f6.f1) := (blk_cell BKgx.out 10).trans rfl; have c0gx_11 : wb_gx.cell? ⟨gx, 11, none⟩ = some (.int .u64 x.f6.f2) := (blk_cell BKgx.out 11).trans rfl; have c0gx_12 : wb_gx.cell? ⟨gx, 12, none⟩ = some (.slice A x.f6.f3.length c) := (blk_cell BKgx.out 12).trans rfl; have c0ge_0 : wb_gx.cell? ⟨ge, 0, none⟩ = some (.int .i64 e.f0) := (blk_cell BKge.out 0).trans rfl; have c0ge_1 : wb_gx.cell? ⟨ge, 1, none⟩ = some (.int .i64 e.f1) := (blk_cell BKge.out 1).trans rfl; have c0ge_2 : wb_gx.cell? ⟨ge, 2, none⟩ = some (.int .i64 e.f2) := (blk_cell BKge.out 2).trans rfl; have c0ge_3 : wb_gx.cell? ⟨ge, 3, none⟩ = some (.int .i64 e.f3) := (blk_cell BKge.out 3).trans rfl; have c0ge_4 : wb_gx.cell? ⟨ge, 4, none⟩ = some (.int .i64 e.f4) := (blk_cell BKge.out 4).trans rfl; have c0ge_5 : wb_gx.cell? ⟨ge, 5, none⟩ = some (.int .i64 e.f5.f0) := (blk_cell BKge.out 5).trans rfl; have c0ge_6 : wb_gx.cell? ⟨ge, 6, none⟩ = some (.int .u64 e.f5.f1) := (blk_cell BKge.out 6).trans rfl; have c0ge_7 : wb_gx.cell? ⟨ge, 7, none⟩ = some (.int .u64 e.f5.f2) := (blk_cell BKge.out 7).trans rfl; have c0ge_8 : wb_gx.cell? ⟨ge, 8, none⟩ = some (.int .i64 e.f5.f3) := (blk_cell BKge.out 8).trans rfl; have c0ge_9 : wb_gx.cell? ⟨ge, 9, none⟩ = some (.int .i64 e.f6.f0) := (blk_cell BKge.out 9).trans rfl; have c0ge_10 : wb_gx.cell? ⟨ge, 10, none⟩ = some (.bool e.f6.f1) := (blk_cell BKge.out 10).trans rfl; have c0ge_11 : wb_gx.cell? ⟨ge, 11, none⟩ = some (.int .u64 e.f6.f2) := (blk_cell BKge.out 11).trans rfl; have c0ge_12 : wb_gx.cell? ⟨ge, 12, none⟩ = some (.slice Ae e.f6.f3.length ce) := (blk_cell BKge.out 12).trans rfl; clear hb hbox hg) | (go_at_call 19; (with_reducible refine (hva_Bf.calls e x Ae A ce c _).mono ?_); rintro e w2 ⟨rfl, hb⟩; have n_BKgx := Aside0.mk (blk_below (g := gx) (o := .cells #[.int .i64 x.f0, .int .i64 x.f1, .int .i64 x.f2, .int .i64 x.f3, .int .i64 x.f4, .int .i64 x.f5.f0, .int .u64 x.f5.f1, .int .u64 x.f5.f2, .int .i64 x.f5.f3, .int .i64 x.f6.f0, .bool x.f6.f1, .int .u64 x.f6.f2, .slice A x.f6.f3.length c] 31 (0, 0)) BKgx.out hb); clear BKgx; have BKgx := n_BKgx; clear n_BKgx; have n_BKge := Aside0.mk (blk_below (g := ge) (o := .cells #[.int .i64 e.f0, .int .i64 e.f1, .int .i64 e.f2, .int .i64 e.f3, .int .i64 e.f4, .int .i64 e.f5.f0, .int .u64 e.f5.f1, .int .u64 e.f5.f2, .int .i64 e.f5.f3, .int .i64 e.f6.f0, .bool e.f6.f1, .int .u64 e.f6.f2, .slice Ae e.f6.f3.length ce] 31 (0, 0)) BKge.out hb); clear BKge; have BKge := n_BKge; clear n_BKge; have n0_ := Aside0.mk (below_step HB.out hb); clear HB hb; have HB := n0_; clear n0_; have cw2gx_0 : w2.cell? ⟨gx, 0, none⟩ = some (.int .i64 x.f0) := (blk_cell BKgx.out 0).trans rfl; have cw2gx_1 : w2.cell? ⟨gx, 1, none⟩ = some (.int .i64 x.f1) := (blk_cell BKgx.out 1).trans rfl; have cw2gx_2 : w2.cell? ⟨gx, 2, none⟩ = some (.int .i64 x.f2) := (blk_cell BKgx.out 2).trans rfl; have cw2gx_3 : w2.cell? ⟨gx, 3, none⟩ = some (.int .i64 x.f3) := (blk_cell BKgx.out 3).trans rfl; have cw2gx_4 : w2.cell? ⟨gx, 4, none⟩ = some (.int .i64 x.f4) := (blk_cell BKgx.out 4).trans rfl; have cw2gx_5 : w2.cell? ⟨gx, 5, none⟩ = some (.int .i64 x.f5.f0) := (blk_cell BKgx.out 5).trans rfl; have cw2gx_6 : w2.cell? ⟨gx, 6, none⟩ = some (.int .u64 x.f5.f1) := (blk_cell BKgx.out 6).trans rfl; have cw2gx_7 : w2.cell? ⟨gx, 7, none⟩ = some (.int .u64 x.f5.f2) := (blk_cell BKgx.out 7).trans rfl; have cw2gx_8 : w2.cell? ⟨gx, 8, none⟩ = some (.int .i64 x.f5.f3) := (blk_cell BKgx.out 8).trans rfl; have cw2gx_9 : w2.cell? ⟨gx, 9, none⟩ = some (.int .i64 x.f6.f0) := (blk_cell BKgx.out 9).trans rfl; have cw2gx_10 : w2.cell? ⟨gx, 10, none⟩ = some (.bool x.f6.f1) := (blk_cell BKgx.out 10).trans rfl; have cw2gx_11 : w2.cell? ⟨gx, 11, none⟩ = some (.int .u64 x.f6.f2) := (blk_cell BKgx.out 11).trans rfl; have cw2gx_12 : w2.cell? ⟨gx, 12, none⟩ = some (.slice A x.f6.f3.length c) := (blk_cell BKgx.out 12).trans rfl; have cw2ge_0 : w2.cell? ⟨ge, 0, none⟩ = some (.int .i64 e.f0) := (blk_cell BKge.out 0).trans rfl; have cw2ge_1 : w2.cell? ⟨ge, 1, none⟩ = some (.int .i64 e.f1) := (blk_cell BKge.out 1).trans rfl; have cw2ge_2 : w2.cell? ⟨ge, 2, none⟩ = some (.int .i64 e.f2) := (blk_cell BKge.out 2).trans rfl; have cw2ge_3 : w2.cell? ⟨ge, 3, none⟩ = some (.int .i64 e.f3) := (blk_cell BKge.out 3).trans rfl; have cw2ge_4 : w2.cell? ⟨ge, 4, none⟩ = some (.int .i64 e.f4) := (blk_cell BKge.out 4).trans rfl; have cw2ge_5 : w2.cell? ⟨ge, 5, none⟩ = some (.int .i64 e.f5.f0) := (blk_cell BKge.out 5).trans rfl; have cw2ge_6 : w2.cell? ⟨ge, 6, none⟩ = some (.int .u64 e.f5.f1) := (blk_cell BKge.out 6).trans rfl; have cw2ge_7 : w2.cell? ⟨ge, 7, none⟩ = some (.int .u64 e.f5.f2) := (blk_cell BKge.out 7).trans rfl; have cw2ge_8 : w2.cell? ⟨ge, 8, none⟩ = some (.int .i64 e.f5.f3) := (blk_cell BKge.out 8).trans rfl; have cw2ge_9 : w2.cell? ⟨ge, 9, none⟩ = some (.int .i64 e.f6.f0) := (blk_cell BKge.out 9).trans rfl; have cw2ge_10 : w2.cell? ⟨ge, 10, none⟩ = some (.bool e.f6.f1) := (blk_cell BKge.out 10).trans rfl; have cw2ge_11 : w2.cell? ⟨ge, 11, none⟩ = some (.int .u64 e.f6.f2) := (blk_cell BKge.out 11).trans rfl; have cw2ge_12 : w2.cell? ⟨ge, 12, none⟩ = some (.slice Ae e.f6.f3.length ce) := (blk_cell BKge.out 12).trans rfl))
      go_ret
      exact ⟨by first | rfl | (simp [*]; done), by repeat (first | (with_reducible first | exact HB.out | apply below_alloc | apply pw_below_drewN | apply below_drew1) | exact HB.out)⟩
    · rw [if_neg c2]
      replace c2 := Bool.eq_false_iff.mpr c2
      go_enter Try.func21, Try.ntmps21
      go_wp2_with (first | ((with_reducible refine gate_dst (N := 2) rfl ?_); refine box_event ?hg (N := 2) ?hd (cs := #[.int .i64 x.f0, .int .i64 x.f1, .int .i64 x.f2, .int .i64 x.f3, .int .i64 x.f4, .int .i64 x.f5.f0, .int .u64 x.f5.f1, .int .u64 x.f5.f2, .int .i64 x.f5.f3, .int .i64 x.f6.f0, .bool x.f6.f1, .int .u64 x.f6.f2, .slice A x.f6.f3.length c]) (t := 31) ?hr ?_; (case hd => rfl); (case hg => rfl); (case hr => first | (go_simp; done) | (go_simp; rfl)); intro gx hg wb_gx hbox hb; have BKgx := Aside0.mk hbox; have n_BKge := Aside0.mk (blk_below (g := ge) (o := .cells #[.int .i64 e.f0, .int .i64 e.f1, .int .i64 e.f2, .int .i64 e.f3, .int .i64 e.f4, .int .i64 e.f5.f0, .int .u64 e.f5.f1, .int .u64 e.f5.f2, .int .i64 e.f5.f3, .int .i64 e.f6.f0, .bool e.f6.f1, .int .u64 e.f6.f2, .slice Ae e.f6.f3.length ce] 31 (0, 0)) BKge.out hb); clear BKge; have BKge := n_BKge; clear n_BKge; have n0_ := Aside0.mk (below_step HB.out hb); clear HB; have HB := n0_; clear n0_; have c0gx_0 : wb_gx.cell? ⟨gx, 0, none⟩ = some (.int .i64 x.f0) := (blk_cell BKgx.out 0).trans rfl; have c0gx_1 : wb_gx.cell? ⟨gx, 1, none⟩ = some (.int .i64 x.f1) := (blk_cell BKgx.out 1).trans rfl; have c0gx_2 : wb_gx.cell? ⟨gx, 2, none⟩ = some (.int .i64 x.f2) := (blk_cell BKgx.out 2).trans rfl; have c0gx_3 : wb_gx.cell? ⟨gx, 3, none⟩ = some (.int .i64 x.f3) := (blk_cell BKgx.out 3).trans rfl; have c0gx_4 : wb_gx.cell? ⟨gx, 4, none⟩ = some (.int .i64 x.f4) := (blk_cell BKgx.out 4).trans rfl; have c0gx_5 : wb_gx.cell? ⟨gx, 5, none⟩ = some (.int .i64 x.f5.f0) := (blk_cell BKgx.out 5).trans rfl; have c0gx_6 : wb_gx.cell? ⟨gx, 6, none⟩ = some (.int .u64 x.f5.f1) := (blk_cell BKgx.out 6).trans rfl; have c0gx_7 : wb_gx.cell? ⟨gx, 7, none⟩ = some (.int .u64 x.f5.f2) := (blk_cell BKgx.out 7).trans rfl; have c0gx_8 : wb_gx.cell? ⟨gx, 8, none⟩ = some (.int .i64 x.f5.f3) := (blk_cell BKgx.out 8).trans rfl; have c0gx_9 : wb_gx.cell? ⟨gx, 9, none⟩ = some (.int .i64 x.f6.f0) := (blk_cell BKgx.out 9).trans rfl; have c0gx_10 : wb_gx.cell? ⟨gx, 10, none⟩ = some (.bool x.f6.f1) := (blk_cell BKgx.out 10).trans rfl; have c0gx_11 : wb_gx.cell? ⟨gx, 11, none⟩ = some (.int .u64 x.f6.f2) := (blk_cell BKgx.out 11).trans rfl; have c0gx_12 : wb_gx.cell? ⟨gx, 12, none⟩ = some (.slice A x.f6.f3.length c) := (blk_cell BKgx.out 12).trans rfl; have c0ge_0 : wb_gx.cell? ⟨ge, 0, none⟩ = some (.int .i64 e.f0) := (blk_cell BKge.out 0).trans rfl; have c0ge_1 : wb_gx.cell? ⟨ge, 1, none⟩ = some (.int .i64 e.f1) := (blk_cell BKge.out 1).trans rfl; have c0ge_2 : wb_gx.cell? ⟨ge, 2, none⟩ = some (.int .i64 e.f2) := (blk_cell BKge.out 2).trans rfl; have c0ge_3 : wb_gx.cell? ⟨ge, 3, none⟩ = some (.int .i64 e.f3) := (blk_cell BKge.out 3).trans rfl; have c0ge_4 : wb_gx.cell? ⟨ge, 4, none⟩ = some (.int .i64 e.f4) := (blk_cell BKge.out 4).trans rfl; have c0ge_5 : wb_gx.cell? ⟨ge, 5, none⟩ = some (.int .i64 e.f5.f0) := (blk_cell BKge.out 5).trans rfl; have c0ge_6 : wb_gx.cell? ⟨ge, 6, none⟩ = some (.int .u64 e.f5.f1) := (blk_cell BKge.out 6).trans rfl; have c0ge_7 : wb_gx.cell? ⟨ge, 7, none⟩ = some (.int .u64 e.f5.f2) := (blk_cell BKge.out 7).trans rfl; have c0ge_8 : wb_gx.cell? ⟨ge, 8, none⟩ = some (.int .i64 e.f5.f3) := (blk_cell BKge.out 8).trans rfl; have c0ge_9 : wb_gx.cell? ⟨ge, 9, none⟩ = some (.int .i64 e.f6.f0) := (blk_cell BKge.out 9).trans rfl; have c0ge_10 : wb_gx.cell? ⟨ge, 10, none⟩ = some (.bool e.f6.f1) := (blk_cell BKge.out 10).trans rfl; have c0ge_11 : wb_gx.cell? ⟨ge, 11, none⟩ = some (.int .u64 e.f6.f2) := (blk_cell BKge.out 11).trans rfl; have c0ge_12 : wb_gx.cell? ⟨ge, 12, none⟩ = some (.slice Ae e.f6.f3.length ce) := (blk_cell BKge.out 12).trans rfl; clear hb hbox hg) | (go_at_call 19; (with_reducible refine (hva_Bf.calls e x Ae A ce c _).mono ?_); rintro e w2 ⟨rfl, hb⟩; have n_BKgx := Aside0.mk (blk_below (g := gx) (o := .cells #[.int .i64 x.f0, .int .i64 x.f1, .int .i64 x.f2, .int .i64 x.f3, .int .i64 x.f4, .int .i64 x.f5.f0, .int .u64 x.f5.f1, .int .u64 x.f5.f2, .int .i64 x.f5.f3, .int .i64 x.f6.f0, .bool x.f6.f1, .int .u64 x.f6.f2, .slice A x.f6.f3.length c] 31 (0, 0)) BKgx.out hb); clear BKgx; have BKgx := n_BKgx; clear n_BKgx; have n_BKge := Aside0.mk (blk_below (g := ge) (o := .cells #[.int .i64 e.f0, .int .i64 e.f1, .int .i64 e.f2, .int .i64 e.f3, .int .i64 e.f4, .int .i64 e.f5.f0, .int .u64 e.f5.f1, .int .u64 e.f5.f2, .int .i64 e.f5.f3, .int .i64 e.f6.f0, .bool e.f6.f1, .int .u64 e.f6.f2, .slice Ae e.f6.f3.length ce] 31 (0, 0)) BKge.out hb); clear BKge; have BKge := n_BKge; clear n_BKge; have n0_ := Aside0.mk (below_step HB.out hb); clear HB hb; have HB := n0_; clear n0_; have cw2gx_0 : w2.cell? ⟨gx, 0, none⟩ = some (.int .i64 x.f0) := (blk_cell BKgx.out 0).trans rfl; have cw2gx_1 : w2.cell? ⟨gx, 1, none⟩ = some (.int .i64 x.f1) := (blk_cell BKgx.out 1).trans rfl; have cw2gx_2 : w2.cell? ⟨gx, 2, none⟩ = some (.int .i64 x.f2) := (blk_cell BKgx.out 2).trans rfl; have cw2gx_3 : w2.cell? ⟨gx, 3, none⟩ = some (.int .i64 x.f3) := (blk_cell BKgx.out 3).trans rfl; have cw2gx_4 : w2.cell? ⟨gx, 4, none⟩ = some (.int .i64 x.f4) := (blk_cell BKgx.out 4).trans rfl; have cw2gx_5 : w2.cell? ⟨gx, 5, none⟩ = some (.int .i64 x.f5.f0) := (blk_cell BKgx.out 5).trans rfl; have cw2gx_6 : w2.cell? ⟨gx, 6, none⟩ = some (.int .u64 x.f5.f1) := (blk_cell BKgx.out 6).trans rfl; have cw2gx_7 : w2.cell? ⟨gx, 7, none⟩ = some (.int .u64 x.f5.f2) := (blk_cell BKgx.out 7).trans rfl; have cw2gx_8 : w2.cell? ⟨gx, 8, none⟩ = some (.int .i64 x.f5.f3) := (blk_cell BKgx.out 8).trans rfl; have cw2gx_9 : w2.cell? ⟨gx, 9, none⟩ = some (.int .i64 x.f6.f0) := (blk_cell BKgx.out 9).trans rfl; have cw2gx_10 : w2.cell? ⟨gx, 10, none⟩ = some (.bool x.f6.f1) := (blk_cell BKgx.out 10).trans rfl; have cw2gx_11 : w2.cell? ⟨gx, 11, none⟩ = some (.int .u64 x.f6.f2) := (blk_cell BKgx.out 11).trans rfl; have cw2gx_12 : w2.cell? ⟨gx, 12, none⟩ = some (.slice A x.f6.f3.length c) := (blk_cell BKgx.out 12).trans rfl; have cw2ge_0 : w2.cell? ⟨ge, 0, none⟩ = some (.int .i64 e.f0) := (blk_cell BKge.out 0).trans rfl; have cw2ge_1 : w2.cell? ⟨ge, 1, none⟩ = some (.int .i64 e.f1) := (blk_cell BKge.out 1).trans rfl; have cw2ge_2 : w2.cell? ⟨ge, 2, none⟩ = some (.int .i64 e.f2) := (blk_cell BKge.out 2).trans rfl; have cw2ge_3 : w2.cell? ⟨ge, 3, none⟩ = some (.int .i64 e.f3) := (blk_cell BKge.out 3).trans rfl; have cw2ge_4 : w2.cell? ⟨ge, 4, none⟩ = some (.int .i64 e.f4) := (blk_cell BKge.out 4).trans rfl; have cw2ge_5 : w2.cell? ⟨ge, 5, none⟩ = some (.int .i64 e.f5.f0) := (blk_cell BKge.out 5).trans rfl; have cw2ge_6 : w2.cell? ⟨ge, 6, none⟩ = some (.int .u64 e.f5.f1) := (blk_cell BKge.out 6).trans rfl; have cw2ge_7 : w2.cell? ⟨ge, 7, none⟩ = some (.int .u64 e.f5.f2) := (blk_cell BKge.out 7).trans rfl; have cw2ge_8 : w2.cell? ⟨ge, 8, none⟩ = some (.int .i64 e.f5.f3) := (blk_cell BKge.out 8).trans rfl; have cw2ge_9 : w2.cell? ⟨ge, 9, none⟩ = some (.int .i64 e.f6.f0) := (blk_cell BKge.out 9).trans rfl; have cw2ge_10 : w2.cell? ⟨ge, 10, none⟩ = some (.bool e.f6.f1) := (blk_cell BKge.out 10).trans rfl; have cw2ge_11 : w2.cell? ⟨ge, 11, none⟩ = some (.int .u64 e.f6.f2) := (blk_cell BKge.out 11).trans rfl; have cw2ge_12 : w2.cell? ⟨ge, 12, none⟩ = some (.slice Ae e.f6.f3.length ce) := (blk_cell BKge.out 12).trans rfl) | (go_at_call 19; (with_reducible refine (hva_Bf.calls x e A Ae c ce _).mono ?_); rintro e w3 ⟨rfl, hb⟩; have n_BKgx := Aside0.mk (blk_below (g := gx) (o := .cells #[.int .i64 x.f0, .int .i64 x.f1, .int .i64 x.f2, .int .i64 x.f3, .int .i64 x.f4, .int .i64 x.f5.f0, .int .u64 x.f5.f1, .int .u64 x.f5.f2, .int .i64 x.f5.f3, .int .i64 x.f6.f0, .bool x.f6.f1, .int .u64 x.f6.f2, .slice A x.f6.f3.length c] 31 (0, 0)) BKgx.out hb); clear BKgx; have BKgx := n_BKgx; clear n_BKgx; have n_BKge := Aside0.mk (blk_below (g := ge) (o := .cells #[.int .i64 e.f0, .int .i64 e.f1, .int .i64 e.f2, .int .i64 e.f3, .int .i64 e.f4, .int .i64 e.f5.f0, .int .u64 e.f5.f1, .int .u64 e.f5.f2, .int .i64 e.f5.f3, .int .i64 e.f6.f0, .bool e.f6.f1, .int .u64 e.f6.f2, .slice Ae e.f6.f3.length ce] 31 (0, 0)) BKge.out hb); clear BKge; have BKge := n_BKge; clear n_BKge; have n0_ := Aside0.mk (below_step HB.out hb); clear HB hb; have HB := n0_; clear n0_; have cw3gx_0 : w3.cell? ⟨gx, 0, none⟩ = some (.int .i64 x.f0) := (blk_cell BKgx.out 0).trans rfl; have cw3gx_1 : w3.cell? ⟨gx, 1, none⟩ = some (.int .i64 x.f1) := (blk_cell BKgx.out 1).trans rfl; have cw3gx_2 : w3.cell? ⟨gx, 2, none⟩ = some (.int .i64 x.f2) := (blk_cell BKgx.out 2).trans rfl; have cw3gx_3 : w3.cell? ⟨gx, 3, none⟩ = some (.int .i64 x.f3) := (blk_cell BKgx.out 3).trans rfl; have cw3gx_4 : w3.cell? ⟨gx, 4, none⟩ = some (.int .i64 x.f4) := (blk_cell BKgx.out 4).trans rfl; have cw3gx_5 : w3.cell? ⟨gx, 5, none⟩ = some (.int .i64 x.f5.f0) := (blk_cell BKgx.out 5).trans rfl; have cw3gx_6 : w3.cell? ⟨gx, 6, none⟩ = some (.int .u64 x.f5.f1) := (blk_cell BKgx.out 6).trans rfl; have cw3gx_7 : w3.cell? ⟨gx, 7, none⟩ = some (.int .u64 x.f5.f2) := (blk_cell BKgx.out 7).trans rfl; have cw3gx_8 : w3.cell? ⟨gx, 8, none⟩ = some (.int .i64 x.f5.f3) := (blk_cell BKgx.out 8).trans rfl; have cw3gx_9 : w3.cell? ⟨gx, 9, none⟩ = some (.int .i64 x.f6.f0) := (blk_cell BKgx.out 9).trans rfl; have cw3gx_10 : w3.cell? ⟨gx, 10, none⟩ = some (.bool x.f6.f1) := (blk_cell BKgx.out 10).trans rfl; have cw3gx_11 : w3.cell? ⟨gx, 11, none⟩ = some (.int .u64 x.f6.f2) := (blk_cell BKgx.out 11).trans rfl; have cw3gx_12 : w3.cell? ⟨gx, 12, none⟩ = some (.slice A x.f6.f3.length c) := (blk_cell BKgx.out 12).trans rfl; have cw3ge_0 : w3.cell? ⟨ge, 0, none⟩ = some (.int .i64 e.f0) := (blk_cell BKge.out 0).trans rfl; have cw3ge_1 : w3.cell? ⟨ge, 1, none⟩ = some (.int .i64 e.f1) := (blk_cell BKge.out 1).trans rfl; have cw3ge_2 : w3.cell? ⟨ge, 2, none⟩ = some (.int .i64 e.f2) := (blk_cell BKge.out 2).trans rfl; have cw3ge_3 : w3.cell? ⟨ge, 3, none⟩ = some (.int .i64 e.f3) := (blk_cell BKge.out 3).trans rfl; have cw3ge_4 : w3.cell? ⟨ge, 4, none⟩ = some (.int .i64 e.f4) := (blk_cell BKge.out 4).trans rfl; have cw3ge_5 : w3.cell? ⟨ge, 5, none⟩ = some (.int .i64 e.f5.f0) := (blk_cell BKge.out 5).trans rfl; have cw3ge_6 : w3.cell? ⟨ge, 6, none⟩ = some (.int .u64 e.f5.f1) := (blk_cell BKge.out 6).trans rfl; have cw3ge_7 : w3.cell? ⟨ge, 7, none⟩ = some (.int .u64 e.f5.f2) := (blk_cell BKge.out 7).trans rfl; have cw3ge_8 : w3.cell? ⟨ge, 8, none⟩ = some (.int .i64 e.f5.f3) := (blk_cell BKge.out 8).trans rfl; have cw3ge_9 : w3.cell? ⟨ge, 9, none⟩ = some (.int .i64 e.f6.f0) := (blk_cell BKge.out 9).trans rfl; have cw3ge_10 : w3.cell? ⟨ge, 10, none⟩ = some (.bool e.f6.f1) := (blk_cell BKge.out 10).trans rfl; have cw3ge_11 : w3.cell? ⟨ge, 11, none⟩ = some (.int .u64 e.f6.f2) := (blk_cell BKge.out 11).trans rfl; have cw3ge_12 : w3.cell? ⟨ge, 12, none⟩ = some (.slice Ae e.f6.f3.length ce) := (blk_cell BKge.out 12).trans rfl))
      go_ret
      exact ⟨by first | rfl | (simp [*]; done), by repeat (first | (with_reducible first | exact HB.out | apply below_alloc | apply pw_below_drewN | apply below_drew1) | exact HB.out)⟩
  · rw [if_neg c1]
    have c1b : (e.f0 == x.f0) = false := beq_eq_false_iff_ne.mpr c1
    clear c1
    go_enter Try.func21, Try.ntmps21
    go_wp2_with (first | ((with_reducible refine gate_dst (N := 2) rfl ?_); refine box_event ?hg (N := 2) ?hd (cs := #[.int .i64 x.f0, .int .i64 x.f1, .int .i64 x.f2, .int .i64 x.f3, .int .i64 x.f4, .int .i64 x.f5.f0, .int .u64 x.f5.f1, .int .u64 x.f5.f2, .int .i64 x.f5.f3, .int .i64 x.f6.f0, .bool x.f6.f1, .int .u64 x.f6.f2, .slice A x.f6.f3.length c]) (t := 31) ?hr ?_; (case hd => rfl); (case hg => rfl); (case hr => first | (go_simp; done) | (go_simp; rfl)); intro gx hg wb_gx hbox hb; have BKgx := Aside0.mk hbox; have n_BKge := Aside0.mk (blk_below (g := ge) (o := .cells #[.int .i64 e.f0, .int .i64 e.f1, .int .i64 e.f2, .int .i64 e.f3, .int .i64 e.f4, .int .i64 e.f5.f0, .int .u64 e.f5.f1, .int .u64 e.f5.f2, .int .i64 e.f5.f3, .int .i64 e.f6.f0, .bool e.f6.f1, .int .u64 e.f6.f2, .slice Ae e.f6.f3.length ce] 31 (0, 0)) BKge.out hb); clear BKge; have BKge := n_BKge; clear n_BKge; have n0_ := Aside0.mk (below_step HB.out hb); clear HB; have HB := n0_; clear n0_; have c0gx_0 : wb_gx.cell? ⟨gx, 0, none⟩ = some (.int .i64 x.f0) := (blk_cell BKgx.out 0).trans rfl; have c0gx_1 : wb_gx.cell? ⟨gx, 1, none⟩ = some (.int .i64 x.f1) := (blk_cell BKgx.out 1).trans rfl; have c0gx_2 : wb_gx.cell? ⟨gx, 2, none⟩ = some (.int .i64 x.f2) := (blk_cell BKgx.out 2).trans rfl; have c0gx_3 : wb_gx.cell? ⟨gx, 3, none⟩ = some (.int .i64 x.f3) := (blk_cell BKgx.out 3).trans rfl; have c0gx_4 : wb_gx.cell? ⟨gx, 4, none⟩ = some (.int .i64 x.f4) := (blk_cell BKgx.out 4).trans rfl; have c0gx_5 : wb_gx.cell? ⟨gx, 5, none⟩ = some (.int .i64 x.f5.f0) := (blk_cell BKgx.out 5).trans rfl; have c0gx_6 : wb_gx.cell? ⟨gx, 6, none⟩ = some (.int .u64 x.f5.f1) := (blk_cell BKgx.out 6).trans rfl; have c0gx_7 : wb_gx.cell? ⟨gx, 7, none⟩ = some (.int .u64 x.f5.f2) := (blk_cell BKgx.out 7).trans rfl; have c0gx_8 : wb_gx.cell? ⟨gx, 8, none⟩ = some (.int .i64 x.f5.f3) := (blk_cell BKgx.out 8).trans rfl; have c0gx_9 : wb_gx.cell? ⟨gx, 9, none⟩ = some (.int .i64 x.f6.f0) := (blk_cell BKgx.out 9).trans rfl; have c0gx_10 : wb_gx.cell? ⟨gx, 10, none⟩ = some (.bool x.f6.f1) := (blk_cell BKgx.out 10).trans rfl; have c0gx_11 : wb_gx.cell? ⟨gx, 11, none⟩ = some (.int .u64 x.f6.f2) := (blk_cell BKgx.out 11).trans rfl; have c0gx_12 : wb_gx.cell? ⟨gx, 12, none⟩ = some (.slice A x.f6.f3.length c) := (blk_cell BKgx.out 12).trans rfl; have c0ge_0 : wb_gx.cell? ⟨ge, 0, none⟩ = some (.int .i64 e.f0) := (blk_cell BKge.out 0).trans rfl; have c0ge_1 : wb_gx.cell? ⟨ge, 1, none⟩ = some (.int .i64 e.f1) := (blk_cell BKge.out 1).trans rfl; have c0ge_2 : wb_gx.cell? ⟨ge, 2, none⟩ = some (.int .i64 e.f2) := (blk_cell BKge.out 2).trans rfl; have c0ge_3 : wb_gx.cell? ⟨ge, 3, none⟩ = some (.int .i64 e.f3) := (blk_cell BKge.out 3).trans rfl; have c0ge_4 : wb_gx.cell? ⟨ge, 4, none⟩ = some (.int .i64 e.f4) := (blk_cell BKge.out 4).trans rfl; have c0ge_5 : wb_gx.cell? ⟨ge, 5, none⟩ = some (.int .i64 e.f5.f0) := (blk_cell BKge.out 5).trans rfl; have c0ge_6 : wb_gx.cell? ⟨ge, 6, none⟩ = some (.int .u64 e.f5.f1) := (blk_cell BKge.out 6).trans rfl; have c0ge_7 : wb_gx.cell? ⟨ge, 7, none⟩ = some (.int .u64 e.f5.f2) := (blk_cell BKge.out 7).trans rfl; have c0ge_8 : wb_gx.cell? ⟨ge, 8, none⟩ = some (.int .i64 e.f5.f3) := (blk_cell BKge.out 8).trans rfl; have c0ge_9 : wb_gx.cell? ⟨ge, 9, none⟩ = some (.int .i64 e.f6.f0) := (blk_cell BKge.out 9).trans rfl; have c0ge_10 : wb_gx.cell? ⟨ge, 10, none⟩ = some (.bool e.f6.f1) := (blk_cell BKge.out 10).trans rfl; have c0ge_11 : wb_gx.cell? ⟨ge, 11, none⟩ = some (.int .u64 e.f6.f2) := (blk_cell BKge.out 11).trans rfl; have c0ge_12 : wb_gx.cell? ⟨ge, 12, none⟩ = some (.slice Ae e.f6.f3.length ce) := (blk_cell BKge.out 12).trans rfl; clear hb hbox hg))
    go_ret
    exact ⟨by first | rfl | (simp [*]; done), by repeat (first | (with_reducible first | exact HB.out | apply below_alloc | apply pw_below_drewN | apply below_drew1) | exact HB.out)⟩
def hva_ix.l0 (e : S31) : Nat → List S31 → Int → Option Int
  | 0, _, _ => none
  | k + 1, l, i => if i < (l.length : Int) then (if 0 ≤ i then (if history_Valid1.f (rd_T31 l i) e = true then some i else hva_ix.l0 e k l (wrap64 (i + 1))) else none) else some (-1)
theorem hva_ix.mono_l (e : S31) : ∀ k l i, LeO (hva_ix.l0 e k l i) (hva_ix.l0 e (k + 1) l i)
  | 0, _, _ => fun r h => by simp [hva_ix.l0] at h
  | k + 1, l, i => by
    unfold hva_ix.l0
    exact LeO.ite (LeO.ite (LeO.ite (LeO.refl _) (hva_ix.mono_l e k _ _)) (LeO.refl _)) (LeO.refl _)
set_option maxHeartbeats 8000000 in
set_option maxRecDepth 100000 in
theorem hva_ix.calls (k : Nat) (e : S31) (Ae : Option Addr) (ce : Nat) (A0 : Option Addr) (c0 : Nat) (l0 : List S31) (r : Int) (ge : Nat) (W : World) (hr0 : Kd.C k31 W A0 l0.length l0) (hg : W.heap[ge]? = some (.cells #[.int .i64 e.f0, .int .i64 e.f1, .int .i64 e.f2, .int .i64 e.f3, .int .i64 e.f4, .int .i64 e.f5.f0, .int .u64 e.f5.f1, .int .u64 e.f5.f2, .int .i64 e.f5.f3, .int .i64 e.f6.f0, .bool e.f6.f1, .int .u64 e.f6.f2, .slice Ae e.f6.f3.length ce] 31 (0, 0))) (h : hva_ix.l0 e k l0 0 = some r) :
    Calls Try.prog 32 #[.slice A0 l0.length c0, .func (.func 21) #[] #[.pointer (some ⟨ge, 0, none⟩)]] W fun e_ w' => e_ = .returned (.int .i64 r) ∧ Below W.heap.size W w' := by
  have HR0 := Aside0.mk hr0
  have Bhg := Aside0.mk hg
  have H' := Aside0.mk h
  have HB := Aside0.mk (Below.refl W.heap.size W)
  clear hr0 h hg
  go_enter Try.func32, Try.ntmps32
  go_wp2
  go_loopg [8] k (fun kq v8 w' => ∃ (i : Int), v8 = .int .i64 i ∧ Aside0 (hva_ix.l0 e kq l0 i = some r) ∧ Aside0 (kq ≤ k) ∧ Aside0 (Below W.heap.size W w'))
  case atStart => exact ⟨0, by rfl, H', ⟨Nat.le_refl _⟩, ⟨by repeat (first | (with_reducible first | exact HB.out | apply below_alloc | apply pw_below_drewN | apply below_drew1) | exact HB.out)⟩⟩
  case round =>
    clear H'
    clear HB
    try clear p2
    obtain ⟨i, rfl, HA, HK1, HB⟩ := hrel
    cases gk with
    | zero => exact absurd HA.out (by simp [hva_ix.l0])
    | succ k1 =>
      have H := HA.out
      clear HA
      simp only [hva_ix.l0] at H
      by_cases c4 : i < (l0.length : Int)
      · rw [if_pos c4] at H
        have c4b0 : decide (i < (l0.length : Int)) = true := decide_eq_true c4
        by_cases c5 : 0 ≤ i
        · rw [if_pos c5] at H
          have c5b0 : decide (0 ≤ i) = true := decide_eq_true c5
          obtain ⟨ad, A12, c12, e12, hx0, hx1, hx2, hx3, hx4, hx5, hx6, hx7, hx8, hx9, hx10, hx11, hx12, hl12, hi12⟩ := at_T31 (Kd.C_below HR0.out HB.out) i c5 c4
          cases e12
          have HI := Aside0.mk hi12
          have HL := Aside0.mk hl12
          clear hi12 hl12
          by_cases c6 : history_Valid1.f (rd_T31 l0 i) e = true
          · rw [if_pos c6] at H
            have c6b0 : history_Valid1.f (rd_T31 l0 i) e = true := c6
            obtain rfl := Option.some.inj H
            clear H
            go_wp2_with (first | (go_at_call 21; (with_reducible refine (history_Valid1.calls (rd_T31 l0 i) e A12 Ae c12 ce ge _ (blk_below Bhg.out HB.out)).mono ?_); rintro e w1 ⟨rfl, hb⟩; have n0_ := Aside0.mk (below_step HB.out hb); clear HB hb; have HB := n0_; clear n0_))
            go_ret
            exact ⟨by first | rfl | (simp [*]; done), by repeat (first | (with_reducible first | exact HB.out | apply below_alloc | apply pw_below_drewN | apply below_drew1) | exact HB.out)⟩
          · rw [if_neg c6] at H
            have c6b0 : history_Valid1.f (rd_T31 l0 i) e = false := Bool.eq_false_iff.mpr c6
            have H' := Aside0.mk H
            clear H
            go_wp2_with (first | (go_at_call 21; (with_reducible refine (history_Valid1.calls (rd_T31 l0 i) e A12 Ae c12 ce ge _ (blk_below Bhg.out HB.out)).mono ?_); rintro e w1 ⟨rfl, hb⟩; have n0_ := Aside0.mk (below_step HB.out hb); clear HB hb; have HB := n0_; clear n0_))
            go_roundg k1
            case measure => have := HK1.out; omega
            case rel => exact ⟨wrap64 (i + 1), (by first | rfl | (simp; done) | (simp [*]; done)), H', ⟨by have := HK1.out; omega⟩, ⟨by repeat (first | (with_reducible first | exact HB.out | apply below_alloc | apply pw_below_drewN | apply below_drew1) | exact HB.out)⟩⟩
        · rw [if_neg c5] at H
          exact absurd H (by simp)
      · rw [if_neg c4] at H
        have c4b0 : decide (i < (l0.length : Int)) = false := decide_eq_false c4
        clear c4
        obtain rfl := Option.some.inj H
        clear H
        go_wp2
        go_ret
        exact ⟨by first | rfl | (simp [*]; done), by repeat (first | (with_reducible first | exact HB.out | apply below_alloc | apply pw_below_drewN | apply below_drew1) | exact HB.out)⟩
set_option maxHeartbeats 8000000 in
set_option maxRecDepth 100000 in
theorem hva_ct.calls (k : Nat) (e : S31) (Ae : Option Addr) (ce : Nat) (A0 : Option Addr) (c0 : Nat) (l0 : List S31) (r : Int) (ge : Nat) (W : World) (hr0 : Kd.C k31 W A0 l0.length l0) (hg : W.heap[ge]? = some (.cells #[.int .i64 e.f0, .int .i64 e.f1, .int .i64 e.f2, .int .i64 e.f3, .int .i64 e.f4, .int .i64 e.f5.f0, .int .u64 e.f5.f1, .int .u64 e.f5.f2, .int .i64 e.f5.f3, .int .i64 e.f6.f0, .bool e.f6.f1, .int .u64 e.f6.f2, .slice Ae e.f6.f3.length ce] 31 (0, 0))) (h : hva_ix.l0 e k l0 0 = some r) :
    Calls Try.prog 22 #[.slice A0 l0.length c0, .func (.func 21) #[] #[.pointer (some ⟨ge, 0, none⟩)]] W fun e_ w' => e_ = .returned (.bool (decide (0 ≤ r))) ∧ Below W.heap.size W w' := by
  have HR0 := Aside0.mk hr0
  have H' := Aside0.mk h
  have HB := Aside0.mk (Below.refl W.heap.size W)
  have Bhg := Aside0.mk hg
  clear hr0 h hg
  go_enter Try.func22, Try.ntmps22
  go_wp2_with (first | (go_at_call 32; (with_reducible refine (hva_ix.calls k e Ae ce A0 c0 l0 r ge _ HR0.out Bhg.out H'.out).mono ?_); rintro e w1 ⟨rfl, hb⟩; have n0_ := Aside0.mk (below_step HB.out hb); clear HB hb; have HB := n0_; clear n0_))
  go_ret
  exact ⟨by first | rfl | (simp; done), by repeat (first | (with_reducible first | exact HB.out | apply below_alloc | apply pw_below_drewN | apply below_drew1) | exact HB.out)⟩
def history_Valid.l0 : Nat → List S31 → Int → Option Bool
  | 0, _, _ => none
  | k + 1, l, i => if i < (l.length : Int) then (if 0 ≤ i then (if (rd_T31 l i).f2 < 0 then some false else if (rd_T31 l i).f3 ≥ 0 then (if (rd_T31 l i).f3 < (rd_T31 l i).f2 then some false else (hva_ix.l0 (rd_T31 l i) k (l.take i.toNat) 0).bind fun r => if 0 ≤ r then some false else history_Valid.l0 k l (wrap64 (i + 1))) else (hva_ix.l0 (rd_T31 l i) k (l.take i.toNat) 0).bind fun r => if 0 ≤ r then some false else history_Valid.l0 k l (wrap64 (i + 1))) else none) else some true
theorem history_Valid.mono_l : ∀ k l i, LeO (history_Valid.l0 k l i) (history_Valid.l0 (k + 1) l i)
  | 0, _, _ => fun r h => by simp [history_Valid.l0] at h
  | k + 1, l, i => by
    unfold history_Valid.l0
    exact LeO.ite (LeO.ite (LeO.ite (LeO.refl _) (LeO.ite (LeO.ite (LeO.refl _) (LeO.bind (hva_ix.mono_l _ _ _ _) (fun _ => LeO.ite (LeO.refl _) (history_Valid.mono_l k _ _)))) (LeO.bind (hva_ix.mono_l _ _ _ _) (fun _ => LeO.ite (LeO.refl _) (history_Valid.mono_l k _ _))))) (LeO.refl _)) (LeO.refl _)
def history_Valid.f (k : Nat) (l0 : List S31) : Option Bool := history_Valid.l0 k l0 0
theorem history_Valid.mono : ∀ l0 k, LeO (history_Valid.f k l0) (history_Valid.f (k + 1) l0) := by
  intro l0 k
  exact history_Valid.mono_l _ _ _
theorem history_Valid.take {w : World} {A : Option Addr} {n : Nat} {xs : List S31} (h : Kd.C k31 w A n xs) (m : Nat) (hm : m ≤ n) : Kd.C k31 w A m (xs.take m) := by
  obtain ⟨h1, h2, h3⟩ := h
  refine ⟨by rw [List.length_take]; omega, by omega, fun hp => ?_⟩
  obtain ⟨ad, e, hc⟩ := h3 (by omega)
  refine ⟨ad, e, fun j p hj => hc j p ?_⟩
  have hjl : j < m := by have := (List.getElem?_eq_some_iff.1 hj).1; rw [List.length_take] at this; omega
  rwa [List.getElem?_take_of_lt hjl] at hj
theorem history_Valid.call (k : Nat) (e : S31) (Ae : Option Addr) (ce : Nat) (A0 : Option Addr) (c0 : Nat) (l0 : List S31) (m : Nat) (r : Int) (ge : Nat) (W : World) (hr0 : Kd.C k31 W A0 l0.length l0) (hm : m ≤ l0.length) (hg : W.heap[ge]? = some (.cells #[.int .i64 e.f0, .int .i64 e.f1, .int .i64 e.f2, .int .i64 e.f3, .int .i64 e.f4, .int .i64 e.f5.f0, .int .u64 e.f5.f1, .int .u64 e.f5.f2, .int .i64 e.f5.f3, .int .i64 e.f6.f0, .bool e.f6.f1, .int .u64 e.f6.f2, .slice Ae e.f6.f3.length ce] 31 (0, 0))) (h : hva_ix.l0 e k (l0.take m) 0 = some r) :
    Calls Try.prog 22 #[.slice A0 m c0, .func (.func 21) #[] #[.pointer (some ⟨ge, 0, none⟩)]] W fun e_ w' => e_ = .returned (.bool (decide (0 ≤ r))) ∧ Below W.heap.size W w' := by
  have hl : (l0.take m).length = m := by rw [List.length_take]; omega
  have h2 := hva_ct.calls k e Ae ce A0 c0 (l0.take m) r ge W (by rw [hl]; exact history_Valid.take hr0 m hm) hg h
  rw [hl] at h2
  exact h2
set_option maxHeartbeats 8000000 in
set_option maxRecDepth 100000 in
theorem history_Valid.calls (k : Nat) (A0 : Option Addr) (c0 : Nat) (l0 : List S31) (r : Bool) (w : World) (hr0 : Kd.C k31 w A0 l0.length l0) (hc0 : l0.length ≤ c0) (h : history_Valid.f k l0 = some r) :
    Calls Try.prog 10 #[.slice A0 l0.length c0] w fun e w' => e = .returned (.bool r) ∧ Below w.heap.size w w' := by
  have hmf : ∀ (fn : Fn) (first cap : Array Value) (w : World), (Instr.makeFunc fn first cap).run Try.prog w = .ok (.func fn first cap) w := fun _ _ _ _ => rfl
  have HR0 := Aside0.mk hr0
  have HC0 := Aside0.mk hc0
  have H' := Aside0.mk (show history_Valid.l0 k l0 0 = some r from h)
  have HB := Aside0.mk (Below.refl w.heap.size w)
  clear hr0 hc0 h
  go_enter Try.func10, Try.ntmps10
  go_wp2
  go_loopg [8] k (fun kq v8 w' => ∃ (i : Int), v8 = .int .i64 i ∧ Aside0 (history_Valid.l0 kq l0 i = some r) ∧ Aside0 (kq ≤ k) ∧ Aside0 (Below w.heap.size w w'))
  case atStart => exact ⟨0, by rfl, H', ⟨Nat.le_refl _⟩, ⟨by repeat (first | (with_reducible first | exact HB.out | apply below_alloc | apply pw_below_drewN | apply below_drew1) | exact HB.out)⟩⟩
  case round =>
    clear H'
    clear HB
    try clear p2
    obtain ⟨i, rfl, HA, HK1, HB⟩ := hrel
    cases gk with
    | zero => exact absurd HA.out (by simp [history_Valid.l0])
    | succ k1 =>
      have H := HA.out
      clear HA
      simp only [history_Valid.l0] at H
      by_cases c4 : i < (l0.length : Int)
      · rw [if_pos c4] at H
        have c4b0 : decide (i < (l0.length : Int)) = true := decide_eq_true c4
        by_cases c5 : 0 ≤ i
        · rw [if_pos c5] at H
          have c5b0 : decide (0 ≤ i) = true := decide_eq_true c5
          obtain ⟨ad, A12, c12, e12, hx0, hx1, hx2, hx3, hx4, hx5, hx6, hx7, hx8, hx9, hx10, hx11, hx12, hl12, hi12⟩ := at_T31 (Kd.C_below HR0.out HB.out) i c5 c4
          cases e12
          have HI := Aside0.mk hi12
          have HL := Aside0.mk hl12
          clear hi12 hl12
          have HM := Aside0.mk (show i.toNat ≤ l0.length from by omega)
          by_cases c6 : (rd_T31 l0 i).f2 < 0
          · rw [if_pos c6] at H
            obtain rfl := Option.some.inj H
            have c6b : decide ((rd_T31 l0 i).f2 < 0) = true := decide_eq_true c6
            clear H c6
            go_wp2
            go_ret
            exact ⟨by first | rfl | (simp [*]; done), by repeat (first | (with_reducible first | exact HB.out | apply below_alloc | apply pw_below_drewN | apply below_drew1) | exact HB.out)⟩
          · rw [if_neg c6] at H
            have c6b : decide ((rd_T31 l0 i).f2 < 0) = false := decide_eq_false c6
            clear c6
            by_cases c7 : (rd_T31 l0 i).f3 ≥ 0
            · rw [if_pos c7] at H
              have c7b : decide (0 ≤ (rd_T31 l0 i).f3) = true := decide_eq_true c7
              clear c7
              by_cases c8 : (rd_T31 l0 i).f3 < (rd_T31 l0 i).f2
              · rw [if_pos c8] at H
                obtain rfl := Option.some.inj H
                have c8b : decide ((rd_T31 l0 i).f3 < (rd_T31 l0 i).f2) = true := decide_eq_true c8
                clear H c8
                go_wp2
                go_ret
                exact ⟨by first | rfl | (simp [*]; done), by repeat (first | (with_reducible first | exact HB.out | apply below_alloc | apply pw_below_drewN | apply below_drew1) | exact HB.out)⟩
              · rw [if_neg c8] at H
                have c8b : decide ((rd_T31 l0 i).f3 < (rd_T31 l0 i).f2) = false := decide_eq_false c8
                clear c8
                obtain ⟨q, hq, H⟩ := Option.bind_eq_some_iff.mp H
                have Hq := Aside0.mk hq
                clear hq
                by_cases c9 : 0 ≤ q
                · rw [if_pos c9] at H
                  obtain rfl := Option.some.inj H
                  have c9b : decide (0 ≤ q) = true := decide_eq_true c9
                  clear H c9
                  go_wp2_with (first | (go_at_call 22; (with_reducible refine (history_Valid.call k1 (rd_T31 l0 i) A12 c12 (some ad) c0 l0 i.toNat q wr.heap.size _ (Kd.C_below HR0.out (below_alloc HB.out _)) HM.out (blk_new wr _) Hq.out).mono ?_); rintro e w1 ⟨rfl, hb⟩; have n0_ := Aside0.mk (below_step (below_alloc HB.out _) hb); clear HB hb; have HB := n0_; clear n0_))
                  case isFalse =>
                    rename_i hbad
                    exact absurd hbad (by have := HC0.out; omega)
                  go_ret
                  exact ⟨by first | rfl | (simp [*]; done), by repeat (first | (with_reducible first | exact HB.out | apply below_alloc | apply pw_below_drewN | apply below_drew1) | exact HB.out)⟩
                · rw [if_neg c9] at H
                  have c9b : decide (0 ≤ q) = false := decide_eq_false c9
                  clear c9
                  have H' := Aside0.mk H
                  clear H
                  go_wp2_with (first | (go_at_call 22; (with_reducible refine (history_Valid.call k1 (rd_T31 l0 i) A12 c12 (some ad) c0 l0 i.toNat q wr.heap.size _ (Kd.C_below HR0.out (below_alloc HB.out _)) HM.out (blk_new wr _) Hq.out).mono ?_); rintro e w1 ⟨rfl, hb⟩; have n0_ := Aside0.mk (below_step (below_alloc HB.out _) hb); clear HB hb; have HB := n0_; clear n0_))
                  case isFalse =>
                    rename_i hbad
                    exact absurd hbad (by have := HC0.out; omega)
                  go_roundg k1
                  case measure => have := HK1.out; omega
                  case rel => exact ⟨wrap64 (i + 1), (by first | rfl | (simp; done) | (simp [*]; done)), H', ⟨by have := HK1.out; omega⟩, ⟨by repeat (first | (with_reducible first | exact HB.out | apply below_alloc | apply pw_below_drewN | apply below_drew1) | exact HB.out)⟩⟩
            · rw [if_neg c7] at H
              have c7b : decide (0 ≤ (rd_T31 l0 i).f3) = false := decide_eq_false c7
              clear c7
              obtain ⟨q, hq, H⟩ := Option.bind_eq_some_iff.mp H
              have Hq := Aside0.mk hq
              clear hq
              by_cases c9 : 0 ≤ q
              · rw [if_pos c9] at H
                obtain rfl := Option.some.inj H
                have c9b : decide (0 ≤ q) = true := decide_eq_true c9
                clear H c9
                go_wp2_with (first | (go_at_call 22; (with_reducible refine (history_Valid.call k1 (rd_T31 l0 i) A12 c12 (some ad) c0 l0 i.toNat q wr.heap.size _ (Kd.C_below HR0.out (below_alloc HB.out _)) HM.out (blk_new wr _) Hq.out).mono ?_); rintro e w1 ⟨rfl, hb⟩; have n0_ := Aside0.mk (below_step (below_alloc HB.out _) hb); clear HB hb; have HB := n0_; clear n0_))
                case isFalse =>
                  rename_i hbad
                  exact absurd hbad (by have := HC0.out; omega)
                go_ret
                exact ⟨by first | rfl | (simp [*]; done), by repeat (first | (with_reducible first | exact HB.out | apply below_alloc | apply pw_below_drewN | apply below_drew1) | exact HB.out)⟩
              · rw [if_neg c9] at H
                have c9b : decide (0 ≤ q) = false := decide_eq_false c9
                clear c9
                have H' := Aside0.mk H
                clear H
                go_wp2_with (first | (go_at_call 22; (with_reducible refine (history_Valid.call k1 (rd_T31 l0 i) A12 c12 (some ad) c0 l0 i.toNat q wr.heap.size _ (Kd.C_below HR0.out (below_alloc HB.out _)) HM.out (blk_new wr _) Hq.out).mono ?_); rintro e w1 ⟨rfl, hb⟩; have n0_ := Aside0.mk (below_step (below_alloc HB.out _) hb); clear HB hb; have HB := n0_; clear n0_))
                case isFalse =>
                  rename_i hbad
                  exact absurd hbad (by have := HC0.out; omega)
                go_roundg k1
                case measure => have := HK1.out; omega
                case rel => exact ⟨wrap64 (i + 1), (by first | rfl | (simp; done) | (simp [*]; done)), H', ⟨by have := HK1.out; omega⟩, ⟨by repeat (first | (with_reducible first | exact HB.out | apply below_alloc | apply pw_below_drewN | apply below_drew1) | exact HB.out)⟩⟩
        · rw [if_neg c5] at H
          exact absurd H (by simp)
      · rw [if_neg c4] at H
        have c4b0 : decide (i < (l0.length : Int)) = false := decide_eq_false c4
        clear c4
        obtain rfl := Option.some.inj H
        clear H
        go_wp2
        go_ret
        exact ⟨by first | rfl | (simp [*]; done), by repeat (first | (with_reducible first | exact HB.out | apply below_alloc | apply pw_below_drewN | apply below_drew1) | exact HB.out)⟩


-- NOT PRINTED: function 24 (api_Event_24)

-- NOT PRINTED: function 25 (api_Event_25)

/-! ### history_Points: function 13 (by hand) -/
theorem row_own_set {w : World} {N : Nat} {e : TypeId} {sz n g cap : Nat} {inner : List Value} (h : w.ownsRow N e sz (.slice (some ⟨g, 0, none⟩) n cap) n inner) (o : Nat) (u : Value) :
    (w.setCell ⟨g, o, none⟩ u).ownsRow N e sz (.slice (some ⟨g, 0, none⟩) n cap) n (inner.set o u) := by
  obtain ⟨hl, h2⟩ := h
  refine ⟨by rw [List.length_set]; exact hl, .inr ?_⟩
  rcases h2 with ⟨he, _⟩ | ⟨g', cap', cur, he, hb, hh, h3, h4, h5, h6⟩
  · cases he
  · cases he
    refine ⟨g, cap, cur.setIfInBounds o u, rfl, hb, ?_, h3, h4, by simpa using h5, ?_⟩
    · rw [setCell_eq_setRow w g o cur e (0, 0) u hh]
      exact setRow_heap w g cur _ e (0, 0) hh
    · rw [Array.toList_setIfInBounds, List.take_set, h6]
theorem row_own_sets {N : Nat} {e : TypeId} {sz n g cap : Nat} : ∀ (vs : List Value) (w : World) (inner : List Value) (o : Nat), w.ownsRow N e sz (.slice (some ⟨g, 0, none⟩) n cap) n inner → o + vs.length ≤ inner.length →
    (w.setCells g o vs).ownsRow N e sz (.slice (some ⟨g, 0, none⟩) n cap) n (inner.take o ++ vs ++ inner.drop (o + vs.length))
  | [], w, inner, o, h, _ => by simpa [World.setCells] using h
  | v :: r, w, inner, o, h, hl => by
    simp only [List.length_cons] at hl
    have ih := row_own_sets r (w.setCell ⟨g, o, none⟩ v) (inner.set o v) (o + 1) (row_own_set h o v) (by rw [List.length_set]; omega)
    rw [World.setCells]
    have e1 : (inner.set o v).take (o + 1) ++ r ++ (inner.set o v).drop (o + 1 + r.length) = inner.take o ++ (v :: r) ++ inner.drop (o + (v :: r).length) := by
      rw [List.take_set, List.take_succ_eq_append_getElem (show o < inner.length by omega), List.set_append_right _ _ (by rw [List.length_take]; omega), List.drop_set_of_lt (by omega)]
      rw [show o - (inner.take o).length = 0 by rw [List.length_take]; omega]
      simp [Nat.add_assoc, Nat.add_comm 1]
    rw [← e1]
    exact ih
theorem row_reps_take {α : Type} {R : α → List Value → Prop} {size m : Nat} {ps : List α} {cs : List Value} (h : Reps R size ps cs) (hm : m ≤ ps.length) : Reps R size (ps.take m) (cs.take (m * size)) := by
  refine ⟨by rw [List.length_take, List.length_take, h.1, Nat.min_eq_left hm, Nat.min_eq_left (Nat.mul_le_mul_right _ hm)], fun j p hj => ?_⟩
  rw [List.getElem?_take] at hj
  split at hj
  · rename_i hjm
    have := h.2 j p hj
    have hle : j * size + size ≤ m * size := by rw [← Nat.succ_mul]; exact Nat.mul_le_mul_right _ hjm
    rw [List.drop_take, List.take_take, Nat.min_eq_left (by omega)]
    exact this
  · cases hj
theorem row_reps_set {α : Type} {R : α → List Value → Prop} {size : Nat} {ps : List α} {cs c : List Value} {p : α} (h : Reps R size ps cs) (i : Nat) (hi : i < ps.length) (hp : R p c) (hc : c.length = size) :
    Reps R size (ps.set i p) (cs.take (i * size) ++ c ++ cs.drop (i * size + size)) := by
  have h1 := Kd.reps_set h hi hp hc
  rwa [hc] at h1
theorem row_frozen {w : World} {N : Nat} {e : TypeId} {sz n g cap : Nat} {inner : List Value} (h : w.ownsRow N e sz (.slice (some ⟨g, 0, none⟩) n cap) n inner) (o : Nat) : w.frozen? ⟨g, o, none⟩ = false := by
  rcases h.2 with ⟨he, _⟩ | ⟨g', cap', cur, he, hb, hh, h3, h4, h5, h6⟩
  · cases he
  · cases he
    simp [World.frozen?, hh]
theorem row_sets_below {N g : Nat} (hg : N ≤ g) : ∀ (vs : List Value) (w0 w : World) (o : Nat), Below N w0 w → Below N w0 (w.setCells g o vs)
  | [], _, _, _, h => h
  | v :: r, w0, w, o, h => row_sets_below hg r w0 _ (o + 1) (h.setCell (p := ⟨g, o, none⟩) hg v)
theorem row_cap {w : World} {N : Nat} {e : TypeId} {sz n g cap : Nat} {inner : List Value} (h : w.ownsRow N e sz (.slice (some ⟨g, 0, none⟩) n cap) n inner) : N ≤ g ∧ n ≤ cap ∧ cap ≤ maxLen ∧ g < w.heap.size := by
  rcases h.2 with ⟨he, _⟩ | ⟨g', cap', cur, he, hb, hh, h3, h4, h5, h6⟩
  · cases he
  · cases he
    exact ⟨hb, h3, h4, (Array.getElem?_eq_some_iff.1 hh).1⟩
theorem row_cut {w : World} {N : Nat} {e : TypeId} {sz n g cap : Nat} {inner : List Value} (h : w.ownsRow N e sz (.slice (some ⟨g, 0, none⟩) n cap) n inner) (m : Nat) (hm : m ≤ n) : w.ownsRow N e sz (.slice (some ⟨g, 0, none⟩) m cap) m (inner.take (m * sz)) := by
  obtain ⟨hl, h2⟩ := h
  have hms : m * sz ≤ n * sz := Nat.mul_le_mul_right _ hm
  refine ⟨by rw [List.length_take, hl]; omega, .inr ?_⟩
  rcases h2 with ⟨he, _⟩ | ⟨g', cap', cur, he, hb, hh, h3, h4, h5, h6⟩
  · cases he
  · cases he
    exact ⟨g, cap, cur, rfl, hb, hh, by omega, h4, h5, by rw [← h6, List.take_take, Nat.min_eq_left hms]⟩
theorem row_seg {w : World} {N : Nat} {e : TypeId} {sz n g cap : Nat} {inner : List Value} (h : w.ownsRow N e sz (.slice (some ⟨g, 0, none⟩) n cap) n inner) {α : Type} {R : α → List Value → Prop} {ps : List α} (hr : Reps R sz ps inner) (j : Nat) (x : α) (hj : ps[j]? = some x) (vs : List Value) (hv : vs.length = sz)
    (hc : ∀ q, q < sz → w.cell? ⟨g, j * sz + q, none⟩ = vs[q]?) : R x vs := by
  have h1 := hr.2 j x hj
  have hjl := (List.getElem?_eq_some_iff.1 hj).1
  have hfit : j * sz + sz ≤ inner.length := by rw [hr.1, ← Nat.succ_mul]; exact Nat.mul_le_mul_right _ hjl
  have e1 : (inner.drop (j * sz)).take sz = vs := by
    apply List.ext_getElem?
    intro q
    by_cases hq : q < sz
    · rw [List.getElem?_take_of_lt hq, List.getElem?_drop, ← hc q hq]
      have h2 := h.cells (g := g) rfl (j * sz + q) _ (List.getElem?_eq_getElem (show j * sz + q < inner.length by omega))
      rw [Addr.add_lit, Nat.zero_add] at h2
      rw [h2]
      exact List.getElem?_eq_getElem _
    · rw [List.getElem?_eq_none (by rw [List.length_take]; omega), List.getElem?_eq_none (by omega)]
  rw [e1] at h1
  exact h1
theorem row_clear {P : Program} {w : World} {N : Nat} {e : TypeId} {sz n g cap : Nat} {inner : List Value} (h : w.ownsRow N e sz (.slice (some ⟨g, 0, none⟩) n cap) n inner) (t ty : TypeId) (z : Value) (ht : P.underlying t = some (.slice e)) (hv : ∀ w, (zeroValue e).run P w = .ok z w) (hz : z.cells.size = sz) (h1 : ∀ u ∈ z.cells.toList, u.oneCell' = true) (o c : Nat) (ho : o < n) :
    (Builtin.clear_ #[t] ty #[.slice (some ⟨g, o * sz, none⟩) (n - o) c]).run P w = .ok (.tuple #[]) (w.setCells g (o * sz) (Builtin.zeroCells z.cells (n - o)).toList) := by
  have hlen : (Builtin.zeroCells z.cells (n - o)).toList.length = (n - o) * sz := by simp [Builtin.zeroCells, hz]
  have hfit : o * sz + (n - o) * sz = n * sz := by rw [← Nat.add_mul]; congr 1; omega
  have hst := run_storeCells_cells (P := P) g (o * sz) (Builtin.zeroCells z.cells (n - o)).toList 0 w (fun j hj => by
      have hl := h.1
      have h2 := h.cells (g := g) rfl (o * sz + 0 + j) _ (List.getElem?_eq_getElem (show o * sz + 0 + j < inner.length by omega))
      rw [Addr.add_lit, Nat.zero_add] at h2
      rw [h2]
      rfl) (fun j hj => row_frozen h _) (fun u hu => by
      simp only [Builtin.zeroCells, Array.toList_map, List.mem_map] at hu
      obtain ⟨i, hi, rfl⟩ := hu
      have hi' : i < (n - o) * z.cells.size := by simpa using hi
      have hpos : 0 < z.cells.size := by
        rcases Nat.eq_zero_or_pos z.cells.size with h0 | h0
        · rw [h0, Nat.mul_zero] at hi'; omega
        · exact h0
      have hlt := Nat.mod_lt i hpos
      rw [getElem!_pos z.cells _ hlt]
      exact h1 _ (by rw [← Array.getElem_toList]; exact List.getElem_mem _))
  simp only [Nat.add_zero] at hst
  obtain ⟨m, hm⟩ : ∃ m, n - o = m + 1 := ⟨n - o - 1, by omega⟩
  rw [hm] at hst ⊢
  simp [Builtin.clear_, run_underlying ht, hv, hst]
def history_Points1.f (x : S31) : Bool := if x.f6.f0 = 0 then (if x.f5.f0 < 1 then true else decide (3 < x.f5.f0)) else true
set_option maxHeartbeats 8000000 in
set_option maxRecDepth 100000 in
theorem history_Points1.calls (x : S31) (A : Option Addr) (c : Nat) (W : World) :
    Calls Try.prog 26 #[.agg #[.int .i64 x.f0, .int .i64 x.f1, .int .i64 x.f2, .int .i64 x.f3, .int .i64 x.f4, .int .i64 x.f5.f0, .int .u64 x.f5.f1, .int .u64 x.f5.f2, .int .i64 x.f5.f3, .int .i64 x.f6.f0, .bool x.f6.f1, .int .u64 x.f6.f2, .slice A x.f6.f3.length c]] W fun e w' => e = .returned (.bool (history_Points1.f x)) ∧ Below W.heap.size W w' := by
  have HB := Aside0.mk (Below.refl W.heap.size W)
  unfold history_Points1.f
  by_cases c1 : x.f6.f0 = 0
  · rw [if_pos c1]
    have c1b : (x.f6.f0 != 0) = false := bne_eq_false_iff_eq.mpr c1
    clear c1
    by_cases c2 : x.f5.f0 < 1
    · rw [if_pos c2]
      have c2b : decide (x.f5.f0 < 1) = true := decide_eq_true c2
      clear c2
      go_enter Try.func26, Try.ntmps26
      go_wp2_with (first | ((with_reducible refine gate_dst (N := 1) rfl ?_); refine box_event ?hg (N := 1) ?hd (cs := #[.int .i64 x.f0, .int .i64 x.f1, .int .i64 x.f2, .int .i64 x.f3, .int .i64 x.f4, .int .i64 x.f5.f0, .int .u64 x.f5.f1, .int .u64 x.f5.f2, .int .i64 x.f5.f3, .int .i64 x.f6.f0, .bool x.f6.f1, .int .u64 x.f6.f2, .slice A x.f6.f3.length c]) (t := 31) ?hr ?_; (case hd => rfl); (case hg => rfl); (case hr => first | (go_simp; done) | (go_simp; rfl)); intro gx hg wb_gx hbox hb; have BKgx := Aside0.mk hbox; have n0_ := Aside0.mk (below_step HB.out hb); clear HB; have HB := n0_; clear n0_; have cgx_5 : wb_gx.cell? ⟨gx, 5, none⟩ = some (.int .i64 x.f5.f0) := (blk_cell BKgx.out 5).trans rfl; have cgx_9 : wb_gx.cell? ⟨gx, 9, none⟩ = some (.int .i64 x.f6.f0) := (blk_cell BKgx.out 9).trans rfl; clear hb hbox hg))
      go_ret
      exact ⟨by first | rfl | (simp [*]; done), by repeat (first | (with_reducible first | exact HB.out | apply below_alloc | apply pw_below_drewN | apply below_drew1) | exact HB.out)⟩
    · rw [if_neg c2]
      have c2b : decide (x.f5.f0 < 1) = false := decide_eq_false c2
      clear c2
      go_enter Try.func26, Try.ntmps26
      go_wp2_with (first | ((with_reducible refine gate_dst (N := 1) rfl ?_); refine box_event ?hg (N := 1) ?hd (cs := #[.int .i64 x.f0, .int .i64 x.f1, .int .i64 x.f2, .int .i64 x.f3, .int .i64 x.f4, .int .i64 x.f5.f0, .int .u64 x.f5.f1, .int .u64 x.f5.f2, .int .i64 x.f5.f3, .int .i64 x.f6.f0, .bool x.f6.f1, .int .u64 x.f6.f2, .slice A x.f6.f3.length c]) (t := 31) ?hr ?_; (case hd => rfl); (case hg => rfl); (case hr => first | (go_simp; done) | (go_simp; rfl)); intro gx hg wb_gx hbox hb; have BKgx := Aside0.mk hbox; have n0_ := Aside0.mk (below_step HB.out hb); clear HB; have HB := n0_; clear n0_; have cgx_5 : wb_gx.cell? ⟨gx, 5, none⟩ = some (.int .i64 x.f5.f0) := (blk_cell BKgx.out 5).trans rfl; have cgx_9 : wb_gx.cell? ⟨gx, 9, none⟩ = some (.int .i64 x.f6.f0) := (blk_cell BKgx.out 9).trans rfl; clear hb hbox hg))
      go_ret
      exact ⟨by first | rfl | (simp [*]; done), by repeat (first | (with_reducible first | exact HB.out | apply below_alloc | apply pw_below_drewN | apply below_drew1) | exact HB.out)⟩
  · rw [if_neg c1]
    have c1b : (x.f6.f0 != 0) = true := bne_iff_ne.mpr c1
    clear c1
    go_enter Try.func26, Try.ntmps26
    go_wp2_with (first | ((with_reducible refine gate_dst (N := 1) rfl ?_); refine box_event ?hg (N := 1) ?hd (cs := #[.int .i64 x.f0, .int .i64 x.f1, .int .i64 x.f2, .int .i64 x.f3, .int .i64 x.f4, .int .i64 x.f5.f0, .int .u64 x.f5.f1, .int .u64 x.f5.f2, .int .i64 x.f5.f3, .int .i64 x.f6.f0, .bool x.f6.f1, .int .u64 x.f6.f2, .slice A x.f6.f3.length c]) (t := 31) ?hr ?_; (case hd => rfl); (case hg => rfl); (case hr => first | (go_simp; done) | (go_simp; rfl)); intro gx hg wb_gx hbox hb; have BKgx := Aside0.mk hbox; have n0_ := Aside0.mk (below_step HB.out hb); clear HB; have HB := n0_; clear n0_; have cgx_5 : wb_gx.cell? ⟨gx, 5, none⟩ = some (.int .i64 x.f5.f0) := (blk_cell BKgx.out 5).trans rfl; have cgx_9 : wb_gx.cell? ⟨gx, 9, none⟩ = some (.int .i64 x.f6.f0) := (blk_cell BKgx.out 9).trans rfl; clear hb hbox hg))
    go_ret
    exact ⟨by first | rfl | (simp [*]; done), by repeat (first | (with_reducible first | exact HB.out | apply below_alloc | apply pw_below_drewN | apply below_drew1) | exact HB.out)⟩
def hpt_ix.l0  : Nat → List S31 → Int → Option Int
  | 0, _, _ => none
  | k + 1, l, i => if i < (l.length : Int) then (if 0 ≤ i then (if history_Points1.f (rd_T31 l i) = true then some i else hpt_ix.l0 k l (wrap64 (i + 1))) else none) else some (-1)
theorem hpt_ix.mono_l  : ∀ k l i, LeO (hpt_ix.l0 k l i) (hpt_ix.l0 (k + 1) l i)
  | 0, _, _ => fun r h => by simp [hpt_ix.l0] at h
  | k + 1, l, i => by
    unfold hpt_ix.l0
    exact LeO.ite (LeO.ite (LeO.ite (LeO.refl _) (hpt_ix.mono_l k _ _)) (LeO.refl _)) (LeO.refl _)
set_option maxHeartbeats 8000000 in
set_option maxRecDepth 100000 in
theorem hpt_ix.calls (k : Nat)   (A0 : Option Addr) (c0 : Nat) (l0 : List S31) (r : Int)  (W : World) (hr0 : Kd.C k31 W A0 l0.length l0)  (h : hpt_ix.l0 k l0 0 = some r) :
    Calls Try.prog 32 #[.slice A0 l0.length c0, .func (.func 26) #[] #[]] W fun e_ w' => e_ = .returned (.int .i64 r) ∧ Below W.heap.size W w' := by
  have HR0 := Aside0.mk hr0
  have H' := Aside0.mk h
  have HB := Aside0.mk (Below.refl W.heap.size W)
  clear hr0 h 
  go_enter Try.func32, Try.ntmps32
  go_wp2
  go_loopg [8] k (fun kq v8 w' => ∃ (i : Int), v8 = .int .i64 i ∧ Aside0 (hpt_ix.l0 kq l0 i = some r) ∧ Aside0 (kq ≤ k) ∧ Aside0 (Below W.heap.size W w'))
  case atStart => exact ⟨0, by rfl, H', ⟨Nat.le_refl _⟩, ⟨by repeat (first | (with_reducible first | exact HB.out | apply below_alloc | apply pw_below_drewN | apply below_drew1) | exact HB.out)⟩⟩
  case round =>
    clear H'
    clear HB
    try clear p2
    obtain ⟨i, rfl, HA, HK1, HB⟩ := hrel
    cases gk with
    | zero => exact absurd HA.out (by simp [hpt_ix.l0])
    | succ k1 =>
      have H := HA.out
      clear HA
      simp only [hpt_ix.l0] at H
      by_cases c4 : i < (l0.length : Int)
      · rw [if_pos c4] at H
        have c4b0 : decide (i < (l0.length : Int)) = true := decide_eq_true c4
        by_cases c5 : 0 ≤ i
        · rw [if_pos c5] at H
          have c5b0 : decide (0 ≤ i) = true := decide_eq_true c5
          obtain ⟨ad, A12, c12, e12, hx0, hx1, hx2, hx3, hx4, hx5, hx6, hx7, hx8, hx9, hx10, hx11, hx12, hl12, hi12⟩ := at_T31 (Kd.C_below HR0.out HB.out) i c5 c4
          cases e12
          have HI := Aside0.mk hi12
          have HL := Aside0.mk hl12
          clear hi12 hl12
          by_cases c6 : history_Points1.f (rd_T31 l0 i) = true
          · rw [if_pos c6] at H
            have c6b0 : history_Points1.f (rd_T31 l0 i) = true := c6
            obtain rfl := Option.some.inj H
            clear H
            go_wp2_with (first | (go_at_call 26; (with_reducible refine (history_Points1.calls (rd_T31 l0 i) A12 c12 _ ).mono ?_); rintro e w1 ⟨rfl, hb⟩; have n0_ := Aside0.mk (below_step HB.out hb); clear HB hb; have HB := n0_; clear n0_))
            go_ret
            exact ⟨by first | rfl | (simp [*]; done), by repeat (first | (with_reducible first | exact HB.out | apply below_alloc | apply pw_below_drewN | apply below_drew1) | exact HB.out)⟩
          · rw [if_neg c6] at H
            have c6b0 : history_Points1.f (rd_T31 l0 i) = false := Bool.eq_false_iff.mpr c6
            have H' := Aside0.mk H
            clear H
            go_wp2_with (first | (go_at_call 26; (with_reducible refine (history_Points1.calls (rd_T31 l0 i) A12 c12 _ ).mono ?_); rintro e w1 ⟨rfl, hb⟩; have n0_ := Aside0.mk (below_step HB.out hb); clear HB hb; have HB := n0_; clear n0_))
            go_roundg k1
            case measure => have := HK1.out; omega
            case rel => exact ⟨wrap64 (i + 1), (by first | rfl | (simp; done) | (simp [*]; done)), H', ⟨by have := HK1.out; omega⟩, ⟨by repeat (first | (with_reducible first | exact HB.out | apply below_alloc | apply pw_below_drewN | apply below_drew1) | exact HB.out)⟩⟩
        · rw [if_neg c5] at H
          exact absurd H (by simp)
      · rw [if_neg c4] at H
        have c4b0 : decide (i < (l0.length : Int)) = false := decide_eq_false c4
        clear c4
        obtain rfl := Option.some.inj H
        clear H
        go_wp2
        go_ret
        exact ⟨by first | rfl | (simp [*]; done), by repeat (first | (with_reducible first | exact HB.out | apply below_alloc | apply pw_below_drewN | apply below_drew1) | exact HB.out)⟩
theorem hpt_rd (l : List S31) (i : Nat) (h : i < l.length) : rd_T31 l (i : Int) = l[i] := by
  unfold rd_T31
  simp [List.getD, h]
theorem hpt_ix_spec (l : List S31) (hl : l.length < 1152921504606846976) : ∀ k (i : Nat), i ≤ l.length → l.length - i < k → (hpt_ix.l0 k l i = some (-1) ∧ ∀ j (hj : j < l.length), i ≤ j → history_Points1.f l[j] = false) ∨ ∃ m, ∃ hm : m < l.length, i ≤ m ∧ hpt_ix.l0 k l i = some (m : Int) ∧ history_Points1.f l[m] = true ∧ ∀ j (hj : j < m), i ≤ j → history_Points1.f (l[j]'(by omega)) = false
  | 0, i, _, hk => absurd hk (by omega)
  | k + 1, i, hi, hk => by
    unfold hpt_ix.l0
    by_cases hlt : i < l.length
    · rw [if_pos (by omega), if_pos (by omega), hpt_rd l i hlt]
      cases hf : history_Points1.f l[i] with
      | true =>
        exact .inr ⟨i, hlt, Nat.le_refl _, by rw [if_pos rfl], hf, fun j hj hij => by omega⟩
      | false =>
        rw [if_neg (by simp), show wrap64 ((i : Int) + 1) = ((i + 1 : Nat) : Int) from by unfold wrap64; omega]
        rcases hpt_ix_spec l hl k (i + 1) (by omega) (by omega) with ⟨e, ha⟩ | ⟨m, hm, him, e, ht, ha⟩
        · refine .inl ⟨e, fun j hj hij => ?_⟩
          rcases Nat.lt_or_ge i j with h1 | h1
          · exact ha j hj (by omega)
          · obtain rfl : i = j := by omega
            exact hf
        · refine .inr ⟨m, hm, by omega, e, ht, fun j hj hij => ?_⟩
          rcases Nat.lt_or_ge i j with h1 | h1
          · exact ha j hj (by omega)
          · obtain rfl : i = j := by omega
            exact hf
    · rw [if_neg (by omega)]
      exact .inl ⟨rfl, fun j hj hij => by omega⟩
theorem hpt_keep_all (l : List S31) (h : ∀ j (hj : j < l.length), history_Points1.f l[j] = false) : (l.filter fun x => !history_Points1.f x) = l := by
  refine List.filter_eq_self.2 fun x hx => ?_
  obtain ⟨j, hj, rfl⟩ := List.mem_iff_getElem.1 hx
  rw [h j hj]
  rfl
theorem hpt_keep_take (l : List S31) (m : Nat) (hm : m < l.length) (h : ∀ j (hj : j < m), history_Points1.f (l[j]'(by omega)) = false) (ht : history_Points1.f l[m] = true) : ((l.take (m + 1)).filter fun x => !history_Points1.f x) = l.take m := by
  rw [List.take_succ_eq_append_getElem hm, List.filter_append]
  rw [show ([l[m]].filter fun x => !history_Points1.f x) = [] from by simp [ht], List.append_nil]
  refine List.filter_eq_self.2 fun x hx => ?_
  obtain ⟨j, hj, rfl⟩ := List.mem_iff_getElem.1 hx
  rw [List.length_take] at hj
  rw [List.getElem_take, h j (by omega)]
  rfl
structure HptInv (l dk : List S31) (i j : Nat) : Prop where
  len : dk.length = l.length
  lt : i < j
  low : dk.take i = (l.take j).filter fun x => !history_Points1.f x
  high : dk.drop j = l.drop j
theorem HptInv.rd {l dk : List S31} {i j : Nat} (h : HptInv l dk i j) (hj : j < l.length) : rd_T31 dk (j : Int) = l[j] := by
  have hd : j < dk.length := by rw [h.len]; exact hj
  rw [hpt_rd dk j hd]
  have h1 := congrArg List.head? h.high
  rw [List.head?_drop, List.head?_drop, List.getElem?_eq_getElem hd, List.getElem?_eq_getElem hj] at h1
  exact Option.some.inj h1
theorem HptInv.skip {l dk : List S31} {i j : Nat} (h : HptInv l dk i j) (hj : j < l.length) (hf : history_Points1.f l[j] = true) : HptInv l dk i (j + 1) := by
  refine ⟨h.len, by have := h.lt; omega, ?_, ?_⟩
  · rw [List.take_succ_eq_append_getElem hj, List.filter_append, h.low]
    simp [hf]
  · rw [← List.drop_drop, ← List.drop_drop, h.high]
theorem HptInv.keep {l dk : List S31} {i j : Nat} (h : HptInv l dk i j) (hj : j < l.length) (hf : history_Points1.f l[j] = false) : HptInv l (dk.set i l[j]) (i + 1) (j + 1) := by
  have hlt := h.lt
  have hi : i < dk.length := by rw [h.len]; omega
  refine ⟨by rw [List.length_set]; exact h.len, by omega, ?_, ?_⟩
  · rw [List.take_set, List.take_succ_eq_append_getElem hi, List.set_append_right _ _ (by rw [List.length_take]; omega), List.take_succ_eq_append_getElem hj, List.filter_append, ← h.low]
    rw [show i - (dk.take i).length = 0 from by rw [List.length_take]; omega]
    simp [hf]
  · rw [List.drop_set_of_lt (by omega), ← List.drop_drop, ← List.drop_drop, h.high]
theorem hpt_C {W0 w : World} {N g n cap : Nat} {inner : List Value} {l : List S31} (h : w.ownsRow N 31 13 (.slice (some ⟨g, 0, none⟩) n cap) n inner) (hr : Reps (k31.K W0) 13 l inner) (hb : Below W0.heap.size W0 w) (hn : l.length = n) : Kd.C k31 w (some ⟨g, 0, none⟩) n l := by
  obtain ⟨A, c, he, h2⟩ := own_reads_row h (hr.imp_ (R' := k31.K w) (fun _ _ hp => k31.K_below hb hp)) hn
  cases he
  exact h2
set_option maxHeartbeats 8000000 in
set_option maxRecDepth 100000 in
theorem hpt_Del.calls (W0 W : World) (g cap : Nat) (l : List S31) (inner : List Value) (hown : W.ownsRow W0.heap.size 31 13 (.slice (some ⟨g, 0, none⟩) l.length cap) l.length inner) (hrep : Reps (k31.K W0) 13 l inner) (hb0 : Below W0.heap.size W0 W) (hlen : l.length ≤ 1000000) :
    Calls Try.prog 24 #[.slice (some ⟨g, 0, none⟩) l.length cap, .func (.func 26) #[] #[]] W fun e w' => ∃ inner', e = .returned (.slice (some ⟨g, 0, none⟩) (l.filter fun x => !history_Points1.f x).length cap) ∧ w'.ownsRow W0.heap.size 31 13 (.slice (some ⟨g, 0, none⟩) (l.filter fun x => !history_Points1.f x).length cap) (l.filter fun x => !history_Points1.f x).length inner' ∧ Reps (k31.K W0) 13 (l.filter fun x => !history_Points1.f x) inner' ∧ Below W0.heap.size W0 w' := by
  have HC := Aside0.mk (hpt_C hown hrep hb0 rfl)
  have HO := Aside0.mk hown
  have HR := Aside0.mk hrep
  have HB := Aside0.mk hb0
  have HL := Aside0.mk hlen
  have HCP := Aside0.mk (row_cap hown)
  have hixs := hpt_ix_spec l (by omega) (l.length + 1) 0 (by omega) (by omega)
  clear hown hrep hb0 hlen
  rcases hixs with ⟨e, ha⟩ | ⟨m, hm, _, e, ht, ha⟩
  · have HE := Aside0.mk (show hpt_ix.l0 (l.length + 1) l 0 = some (-1) from e)
    rw [hpt_keep_all l (fun j hj => ha j hj (by omega))]
    clear e ha
    go_enter Try.func24, Try.ntmps24
    go_wp2_with (first | (go_at_call 32; (with_reducible refine (hpt_ix.calls (l.length + 1) (some ⟨g, 0, none⟩) cap l (-1) _ HC.out HE.out).mono ?_); rintro e w1 ⟨rfl, hb⟩; have n0_ := Aside0.mk (below_step HB.out hb); clear HB; have HB := n0_; clear n0_; have HOW1 := Aside0.mk (own_move HO.out (fun k hk => hb.block k (own_lt HO.out k hk))); clear hb HO HC; have HO := HOW1; clear HOW1))
    go_ret
    exact ⟨_, rfl, HO.out, HR.out, HB.out⟩
  · have HE := Aside0.mk (show hpt_ix.l0 (l.length + 1) l 0 = some (m : Int) from e)
    have HI0 := Aside0.mk (show HptInv l l m (m + 1) from ⟨rfl, by omega, (hpt_keep_take l m hm (fun j hj => ha j hj (by omega)) ht).symm, rfl⟩)
    have hne : ((m : Int) == -1) = false := beq_eq_false_iff_ne.2 (by omega)
    have HM := Aside0.mk hm
    clear e ha ht hm
    go_enter Try.func24, Try.ntmps24
    go_wp2_with (first | (go_at_call 32; (with_reducible refine (hpt_ix.calls (l.length + 1) (some ⟨g, 0, none⟩) cap l m _ HC.out HE.out).mono ?_); rintro e w1 ⟨rfl, hb⟩; have n0_ := Aside0.mk (below_step HB.out hb); clear HB; have HB := n0_; clear n0_; have HOW1 := Aside0.mk (own_move HO.out (fun k hk => hb.block k (own_lt HO.out k hk))); clear hb HO HC; have HO := HOW1; clear HOW1))
    go_loopg [5, 6, 7] l.length (fun kq v5 v6 _ wr => ∃ (i j : Nat) (dk : List S31) (inn : List Value), v5 = .int .i64 i ∧ v6 = .int .i64 j ∧ Aside0 (j ≤ l.length) ∧ Aside0 (l.length - j ≤ kq) ∧ Aside0 (HptInv l dk i j) ∧ Aside0 (wr.ownsRow W0.heap.size 31 13 (.slice (some ⟨g, 0, none⟩) l.length cap) l.length inn) ∧ Aside0 (Reps (k31.K W0) 13 dk inn) ∧ Aside0 (Below W0.heap.size W0 wr))
    case atStart => exact ⟨m, m + 1, l, inner, rfl, (by first | rfl | (show Value.int .i64 (wrap64 ((m : Int) + 1)) = _; congr 1; have := HM.out; have := HL.out; unfold wrap64; omega)), ⟨by have := HM.out; omega⟩, ⟨by omega⟩, HI0, HO, HR, HB⟩
    case round =>
      clear HO HB HR HI0
      obtain ⟨i, j, dk, inn, rfl, rfl, HJ, HK, HI, HO, HR, HB⟩ := hrel
      by_cases hlt : j < l.length
      · have hltb : (j : Int) < (l.length : Int) := by omega
        have HLT := Aside0.mk hlt
        have hib : (i : Int) < (l.length : Int) := by have := HI.out.lt; omega
        clear hlt
        obtain ⟨ad, A12, c12, e12, hx0, hx1, hx2, hx3, hx4, hx5, hx6, hx7, hx8, hx9, hx10, hx11, hx12, hl12, hi12⟩ := at_T31 (hpt_C HO.out HR.out HB.out HI.out.len) (j : Int) (by omega) (by have := HLT.out; omega)
        cases e12
        have HI12 := Aside0.mk hi12
        have HL12 := Aside0.mk hl12
        clear hi12 hl12
        have HX := Aside0.mk (HI.out.rd HLT.out)
        generalize rd_T31 dk (j : Int) = x at hx0 hx1 hx2 hx3 hx4 hx5 hx6 hx7 hx8 hx9 hx10 hx11 hx12 HI12 HL12 HX
        simp only [Int.toNat_natCast, Addr.add_lit, Nat.zero_add] at hx0 hx1 hx2 hx3 hx4 hx5 hx6 hx7 hx8 hx9 hx10 hx11 hx12
        have HD := Aside0.mk (show dk[j]? = some x from by have h1 := hpt_rd dk j (by rw [HI.out.len]; exact HLT.out); rw [List.getElem?_eq_getElem (by rw [HI.out.len]; exact HLT.out), ← h1, HI.out.rd HLT.out, HX.out])
        have HK0 := Aside0.mk (row_seg HO.out HR.out j x HD.out [.int .i64 x.f0, .int .i64 x.f1, .int .i64 x.f2, .int .i64 x.f3, .int .i64 x.f4, .int .i64 x.f5.f0, .int .u64 x.f5.f1, .int .u64 x.f5.f2, .int .i64 x.f5.f3, .int .i64 x.f6.f0, .bool x.f6.f1, .int .u64 x.f6.f2, .slice A12 x.f6.f3.length c12] rfl (fun q hq => match q, hq with | 0, _ => hx0 | 1, _ => hx1 | 2, _ => hx2 | 3, _ => hx3 | 4, _ => hx4 | 5, _ => hx5 | 6, _ => hx6 | 7, _ => hx7 | 8, _ => hx8 | 9, _ => hx9 | 10, _ => hx10 | 11, _ => hx11 | 12, _ => hx12))
        cases hq : history_Points1.f x with
        | false =>
          go_wp2_with (first | (go_at_call 26; (with_reducible refine (history_Points1.calls x A12 c12 _).mono ?_); rintro e w2 ⟨rfl, hb⟩; have BX := Aside0.mk (blk_below (g := wr.heap.size) (o := (.cells #[.int .i64 x.f0, .int .i64 x.f1, .int .i64 x.f2, .int .i64 x.f3, .int .i64 x.f4, .int .i64 x.f5.f0, .int .u64 x.f5.f1, .int .u64 x.f5.f2, .int .i64 x.f5.f3, .int .i64 x.f6.f0, .bool x.f6.f1, .int .u64 x.f6.f2, .slice A12 x.f6.f3.length c12] 31)) (blk_new wr _) hb); have n0_ := Aside0.mk (below_step (below_alloc HB.out _) hb); clear HB; have HB := n0_; clear n0_; have n0_ := Aside0.mk (own_move (HO.out.alloc _) (fun k hk => hb.block k (own_lt (HO.out.alloc _) k hk))); clear HO hb; have HO := n0_; clear n0_; have cb_0 : w2.cell? ⟨wr.heap.size, 0, none⟩ = some (.int .i64 x.f0) := (blk_cell BX.out 0).trans rfl; have cb_1 : w2.cell? ⟨wr.heap.size, 1, none⟩ = some (.int .i64 x.f1) := (blk_cell BX.out 1).trans rfl; have cb_2 : w2.cell? ⟨wr.heap.size, 2, none⟩ = some (.int .i64 x.f2) := (blk_cell BX.out 2).trans rfl; have cb_3 : w2.cell? ⟨wr.heap.size, 3, none⟩ = some (.int .i64 x.f3) := (blk_cell BX.out 3).trans rfl; have cb_4 : w2.cell? ⟨wr.heap.size, 4, none⟩ = some (.int .i64 x.f4) := (blk_cell BX.out 4).trans rfl; have cb_5 : w2.cell? ⟨wr.heap.size, 5, none⟩ = some (.int .i64 x.f5.f0) := (blk_cell BX.out 5).trans rfl; have cb_6 : w2.cell? ⟨wr.heap.size, 6, none⟩ = some (.int .u64 x.f5.f1) := (blk_cell BX.out 6).trans rfl; have cb_7 : w2.cell? ⟨wr.heap.size, 7, none⟩ = some (.int .u64 x.f5.f2) := (blk_cell BX.out 7).trans rfl; have cb_8 : w2.cell? ⟨wr.heap.size, 8, none⟩ = some (.int .i64 x.f5.f3) := (blk_cell BX.out 8).trans rfl; have cb_9 : w2.cell? ⟨wr.heap.size, 9, none⟩ = some (.int .i64 x.f6.f0) := (blk_cell BX.out 9).trans rfl; have cb_10 : w2.cell? ⟨wr.heap.size, 10, none⟩ = some (.bool x.f6.f1) := (blk_cell BX.out 10).trans rfl; have cb_11 : w2.cell? ⟨wr.heap.size, 11, none⟩ = some (.int .u64 x.f6.f2) := (blk_cell BX.out 11).trans rfl; have cb_12 : w2.cell? ⟨wr.heap.size, 12, none⟩ = some (.slice A12 x.f6.f3.length c12) := (blk_cell BX.out 12).trans rfl; obtain ⟨ady, Ay, cy, ey, hy0, hy1, hy2, hy3, hy4, hy5, hy6, hy7, hy8, hy9, hy10, hy11, hy12, _, _⟩ := at_T31 (hpt_C HO.out HR.out HB.out HI.out.len) (i : Int) (by omega) (by have := HLT.out; have := HI.out.lt; omega); cases ey; simp only [Int.toNat_natCast, Addr.add_lit, Nat.zero_add] at hy0 hy1 hy2 hy3 hy4 hy5 hy6 hy7 hy8 hy9 hy10 hy11 hy12; have fr0 : w2.frozen? ⟨g, i * 13, none⟩ = false := row_frozen HO.out _; have fr1 : w2.frozen? ⟨g, i * 13 + 1, none⟩ = false := row_frozen HO.out _; have fr2 : w2.frozen? ⟨g, i * 13 + 2, none⟩ = false := row_frozen HO.out _; have fr3 : w2.frozen? ⟨g, i * 13 + 3, none⟩ = false := row_frozen HO.out _; have fr4 : w2.frozen? ⟨g, i * 13 + 4, none⟩ = false := row_frozen HO.out _; have fr5 : w2.frozen? ⟨g, i * 13 + 5, none⟩ = false := row_frozen HO.out _; have fr6 : w2.frozen? ⟨g, i * 13 + 6, none⟩ = false := row_frozen HO.out _; have fr7 : w2.frozen? ⟨g, i * 13 + 7, none⟩ = false := row_frozen HO.out _; have fr8 : w2.frozen? ⟨g, i * 13 + 8, none⟩ = false := row_frozen HO.out _; have fr9 : w2.frozen? ⟨g, i * 13 + 9, none⟩ = false := row_frozen HO.out _; have fr10 : w2.frozen? ⟨g, i * 13 + 10, none⟩ = false := row_frozen HO.out _; have fr11 : w2.frozen? ⟨g, i * 13 + 11, none⟩ = false := row_frozen HO.out _; have fr12 : w2.frozen? ⟨g, i * 13 + 12, none⟩ = false := row_frozen HO.out _))
          go_roundg (l.length - (j + 1))
          case measure => have := HLT.out; have := HK.out; omega
          case rel =>
            have hlt := HLT.out
            have hle := HL.out
            have hij := HI.out.lt
            have hil : inn.length = l.length * 13 := HO.out.1
            exact ⟨i + 1, j + 1, dk.set i x, _, by rw [show wrap64 ((i : Int) + 1) = ((i + 1 : Nat) : Int) from by unfold wrap64; omega], by rw [show wrap64 ((j : Int) + 1) = ((j + 1 : Nat) : Int) from by unfold wrap64; omega], ⟨by omega⟩, ⟨by omega⟩, ⟨by rw [HX.out]; exact HI.out.keep hlt (by rw [← HX.out]; exact hq)⟩, ⟨row_own_sets [.int .i64 x.f0, .int .i64 x.f1, .int .i64 x.f2, .int .i64 x.f3, .int .i64 x.f4, .int .i64 x.f5.f0, .int .u64 x.f5.f1, .int .u64 x.f5.f2, .int .i64 x.f5.f3, .int .i64 x.f6.f0, .bool x.f6.f1, .int .u64 x.f6.f2, .slice A12 x.f6.f3.length c12] _ _ (i * 13) HO.out (by simp; omega)⟩, ⟨row_reps_set HR.out i (by rw [HI.out.len]; omega) HK0.out rfl⟩, ⟨row_sets_below (row_cap HO.out).1 [.int .i64 x.f0, .int .i64 x.f1, .int .i64 x.f2, .int .i64 x.f3, .int .i64 x.f4, .int .i64 x.f5.f0, .int .u64 x.f5.f1, .int .u64 x.f5.f2, .int .i64 x.f5.f3, .int .i64 x.f6.f0, .bool x.f6.f1, .int .u64 x.f6.f2, .slice A12 x.f6.f3.length c12] _ _ (i * 13) HB.out⟩⟩
        | true =>
          go_wp2_with (first | (go_at_call 26; (with_reducible refine (history_Points1.calls x A12 c12 _).mono ?_); rintro e w2 ⟨rfl, hb⟩; have BX := Aside0.mk (blk_below (g := wr.heap.size) (o := (.cells #[.int .i64 x.f0, .int .i64 x.f1, .int .i64 x.f2, .int .i64 x.f3, .int .i64 x.f4, .int .i64 x.f5.f0, .int .u64 x.f5.f1, .int .u64 x.f5.f2, .int .i64 x.f5.f3, .int .i64 x.f6.f0, .bool x.f6.f1, .int .u64 x.f6.f2, .slice A12 x.f6.f3.length c12] 31)) (blk_new wr _) hb); have n0_ := Aside0.mk (below_step (below_alloc HB.out _) hb); clear HB; have HB := n0_; clear n0_; have n0_ := Aside0.mk (own_move (HO.out.alloc _) (fun k hk => hb.block k (own_lt (HO.out.alloc _) k hk))); clear HO hb; have HO := n0_; clear n0_; have cb_0 : w2.cell? ⟨wr.heap.size, 0, none⟩ = some (.int .i64 x.f0) := (blk_cell BX.out 0).trans rfl; have cb_1 : w2.cell? ⟨wr.heap.size, 1, none⟩ = some (.int .i64 x.f1) := (blk_cell BX.out 1).trans rfl; have cb_2 : w2.cell? ⟨wr.heap.size, 2, none⟩ = some (.int .i64 x.f2) := (blk_cell BX.out 2).trans rfl; have cb_3 : w2.cell? ⟨wr.heap.size, 3, none⟩ = some (.int .i64 x.f3) := (blk_cell BX.out 3).trans rfl; have cb_4 : w2.cell? ⟨wr.heap.size, 4, none⟩ = some (.int .i64 x.f4) := (blk_cell BX.out 4).trans rfl; have cb_5 : w2.cell? ⟨wr.heap.size, 5, none⟩ = some (.int .i64 x.f5.f0) := (blk_cell BX.out 5).trans rfl; have cb_6 : w2.cell? ⟨wr.heap.size, 6, none⟩ = some (.int .u64 x.f5.f1) := (blk_cell BX.out 6).trans rfl; have cb_7 : w2.cell? ⟨wr.heap.size, 7, none⟩ = some (.int .u64 x.f5.f2) := (blk_cell BX.out 7).trans rfl; have cb_8 : w2.cell? ⟨wr.heap.size, 8, none⟩ = some (.int .i64 x.f5.f3) := (blk_cell BX.out 8).trans rfl; have cb_9 : w2.cell? ⟨wr.heap.size, 9, none⟩ = some (.int .i64 x.f6.f0) := (blk_cell BX.out 9).trans rfl; have cb_10 : w2.cell? ⟨wr.heap.size, 10, none⟩ = some (.bool x.f6.f1) := (blk_cell BX.out 10).trans rfl; have cb_11 : w2.cell? ⟨wr.heap.size, 11, none⟩ = some (.int .u64 x.f6.f2) := (blk_cell BX.out 11).trans rfl; have cb_12 : w2.cell? ⟨wr.heap.size, 12, none⟩ = some (.slice A12 x.f6.f3.length c12) := (blk_cell BX.out 12).trans rfl; obtain ⟨ady, Ay, cy, ey, hy0, hy1, hy2, hy3, hy4, hy5, hy6, hy7, hy8, hy9, hy10, hy11, hy12, _, _⟩ := at_T31 (hpt_C HO.out HR.out HB.out HI.out.len) (i : Int) (by omega) (by have := HLT.out; have := HI.out.lt; omega); cases ey; simp only [Int.toNat_natCast, Addr.add_lit, Nat.zero_add] at hy0 hy1 hy2 hy3 hy4 hy5 hy6 hy7 hy8 hy9 hy10 hy11 hy12; have fr0 : w2.frozen? ⟨g, i * 13, none⟩ = false := row_frozen HO.out _; have fr1 : w2.frozen? ⟨g, i * 13 + 1, none⟩ = false := row_frozen HO.out _; have fr2 : w2.frozen? ⟨g, i * 13 + 2, none⟩ = false := row_frozen HO.out _; have fr3 : w2.frozen? ⟨g, i * 13 + 3, none⟩ = false := row_frozen HO.out _; have fr4 : w2.frozen? ⟨g, i * 13 + 4, none⟩ = false := row_frozen HO.out _; have fr5 : w2.frozen? ⟨g, i * 13 + 5, none⟩ = false := row_frozen HO.out _; have fr6 : w2.frozen? ⟨g, i * 13 + 6, none⟩ = false := row_frozen HO.out _; have fr7 : w2.frozen? ⟨g, i * 13 + 7, none⟩ = false := row_frozen HO.out _; have fr8 : w2.frozen? ⟨g, i * 13 + 8, none⟩ = false := row_frozen HO.out _; have fr9 : w2.frozen? ⟨g, i * 13 + 9, none⟩ = false := row_frozen HO.out _; have fr10 : w2.frozen? ⟨g, i * 13 + 10, none⟩ = false := row_frozen HO.out _; have fr11 : w2.frozen? ⟨g, i * 13 + 11, none⟩ = false := row_frozen HO.out _; have fr12 : w2.frozen? ⟨g, i * 13 + 12, none⟩ = false := row_frozen HO.out _))
          go_roundg (l.length - (j + 1))
          case measure => have := HLT.out; have := HK.out; omega
          case rel =>
            have hlt := HLT.out
            have hle := HL.out
            exact ⟨i, j + 1, dk, inn, rfl, by rw [show wrap64 ((j : Int) + 1) = ((j + 1 : Nat) : Int) from by unfold wrap64; omega], ⟨by omega⟩, ⟨by omega⟩, ⟨HI.out.skip hlt (by rw [← HX.out]; exact hq)⟩, HO, HR, HB⟩
      · have hj : j = l.length := by have := HJ.out; omega
        subst hj
        have hnlt : ¬ ((l.length : Int) < (l.length : Int)) := by omega
        have hil : i < l.length := HI.out.lt
        have hci : ¬ cap = i := by have := (row_cap HO.out).2.1; omega
        have HIF := Aside0.mk (show i = (l.filter fun x => !history_Points1.f x).length from by
          have h1 := HI.out.low
          rw [List.take_length] at h1
          rw [← h1, List.length_take, HI.out.len]
          omega)
        have hcl : ∀ ty, (Builtin.clear_ #[22] ty #[.slice (some ⟨g, i * 13, none⟩) (l.length - i) (cap - i)]).run Try.prog wr = .ok (.tuple #[]) (wr.setCells g (i * 13) (Builtin.zeroCells _ (l.length - i)).toList) := fun ty => row_clear HO.out _ ty _ Try.underlying22 Try.zeroValue31 rfl (by decide) i (cap - i) hil
        go_wp2
        case isFalse =>
          rename_i hbad
          exact absurd hbad (by have := (row_cap HO.out).2.1; omega)
        go_ret
        have h1 := HI.out.low
        rw [List.take_length] at h1
        have hS := row_cut (row_own_sets (Builtin.zeroCells _ (l.length - i)).toList wr inn (i * 13) HO.out (by
          have hil2 : inn.length = l.length * 13 := HO.out.1
          rw [show (Builtin.zeroCells (Value.agg #[.int .i64 0, .int .i64 0, .int .i64 0, .int .i64 0, .int .i64 0, .int .i64 0, .int .u64 0, .int .u64 0, .int .i64 0, .int .i64 0, .bool false, .int .u64 0, .slice none 0 0]).cells (l.length - i)).toList.length = (l.length - i) * 13 from by simp [Builtin.zeroCells, Value.cells]]
          omega)) i (by omega)
        rw [← HIF.out]
        refine ⟨rfl, _, hS, ?_, row_sets_below (row_cap HO.out).1 _ _ _ (i * 13) HB.out⟩
        rw [← h1]
        have h2 := row_reps_take HR.out (m := i) (by rw [HI.out.len]; omega)
        have hil2 : inn.length = l.length * 13 := HO.out.1
        rw [List.append_assoc, List.take_append_of_le_length (by rw [List.length_take]; omega), List.take_take, Nat.min_self]
        exact h2
set_option maxHeartbeats 4000000 in
set_option maxRecDepth 100000 in
theorem evOne {W : World} {l : List S31} {inner : List Value} (h : Reps (k31.K W) 13 l inner) (j : Nat) (u : Value) (hj : inner[j]? = some u) : u.oneCell' = true := by
  have hl := h.1
  have hjl := (List.getElem?_eq_some_iff.1 hj).1
  have hq : j / 13 < l.length := by omega
  have hk := h.2 (j / 13) _ (List.getElem?_eq_getElem hq)
  refine k31.K_one hk u ?_
  have e : ((inner.drop (j / 13 * 13)).take 13)[j % 13]? = some u := by
    rw [List.getElem?_take_of_lt (by omega), List.getElem?_drop]
    rw [show j / 13 * 13 + j % 13 = j from by omega]
    exact hj
  exact List.mem_of_getElem? e
theorem hpt_info : (Try.prog.info? 31).map (fun i => (i.zero, i.size, i.bytes)) = some (some (.agg #[(.int .i64 0), (.int .i64 0), (.int .i64 0), (.int .i64 0), (.int .i64 0), (.int .i64 0), (.int .u64 0), (.int .u64 0), (.int .i64 0), (.int .i64 0), (.bool false), (.int .u64 0), (.slice none 0 0)]), 13, 120) := by kernel_rfl
set_option maxHeartbeats 4000000 in
set_option maxRecDepth 100000 in
theorem evClone.calls (ad : Addr) (c0 : Nat) (l0 : List S31) (W : World) (hr0 : Kd.C k31 W (some ad) l0.length l0) (hlen : l0.length ≤ 1000000) :
    Calls Try.prog 25 #[.slice (some ad) l0.length c0] W fun e w' => ∃ v inner, e = .returned v ∧ w'.ownsRow W.heap.size 31 13 v l0.length inner ∧ Reps (k31.K W) 13 l0 inner ∧ v ≠ .slice none 0 0 ∧ Below W.heap.size W w' := by
  obtain ⟨inner, hrep, hcell⟩ := ReadsRow.inner_ (show ReadsRow (k31.K W) 13 W (some ad) l0.length l0 from hr0)
  have HR := Aside0.mk hrep
  have HC := Aside0.mk hcell
  have HL := Aside0.mk hlen
  clear hr0 hrep hcell hlen
  obtain ⟨i0, hi, hz⟩ := Option.map_eq_some_iff.1 hpt_info
  simp only [Prod.mk.injEq] at hz
  obtain ⟨hz0, hz1, hz2⟩ := hz
  have q22 : ∀ (w : World) (a : Option Addr) (n c n' c' : Nat), (binOp .eql 22 (.slice a n c) (.slice none n' c')).run Try.prog w = .ok (.bool a.isNone) w := by
    intro w a n c n' c'
    cases a <;> (simp [binOp, Op.equal, Op.equalIn, run_underlying Try.underlying22] <;> rfl)
  go_enter Try.func25, Try.ntmps25
  go_wp2_with (at_builtin; refine wpList_append_own _ rfl _ _ 22 rfl W.heap.size 31 i0 (.agg #[(.int .i64 0), (.int .i64 0), (.int .i64 0), (.int .i64 0), (.int .i64 0), (.int .i64 0), (.int .u64 0), (.int .u64 0), (.int .i64 0), (.int .i64 0), (.bool false), (.int .u64 0), (.slice none 0 0)]) 13 120 Try.underlying22 hi hz0 hz1 hz2 rfl (by decide) _ _ _ rfl (World.ownsRow_made W #[] 0 (Nat.le_refl _) (Nat.zero_le _) rfl) ad l0.length c0 inner rfl ?qc1 ?qc2 ?qc3 ?qc4 ?qc5 ?qc6 ?_)
  case qc1 => have := HR.out.1; omega
  case qc2 =>
    intro j u hj
    have hx := HC.out j u hj
    exact ((below_alloc (Below.refl _ _) _).cell (World.block_lt_of_cell? W _ hx)).trans hx
  case qc3 =>
    intro u hu
    obtain ⟨j, hj⟩ := List.getElem?_of_mem hu
    exact evOne HR.out j u hj
  case qc4 => have := HL.out; unfold maxLen; omega
  case qc5 => have := HL.out; omega
  case qc6 => simp
  intro v' w1 hown hgrow hnil
  go_wp2
  go_ret
  refine ⟨v', inner, rfl, by simpa using hown, HR.out, hnil, ?_⟩
  exact ((Below.refl _ W).alloc (Nat.le_refl _) _).grown hgrow (by simp) (by intro k hk; simp [Value.ownBlock] at hk; omega)
set_option maxHeartbeats 8000000 in
set_option maxRecDepth 100000 in
theorem evClone.nil (c0 : Nat) (W : World) :
    Calls Try.prog 25 #[.slice none 0 c0] W fun e w' => e = .returned (.slice none 0 0) ∧ Below W.heap.size W w' := by
  have HB := Aside0.mk (Below.refl W.heap.size W)
  have q22 : ∀ (w : World) (a : Option Addr) (n c n' c' : Nat), (binOp .eql 22 (.slice a n c) (.slice none n' c')).run Try.prog w = .ok (.bool a.isNone) w := by
    intro w a n c n' c'
    cases a <;> (simp [binOp, Op.equal, Op.equalIn, run_underlying Try.underlying22] <;> rfl)
  go_enter Try.func25, Try.ntmps25
  go_wp2
  go_ret
  exact ⟨rfl, HB.out⟩
set_option maxHeartbeats 8000000 in
set_option maxRecDepth 100000 in
theorem hpt_Del.nil (W : World) :
    Calls Try.prog 24 #[.slice none 0 0, .func (.func 26) #[] #[]] W fun e w' => e = .returned (.slice none 0 0) ∧ Below W.heap.size W w' := by
  have HB := Aside0.mk (Below.refl W.heap.size W)
  have HE := Aside0.mk (show ∀ w : World, Calls Try.prog 32 #[.slice none 0 0, .func (.func 26) #[] #[]] w (fun e w' => e = .returned (.int .i64 (-1)) ∧ Below w.heap.size w w') from fun w => hpt_ix.calls 1 none 0 [] (-1) w (Kd.C_nil _ _) rfl)
  go_enter Try.func24, Try.ntmps24
  go_wp2_with (first | (go_at_call 32; (with_reducible refine (HE.out _).mono ?_); rintro e w1 ⟨rfl, hb⟩; have n0_ := Aside0.mk (below_step HB.out hb); clear HB; have HB := n0_; clear n0_ hb))
  go_ret
  exact ⟨rfl, HB.out⟩
set_option maxHeartbeats 8000000 in
set_option maxRecDepth 100000 in
theorem history_Points.law (A0 : Option Addr) (c0 : Nat) (l : List S31) (W : World) (hr0 : Kd.C k31 W A0 l.length l) (hlen : l.length ≤ 1000000) :
    Calls Try.prog 13 #[.slice A0 l.length c0] W fun e w' => ∃ A c, e = .returned (.slice A (l.filter fun x => !history_Points1.f x).length c) ∧ Kd.C k31 w' A (l.filter fun x => !history_Points1.f x).length (l.filter fun x => !history_Points1.f x) ∧ (l.filter fun x => !history_Points1.f x).length ≤ c ∧ Below W.heap.size W w' := by
  have HR0 := Aside0.mk hr0
  have HL := Aside0.mk hlen
  cases A0 with
  | none =>
    have hz : l = [] := by
      rcases Nat.eq_zero_or_pos l.length with h0 | h0
      · exact List.eq_nil_of_length_eq_zero h0
      · obtain ⟨ad, e, _⟩ := hr0.2.2 h0
        cases e
    subst hz
    clear hr0 hlen HR0 HL
    have HB := Aside0.mk (Below.refl W.heap.size W)
    have HK := Aside0.mk (fun w : World => (Kd.C_nil k31 w))
    show Calls Try.prog 13 #[.slice none 0 c0] W fun e w' => ∃ A c, e = .returned (.slice A 0 c) ∧ Kd.C k31 w' A 0 [] ∧ 0 ≤ c ∧ Below W.heap.size W w'
    go_enter Try.func13, Try.ntmps13
    go_wp2_with (first | (go_at_call 25; (with_reducible refine (evClone.nil c0 _).mono ?_); rintro e w1 ⟨rfl, hb⟩; have n0_ := Aside0.mk (below_step HB.out hb); clear HB; have HB := n0_; clear n0_ hb) | (go_at_call 24; (with_reducible refine (hpt_Del.nil _).mono ?_); rintro e w2 ⟨rfl, hb⟩; have n0_ := Aside0.mk (below_step HB.out hb); clear HB; have HB := n0_; clear n0_ hb))
    go_ret
    exact ⟨none, 0, rfl, HK.out _, Nat.le_refl _, HB.out⟩
  | some ad =>
    clear hr0 hlen
    go_enter Try.func13, Try.ntmps13
    go_wp2_with (first | (go_at_call 25; (with_reducible refine (evClone.calls ad c0 l _ HR0.out HL.out).mono ?_); rintro e w1 ⟨v, inner, rfl, hown, hrep, hnil, hb⟩; obtain ⟨g, cap, cur, rfl, _⟩ := hown.2.resolve_left (fun h => hnil h.1); have HO := Aside0.mk hown; have HR := Aside0.mk hrep; have HB := Aside0.mk hb; clear hown hrep hb hnil) | (go_at_call 24; (with_reducible refine (hpt_Del.calls W _ g cap l inner HO.out HR.out HB.out HL.out).mono ?_); rintro e w2 ⟨inn2, rfl, hown, hrep, hb⟩; have HC := Aside0.mk (hpt_C hown hrep hb rfl); have HCP := Aside0.mk (row_cap hown).2.1; clear HB HO HR; have HB := Aside0.mk hb; clear hown hrep hb))
    go_ret
    exact ⟨_, _, rfl, HC.out, HCP.out, HB.out⟩


-- NOT PRINTED: function 28 (api_Event_28)

end Go.Proofs.Ytpcmoclohepdiad.PHistorySize
