-- Written by a program of this session: a variant of the print that takes proofs by hand (wip/tools/mkprint.py)
import Derived.Test.YtpcmoclohepdiadPHistorySizex0
namespace Go.Proofs.Ytpcmoclohepdiad.PHistorySize
open Go.RowKit Go.Proofs.YtpcmoclohepdiadW.PrintWords Go.Proofs.YtpcmoclohepdiadW.PrintLast Go.Proofs.YtpcmoclohepdiadW.PrintMore
attribute [local go_sem] max2_int min2_int max_two min_two max_three min_three max_four min_four   -- for this text's walks alone
set_option linter.unusedVariables false
set_option linter.unusedSimpArgs false

/-! ### history_Size: function 15 (by hand) -/
theorem hsz_heap : Kd.Heap k31 := by
  unfold k31
  refine Kd.heap_iso _ (Kd.heap_pair (Kd.heap_int _) (Kd.heap_pair (Kd.heap_int _) (Kd.heap_pair (Kd.heap_int _) (Kd.heap_pair (Kd.heap_int _) (Kd.heap_pair (Kd.heap_int _) (Kd.heap_pair ?_ ?_))))))
  · exact Kd.heap_iso _ (Kd.heap_pair (Kd.heap_int _) (Kd.heap_pair (Kd.heap_int _) (Kd.heap_pair (Kd.heap_int _) (Kd.heap_int _))))
  · exact Kd.heap_iso _ (Kd.heap_pair (Kd.heap_int _) (Kd.heap_pair Kd.heap_bool (Kd.heap_pair (Kd.heap_int _) (Kd.heap_slice _ (Kd.heap_iso _ (Kd.heap_pair (Kd.heap_int _) (Kd.heap_int _)))))))
theorem hsz_up {w w1 : World} {A : Option Addr} {n : Nat} {xs : List S31} (h : Kd.C k31 w A n xs) (hb : Below w.heap.size w w1) : Kd.C k31 w1 A n xs := hsz_heap.C (fun k hk => hb.block k hk) h
def history_Size11.f (x : S31) (kd : Int) (at_ : Int) : Bool := if x.f5.f0 = kd then (if x.f6.f1 = true then (if x.f3 ≥ 0 then decide (x.f3 < at_) else false) else false) else false
set_option maxHeartbeats 8000000 in
set_option maxRecDepth 100000 in
theorem history_Size11.calls (x : S31) (A : Option Addr) (c : Nat) (kd : Int) (at_ : Int) (g1 g2 : Nat) (W : World) (hk : W.heap[g1]? = some (.cells #[.int .i64 kd] 3 (0, 0))) (ha : W.heap[g2]? = some (.cells #[.int .i64 at_] 3 (0, 0))) :
    Calls Try.prog 29 #[.agg #[.int .i64 x.f0, .int .i64 x.f1, .int .i64 x.f2, .int .i64 x.f3, .int .i64 x.f4, .int .i64 x.f5.f0, .int .u64 x.f5.f1, .int .u64 x.f5.f2, .int .i64 x.f5.f3, .int .i64 x.f6.f0, .bool x.f6.f1, .int .u64 x.f6.f2, .slice A x.f6.f3.length c], .pointer (some ⟨g1, 0, none⟩), .pointer (some ⟨g2, 0, none⟩)] W fun e w' => e = .returned (.bool (history_Size11.f x kd at_)) ∧ Below W.heap.size W w' := by
  have Bhk := Aside0.mk hk
  have Bha := Aside0.mk ha
  clear hk ha
  have HB := Aside0.mk (Below.refl W.heap.size W)
  unfold history_Size11.f
  by_cases c1 : x.f5.f0 = kd
  · rw [if_pos c1]
    have c1b0 : decide (x.f5.f0 = kd) = true := decide_eq_true c1
    have c1b1 : (x.f5.f0 == kd) = true := beq_iff_eq.mpr c1
    by_cases c2 : x.f6.f1 = true
    · rw [if_pos c2]
      have c2b0 : x.f6.f1 = true := id c2
      by_cases c3 : x.f3 ≥ 0
      · rw [if_pos c3]
        have c3b0 : decide (0 ≤ x.f3) = true := decide_eq_true c3
        go_enter Try.func29, Try.ntmps29
        go_wp2_with (first | ((with_reducible refine gate_dst (N := 3) rfl ?_); refine box_event ?hg (N := 3) ?hd (cs := #[.int .i64 x.f0, .int .i64 x.f1, .int .i64 x.f2, .int .i64 x.f3, .int .i64 x.f4, .int .i64 x.f5.f0, .int .u64 x.f5.f1, .int .u64 x.f5.f2, .int .i64 x.f5.f3, .int .i64 x.f6.f0, .bool x.f6.f1, .int .u64 x.f6.f2, .slice A x.f6.f3.length c]) (t := 31) ?hr ?_; (case hd => rfl); (case hg => rfl); (case hr => first | (go_simp; done) | (go_simp; rfl)); intro gb hg wb hbox hb; have BX := Aside0.mk hbox; have n0_ := Aside0.mk (below_step HB.out hb); clear HB; have HB := n0_; clear n0_; have cx_3 : wb.cell? ⟨gb, 3, none⟩ = some (.int .i64 x.f3) := (blk_cell BX.out 3).trans rfl; have cx_5 : wb.cell? ⟨gb, 5, none⟩ = some (.int .i64 x.f5.f0) := (blk_cell BX.out 5).trans rfl; have cx_10 : wb.cell? ⟨gb, 10, none⟩ = some (.bool x.f6.f1) := (blk_cell BX.out 10).trans rfl; have n_hk := Aside0.mk (blk_below (g := g1) (o := .cells #[.int .i64 kd] 3 (0, 0)) Bhk.out hb); have n_ha := Aside0.mk (blk_below (g := g2) (o := .cells #[.int .i64 at_] 3 (0, 0)) Bha.out hb); have chk_0 : wb.cell? ⟨g1, 0, none⟩ = some (.int .i64 kd) := (blk_cell n_hk.out 0).trans rfl; have cha_0 : wb.cell? ⟨g2, 0, none⟩ = some (.int .i64 at_) := (blk_cell n_ha.out 0).trans rfl; clear hb hbox hg))
        go_ret
        exact ⟨by first | rfl | (simp [*]; done), by repeat (first | (with_reducible first | exact HB.out | apply below_alloc | apply pw_below_drewN | apply below_drew1) | exact HB.out)⟩
      · rw [if_neg c3]
        have c3b0 : decide (0 ≤ x.f3) = false := decide_eq_false c3
        go_enter Try.func29, Try.ntmps29
        go_wp2_with (first | ((with_reducible refine gate_dst (N := 3) rfl ?_); refine box_event ?hg (N := 3) ?hd (cs := #[.int .i64 x.f0, .int .i64 x.f1, .int .i64 x.f2, .int .i64 x.f3, .int .i64 x.f4, .int .i64 x.f5.f0, .int .u64 x.f5.f1, .int .u64 x.f5.f2, .int .i64 x.f5.f3, .int .i64 x.f6.f0, .bool x.f6.f1, .int .u64 x.f6.f2, .slice A x.f6.f3.length c]) (t := 31) ?hr ?_; (case hd => rfl); (case hg => rfl); (case hr => first | (go_simp; done) | (go_simp; rfl)); intro gb hg wb hbox hb; have BX := Aside0.mk hbox; have n0_ := Aside0.mk (below_step HB.out hb); clear HB; have HB := n0_; clear n0_; have cx_3 : wb.cell? ⟨gb, 3, none⟩ = some (.int .i64 x.f3) := (blk_cell BX.out 3).trans rfl; have cx_5 : wb.cell? ⟨gb, 5, none⟩ = some (.int .i64 x.f5.f0) := (blk_cell BX.out 5).trans rfl; have cx_10 : wb.cell? ⟨gb, 10, none⟩ = some (.bool x.f6.f1) := (blk_cell BX.out 10).trans rfl; have n_hk := Aside0.mk (blk_below (g := g1) (o := .cells #[.int .i64 kd] 3 (0, 0)) Bhk.out hb); have n_ha := Aside0.mk (blk_below (g := g2) (o := .cells #[.int .i64 at_] 3 (0, 0)) Bha.out hb); have chk_0 : wb.cell? ⟨g1, 0, none⟩ = some (.int .i64 kd) := (blk_cell n_hk.out 0).trans rfl; have cha_0 : wb.cell? ⟨g2, 0, none⟩ = some (.int .i64 at_) := (blk_cell n_ha.out 0).trans rfl; clear hb hbox hg))
        go_ret
        exact ⟨by first | rfl | (simp [*]; done), by repeat (first | (with_reducible first | exact HB.out | apply below_alloc | apply pw_below_drewN | apply below_drew1) | exact HB.out)⟩
    · rw [if_neg c2]
      have c2b0 : x.f6.f1 = false := Bool.eq_false_iff.mpr c2
      go_enter Try.func29, Try.ntmps29
      go_wp2_with (first | ((with_reducible refine gate_dst (N := 3) rfl ?_); refine box_event ?hg (N := 3) ?hd (cs := #[.int .i64 x.f0, .int .i64 x.f1, .int .i64 x.f2, .int .i64 x.f3, .int .i64 x.f4, .int .i64 x.f5.f0, .int .u64 x.f5.f1, .int .u64 x.f5.f2, .int .i64 x.f5.f3, .int .i64 x.f6.f0, .bool x.f6.f1, .int .u64 x.f6.f2, .slice A x.f6.f3.length c]) (t := 31) ?hr ?_; (case hd => rfl); (case hg => rfl); (case hr => first | (go_simp; done) | (go_simp; rfl)); intro gb hg wb hbox hb; have BX := Aside0.mk hbox; have n0_ := Aside0.mk (below_step HB.out hb); clear HB; have HB := n0_; clear n0_; have cx_3 : wb.cell? ⟨gb, 3, none⟩ = some (.int .i64 x.f3) := (blk_cell BX.out 3).trans rfl; have cx_5 : wb.cell? ⟨gb, 5, none⟩ = some (.int .i64 x.f5.f0) := (blk_cell BX.out 5).trans rfl; have cx_10 : wb.cell? ⟨gb, 10, none⟩ = some (.bool x.f6.f1) := (blk_cell BX.out 10).trans rfl; have n_hk := Aside0.mk (blk_below (g := g1) (o := .cells #[.int .i64 kd] 3 (0, 0)) Bhk.out hb); have n_ha := Aside0.mk (blk_below (g := g2) (o := .cells #[.int .i64 at_] 3 (0, 0)) Bha.out hb); have chk_0 : wb.cell? ⟨g1, 0, none⟩ = some (.int .i64 kd) := (blk_cell n_hk.out 0).trans rfl; have cha_0 : wb.cell? ⟨g2, 0, none⟩ = some (.int .i64 at_) := (blk_cell n_ha.out 0).trans rfl; clear hb hbox hg))
      go_ret
      exact ⟨by first | rfl | (simp [*]; done), by repeat (first | (with_reducible first | exact HB.out | apply below_alloc | apply pw_below_drewN | apply below_drew1) | exact HB.out)⟩
  · rw [if_neg c1]
    have c1b0 : decide (x.f5.f0 = kd) = false := decide_eq_false c1
    have c1b1 : (x.f5.f0 == kd) = false := beq_eq_false_iff_ne.mpr c1
    go_enter Try.func29, Try.ntmps29
    go_wp2_with (first | ((with_reducible refine gate_dst (N := 3) rfl ?_); refine box_event ?hg (N := 3) ?hd (cs := #[.int .i64 x.f0, .int .i64 x.f1, .int .i64 x.f2, .int .i64 x.f3, .int .i64 x.f4, .int .i64 x.f5.f0, .int .u64 x.f5.f1, .int .u64 x.f5.f2, .int .i64 x.f5.f3, .int .i64 x.f6.f0, .bool x.f6.f1, .int .u64 x.f6.f2, .slice A x.f6.f3.length c]) (t := 31) ?hr ?_; (case hd => rfl); (case hg => rfl); (case hr => first | (go_simp; done) | (go_simp; rfl)); intro gb hg wb hbox hb; have BX := Aside0.mk hbox; have n0_ := Aside0.mk (below_step HB.out hb); clear HB; have HB := n0_; clear n0_; have cx_3 : wb.cell? ⟨gb, 3, none⟩ = some (.int .i64 x.f3) := (blk_cell BX.out 3).trans rfl; have cx_5 : wb.cell? ⟨gb, 5, none⟩ = some (.int .i64 x.f5.f0) := (blk_cell BX.out 5).trans rfl; have cx_10 : wb.cell? ⟨gb, 10, none⟩ = some (.bool x.f6.f1) := (blk_cell BX.out 10).trans rfl; have n_hk := Aside0.mk (blk_below (g := g1) (o := .cells #[.int .i64 kd] 3 (0, 0)) Bhk.out hb); have n_ha := Aside0.mk (blk_below (g := g2) (o := .cells #[.int .i64 at_] 3 (0, 0)) Bha.out hb); have chk_0 : wb.cell? ⟨g1, 0, none⟩ = some (.int .i64 kd) := (blk_cell n_hk.out 0).trans rfl; have cha_0 : wb.cell? ⟨g2, 0, none⟩ = some (.int .i64 at_) := (blk_cell n_ha.out 0).trans rfl; clear hb hbox hg))
    go_ret
    exact ⟨by first | rfl | (simp [*]; done), by repeat (first | (with_reducible first | exact HB.out | apply below_alloc | apply pw_below_drewN | apply below_drew1) | exact HB.out)⟩
def history_Size2.f (x : S31) (at_ : Int) : Bool := if x.f2 ≤ at_ then (if x.f3 < 0 then true else decide (x.f3 ≥ at_)) else false
set_option maxHeartbeats 8000000 in
set_option maxRecDepth 100000 in
theorem history_Size2.calls (x : S31) (A : Option Addr) (c : Nat) (at_ : Int) (g2 : Nat) (W : World) (ha : W.heap[g2]? = some (.cells #[.int .i64 at_] 3 (0, 0))) :
    Calls Try.prog 30 #[.agg #[.int .i64 x.f0, .int .i64 x.f1, .int .i64 x.f2, .int .i64 x.f3, .int .i64 x.f4, .int .i64 x.f5.f0, .int .u64 x.f5.f1, .int .u64 x.f5.f2, .int .i64 x.f5.f3, .int .i64 x.f6.f0, .bool x.f6.f1, .int .u64 x.f6.f2, .slice A x.f6.f3.length c], .pointer (some ⟨g2, 0, none⟩)] W fun e w' => e = .returned (.bool (history_Size2.f x at_)) ∧ Below W.heap.size W w' := by
  have Bha := Aside0.mk ha
  clear ha
  have HB := Aside0.mk (Below.refl W.heap.size W)
  unfold history_Size2.f
  by_cases c1 : x.f2 ≤ at_
  · rw [if_pos c1]
    have c1b0 : decide (x.f2 ≤ at_) = true := decide_eq_true c1
    by_cases c2 : x.f3 < 0
    · rw [if_pos c2]
      have c2b0 : decide (x.f3 < 0) = true := decide_eq_true c2
      go_enter Try.func30, Try.ntmps30
      go_wp2_with (first | ((with_reducible refine gate_dst (N := 2) rfl ?_); refine box_event ?hg (N := 2) ?hd (cs := #[.int .i64 x.f0, .int .i64 x.f1, .int .i64 x.f2, .int .i64 x.f3, .int .i64 x.f4, .int .i64 x.f5.f0, .int .u64 x.f5.f1, .int .u64 x.f5.f2, .int .i64 x.f5.f3, .int .i64 x.f6.f0, .bool x.f6.f1, .int .u64 x.f6.f2, .slice A x.f6.f3.length c]) (t := 31) ?hr ?_; (case hd => rfl); (case hg => rfl); (case hr => first | (go_simp; done) | (go_simp; rfl)); intro gb hg wb hbox hb; have BX := Aside0.mk hbox; have n0_ := Aside0.mk (below_step HB.out hb); clear HB; have HB := n0_; clear n0_; have cx_2 : wb.cell? ⟨gb, 2, none⟩ = some (.int .i64 x.f2) := (blk_cell BX.out 2).trans rfl; have cx_3 : wb.cell? ⟨gb, 3, none⟩ = some (.int .i64 x.f3) := (blk_cell BX.out 3).trans rfl; have n_ha := Aside0.mk (blk_below (g := g2) (o := .cells #[.int .i64 at_] 3 (0, 0)) Bha.out hb); have cha_0 : wb.cell? ⟨g2, 0, none⟩ = some (.int .i64 at_) := (blk_cell n_ha.out 0).trans rfl; clear hb hbox hg))
      go_ret
      exact ⟨by first | rfl | (simp [*]; done), by repeat (first | (with_reducible first | exact HB.out | apply below_alloc | apply pw_below_drewN | apply below_drew1) | exact HB.out)⟩
    · rw [if_neg c2]
      have c2b0 : decide (x.f3 < 0) = false := decide_eq_false c2
      go_enter Try.func30, Try.ntmps30
      go_wp2_with (first | ((with_reducible refine gate_dst (N := 2) rfl ?_); refine box_event ?hg (N := 2) ?hd (cs := #[.int .i64 x.f0, .int .i64 x.f1, .int .i64 x.f2, .int .i64 x.f3, .int .i64 x.f4, .int .i64 x.f5.f0, .int .u64 x.f5.f1, .int .u64 x.f5.f2, .int .i64 x.f5.f3, .int .i64 x.f6.f0, .bool x.f6.f1, .int .u64 x.f6.f2, .slice A x.f6.f3.length c]) (t := 31) ?hr ?_; (case hd => rfl); (case hg => rfl); (case hr => first | (go_simp; done) | (go_simp; rfl)); intro gb hg wb hbox hb; have BX := Aside0.mk hbox; have n0_ := Aside0.mk (below_step HB.out hb); clear HB; have HB := n0_; clear n0_; have cx_2 : wb.cell? ⟨gb, 2, none⟩ = some (.int .i64 x.f2) := (blk_cell BX.out 2).trans rfl; have cx_3 : wb.cell? ⟨gb, 3, none⟩ = some (.int .i64 x.f3) := (blk_cell BX.out 3).trans rfl; have n_ha := Aside0.mk (blk_below (g := g2) (o := .cells #[.int .i64 at_] 3 (0, 0)) Bha.out hb); have cha_0 : wb.cell? ⟨g2, 0, none⟩ = some (.int .i64 at_) := (blk_cell n_ha.out 0).trans rfl; clear hb hbox hg))
      go_ret
      exact ⟨by first | rfl | (simp [*]; done), by repeat (first | (with_reducible first | exact HB.out | apply below_alloc | apply pw_below_drewN | apply below_drew1) | exact HB.out)⟩
  · rw [if_neg c1]
    have c1b0 : decide (x.f2 ≤ at_) = false := decide_eq_false c1
    go_enter Try.func30, Try.ntmps30
    go_wp2_with (first | ((with_reducible refine gate_dst (N := 2) rfl ?_); refine box_event ?hg (N := 2) ?hd (cs := #[.int .i64 x.f0, .int .i64 x.f1, .int .i64 x.f2, .int .i64 x.f3, .int .i64 x.f4, .int .i64 x.f5.f0, .int .u64 x.f5.f1, .int .u64 x.f5.f2, .int .i64 x.f5.f3, .int .i64 x.f6.f0, .bool x.f6.f1, .int .u64 x.f6.f2, .slice A x.f6.f3.length c]) (t := 31) ?hr ?_; (case hd => rfl); (case hg => rfl); (case hr => first | (go_simp; done) | (go_simp; rfl)); intro gb hg wb hbox hb; have BX := Aside0.mk hbox; have n0_ := Aside0.mk (below_step HB.out hb); clear HB; have HB := n0_; clear n0_; have cx_2 : wb.cell? ⟨gb, 2, none⟩ = some (.int .i64 x.f2) := (blk_cell BX.out 2).trans rfl; have cx_3 : wb.cell? ⟨gb, 3, none⟩ = some (.int .i64 x.f3) := (blk_cell BX.out 3).trans rfl; have n_ha := Aside0.mk (blk_below (g := g2) (o := .cells #[.int .i64 at_] 3 (0, 0)) Bha.out hb); have cha_0 : wb.cell? ⟨g2, 0, none⟩ = some (.int .i64 at_) := (blk_cell n_ha.out 0).trans rfl; clear hb hbox hg))
    go_ret
    exact ⟨by first | rfl | (simp [*]; done), by repeat (first | (with_reducible first | exact HB.out | apply below_alloc | apply pw_below_drewN | apply below_drew1) | exact HB.out)⟩
def history_Size_c1.l0 (kd at_ : Int) : Nat → List S31 → Int → Int → Option Int
  | 0, _, _, _ => none
  | k + 1, l, i, n => if i < (l.length : Int) then (if 0 ≤ i then (if history_Size11.f (rd_T31 l i) kd at_ = true then history_Size_c1.l0 kd at_ k l (wrap64 (i + 1)) (wrap64 (n + 1)) else history_Size_c1.l0 kd at_ k l (wrap64 (i + 1)) n) else none) else some n
theorem history_Size_c1.mono_l (kd at_ : Int) : ∀ k l i n, LeO (history_Size_c1.l0 kd at_ k l i n) (history_Size_c1.l0 kd at_ (k + 1) l i n)
  | 0, _, _, _ => fun r h => by simp [history_Size_c1.l0] at h
  | k + 1, l, i, n => by
    unfold history_Size_c1.l0
    exact LeO.ite (LeO.ite (LeO.ite (history_Size_c1.mono_l kd at_ k _ _ _) (history_Size_c1.mono_l kd at_ k _ _ _)) (LeO.refl _)) (LeO.refl _)
set_option maxHeartbeats 8000000 in
set_option maxRecDepth 100000 in
theorem history_Size_c1.calls (k : Nat) (kd at_ : Int)  (A0 : Option Addr) (c0 : Nat) (l0 : List S31) (r : Int) (g1 g2 : Nat) (W : World) (hr0 : Kd.C k31 W A0 l0.length l0) (hk : W.heap[g1]? = some (.cells #[.int .i64 kd] 3 (0, 0))) (ha : W.heap[g2]? = some (.cells #[.int .i64 at_] 3 (0, 0))) (h : history_Size_c1.l0 kd at_ k l0 0 0 = some r) :
    Calls Try.prog 28 #[.slice A0 l0.length c0, .func (.func 29) #[] #[.pointer (some ⟨g1, 0, none⟩), .pointer (some ⟨g2, 0, none⟩)]] W fun e w' => e = .returned (.int .i64 r) ∧ Below W.heap.size W w' := by
  have HR0 := Aside0.mk hr0
  have Bhk := Aside0.mk hk
  have Bha := Aside0.mk ha
  have H' := Aside0.mk h
  have HB := Aside0.mk (Below.refl W.heap.size W)
  clear hr0 h hk ha
  go_enter Try.func28, Try.ntmps28
  go_wp2
  go_loopg [5, 10] k (fun kq v5 v10 w' => ∃ (n i : Int), v5 = .int .i64 n ∧ v10 = .int .i64 i ∧ Aside0 (history_Size_c1.l0 kd at_ kq l0 i n = some r) ∧ Aside0 (kq ≤ k) ∧ Aside0 (Below W.heap.size W w'))
  case atStart => exact ⟨0, 0, by rfl, by rfl, H', ⟨Nat.le_refl _⟩, ⟨by repeat (first | (with_reducible first | exact HB.out | apply below_alloc | apply pw_below_drewN | apply below_drew1) | exact HB.out)⟩⟩
  case round =>
    clear H'
    clear HB
    try clear p2
    obtain ⟨n, i, rfl, rfl, HA, HK1, HB⟩ := hrel
    cases gk with
    | zero => exact absurd HA.out (by simp [history_Size_c1.l0])
    | succ k1 =>
      have H := HA.out
      clear HA
      simp only [history_Size_c1.l0] at H
      by_cases c4 : i < (l0.length : Int)
      · rw [if_pos c4] at H
        have c4b0 : decide (i < (l0.length : Int)) = true := decide_eq_true c4
        by_cases c5 : 0 ≤ i
        · rw [if_pos c5] at H
          have c5b0 : decide (0 ≤ i) = true := decide_eq_true c5
          obtain ⟨ad, A12, c12, e12, hx0, hx1, hx2, hx3, hx4, hx5, hx6, hx7, hx8, hx9, hx10, hx11, hx12, hl12, hi12⟩ := at_T31 (hsz_up HR0.out HB.out) i c5 c4
          cases e12
          have HI := Aside0.mk hi12
          have HL := Aside0.mk hl12
          clear hi12 hl12
          by_cases c6 : history_Size11.f (rd_T31 l0 i) kd at_ = true
          · rw [if_pos c6] at H
            have c6b0 : history_Size11.f (rd_T31 l0 i) kd at_ = true := c6
            have H' := Aside0.mk H
            clear H
            go_wp2_with (first | (go_at_call 29; (with_reducible refine (history_Size11.calls (rd_T31 l0 i) A12 c12 kd at_ g1 g2 _ (blk_alloc (blk_below Bhk.out HB.out) _) (blk_alloc (blk_below Bha.out HB.out) _)).mono ?_); rintro e w1 ⟨rfl, hb⟩; have n0_ := Aside0.mk (below_step (below_alloc HB.out _) hb); clear HB hb; have HB := n0_; clear n0_))
            go_roundg k1
            case measure => have := HK1.out; omega
            case rel => exact ⟨wrap64 (n + 1), wrap64 (i + 1), (by first | rfl | (simp; done) | (simp [*]; done)), (by first | rfl | (simp; done) | (simp [*]; done)), H', ⟨by have := HK1.out; omega⟩, ⟨by repeat (first | (with_reducible first | exact HB.out | apply below_alloc | apply pw_below_drewN | apply below_drew1) | exact HB.out)⟩⟩
          · rw [if_neg c6] at H
            have c6b0 : history_Size11.f (rd_T31 l0 i) kd at_ = false := Bool.eq_false_iff.mpr c6
            have H' := Aside0.mk H
            clear H
            go_wp2_with (first | (go_at_call 29; (with_reducible refine (history_Size11.calls (rd_T31 l0 i) A12 c12 kd at_ g1 g2 _ (blk_alloc (blk_below Bhk.out HB.out) _) (blk_alloc (blk_below Bha.out HB.out) _)).mono ?_); rintro e w1 ⟨rfl, hb⟩; have n0_ := Aside0.mk (below_step (below_alloc HB.out _) hb); clear HB hb; have HB := n0_; clear n0_))
            go_roundg k1
            case measure => have := HK1.out; omega
            case rel => exact ⟨n, wrap64 (i + 1), (by first | rfl | (simp; done) | (simp [*]; done)), (by first | rfl | (simp; done) | (simp [*]; done)), H', ⟨by have := HK1.out; omega⟩, ⟨by repeat (first | (with_reducible first | exact HB.out | apply below_alloc | apply pw_below_drewN | apply below_drew1) | exact HB.out)⟩⟩
        · rw [if_neg c5] at H
          exact absurd H (by simp)
      · rw [if_neg c4] at H
        have c4b0 : decide (i < (l0.length : Int)) = false := decide_eq_false c4
        clear c4
        obtain rfl := Option.some.inj H
        clear H
        go_wp2
        go_ret
        exact ⟨by first | rfl | (simp [*]; done), by repeat (first | (with_reducible first | exact HB.out | apply below_alloc | apply pw_below_drewN | apply below_drew1) | exact HB.out)⟩
def history_Size_c2.l0 (at_ : Int) : Nat → List S31 → Int → Int → Option Int
  | 0, _, _, _ => none
  | k + 1, l, i, n => if i < (l.length : Int) then (if 0 ≤ i then (if history_Size2.f (rd_T31 l i) at_ = true then history_Size_c2.l0 at_ k l (wrap64 (i + 1)) (wrap64 (n + 1)) else history_Size_c2.l0 at_ k l (wrap64 (i + 1)) n) else none) else some n
theorem history_Size_c2.mono_l (at_ : Int) : ∀ k l i n, LeO (history_Size_c2.l0 at_ k l i n) (history_Size_c2.l0 at_ (k + 1) l i n)
  | 0, _, _, _ => fun r h => by simp [history_Size_c2.l0] at h
  | k + 1, l, i, n => by
    unfold history_Size_c2.l0
    exact LeO.ite (LeO.ite (LeO.ite (history_Size_c2.mono_l at_ k _ _ _) (history_Size_c2.mono_l at_ k _ _ _)) (LeO.refl _)) (LeO.refl _)
set_option maxHeartbeats 8000000 in
set_option maxRecDepth 100000 in
theorem history_Size_c2.calls (k : Nat) (at_ : Int)  (A0 : Option Addr) (c0 : Nat) (l0 : List S31) (r : Int) (g2 : Nat) (W : World) (hr0 : Kd.C k31 W A0 l0.length l0) (ha : W.heap[g2]? = some (.cells #[.int .i64 at_] 3 (0, 0))) (h : history_Size_c2.l0 at_ k l0 0 0 = some r) :
    Calls Try.prog 28 #[.slice A0 l0.length c0, .func (.func 30) #[] #[.pointer (some ⟨g2, 0, none⟩)]] W fun e w' => e = .returned (.int .i64 r) ∧ Below W.heap.size W w' := by
  have HR0 := Aside0.mk hr0
  have Bha := Aside0.mk ha
  have H' := Aside0.mk h
  have HB := Aside0.mk (Below.refl W.heap.size W)
  clear hr0 h ha
  go_enter Try.func28, Try.ntmps28
  go_wp2
  go_loopg [5, 10] k (fun kq v5 v10 w' => ∃ (n i : Int), v5 = .int .i64 n ∧ v10 = .int .i64 i ∧ Aside0 (history_Size_c2.l0 at_ kq l0 i n = some r) ∧ Aside0 (kq ≤ k) ∧ Aside0 (Below W.heap.size W w'))
  case atStart => exact ⟨0, 0, by rfl, by rfl, H', ⟨Nat.le_refl _⟩, ⟨by repeat (first | (with_reducible first | exact HB.out | apply below_alloc | apply pw_below_drewN | apply below_drew1) | exact HB.out)⟩⟩
  case round =>
    clear H'
    clear HB
    try clear p2
    obtain ⟨n, i, rfl, rfl, HA, HK1, HB⟩ := hrel
    cases gk with
    | zero => exact absurd HA.out (by simp [history_Size_c2.l0])
    | succ k1 =>
      have H := HA.out
      clear HA
      simp only [history_Size_c2.l0] at H
      by_cases c4 : i < (l0.length : Int)
      · rw [if_pos c4] at H
        have c4b0 : decide (i < (l0.length : Int)) = true := decide_eq_true c4
        by_cases c5 : 0 ≤ i
        · rw [if_pos c5] at H
          have c5b0 : decide (0 ≤ i) = true := decide_eq_true c5
          obtain ⟨ad, A12, c12, e12, hx0, hx1, hx2, hx3, hx4, hx5, hx6, hx7, hx8, hx9, hx10, hx11, hx12, hl12, hi12⟩ := at_T31 (hsz_up HR0.out HB.out) i c5 c4
          cases e12
          have HI := Aside0.mk hi12
          have HL := Aside0.mk hl12
          clear hi12 hl12
          by_cases c6 : history_Size2.f (rd_T31 l0 i) at_ = true
          · rw [if_pos c6] at H
            have c6b0 : history_Size2.f (rd_T31 l0 i) at_ = true := c6
            have H' := Aside0.mk H
            clear H
            go_wp2_with (first | (go_at_call 30; (with_reducible refine (history_Size2.calls (rd_T31 l0 i) A12 c12 at_ g2 _ (blk_alloc (blk_below Bha.out HB.out) _)).mono ?_); rintro e w1 ⟨rfl, hb⟩; have n0_ := Aside0.mk (below_step (below_alloc HB.out _) hb); clear HB hb; have HB := n0_; clear n0_))
            go_roundg k1
            case measure => have := HK1.out; omega
            case rel => exact ⟨wrap64 (n + 1), wrap64 (i + 1), (by first | rfl | (simp; done) | (simp [*]; done)), (by first | rfl | (simp; done) | (simp [*]; done)), H', ⟨by have := HK1.out; omega⟩, ⟨by repeat (first | (with_reducible first | exact HB.out | apply below_alloc | apply pw_below_drewN | apply below_drew1) | exact HB.out)⟩⟩
          · rw [if_neg c6] at H
            have c6b0 : history_Size2.f (rd_T31 l0 i) at_ = false := Bool.eq_false_iff.mpr c6
            have H' := Aside0.mk H
            clear H
            go_wp2_with (first | (go_at_call 30; (with_reducible refine (history_Size2.calls (rd_T31 l0 i) A12 c12 at_ g2 _ (blk_alloc (blk_below Bha.out HB.out) _)).mono ?_); rintro e w1 ⟨rfl, hb⟩; have n0_ := Aside0.mk (below_step (below_alloc HB.out _) hb); clear HB hb; have HB := n0_; clear n0_))
            go_roundg k1
            case measure => have := HK1.out; omega
            case rel => exact ⟨n, wrap64 (i + 1), (by first | rfl | (simp; done) | (simp [*]; done)), (by first | rfl | (simp; done) | (simp [*]; done)), H', ⟨by have := HK1.out; omega⟩, ⟨by repeat (first | (with_reducible first | exact HB.out | apply below_alloc | apply pw_below_drewN | apply below_drew1) | exact HB.out)⟩⟩
        · rw [if_neg c5] at H
          exact absurd H (by simp)
      · rw [if_neg c4] at H
        have c4b0 : decide (i < (l0.length : Int)) = false := decide_eq_false c4
        clear c4
        obtain rfl := Option.some.inj H
        clear H
        go_wp2
        go_ret
        exact ⟨by first | rfl | (simp [*]; done), by repeat (first | (with_reducible first | exact HB.out | apply below_alloc | apply pw_below_drewN | apply below_drew1) | exact HB.out)⟩
set_option maxHeartbeats 8000000 in
set_option maxRecDepth 100000 in
theorem history_Size1.calls (k : Nat) (kd at_ : Int) (A0 : Option Addr) (c0 : Nat) (l0 : List S31) (r : Int) (gh ga : Nat) (W : World) (hr0 : Kd.C k31 W A0 l0.length l0) (hh : W.heap[gh]? = some (.cells #[.slice A0 l0.length c0] 22 (0, 0))) (ha : W.heap[ga]? = some (.cells #[.int .i64 at_] 3 (0, 0))) (h : history_Size_c1.l0 kd at_ k l0 0 0 = some r) :
    Calls Try.prog 27 #[.int .i64 kd, .pointer (some ⟨gh, 0, none⟩), .pointer (some ⟨ga, 0, none⟩)] W fun e w' => e = .returned (.int .i64 r) ∧ Below W.heap.size W w' := by
  have hmf : ∀ (fn : Fn) (first cap : Array Value) (w : World), (Instr.makeFunc fn first cap).run Try.prog w = .ok (.func fn first cap) w := fun _ _ _ _ => rfl
  have HR0 := Aside0.mk hr0
  have BKh := Aside0.mk hh
  have BKa := Aside0.mk ha
  have H' := Aside0.mk h
  have HB := Aside0.mk (Below.refl W.heap.size W)
  clear hr0 hh ha h
  go_enter Try.func27, Try.ntmps27
  go_wp2_with (first | ((with_reducible refine gate_dst (N := 3) rfl ?_); refine box_event ?hg (N := 3) ?hd (cs := #[.int .i64 kd]) (t := 3) ?hr ?_; (case hd => rfl); (case hg => rfl); (case hr => first | (go_simp; done) | (go_simp; rfl)); intro gk hg wb_gk hbox hb; have BKgk := Aside0.mk hbox; have n_BKh := Aside0.mk (blk_below (g := gh) (o := .cells #[.slice A0 l0.length c0] 22 (0, 0)) BKh.out hb); clear BKh; have BKh := n_BKh; clear n_BKh; have n_BKa := Aside0.mk (blk_below (g := ga) (o := .cells #[.int .i64 at_] 3 (0, 0)) BKa.out hb); clear BKa; have BKa := n_BKa; clear n_BKa; have n0_ := Aside0.mk (below_step HB.out hb); clear HB; have HB := n0_; clear n0_; have cgk_0 : wb_gk.cell? ⟨gk, 0, none⟩ = some (.int .i64 kd) := (blk_cell BKgk.out 0).trans rfl; have cgh_0 : wb_gk.cell? ⟨gh, 0, none⟩ = some (.slice A0 l0.length c0) := (blk_cell BKh.out 0).trans rfl; clear hb hbox hg) | (go_at_call 28; (with_reducible refine (history_Size_c1.calls k kd at_ A0 c0 l0 r gk ga _ (hsz_up HR0.out HB.out) BKgk.out BKa.out H'.out).mono ?_); rintro e w1 ⟨rfl, hb⟩; have n0_ := Aside0.mk (below_step HB.out hb); clear HB hb; have HB := n0_; clear n0_))
  go_ret
  exact ⟨rfl, by repeat (first | (with_reducible first | exact HB.out | apply below_alloc | apply pw_below_drewN | apply below_drew1) | exact HB.out)⟩
def history_Size.f (k : Nat) (l0 : List S31) (a1 : Int) : Option Int := (history_Size_c2.l0 a1 k l0 0 0).bind fun p => (history_Size_c1.l0 1 a1 k l0 0 0).bind fun a => (history_Size_c1.l0 2 a1 k l0 0 0).bind fun b => some (wrap64 (wrap64 (a - b) + p))
theorem history_Size.mono : ∀ l0 a1 k, LeO (history_Size.f k l0 a1) (history_Size.f (k + 1) l0 a1) := by
  intro l0 a1 k
  exact LeO.bind (history_Size_c2.mono_l _ _ _ _ _) (fun _ => LeO.bind (history_Size_c1.mono_l _ _ _ _ _ _) (fun _ => LeO.bind (history_Size_c1.mono_l _ _ _ _ _ _) (fun _ => LeO.refl _)))
set_option maxHeartbeats 8000000 in
set_option maxRecDepth 100000 in
theorem history_Size.calls (k : Nat) (A0 : Option Addr) (c0 : Nat) (l0 : List S31) (a1 : Int) (r : Int) (w : World) (hr0 : Kd.C k31 w A0 l0.length l0) (hc0 : l0.length ≤ c0) (h : history_Size.f k l0 a1 = some r) :
    Calls Try.prog 15 #[.slice A0 l0.length c0, .int .i64 a1] w fun e w' => e = .returned (.int .i64 r) ∧ Below w.heap.size w w' := by
  have hmf : ∀ (fn : Fn) (first cap : Array Value) (w : World), (Instr.makeFunc fn first cap).run Try.prog w = .ok (.func fn first cap) w := fun _ _ _ _ => rfl
  have HR0 := Aside0.mk hr0
  obtain ⟨p, hp, h⟩ := Option.bind_eq_some_iff.mp h
  obtain ⟨a, ha, h⟩ := Option.bind_eq_some_iff.mp h
  obtain ⟨b, hb, h⟩ := Option.bind_eq_some_iff.mp h
  have Hp := Aside0.mk hp
  have Ha := Aside0.mk ha
  have Hb := Aside0.mk hb
  obtain rfl := Option.some.inj h
  have HB := Aside0.mk (Below.refl w.heap.size w)
  clear hr0 hp ha hb h
  go_enter Try.func15, Try.ntmps15
  go_wp2_with (first | ((with_reducible refine gate_dst (N := 2) rfl ?_); refine box_event ?hg (N := 2) ?hd (cs := #[.slice A0 l0.length c0]) (t := 22) ?hr ?_; (case hd => rfl); (case hg => rfl); (case hr => first | (go_simp; done) | (go_simp; rfl)); intro gh hg wb_gh hbox hb; have BKgh := Aside0.mk hbox; have n0_ := Aside0.mk (below_step HB.out hb); clear HB; have HB := n0_; clear n0_; have cgh_0 : wb_gh.cell? ⟨gh, 0, none⟩ = some (.slice A0 l0.length c0) := (blk_cell BKgh.out 0).trans rfl; clear hb hbox hg) | ((with_reducible refine gate_dst (N := 3) rfl ?_); refine box_event ?hg (N := 3) ?hd (cs := #[.int .i64 a1]) (t := 3) ?hr ?_; (case hd => rfl); (case hg => rfl); (case hr => first | (go_simp; done) | (go_simp; rfl)); intro ga hg wb_ga hbox hb; have BKga := Aside0.mk hbox; have n_BKgh := Aside0.mk (blk_below (g := gh) (o := .cells #[.slice A0 l0.length c0] 22 (0, 0)) BKgh.out hb); clear BKgh; have BKgh := n_BKgh; clear n_BKgh; have n0_ := Aside0.mk (below_step HB.out hb); clear HB; have HB := n0_; clear n0_; have cgh_1 : wb_ga.cell? ⟨gh, 0, none⟩ = some (.slice A0 l0.length c0) := (blk_cell BKgh.out 0).trans rfl; clear hb hbox hg) | (go_at_call 28; (with_reducible refine (history_Size_c2.calls k a1 A0 c0 l0 p ga _ (hsz_up HR0.out HB.out) BKga.out Hp.out).mono ?_); rintro e w1 ⟨rfl, hb⟩; have n_BKgh := Aside0.mk (blk_below (g := gh) (o := .cells #[.slice A0 l0.length c0] 22 (0, 0)) BKgh.out hb); clear BKgh; have BKgh := n_BKgh; clear n_BKgh; have n_BKga := Aside0.mk (blk_below (g := ga) (o := .cells #[.int .i64 a1] 3 (0, 0)) BKga.out hb); clear BKga; have BKga := n_BKga; clear n_BKga; have n0_ := Aside0.mk (below_step HB.out hb); clear HB hb; have HB := n0_; clear n0_; have c1gh : w1.cell? ⟨gh, 0, none⟩ = some (.slice A0 l0.length c0) := (blk_cell BKgh.out 0).trans rfl; have c1ga : w1.cell? ⟨ga, 0, none⟩ = some (.int .i64 a1) := (blk_cell BKga.out 0).trans rfl) | (go_at_call 27; (with_reducible refine (history_Size1.calls k 1 a1 A0 c0 l0 a gh ga _ (hsz_up HR0.out HB.out) BKgh.out BKga.out Ha.out).mono ?_); rintro e w2 ⟨rfl, hb⟩; have n_BKgh := Aside0.mk (blk_below (g := gh) (o := .cells #[.slice A0 l0.length c0] 22 (0, 0)) BKgh.out hb); clear BKgh; have BKgh := n_BKgh; clear n_BKgh; have n_BKga := Aside0.mk (blk_below (g := ga) (o := .cells #[.int .i64 a1] 3 (0, 0)) BKga.out hb); clear BKga; have BKga := n_BKga; clear n_BKga; have n0_ := Aside0.mk (below_step HB.out hb); clear HB hb; have HB := n0_; clear n0_; have c2gh : w2.cell? ⟨gh, 0, none⟩ = some (.slice A0 l0.length c0) := (blk_cell BKgh.out 0).trans rfl; have c2ga : w2.cell? ⟨ga, 0, none⟩ = some (.int .i64 a1) := (blk_cell BKga.out 0).trans rfl) | (go_at_call 27; (with_reducible refine (history_Size1.calls k 2 a1 A0 c0 l0 b gh ga _ (hsz_up HR0.out HB.out) BKgh.out BKga.out Hb.out).mono ?_); rintro e w3 ⟨rfl, hb⟩; have n_BKgh := Aside0.mk (blk_below (g := gh) (o := .cells #[.slice A0 l0.length c0] 22 (0, 0)) BKgh.out hb); clear BKgh; have BKgh := n_BKgh; clear n_BKgh; have n_BKga := Aside0.mk (blk_below (g := ga) (o := .cells #[.int .i64 a1] 3 (0, 0)) BKga.out hb); clear BKga; have BKga := n_BKga; clear n_BKga; have n0_ := Aside0.mk (below_step HB.out hb); clear HB hb; have HB := n0_; clear n0_; have c3gh : w3.cell? ⟨gh, 0, none⟩ = some (.slice A0 l0.length c0) := (blk_cell BKgh.out 0).trans rfl; have c3ga : w3.cell? ⟨ga, 0, none⟩ = some (.int .i64 a1) := (blk_cell BKga.out 0).trans rfl))
  go_ret
  exact ⟨by first | rfl | (simp; done), by repeat (first | (with_reducible first | exact HB.out | apply below_alloc | apply pw_below_drewN | apply below_drew1) | exact HB.out)⟩


/-! ### history_Inserts: function 17 (by hand) -/
theorem hin_heap : Kd.Heap k31 := by
  unfold k31
  refine Kd.heap_iso _ (Kd.heap_pair (Kd.heap_int _) (Kd.heap_pair (Kd.heap_int _) (Kd.heap_pair (Kd.heap_int _) (Kd.heap_pair (Kd.heap_int _) (Kd.heap_pair (Kd.heap_int _) (Kd.heap_pair ?_ ?_))))))
  · exact Kd.heap_iso _ (Kd.heap_pair (Kd.heap_int _) (Kd.heap_pair (Kd.heap_int _) (Kd.heap_pair (Kd.heap_int _) (Kd.heap_int _))))
  · exact Kd.heap_iso _ (Kd.heap_pair (Kd.heap_int _) (Kd.heap_pair Kd.heap_bool (Kd.heap_pair (Kd.heap_int _) (Kd.heap_slice _ (Kd.heap_iso _ (Kd.heap_pair (Kd.heap_int _) (Kd.heap_int _)))))))
theorem hin_up {w w1 : World} {A : Option Addr} {n : Nat} {xs : List S31} (h : Kd.C k31 w A n xs) (hb : Below w.heap.size w w1) : Kd.C k31 w1 A n xs := hin_heap.C (fun k hk => hb.block k hk) h
def hin_Bf.f (a b : S31) : Bool := if a.f3 ≥ 0 then decide (a.f3 < b.f2) else false
set_option maxHeartbeats 8000000 in
set_option maxRecDepth 100000 in
theorem hin_Bf.calls (a b : S31) (A B : Option Addr) (c d : Nat) (W : World) : Calls Try.prog 19 #[.agg #[.int .i64 a.f0, .int .i64 a.f1, .int .i64 a.f2, .int .i64 a.f3, .int .i64 a.f4, .int .i64 a.f5.f0, .int .u64 a.f5.f1, .int .u64 a.f5.f2, .int .i64 a.f5.f3, .int .i64 a.f6.f0, .bool a.f6.f1, .int .u64 a.f6.f2, .slice A a.f6.f3.length c], .agg #[.int .i64 b.f0, .int .i64 b.f1, .int .i64 b.f2, .int .i64 b.f3, .int .i64 b.f4, .int .i64 b.f5.f0, .int .u64 b.f5.f1, .int .u64 b.f5.f2, .int .i64 b.f5.f3, .int .i64 b.f6.f0, .bool b.f6.f1, .int .u64 b.f6.f2, .slice B b.f6.f3.length d]] W fun e w' => e = .returned (.bool (hin_Bf.f a b)) ∧ Below W.heap.size W w' := by
  have HB := Aside0.mk (Below.refl W.heap.size W)
  unfold hin_Bf.f
  by_cases c1 : a.f3 ≥ 0
  · rw [if_pos c1]
    have c1b : decide (0 ≤ a.f3) = true := decide_eq_true c1
    go_enter Try.func19, Try.ntmps19
    go_wp2_with (first | ((with_reducible refine gate_dst (N := 2) rfl ?_); refine box_event ?hg (N := 2) ?hd (cs := #[.int .i64 a.f0, .int .i64 a.f1, .int .i64 a.f2, .int .i64 a.f3, .int .i64 a.f4, .int .i64 a.f5.f0, .int .u64 a.f5.f1, .int .u64 a.f5.f2, .int .i64 a.f5.f3, .int .i64 a.f6.f0, .bool a.f6.f1, .int .u64 a.f6.f2, .slice A a.f6.f3.length c]) (t := 31) ?hr ?_; (case hd => rfl); (case hg => rfl); (case hr => first | (go_simp; done) | (go_simp; rfl)); intro ga hg wb_ga hbox hb; have BKga := Aside0.mk hbox; have n0_ := Aside0.mk (below_step HB.out hb); clear HB; have HB := n0_; clear n0_; clear hb hbox hg) | ((with_reducible refine gate_dst (N := 3) rfl ?_); refine box_event ?hg (N := 3) ?hd (cs := #[.int .i64 b.f0, .int .i64 b.f1, .int .i64 b.f2, .int .i64 b.f3, .int .i64 b.f4, .int .i64 b.f5.f0, .int .u64 b.f5.f1, .int .u64 b.f5.f2, .int .i64 b.f5.f3, .int .i64 b.f6.f0, .bool b.f6.f1, .int .u64 b.f6.f2, .slice B b.f6.f3.length d]) (t := 31) ?hr ?_; (case hd => rfl); (case hg => rfl); (case hr => first | (go_simp; done) | (go_simp; rfl)); intro gb hg wb_gb hbox hb; have BKgb := Aside0.mk hbox; have n_BKga := Aside0.mk (blk_below (g := ga) (o := .cells #[.int .i64 a.f0, .int .i64 a.f1, .int .i64 a.f2, .int .i64 a.f3, .int .i64 a.f4, .int .i64 a.f5.f0, .int .u64 a.f5.f1, .int .u64 a.f5.f2, .int .i64 a.f5.f3, .int .i64 a.f6.f0, .bool a.f6.f1, .int .u64 a.f6.f2, .slice A a.f6.f3.length c] 31 (0, 0)) BKga.out hb); clear BKga; have BKga := n_BKga; clear n_BKga; have n0_ := Aside0.mk (below_step HB.out hb); clear HB; have HB := n0_; clear n0_; have cgb_2 : wb_gb.cell? ⟨gb, 2, none⟩ = some (.int .i64 b.f2) := (blk_cell BKgb.out 2).trans rfl; have cga_3 : wb_gb.cell? ⟨ga, 3, none⟩ = some (.int .i64 a.f3) := (blk_cell BKga.out 3).trans rfl; clear hb hbox hg))
    go_ret
    exact ⟨by first | rfl | (simp [*]; done), by repeat (first | (with_reducible first | exact HB.out | apply below_alloc | apply pw_below_drewN | apply below_drew1) | exact HB.out)⟩
  · rw [if_neg c1]
    have c1b : decide (0 ≤ a.f3) = false := decide_eq_false c1
    go_enter Try.func19, Try.ntmps19
    go_wp2_with (first | ((with_reducible refine gate_dst (N := 2) rfl ?_); refine box_event ?hg (N := 2) ?hd (cs := #[.int .i64 a.f0, .int .i64 a.f1, .int .i64 a.f2, .int .i64 a.f3, .int .i64 a.f4, .int .i64 a.f5.f0, .int .u64 a.f5.f1, .int .u64 a.f5.f2, .int .i64 a.f5.f3, .int .i64 a.f6.f0, .bool a.f6.f1, .int .u64 a.f6.f2, .slice A a.f6.f3.length c]) (t := 31) ?hr ?_; (case hd => rfl); (case hg => rfl); (case hr => first | (go_simp; done) | (go_simp; rfl)); intro ga hg wb_ga hbox hb; have BKga := Aside0.mk hbox; have n0_ := Aside0.mk (below_step HB.out hb); clear HB; have HB := n0_; clear n0_; clear hb hbox hg) | ((with_reducible refine gate_dst (N := 3) rfl ?_); refine box_event ?hg (N := 3) ?hd (cs := #[.int .i64 b.f0, .int .i64 b.f1, .int .i64 b.f2, .int .i64 b.f3, .int .i64 b.f4, .int .i64 b.f5.f0, .int .u64 b.f5.f1, .int .u64 b.f5.f2, .int .i64 b.f5.f3, .int .i64 b.f6.f0, .bool b.f6.f1, .int .u64 b.f6.f2, .slice B b.f6.f3.length d]) (t := 31) ?hr ?_; (case hd => rfl); (case hg => rfl); (case hr => first | (go_simp; done) | (go_simp; rfl)); intro gb hg wb_gb hbox hb; have BKgb := Aside0.mk hbox; have n_BKga := Aside0.mk (blk_below (g := ga) (o := .cells #[.int .i64 a.f0, .int .i64 a.f1, .int .i64 a.f2, .int .i64 a.f3, .int .i64 a.f4, .int .i64 a.f5.f0, .int .u64 a.f5.f1, .int .u64 a.f5.f2, .int .i64 a.f5.f3, .int .i64 a.f6.f0, .bool a.f6.f1, .int .u64 a.f6.f2, .slice A a.f6.f3.length c] 31 (0, 0)) BKga.out hb); clear BKga; have BKga := n_BKga; clear n_BKga; have n0_ := Aside0.mk (below_step HB.out hb); clear HB; have HB := n0_; clear n0_; have cgb_2 : wb_gb.cell? ⟨gb, 2, none⟩ = some (.int .i64 b.f2) := (blk_cell BKgb.out 2).trans rfl; have cga_3 : wb_gb.cell? ⟨ga, 3, none⟩ = some (.int .i64 a.f3) := (blk_cell BKga.out 3).trans rfl; clear hb hbox hg))
    go_ret
    exact ⟨by first | rfl | (simp [*]; done), by repeat (first | (with_reducible first | exact HB.out | apply below_alloc | apply pw_below_drewN | apply below_drew1) | exact HB.out)⟩
def history_Inserts1.f (x e : S31) : Bool := if x.f5.f0 = 1 then (if hin_Bf.f e x = true then false else !(hin_Bf.f x e)) else false
set_option maxHeartbeats 8000000 in
set_option maxRecDepth 100000 in
theorem history_Inserts1.calls (x e : S31) (A Ae : Option Addr) (c ce : Nat) (ge : Nat) (W : World) (hg : W.heap[ge]? = some (.cells #[.int .i64 e.f0, .int .i64 e.f1, .int .i64 e.f2, .int .i64 e.f3, .int .i64 e.f4, .int .i64 e.f5.f0, .int .u64 e.f5.f1, .int .u64 e.f5.f2, .int .i64 e.f5.f3, .int .i64 e.f6.f0, .bool e.f6.f1, .int .u64 e.f6.f2, .slice Ae e.f6.f3.length ce] 31 (0, 0))) :
    Calls Try.prog 31 #[.agg #[.int .i64 x.f0, .int .i64 x.f1, .int .i64 x.f2, .int .i64 x.f3, .int .i64 x.f4, .int .i64 x.f5.f0, .int .u64 x.f5.f1, .int .u64 x.f5.f2, .int .i64 x.f5.f3, .int .i64 x.f6.f0, .bool x.f6.f1, .int .u64 x.f6.f2, .slice A x.f6.f3.length c], .pointer (some ⟨ge, 0, none⟩)] W fun e_ w' => e_ = .returned (.bool (history_Inserts1.f x e)) ∧ Below W.heap.size W w' := by
  have BKge := Aside0.mk hg
  have HB := Aside0.mk (Below.refl W.heap.size W)
  clear hg
  unfold history_Inserts1.f
  by_cases c1 : x.f5.f0 = 1
  · rw [if_pos c1]
    have c1b : (x.f5.f0 == 1) = true := beq_iff_eq.mpr c1
    clear c1
    by_cases c2 : hin_Bf.f e x = true
    · rw [if_pos c2]
      go_enter Try.func31, Try.ntmps31
      go_wp2_with (first | ((with_reducible refine gate_dst (N := 2) rfl ?_); refine box_event ?hg (N := 2) ?hd (cs := #[.int .i64 x.f0, .int .i64 x.f1, .int .i64 x.f2, .int .i64 x.f3, .int .i64 x.f4, .int .i64 x.f5.f0, .int .u64 x.f5.f1, .int .u64 x.f5.f2, .int .i64 x.f5.f3, .int .i64 x.f6.f0, .bool x.f6.f1, .int .u64 x.f6.f2, .slice A x.f6.f3.length c]) (t := 31) ?hr ?_; (case hd => rfl); (case hg => rfl); (case hr => first | (go_simp; done) | (go_simp; rfl)); intro gx hg wb_gx hbox hb; have BKgx := Aside0.mk hbox; have n_BKge := Aside0.mk (blk_below (g := ge) (o := .cells #[.int .i64 e.f0, .int .i64 e.f1, .int .i64 e.f2, .int .i64 e.f3, .int .i64 e.f4, .int .i64 e.f5.f0, .int .u64 e.f5.f1, .int .u64 e.f5.f2, .int .i64 e.f5.f3, .int .i64 e.f6.f0, .bool e.f6.f1, .int .u64 e.f6.f2, .slice Ae e.f6.f3.length ce] 31 (0, 0)) BKge.out hb); clear BKge; have BKge := n_BKge; clear n_BKge; have n0_ := Aside0.mk (below_step HB.out hb); clear HB; have HB := n0_; clear n0_; have c0gx_0 : wb_gx.cell? ⟨gx, 0, none⟩ = some (.int .i64 x.f0) := (blk_cell BKgx.out 0).trans rfl; have c0gx_1 : wb_gx.cell? ⟨gx, 1, none⟩ = some (.int .i64 x.f1) := (blk_cell BKgx.out 1).trans rfl; have c0gx_2 : wb_gx.cell? ⟨gx, 2, none⟩ = some (.int .i64 x.f2) := (blk_cell BKgx.out 2).trans rfl; have c0gx_3 : wb_gx.cell? ⟨gx, 3, none⟩ = some (.int .i64 x.f3) := (blk_cell BKgx.out 3).trans rfl; have c0gx_4 : wb_gx.cell? ⟨gx, 4, none⟩ = some (.int .i64 x.f4) := (blk_cell BKgx.out 4).trans rfl; have c0gx_5 : wb_gx.cell? ⟨gx, 5, none⟩ = some (.int .i64 x.f5.f0) := (blk_cell BKgx.out 5).trans rfl; have c0gx_6 : wb_gx.cell? ⟨gx, 6, none⟩ = some (.int .u64 x.f5.f1) := (blk_cell BKgx.out 6).trans rfl; have c0gx_7 : wb_gx.cell? ⟨gx, 7, none⟩ = some (.int .u64 x.f5.f2) := (blk_cell BKgx.out 7).trans rfl; have c0gx_8 : wb_gx.cell? ⟨gx, 8, none⟩ = some (.int .i64 x.f5.f3) := (blk_cell BKgx.out 8).trans rfl; have c0gx_9 : wb_gx.cell? ⟨gx, 9, none⟩ = some (.int .i64 x.f6.f0) := (blk_cell BKgx.out 9).trans rfl; have c0gx_10 : wb_gx.cell? ⟨gx, 10, none⟩ = some (.bool x.f6.f1) := (blk_cell BKgx.out 10).trans rfl; have c0gx_11 : wb_gx.cell? ⟨gx, 11, none⟩ = some (.int .u64 x.f6.f2) := (blk_cell BKgx.out 11).trans rfl; have c0gx_12 : wb_gx.cell? ⟨gx, 12, none⟩ = some (.slice A x.f6.f3.length c) := (blk_cell BKgx.out 12).trans rfl; have c0ge_0 : wb_gx.cell? ⟨ge, 0, none⟩ = some (.int .i64 e.f0) := (blk_cell BKge.out 0).trans rfl; have c0ge_1 : wb_gx.cell? ⟨ge, 1, none⟩ = some (.int .i64 e.f1) := (blk_cell BKge.out 1).trans rfl; have c0ge_2 : wb_gx.cell? ⟨ge, 2, none⟩ = some (.int .i64 e.f2) := (blk_cell BKge.out 2).trans rfl; have c0ge_3 : wb_gx.cell? ⟨ge, 3, none⟩ = some (.int .i64 e.f3) := (blk_cell BKge.out 3).trans rfl; have c0ge_4 : wb_gx.cell? ⟨ge, 4, none⟩ = some (.int .i64 e.f4) := (blk_cell BKge.out 4).trans rfl; have c0ge_5 : wb_gx.cell? ⟨ge, 5, none⟩ = some (.int .i64 e.f5.f0) := (blk_cell BKge.out 5).trans rfl; have c0ge_6 : wb_gx.cell? ⟨ge, 6, none⟩ = some (.int .u64 e.f5.f1) := (blk_cell BKge.out 6).trans rfl; have c0ge_7 : wb_gx.cell? ⟨ge, 7, none⟩ = some (.int .u64 e.f5.f2) := (blk_cell BKge.out 7).trans rfl; have c0ge_8 : wb_gx.cell? ⟨ge, 8, none⟩ = some (.int .i64 e.f5.f3) := (blk_cell BKge.out 8).trans rfl; have c0ge_9 : wb_gx.cell? ⟨ge, 9, none⟩ = some (.int .i64 e.f6.f0) := (blk_cell BKge.out 9).trans rfl; have c0ge_10 : wb_gx.cell? ⟨ge, 10, none⟩ = some (.bool e.f6.f1) := (blk_cell BKge.out 10).trans rfl; have c0ge_11 : wb_gx.cell? ⟨ge, 11, none⟩ = some (.int .u64 e.f6.f2) := (blk_cell BKge.out 11).trans rfl; have c0ge_12 : wb_gx.cell? ⟨ge, 12, none⟩ = some (.slice Ae e.f6.f3.length ce) := (blk_cell BKge.out 12).trans rfl; clear hb hbox hg) | (go_at_call 19; (with_reducible refine (hin_Bf.calls e x Ae A ce c _).mono ?_); rintro e w2 ⟨rfl, hb⟩; have n_BKgx := Aside0.mk (blk_below (g := gx) (o := .cells #[.int .i64 x.f0, .int .i64 x.f1, .int .i64 x.f2, .int .i64 x.f3, .int .i64 x.f4, .int .i64 x.f5.f0, .int .u64 x.f5.f1, .int .u64 x.f5.f2, .int .i64 x.f5.f3, .int .i64 x.f6.f0, .bool x.f6.f1, .int .u64 x.f6.f2, .slice A x.f6.f3.length c] 31 (0, 0)) BKgx.out hb); clear BKgx; have BKgx := n_BKgx; clear n_BKgx; have n_BKge := Aside0.mk (blk_below (g := ge) (o := .cells #[.int .i64 e.f0, .int .i64 e.f1, .int .i64 e.f2, .int .i64 e.f3, .int .i64 e.f4, .int .i64 e.f5.f0, .int .u64 e.f5.f1, .int .u64 e.f5.f2, .int .i64 e.f5.f3, .int .i64 e.f6.f0, .bool e.f6.f1, .int .u64 e.f6.f2, .slice Ae e.f6.f3.length ce] 31 (0, 0)) BKge.out hb); clear BKge; have BKge := n_BKge; clear n_BKge; have n0_ := Aside0.mk (below_step HB.out hb); clear HB hb; have HB := n0_; clear n0_; have cw2gx_0 : w2.cell? ⟨gx, 0, none⟩ = some (.int .i64 x.f0) := (blk_cell BKgx.out 0).trans rfl; have cw2gx_1 : w2.cell? ⟨gx, 1, none⟩ = some (.int .i64 x.f1) := (blk_cell BKgx.out 1).trans rfl; have cw2gx_2 : w2.cell? ⟨gx, 2, none⟩ = some (.int .i64 x.f2) := (blk_cell BKgx.out 2).trans rfl; have cw2gx_3 : w2.cell? ⟨gx, 3, none⟩ = some (.int .i64 x.f3) := (blk_cell BKgx.out 3).trans rfl; have cw2gx_4 : w2.cell? ⟨gx, 4, none⟩ = some (.int .i64 x.f4) := (blk_cell BKgx.out 4).trans rfl; have cw2gx_5 : w2.cell? ⟨gx, 5, none⟩ = some (.int .i64 x.f5.f0) := (blk_cell BKgx.out 5).trans rfl; have cw2gx_6 : w2.cell? ⟨gx, 6, none⟩ = some (.int .u64 x.f5.f1) := (blk_cell BKgx.out 6).trans rfl; have cw2gx_7 : w2.cell? ⟨gx, 7, none⟩ = some (.int .u64 x.f5.f2) := (blk_cell BKgx.out 7).trans rfl; have cw2gx_8 : w2.cell? ⟨gx, 8, none⟩ = some (.int .i64 x.f5.f3) := (blk_cell BKgx.out 8).trans rfl; have cw2gx_9 : w2.cell? ⟨gx, 9, none⟩ = some (.int .i64 x.f6.f0) := (blk_cell BKgx.out 9).trans rfl; have cw2gx_10 : w2.cell? ⟨gx, 10, none⟩ = some (.bool x.f6.f1) := (blk_cell BKgx.out 10).trans rfl; have cw2gx_11 : w2.cell? ⟨gx, 11, none⟩ = some (.int .u64 x.f6.f2) := (blk_cell BKgx.out 11).trans rfl; have cw2gx_12 : w2.cell? ⟨gx, 12, none⟩ = some (.slice A x.f6.f3.length c) := (blk_cell BKgx.out 12).trans rfl; have cw2ge_0 : w2.cell? ⟨ge, 0, none⟩ = some (.int .i64 e.f0) := (blk_cell BKge.out 0).trans rfl; have cw2ge_1 : w2.cell? ⟨ge, 1, none⟩ = some (.int .i64 e.f1) := (blk_cell BKge.out 1).trans rfl; have cw2ge_2 : w2.cell? ⟨ge, 2, none⟩ = some (.int .i64 e.f2) := (blk_cell BKge.out 2).trans rfl; have cw2ge_3 : w2.cell? ⟨ge, 3, none⟩ = some (.int .i64 e.f3) := (blk_cell BKge.out 3).trans rfl; have cw2ge_4 : w2.cell? ⟨ge, 4, none⟩ = some (.int .i64 e.f4) := (blk_cell BKge.out 4).trans rfl; have cw2ge_5 : w2.cell? ⟨ge, 5, none⟩ = some (.int .i64 e.f5.f0) := (blk_cell BKge.out 5).trans rfl; have cw2ge_6 : w2.cell? ⟨ge, 6, none⟩ = some (.int .u64 e.f5.f1) := (blk_cell BKge.out 6).trans rfl; have cw2ge_7 : w2.cell? ⟨ge, 7, none⟩ = some (.int .u64 e.f5.f2) := (blk_cell BKge.out 7).trans rfl; have cw2ge_8 : w2.cell? ⟨ge, 8, none⟩ = some (.int .i64 e.f5.f3) := (blk_cell BKge.out 8).trans rfl; have cw2ge_9 : w2.cell? ⟨ge, 9, none⟩ = some (.int .i64 e.f6.f0) := (blk_cell BKge.out 9).trans rfl; have cw2ge_10 : w2.cell? ⟨ge, 10, none⟩ = some (.bool e.f6.f1) := (blk_cell BKge.out 10).trans rfl; have cw2ge_11 : w2.cell? ⟨ge, 11, none⟩ = some (.int .u64 e.f6.f2) := (blk_cell BKge.out 11).trans rfl; have cw2ge_12 : w2.cell? ⟨ge, 12, none⟩ = some (.slice Ae e.f6.f3.length ce) := (blk_cell BKge.out 12).trans rfl))
      go_ret
      exact ⟨by first | rfl | (simp [*]; done), by repeat (first | (with_reducible first | exact HB.out | apply below_alloc | apply pw_below_drewN | apply below_drew1) | exact HB.out)⟩
    · rw [if_neg c2]
      replace c2 := Bool.eq_false_iff.mpr c2
      go_enter Try.func31, Try.ntmps31
      go_wp2_with (first | ((with_reducible refine gate_dst (N := 2) rfl ?_); refine box_event ?hg (N := 2) ?hd (cs := #[.int .i64 x.f0, .int .i64 x.f1, .int .i64 x.f2, .int .i64 x.f3, .int .i64 x.f4, .int .i64 x.f5.f0, .int .u64 x.f5.f1, .int .u64 x.f5.f2, .int .i64 x.f5.f3, .int .i64 x.f6.f0, .bool x.f6.f1, .int .u64 x.f6.f2, .slice A x.f6.f3.length c]) (t := 31) ?hr ?_; (case hd => rfl); (case hg => rfl); (case hr => first | (go_simp; done) | (go_simp; rfl)); intro gx hg wb_gx hbox hb; have BKgx := Aside0.mk hbox; have n_BKge := Aside0.mk (blk_below (g := ge) (o := .cells #[.int .i64 e.f0, .int .i64 e.f1, .int .i64 e.f2, .int .i64 e.f3, .int .i64 e.f4, .int .i64 e.f5.f0, .int .u64 e.f5.f1, .int .u64 e.f5.f2, .int .i64 e.f5.f3, .int .i64 e.f6.f0, .bool e.f6.f1, .int .u64 e.f6.f2, .slice Ae e.f6.f3.length ce] 31 (0, 0)) BKge.out hb); clear BKge; have BKge := n_BKge; clear n_BKge; have n0_ := Aside0.mk (below_step HB.out hb); clear HB; have HB := n0_; clear n0_; have c0gx_0 : wb_gx.cell? ⟨gx, 0, none⟩ = some (.int .i64 x.f0) := (blk_cell BKgx.out 0).trans rfl; have c0gx_1 : wb_gx.cell? ⟨gx, 1, none⟩ = some (.int .i64 x.f1) := (blk_cell BKgx.out 1).trans rfl; have c0gx_2 : wb_gx.cell? ⟨gx, 2, none⟩ = some (.int .i64 x.f2) := (blk_cell BKgx.out 2).trans rfl; have c0gx_3 : wb_gx.cell? ⟨gx, 3, none⟩ = some (.int .i64 x.f3) := (blk_cell BKgx.out 3).trans rfl; have c0gx_4 : wb_gx.cell? ⟨gx, 4, none⟩ = some (.int .i64 x.f4) := (blk_cell BKgx.out 4).trans rfl; have c0gx_5 : wb_gx.cell? ⟨gx, 5, none⟩ = some (.int .i64 x.f5.f0) := (blk_cell BKgx.out 5).trans rfl; have c0gx_6 : wb_gx.cell? ⟨gx, 6, none⟩ = some (.int .u64 x.f5.f1) := (blk_cell BKgx.out 6).trans rfl; have c0gx_7 : wb_gx.cell? ⟨gx, 7, none⟩ = some (.int .u64 x.f5.f2) := (blk_cell BKgx.out 7).trans rfl; have c0gx_8 : wb_gx.cell? ⟨gx, 8, none⟩ = some (.int .i64 x.f5.f3) := (blk_cell BKgx.out 8).trans rfl; have c0gx_9 : wb_gx.cell? ⟨gx, 9, none⟩ = some (.int .i64 x.f6.f0) := (blk_cell BKgx.out 9).trans rfl; have c0gx_10 : wb_gx.cell? ⟨gx, 10, none⟩ = some (.bool x.f6.f1) := (blk_cell BKgx.out 10).trans rfl; have c0gx_11 : wb_gx.cell? ⟨gx, 11, none⟩ = some (.int .u64 x.f6.f2) := (blk_cell BKgx.out 11).trans rfl; have c0gx_12 : wb_gx.cell? ⟨gx, 12, none⟩ = some (.slice A x.f6.f3.length c) := (blk_cell BKgx.out 12).trans rfl; have c0ge_0 : wb_gx.cell? ⟨ge, 0, none⟩ = some (.int .i64 e.f0) := (blk_cell BKge.out 0).trans rfl; have c0ge_1 : wb_gx.cell? ⟨ge, 1, none⟩ = some (.int .i64 e.f1) := (blk_cell BKge.out 1).trans rfl; have c0ge_2 : wb_gx.cell? ⟨ge, 2, none⟩ = some (.int .i64 e.f2) := (blk_cell BKge.out 2).trans rfl; have c0ge_3 : wb_gx.cell? ⟨ge, 3, none⟩ = some (.int .i64 e.f3) := (blk_cell BKge.out 3).trans rfl; have c0ge_4 : wb_gx.cell? ⟨ge, 4, none⟩ = some (.int .i64 e.f4) := (blk_cell BKge.out 4).trans rfl; have c0ge_5 : wb_gx.cell? ⟨ge, 5, none⟩ = some (.int .i64 e.f5.f0) := (blk_cell BKge.out 5).trans rfl; have c0ge_6 : wb_gx.cell? ⟨ge, 6, none⟩ = some (.int .u64 e.f5.f1) := (blk_cell BKge.out 6).trans rfl; have c0ge_7 : wb_gx.cell? ⟨ge, 7, none⟩ = some (.int .u64 e.f5.f2) := (blk_cell BKge.out 7).trans rfl; have c0ge_8 : wb_gx.cell? ⟨ge, 8, none⟩ = some (.int .i64 e.f5.f3) := (blk_cell BKge.out 8).trans rfl; have c0ge_9 : wb_gx.cell? ⟨ge, 9, none⟩ = some (.int .i64 e.f6.f0) := (blk_cell BKge.out 9).trans rfl; have c0ge_10 : wb_gx.cell? ⟨ge, 10, none⟩ = some (.bool e.f6.f1) := (blk_cell BKge.out 10).trans rfl; have c0ge_11 : wb_gx.cell? ⟨ge, 11, none⟩ = some (.int .u64 e.f6.f2) := (blk_cell BKge.out 11).trans rfl; have c0ge_12 : wb_gx.cell? ⟨ge, 12, none⟩ = some (.slice Ae e.f6.f3.length ce) := (blk_cell BKge.out 12).trans rfl; clear hb hbox hg) | (go_at_call 19; (with_reducible refine (hin_Bf.calls e x Ae A ce c _).mono ?_); rintro e w2 ⟨rfl, hb⟩; have n_BKgx := Aside0.mk (blk_below (g := gx) (o := .cells #[.int .i64 x.f0, .int .i64 x.f1, .int .i64 x.f2, .int .i64 x.f3, .int .i64 x.f4, .int .i64 x.f5.f0, .int .u64 x.f5.f1, .int .u64 x.f5.f2, .int .i64 x.f5.f3, .int .i64 x.f6.f0, .bool x.f6.f1, .int .u64 x.f6.f2, .slice A x.f6.f3.length c] 31 (0, 0)) BKgx.out hb); clear BKgx; have BKgx := n_BKgx; clear n_BKgx; have n_BKge := Aside0.mk (blk_below (g := ge) (o := .cells #[.int .i64 e.f0, .int .i64 e.f1, .int .i64 e.f2, .int .i64 e.f3, .int .i64 e.f4, .int .i64 e.f5.f0, .int .u64 e.f5.f1, .int .u64 e.f5.f2, .int .i64 e.f5.f3, .int .i64 e.f6.f0, .bool e.f6.f1, .int .u64 e.f6.f2, .slice Ae e.f6.f3.length ce] 31 (0, 0)) BKge.out hb); clear BKge; have BKge := n_BKge; clear n_BKge; have n0_ := Aside0.mk (below_step HB.out hb); clear HB hb; have HB := n0_; clear n0_; have cw2gx_0 : w2.cell? ⟨gx, 0, none⟩ = some (.int .i64 x.f0) := (blk_cell BKgx.out 0).trans rfl; have cw2gx_1 : w2.cell? ⟨gx, 1, none⟩ = some (.int .i64 x.f1) := (blk_cell BKgx.out 1).trans rfl; have cw2gx_2 : w2.cell? ⟨gx, 2, none⟩ = some (.int .i64 x.f2) := (blk_cell BKgx.out 2).trans rfl; have cw2gx_3 : w2.cell? ⟨gx, 3, none⟩ = some (.int .i64 x.f3) := (blk_cell BKgx.out 3).trans rfl; have cw2gx_4 : w2.cell? ⟨gx, 4, none⟩ = some (.int .i64 x.f4) := (blk_cell BKgx.out 4).trans rfl; have cw2gx_5 : w2.cell? ⟨gx, 5, none⟩ = some (.int .i64 x.f5.f0) := (blk_cell BKgx.out 5).trans rfl; have cw2gx_6 : w2.cell? ⟨gx, 6, none⟩ = some (.int .u64 x.f5.f1) := (blk_cell BKgx.out 6).trans rfl; have cw2gx_7 : w2.cell? ⟨gx, 7, none⟩ = some (.int .u64 x.f5.f2) := (blk_cell BKgx.out 7).trans rfl; have cw2gx_8 : w2.cell? ⟨gx, 8, none⟩ = some (.int .i64 x.f5.f3) := (blk_cell BKgx.out 8).trans rfl; have cw2gx_9 : w2.cell? ⟨gx, 9, none⟩ = some (.int .i64 x.f6.f0) := (blk_cell BKgx.out 9).trans rfl; have cw2gx_10 : w2.cell? ⟨gx, 10, none⟩ = some (.bool x.f6.f1) := (blk_cell BKgx.out 10).trans rfl; have cw2gx_11 : w2.cell? ⟨gx, 11, none⟩ = some (.int .u64 x.f6.f2) := (blk_cell BKgx.out 11).trans rfl; have cw2gx_12 : w2.cell? ⟨gx, 12, none⟩ = some (.slice A x.f6.f3.length c) := (blk_cell BKgx.out 12).trans rfl; have cw2ge_0 : w2.cell? ⟨ge, 0, none⟩ = some (.int .i64 e.f0) := (blk_cell BKge.out 0).trans rfl; have cw2ge_1 : w2.cell? ⟨ge, 1, none⟩ = some (.int .i64 e.f1) := (blk_cell BKge.out 1).trans rfl; have cw2ge_2 : w2.cell? ⟨ge, 2, none⟩ = some (.int .i64 e.f2) := (blk_cell BKge.out 2).trans rfl; have cw2ge_3 : w2.cell? ⟨ge, 3, none⟩ = some (.int .i64 e.f3) := (blk_cell BKge.out 3).trans rfl; have cw2ge_4 : w2.cell? ⟨ge, 4, none⟩ = some (.int .i64 e.f4) := (blk_cell BKge.out 4).trans rfl; have cw2ge_5 : w2.cell? ⟨ge, 5, none⟩ = some (.int .i64 e.f5.f0) := (blk_cell BKge.out 5).trans rfl; have cw2ge_6 : w2.cell? ⟨ge, 6, none⟩ = some (.int .u64 e.f5.f1) := (blk_cell BKge.out 6).trans rfl; have cw2ge_7 : w2.cell? ⟨ge, 7, none⟩ = some (.int .u64 e.f5.f2) := (blk_cell BKge.out 7).trans rfl; have cw2ge_8 : w2.cell? ⟨ge, 8, none⟩ = some (.int .i64 e.f5.f3) := (blk_cell BKge.out 8).trans rfl; have cw2ge_9 : w2.cell? ⟨ge, 9, none⟩ = some (.int .i64 e.f6.f0) := (blk_cell BKge.out 9).trans rfl; have cw2ge_10 : w2.cell? ⟨ge, 10, none⟩ = some (.bool e.f6.f1) := (blk_cell BKge.out 10).trans rfl; have cw2ge_11 : w2.cell? ⟨ge, 11, none⟩ = some (.int .u64 e.f6.f2) := (blk_cell BKge.out 11).trans rfl; have cw2ge_12 : w2.cell? ⟨ge, 12, none⟩ = some (.slice Ae e.f6.f3.length ce) := (blk_cell BKge.out 12).trans rfl) | (go_at_call 19; (with_reducible refine (hin_Bf.calls x e A Ae c ce _).mono ?_); rintro e w3 ⟨rfl, hb⟩; have n_BKgx := Aside0.mk (blk_below (g := gx) (o := .cells #[.int .i64 x.f0, .int .i64 x.f1, .int .i64 x.f2, .int .i64 x.f3, .int .i64 x.f4, .int .i64 x.f5.f0, .int .u64 x.f5.f1, .int .u64 x.f5.f2, .int .i64 x.f5.f3, .int .i64 x.f6.f0, .bool x.f6.f1, .int .u64 x.f6.f2, .slice A x.f6.f3.length c] 31 (0, 0)) BKgx.out hb); clear BKgx; have BKgx := n_BKgx; clear n_BKgx; have n_BKge := Aside0.mk (blk_below (g := ge) (o := .cells #[.int .i64 e.f0, .int .i64 e.f1, .int .i64 e.f2, .int .i64 e.f3, .int .i64 e.f4, .int .i64 e.f5.f0, .int .u64 e.f5.f1, .int .u64 e.f5.f2, .int .i64 e.f5.f3, .int .i64 e.f6.f0, .bool e.f6.f1, .int .u64 e.f6.f2, .slice Ae e.f6.f3.length ce] 31 (0, 0)) BKge.out hb); clear BKge; have BKge := n_BKge; clear n_BKge; have n0_ := Aside0.mk (below_step HB.out hb); clear HB hb; have HB := n0_; clear n0_; have cw3gx_0 : w3.cell? ⟨gx, 0, none⟩ = some (.int .i64 x.f0) := (blk_cell BKgx.out 0).trans rfl; have cw3gx_1 : w3.cell? ⟨gx, 1, none⟩ = some (.int .i64 x.f1) := (blk_cell BKgx.out 1).trans rfl; have cw3gx_2 : w3.cell? ⟨gx, 2, none⟩ = some (.int .i64 x.f2) := (blk_cell BKgx.out 2).trans rfl; have cw3gx_3 : w3.cell? ⟨gx, 3, none⟩ = some (.int .i64 x.f3) := (blk_cell BKgx.out 3).trans rfl; have cw3gx_4 : w3.cell? ⟨gx, 4, none⟩ = some (.int .i64 x.f4) := (blk_cell BKgx.out 4).trans rfl; have cw3gx_5 : w3.cell? ⟨gx, 5, none⟩ = some (.int .i64 x.f5.f0) := (blk_cell BKgx.out 5).trans rfl; have cw3gx_6 : w3.cell? ⟨gx, 6, none⟩ = some (.int .u64 x.f5.f1) := (blk_cell BKgx.out 6).trans rfl; have cw3gx_7 : w3.cell? ⟨gx, 7, none⟩ = some (.int .u64 x.f5.f2) := (blk_cell BKgx.out 7).trans rfl; have cw3gx_8 : w3.cell? ⟨gx, 8, none⟩ = some (.int .i64 x.f5.f3) := (blk_cell BKgx.out 8).trans rfl; have cw3gx_9 : w3.cell? ⟨gx, 9, none⟩ = some (.int .i64 x.f6.f0) := (blk_cell BKgx.out 9).trans rfl; have cw3gx_10 : w3.cell? ⟨gx, 10, none⟩ = some (.bool x.f6.f1) := (blk_cell BKgx.out 10).trans rfl; have cw3gx_11 : w3.cell? ⟨gx, 11, none⟩ = some (.int .u64 x.f6.f2) := (blk_cell BKgx.out 11).trans rfl; have cw3gx_12 : w3.cell? ⟨gx, 12, none⟩ = some (.slice A x.f6.f3.length c) := (blk_cell BKgx.out 12).trans rfl; have cw3ge_0 : w3.cell? ⟨ge, 0, none⟩ = some (.int .i64 e.f0) := (blk_cell BKge.out 0).trans rfl; have cw3ge_1 : w3.cell? ⟨ge, 1, none⟩ = some (.int .i64 e.f1) := (blk_cell BKge.out 1).trans rfl; have cw3ge_2 : w3.cell? ⟨ge, 2, none⟩ = some (.int .i64 e.f2) := (blk_cell BKge.out 2).trans rfl; have cw3ge_3 : w3.cell? ⟨ge, 3, none⟩ = some (.int .i64 e.f3) := (blk_cell BKge.out 3).trans rfl; have cw3ge_4 : w3.cell? ⟨ge, 4, none⟩ = some (.int .i64 e.f4) := (blk_cell BKge.out 4).trans rfl; have cw3ge_5 : w3.cell? ⟨ge, 5, none⟩ = some (.int .i64 e.f5.f0) := (blk_cell BKge.out 5).trans rfl; have cw3ge_6 : w3.cell? ⟨ge, 6, none⟩ = some (.int .u64 e.f5.f1) := (blk_cell BKge.out 6).trans rfl; have cw3ge_7 : w3.cell? ⟨ge, 7, none⟩ = some (.int .u64 e.f5.f2) := (blk_cell BKge.out 7).trans rfl; have cw3ge_8 : w3.cell? ⟨ge, 8, none⟩ = some (.int .i64 e.f5.f3) := (blk_cell BKge.out 8).trans rfl; have cw3ge_9 : w3.cell? ⟨ge, 9, none⟩ = some (.int .i64 e.f6.f0) := (blk_cell BKge.out 9).trans rfl; have cw3ge_10 : w3.cell? ⟨ge, 10, none⟩ = some (.bool e.f6.f1) := (blk_cell BKge.out 10).trans rfl; have cw3ge_11 : w3.cell? ⟨ge, 11, none⟩ = some (.int .u64 e.f6.f2) := (blk_cell BKge.out 11).trans rfl; have cw3ge_12 : w3.cell? ⟨ge, 12, none⟩ = some (.slice Ae e.f6.f3.length ce) := (blk_cell BKge.out 12).trans rfl))
      go_ret
      exact ⟨by first | rfl | (simp [*]; done), by repeat (first | (with_reducible first | exact HB.out | apply below_alloc | apply pw_below_drewN | apply below_drew1) | exact HB.out)⟩
  · rw [if_neg c1]
    have c1b : (x.f5.f0 == 1) = false := beq_eq_false_iff_ne.mpr c1
    clear c1
    go_enter Try.func31, Try.ntmps31
    go_wp2_with (first | ((with_reducible refine gate_dst (N := 2) rfl ?_); refine box_event ?hg (N := 2) ?hd (cs := #[.int .i64 x.f0, .int .i64 x.f1, .int .i64 x.f2, .int .i64 x.f3, .int .i64 x.f4, .int .i64 x.f5.f0, .int .u64 x.f5.f1, .int .u64 x.f5.f2, .int .i64 x.f5.f3, .int .i64 x.f6.f0, .bool x.f6.f1, .int .u64 x.f6.f2, .slice A x.f6.f3.length c]) (t := 31) ?hr ?_; (case hd => rfl); (case hg => rfl); (case hr => first | (go_simp; done) | (go_simp; rfl)); intro gx hg wb_gx hbox hb; have BKgx := Aside0.mk hbox; have n_BKge := Aside0.mk (blk_below (g := ge) (o := .cells #[.int .i64 e.f0, .int .i64 e.f1, .int .i64 e.f2, .int .i64 e.f3, .int .i64 e.f4, .int .i64 e.f5.f0, .int .u64 e.f5.f1, .int .u64 e.f5.f2, .int .i64 e.f5.f3, .int .i64 e.f6.f0, .bool e.f6.f1, .int .u64 e.f6.f2, .slice Ae e.f6.f3.length ce] 31 (0, 0)) BKge.out hb); clear BKge; have BKge := n_BKge; clear n_BKge; have n0_ := Aside0.mk (below_step HB.out hb); clear HB; have HB := n0_; clear n0_; have c0gx_0 : wb_gx.cell? ⟨gx, 0, none⟩ = some (.int .i64 x.f0) := (blk_cell BKgx.out 0).trans rfl; have c0gx_1 : wb_gx.cell? ⟨gx, 1, none⟩ = some (.int .i64 x.f1) := (blk_cell BKgx.out 1).trans rfl; have c0gx_2 : wb_gx.cell? ⟨gx, 2, none⟩ = some (.int .i64 x.f2) := (blk_cell BKgx.out 2).trans rfl; have c0gx_3 : wb_gx.cell? ⟨gx, 3, none⟩ = some (.int .i64 x.f3) := (blk_cell BKgx.out 3).trans rfl; have c0gx_4 : wb_gx.cell? ⟨gx, 4, none⟩ = some (.int .i64 x.f4) := (blk_cell BKgx.out 4).trans rfl; have c0gx_5 : wb_gx.cell? ⟨gx, 5, none⟩ = some (.int .i64 x.f5.f0) := (blk_cell BKgx.out 5).trans rfl; have c0gx_6 : wb_gx.cell? ⟨gx, 6, none⟩ = some (.int .u64 x.f5.f1) := (blk_cell BKgx.out 6).trans rfl; have c0gx_7 : wb_gx.cell? ⟨gx, 7, none⟩ = some (.int .u64 x.f5.f2) := (blk_cell BKgx.out 7).trans rfl; have c0gx_8 : wb_gx.cell? ⟨gx, 8, none⟩ = some (.int .i64 x.f5.f3) := (blk_cell BKgx.out 8).trans rfl; have c0gx_9 : wb_gx.cell? ⟨gx, 9, none⟩ = some (.int .i64 x.f6.f0) := (blk_cell BKgx.out 9).trans rfl; have c0gx_10 : wb_gx.cell? ⟨gx, 10, none⟩ = some (.bool x.f6.f1) := (blk_cell BKgx.out 10).trans rfl; have c0gx_11 : wb_gx.cell? ⟨gx, 11, none⟩ = some (.int .u64 x.f6.f2) := (blk_cell BKgx.out 11).trans rfl; have c0gx_12 : wb_gx.cell? ⟨gx, 12, none⟩ = some (.slice A x.f6.f3.length c) := (blk_cell BKgx.out 12).trans rfl; have c0ge_0 : wb_gx.cell? ⟨ge, 0, none⟩ = some (.int .i64 e.f0) := (blk_cell BKge.out 0).trans rfl; have c0ge_1 : wb_gx.cell? ⟨ge, 1, none⟩ = some (.int .i64 e.f1) := (blk_cell BKge.out 1).trans rfl; have c0ge_2 : wb_gx.cell? ⟨ge, 2, none⟩ = some (.int .i64 e.f2) := (blk_cell BKge.out 2).trans rfl; have c0ge_3 : wb_gx.cell? ⟨ge, 3, none⟩ = some (.int .i64 e.f3) := (blk_cell BKge.out 3).trans rfl; have c0ge_4 : wb_gx.cell? ⟨ge, 4, none⟩ = some (.int .i64 e.f4) := (blk_cell BKge.out 4).trans rfl; have c0ge_5 : wb_gx.cell? ⟨ge, 5, none⟩ = some (.int .i64 e.f5.f0) := (blk_cell BKge.out 5).trans rfl; have c0ge_6 : wb_gx.cell? ⟨ge, 6, none⟩ = some (.int .u64 e.f5.f1) := (blk_cell BKge.out 6).trans rfl; have c0ge_7 : wb_gx.cell? ⟨ge, 7, none⟩ = some (.int .u64 e.f5.f2) := (blk_cell BKge.out 7).trans rfl; have c0ge_8 : wb_gx.cell? ⟨ge, 8, none⟩ = some (.int .i64 e.f5.f3) := (blk_cell BKge.out 8).trans rfl; have c0ge_9 : wb_gx.cell? ⟨ge, 9, none⟩ = some (.int .i64 e.f6.f0) := (blk_cell BKge.out 9).trans rfl; have c0ge_10 : wb_gx.cell? ⟨ge, 10, none⟩ = some (.bool e.f6.f1) := (blk_cell BKge.out 10).trans rfl; have c0ge_11 : wb_gx.cell? ⟨ge, 11, none⟩ = some (.int .u64 e.f6.f2) := (blk_cell BKge.out 11).trans rfl; have c0ge_12 : wb_gx.cell? ⟨ge, 12, none⟩ = some (.slice Ae e.f6.f3.length ce) := (blk_cell BKge.out 12).trans rfl; clear hb hbox hg))
    go_ret
    exact ⟨by first | rfl | (simp [*]; done), by repeat (first | (with_reducible first | exact HB.out | apply below_alloc | apply pw_below_drewN | apply below_drew1) | exact HB.out)⟩
def hin_c.l0 (e : S31) : Nat → List S31 → Int → Int → Option Int
  | 0, _, _, _ => none
  | k + 1, l, i, n => if i < (l.length : Int) then (if 0 ≤ i then (if history_Inserts1.f (rd_T31 l i) e = true then hin_c.l0 e k l (wrap64 (i + 1)) (wrap64 (n + 1)) else hin_c.l0 e k l (wrap64 (i + 1)) n) else none) else some n
theorem hin_c.mono_l (e : S31) : ∀ k l i n, LeO (hin_c.l0 e k l i n) (hin_c.l0 e (k + 1) l i n)
  | 0, _, _, _ => fun r h => by simp [hin_c.l0] at h
  | k + 1, l, i, n => by
    unfold hin_c.l0
    exact LeO.ite (LeO.ite (LeO.ite (hin_c.mono_l e k _ _ _) (hin_c.mono_l e k _ _ _)) (LeO.refl _)) (LeO.refl _)
set_option maxHeartbeats 8000000 in
set_option maxRecDepth 100000 in
theorem hin_c.calls (k : Nat) (e : S31) (Ae : Option Addr) (ce : Nat) (A0 : Option Addr) (c0 : Nat) (l0 : List S31) (r : Int) (ge : Nat) (W : World) (hr0 : Kd.C k31 W A0 l0.length l0) (hg : W.heap[ge]? = some (.cells #[.int .i64 e.f0, .int .i64 e.f1, .int .i64 e.f2, .int .i64 e.f3, .int .i64 e.f4, .int .i64 e.f5.f0, .int .u64 e.f5.f1, .int .u64 e.f5.f2, .int .i64 e.f5.f3, .int .i64 e.f6.f0, .bool e.f6.f1, .int .u64 e.f6.f2, .slice Ae e.f6.f3.length ce] 31 (0, 0))) (h : hin_c.l0 e k l0 0 0 = some r) :
    Calls Try.prog 28 #[.slice A0 l0.length c0, .func (.func 31) #[] #[.pointer (some ⟨ge, 0, none⟩)]] W fun e w' => e = .returned (.int .i64 r) ∧ Below W.heap.size W w' := by
  have HR0 := Aside0.mk hr0
  have Bhg := Aside0.mk hg
  have H' := Aside0.mk h
  have HB := Aside0.mk (Below.refl W.heap.size W)
  clear hr0 h hg
  go_enter Try.func28, Try.ntmps28
  go_wp2
  go_loopg [5, 10] k (fun kq v5 v10 w' => ∃ (n i : Int), v5 = .int .i64 n ∧ v10 = .int .i64 i ∧ Aside0 (hin_c.l0 e kq l0 i n = some r) ∧ Aside0 (kq ≤ k) ∧ Aside0 (Below W.heap.size W w'))
  case atStart => exact ⟨0, 0, by rfl, by rfl, H', ⟨Nat.le_refl _⟩, ⟨by repeat (first | (with_reducible first | exact HB.out | apply below_alloc | apply pw_below_drewN | apply below_drew1) | exact HB.out)⟩⟩
  case round =>
    clear H'
    clear HB
    try clear p2
    obtain ⟨n, i, rfl, rfl, HA, HK1, HB⟩ := hrel
    cases gk with
    | zero => exact absurd HA.out (by simp [hin_c.l0])
    | succ k1 =>
      have H := HA.out
      clear HA
      simp only [hin_c.l0] at H
      by_cases c4 : i < (l0.length : Int)
      · rw [if_pos c4] at H
        have c4b0 : decide (i < (l0.length : Int)) = true := decide_eq_true c4
        by_cases c5 : 0 ≤ i
        · rw [if_pos c5] at H
          have c5b0 : decide (0 ≤ i) = true := decide_eq_true c5
          obtain ⟨ad, A12, c12, e12, hx0, hx1, hx2, hx3, hx4, hx5, hx6, hx7, hx8, hx9, hx10, hx11, hx12, hl12, hi12⟩ := at_T31 (hin_up HR0.out HB.out) i c5 c4
          cases e12
          have HI := Aside0.mk hi12
          have HL := Aside0.mk hl12
          clear hi12 hl12
          by_cases c6 : history_Inserts1.f (rd_T31 l0 i) e = true
          · rw [if_pos c6] at H
            have c6b0 : history_Inserts1.f (rd_T31 l0 i) e = true := c6
            have H' := Aside0.mk H
            clear H
            go_wp2_with (first | (go_at_call 31; (with_reducible refine (history_Inserts1.calls (rd_T31 l0 i) e A12 Ae c12 ce ge _ (blk_alloc (blk_below Bhg.out HB.out) _)).mono ?_); rintro e w1 ⟨rfl, hb⟩; have n0_ := Aside0.mk (below_step (below_alloc HB.out _) hb); clear HB hb; have HB := n0_; clear n0_))
            go_roundg k1
            case measure => have := HK1.out; omega
            case rel => exact ⟨wrap64 (n + 1), wrap64 (i + 1), (by first | rfl | (simp; done) | (simp [*]; done)), (by first | rfl | (simp; done) | (simp [*]; done)), H', ⟨by have := HK1.out; omega⟩, ⟨by repeat (first | (with_reducible first | exact HB.out | apply below_alloc | apply pw_below_drewN | apply below_drew1) | exact HB.out)⟩⟩
          · rw [if_neg c6] at H
            have c6b0 : history_Inserts1.f (rd_T31 l0 i) e = false := Bool.eq_false_iff.mpr c6
            have H' := Aside0.mk H
            clear H
            go_wp2_with (first | (go_at_call 31; (with_reducible refine (history_Inserts1.calls (rd_T31 l0 i) e A12 Ae c12 ce ge _ (blk_alloc (blk_below Bhg.out HB.out) _)).mono ?_); rintro e w1 ⟨rfl, hb⟩; have n0_ := Aside0.mk (below_step (below_alloc HB.out _) hb); clear HB hb; have HB := n0_; clear n0_))
            go_roundg k1
            case measure => have := HK1.out; omega
            case rel => exact ⟨n, wrap64 (i + 1), (by first | rfl | (simp; done) | (simp [*]; done)), (by first | rfl | (simp; done) | (simp [*]; done)), H', ⟨by have := HK1.out; omega⟩, ⟨by repeat (first | (with_reducible first | exact HB.out | apply below_alloc | apply pw_below_drewN | apply below_drew1) | exact HB.out)⟩⟩
        · rw [if_neg c5] at H
          exact absurd H (by simp)
      · rw [if_neg c4] at H
        have c4b0 : decide (i < (l0.length : Int)) = false := decide_eq_false c4
        clear c4
        obtain rfl := Option.some.inj H
        clear H
        go_wp2
        go_ret
        exact ⟨by first | rfl | (simp [*]; done), by repeat (first | (with_reducible first | exact HB.out | apply below_alloc | apply pw_below_drewN | apply below_drew1) | exact HB.out)⟩
set_option maxHeartbeats 8000000 in
set_option maxRecDepth 100000 in
theorem history_Inserts.law (k : Nat) (A0 : Option Addr) (c0 : Nat) (l0 : List S31) (e : S31) (Ae : Option Addr) (ce : Nat) (r : Int) (w : World) (hr0 : Kd.C k31 w A0 l0.length l0) (h : hin_c.l0 e k l0 0 0 = some r) :
    Calls Try.prog 17 #[.slice A0 l0.length c0, .agg #[.int .i64 e.f0, .int .i64 e.f1, .int .i64 e.f2, .int .i64 e.f3, .int .i64 e.f4, .int .i64 e.f5.f0, .int .u64 e.f5.f1, .int .u64 e.f5.f2, .int .i64 e.f5.f3, .int .i64 e.f6.f0, .bool e.f6.f1, .int .u64 e.f6.f2, .slice Ae e.f6.f3.length ce]] w fun e w' => e = .returned (.int .i64 r) ∧ Below w.heap.size w w' := by
  have hmf : ∀ (fn : Fn) (first cap : Array Value) (w : World), (Instr.makeFunc fn first cap).run Try.prog w = .ok (.func fn first cap) w := fun _ _ _ _ => rfl
  have HR0 := Aside0.mk hr0
  have H' := Aside0.mk h
  have HB := Aside0.mk (Below.refl w.heap.size w)
  clear hr0 h
  go_enter Try.func17, Try.ntmps17
  go_wp2_with (first | ((with_reducible refine gate_dst (N := 3) rfl ?_); refine box_event ?hg (N := 3) ?hd (cs := #[.int .i64 e.f0, .int .i64 e.f1, .int .i64 e.f2, .int .i64 e.f3, .int .i64 e.f4, .int .i64 e.f5.f0, .int .u64 e.f5.f1, .int .u64 e.f5.f2, .int .i64 e.f5.f3, .int .i64 e.f6.f0, .bool e.f6.f1, .int .u64 e.f6.f2, .slice Ae e.f6.f3.length ce]) (t := 31) ?hr ?_; (case hd => rfl); (case hg => rfl); (case hr => first | (go_simp; done) | (go_simp; rfl)); intro ge hg wb_ge hbox hb; have BKge := Aside0.mk hbox; have n0_ := Aside0.mk (below_step HB.out hb); clear HB; have HB := n0_; clear n0_; clear hb hbox hg) | (go_at_call 28; (with_reducible refine (hin_c.calls k e Ae ce A0 c0 l0 r ge _ (hin_up HR0.out HB.out) BKge.out H'.out).mono ?_); rintro e w1 ⟨rfl, hb⟩; have n0_ := Aside0.mk (below_step HB.out hb); clear HB hb; have HB := n0_; clear n0_))
  go_ret
  exact ⟨rfl, by repeat (first | (with_reducible first | exact HB.out | apply below_alloc | apply pw_below_drewN | apply below_drew1) | exact HB.out)⟩
def history_Inserts.f (k : Nat) (l0 : List S31) (a1_0 : Int) (a1_1 : Int) (a1_2 : Int) (a1_3 : Int) (a1_4 : Int) (a1_5 : Int) (a1_6 : Int) (a1_7 : Int) (a1_8 : Int) (a1_9 : Int) (a1_10 : Bool) (a1_11 : Int) (l1_12 : List S49) : Option Int := hin_c.l0 ⟨a1_0, a1_1, a1_2, a1_3, a1_4, ⟨a1_5, a1_6, a1_7, a1_8⟩, ⟨a1_9, a1_10, a1_11, l1_12⟩⟩ k l0 0 0
theorem history_Inserts.mono : ∀ l0 a1_0 a1_1 a1_2 a1_3 a1_4 a1_5 a1_6 a1_7 a1_8 a1_9 a1_10 a1_11 l1_12 k, LeO (history_Inserts.f k l0 a1_0 a1_1 a1_2 a1_3 a1_4 a1_5 a1_6 a1_7 a1_8 a1_9 a1_10 a1_11 l1_12) (history_Inserts.f (k + 1) l0 a1_0 a1_1 a1_2 a1_3 a1_4 a1_5 a1_6 a1_7 a1_8 a1_9 a1_10 a1_11 l1_12) := by
  intros
  exact hin_c.mono_l _ _ _ _ _
theorem history_Inserts.calls (k : Nat) (A0 : Option Addr) (c0 : Nat) (l0 : List S31) (a1_0 : Int) (a1_1 : Int) (a1_2 : Int) (a1_3 : Int) (a1_4 : Int) (a1_5 : Int) (a1_6 : Int) (a1_7 : Int) (a1_8 : Int) (a1_9 : Int) (a1_10 : Bool) (a1_11 : Int) (A1_12 : Option Addr) (c1_12 : Nat) (l1_12 : List S49) (r : Int) (w : World) (hr0 : Kd.C k31 w A0 l0.length l0) (hc0 : l0.length ≤ c0) (hr1_12 : Kd.C k49 w A1_12 l1_12.length l1_12) (hc1_12 : l1_12.length ≤ c1_12) (h : history_Inserts.f k l0 a1_0 a1_1 a1_2 a1_3 a1_4 a1_5 a1_6 a1_7 a1_8 a1_9 a1_10 a1_11 l1_12 = some r) :
    Calls Try.prog 17 #[.slice A0 l0.length c0, .agg #[.int .i64 a1_0, .int .i64 a1_1, .int .i64 a1_2, .int .i64 a1_3, .int .i64 a1_4, .int .i64 a1_5, .int .u64 a1_6, .int .u64 a1_7, .int .i64 a1_8, .int .i64 a1_9, .bool a1_10, .int .u64 a1_11, .slice A1_12 l1_12.length c1_12]] w fun e w' => e = .returned (.int .i64 r) ∧ Below w.heap.size w w' :=
  history_Inserts.law k A0 c0 l0 ⟨a1_0, a1_1, a1_2, a1_3, a1_4, ⟨a1_5, a1_6, a1_7, a1_8⟩, ⟨a1_9, a1_10, a1_11, l1_12⟩⟩ A1_12 c1_12 r w hr0 h


/-! ### history_Before: function 19 -/
def history_Before.f (a0_0 : Int) (a0_1 : Int) (a0_2 : Int) (a0_3 : Int) (a0_4 : Int) (a0_5 : Int) (a0_6 : Int) (a0_7 : Int) (a0_8 : Int) (a0_9 : Int) (a0_10 : Bool) (a0_11 : Int) (l0_12 : List (S49)) (a1_0 : Int) (a1_1 : Int) (a1_2 : Int) (a1_3 : Int) (a1_4 : Int) (a1_5 : Int) (a1_6 : Int) (a1_7 : Int) (a1_8 : Int) (a1_9 : Int) (a1_10 : Bool) (a1_11 : Int) (l1_12 : List (S49)) : Option (Bool) := if a0_3 ≥ 0 then (some (decide (a0_3 < a1_2))) else (some false)
set_option maxHeartbeats 8000000 in
set_option maxRecDepth 100000 in
theorem history_Before.calls (a0_0 : Int) (a0_1 : Int) (a0_2 : Int) (a0_3 : Int) (a0_4 : Int) (a0_5 : Int) (a0_6 : Int) (a0_7 : Int) (a0_8 : Int) (a0_9 : Int) (a0_10 : Bool) (a0_11 : Int) (A0_12 : Option Addr) (c0_12 : Nat) (l0_12 : List (S49)) (a1_0 : Int) (a1_1 : Int) (a1_2 : Int) (a1_3 : Int) (a1_4 : Int) (a1_5 : Int) (a1_6 : Int) (a1_7 : Int) (a1_8 : Int) (a1_9 : Int) (a1_10 : Bool) (a1_11 : Int) (A1_12 : Option Addr) (c1_12 : Nat) (l1_12 : List (S49)) (r : Bool) (w : World) (hr0_12 : Kd.C k49 w A0_12 l0_12.length l0_12) (hc0_12 : l0_12.length ≤ c0_12) (hr1_12 : Kd.C k49 w A1_12 l1_12.length l1_12) (hc1_12 : l1_12.length ≤ c1_12) (h : history_Before.f a0_0 a0_1 a0_2 a0_3 a0_4 a0_5 a0_6 a0_7 a0_8 a0_9 a0_10 a0_11 l0_12 a1_0 a1_1 a1_2 a1_3 a1_4 a1_5 a1_6 a1_7 a1_8 a1_9 a1_10 a1_11 l1_12 = some r) :
    Calls Try.prog 19 #[.agg #[.int .i64 a0_0, .int .i64 a0_1, .int .i64 a0_2, .int .i64 a0_3, .int .i64 a0_4, .int .i64 a0_5, .int .u64 a0_6, .int .u64 a0_7, .int .i64 a0_8, .int .i64 a0_9, .bool a0_10, .int .u64 a0_11, .slice A0_12 l0_12.length c0_12], .agg #[.int .i64 a1_0, .int .i64 a1_1, .int .i64 a1_2, .int .i64 a1_3, .int .i64 a1_4, .int .i64 a1_5, .int .u64 a1_6, .int .u64 a1_7, .int .i64 a1_8, .int .i64 a1_9, .bool a1_10, .int .u64 a1_11, .slice A1_12 l1_12.length c1_12]] w fun e w' => e = .returned (.bool r) ∧ Below w.heap.size w w' := by
  have hu31 := Try.underlying31
  have HR0_12 := Aside0.mk hr0_12
  have HC0_12 := Aside0.mk hc0_12
  clear hr0_12 hc0_12
  have HR1_12 := Aside0.mk hr1_12
  have HC1_12 := Aside0.mk hc1_12
  clear hr1_12 hc1_12
  have HB := Aside0.mk (Below.refl w.heap.size w)
  have H : (if a0_3 ≥ 0 then (some (decide (a0_3 < a1_2))) else (some false)) = some r := h
  clear h
  by_cases c3 : a0_3 ≥ 0
  · rw [if_pos c3] at H
    have c3b0 : decide (0 ≤ a0_3) = true := decide_eq_true c3
    clear c3
    obtain rfl := Option.some.inj H
    go_enter Try.func19, Try.ntmps19
    go_wp2_with (first | ((with_reducible refine gate_dst (N := 2) rfl ?_); refine box_event ?hg (N := 2) ?hd (cs := #[.int .i64 a0_0, .int .i64 a0_1, .int .i64 a0_2, .int .i64 a0_3, .int .i64 a0_4, .int .i64 a0_5, .int .u64 a0_6, .int .u64 a0_7, .int .i64 a0_8, .int .i64 a0_9, .bool a0_10, .int .u64 a0_11, .slice A0_12 l0_12.length c0_12]) (t := 31) ?hr ?_; (case hd => rfl); (case hg => rfl); (case hr => first | (go_simp; done) | (go_simp; rfl)); intro gb101 hg w4 hbox hb; have n0_ := Aside0.mk (below_step (by repeat (first | (with_reducible first | exact HB.out | apply below_alloc | apply pw_below_drewN | apply below_drew1) | exact HB.out)) hb); have n1_ := Aside0.mk (hbox); have n2_ := Aside0.mk ((by rw [hg]; exact (below_size (by repeat (first | (with_reducible first | exact HB.out | apply below_alloc | apply pw_below_drewN | apply below_drew1) | exact HB.out))) : w.heap.size ≤ gb101)); have n3_ := Aside0.mk ((by rw [hg]; exact (below_size (by repeat (first | (with_reducible first | exact HB.out | apply below_alloc | apply pw_below_drewN | apply below_drew1) | exact HB.out))) : w.heap.size ≤ gb101)); clear HB; have HB := n0_; have BK101 := n1_; have GW101 := n2_; have GE101 := n3_; clear n0_ n1_ n2_ n3_; clear hb hbox hg) | ((with_reducible refine gate_dst (N := 3) rfl ?_); refine box_event ?hg (N := 3) ?hd (cs := #[.int .i64 a1_0, .int .i64 a1_1, .int .i64 a1_2, .int .i64 a1_3, .int .i64 a1_4, .int .i64 a1_5, .int .u64 a1_6, .int .u64 a1_7, .int .i64 a1_8, .int .i64 a1_9, .bool a1_10, .int .u64 a1_11, .slice A1_12 l1_12.length c1_12]) (t := 31) ?hr ?_; (case hd => rfl); (case hg => rfl); (case hr => first | (go_simp; done) | (go_simp; rfl)); intro gb102 hg w5 hbox hb; have n0_ := Aside0.mk (blk_below (g := gb101) (o := .cells #[.int .i64 a0_0, .int .i64 a0_1, .int .i64 a0_2, .int .i64 a0_3, .int .i64 a0_4, .int .i64 a0_5, .int .u64 a0_6, .int .u64 a0_7, .int .i64 a0_8, .int .i64 a0_9, .bool a0_10, .int .u64 a0_11, .slice A0_12 l0_12.length c0_12] 31 (0, 0)) (by (with_reducible repeat (first | refine blk_drewN ?_ _ | refine blk_drew ?_ | refine blk_alloc ?_ _)); exact BK101.out) hb); have n1_ := Aside0.mk (below_step (by repeat (first | (with_reducible first | exact HB.out | apply below_alloc | apply pw_below_drewN | apply below_drew1 | refine below_set ?_ GE101.out) | exact HB.out)) hb); have n2_ := Aside0.mk (hbox); have n3_ := Aside0.mk ((by rw [hg]; exact (below_size (by repeat (first | (with_reducible first | exact HB.out | apply below_alloc | apply pw_below_drewN | apply below_drew1 | refine below_set ?_ GE101.out) | exact HB.out))) : w.heap.size ≤ gb102)); have n4_ := Aside0.mk ((by rw [hg]; exact (below_size (by repeat (first | (with_reducible first | exact HB.out | apply below_alloc | apply pw_below_drewN | apply below_drew1 | refine below_set ?_ GE101.out) | exact HB.out))) : w.heap.size ≤ gb102)); have n5_ := Aside0.mk ((by rw [hg]; exact Nat.ne_of_lt (blk_lt (g := gb101) (o := .cells #[.int .i64 a0_0, .int .i64 a0_1, .int .i64 a0_2, .int .i64 a0_3, .int .i64 a0_4, .int .i64 a0_5, .int .u64 a0_6, .int .u64 a0_7, .int .i64 a0_8, .int .i64 a0_9, .bool a0_10, .int .u64 a0_11, .slice A0_12 l0_12.length c0_12] 31 (0, 0)) (by (with_reducible repeat (first | refine blk_drewN ?_ _ | refine blk_drew ?_ | refine blk_alloc ?_ _)); exact BK101.out)) : gb101 ≠ gb102)); have n6_ := Aside0.mk ((by rw [hg]; exact Nat.ne_of_gt (blk_lt (g := gb101) (o := .cells #[.int .i64 a0_0, .int .i64 a0_1, .int .i64 a0_2, .int .i64 a0_3, .int .i64 a0_4, .int .i64 a0_5, .int .u64 a0_6, .int .u64 a0_7, .int .i64 a0_8, .int .i64 a0_9, .bool a0_10, .int .u64 a0_11, .slice A0_12 l0_12.length c0_12] 31 (0, 0)) (by (with_reducible repeat (first | refine blk_drewN ?_ _ | refine blk_drew ?_ | refine blk_alloc ?_ _)); exact BK101.out)) : gb102 ≠ gb101)); clear BK101; clear HB; have BK101 := n0_; have HB := n1_; have BK102 := n2_; have GW102 := n3_; have GE102 := n4_; have NB101_102 := n5_; have NB102_101 := n6_; clear n0_ n1_ n2_ n3_ n4_ n5_ n6_; clear hb hbox hg; have hnb6 := NB101_102.out; have hnc6 := NB102_101.out; have hcz7_0 : w5.cell? ⟨gb101, 0, none⟩ = some (.int .i64 a0_0) := (blk_cell BK101.out 0).trans rfl; have hcz7_1 : w5.cell? ⟨gb101, 1, none⟩ = some (.int .i64 a0_1) := (blk_cell BK101.out 1).trans rfl; have hcz7_2 : w5.cell? ⟨gb101, 2, none⟩ = some (.int .i64 a0_2) := (blk_cell BK101.out 2).trans rfl; have hcz7_3 : w5.cell? ⟨gb101, 3, none⟩ = some (.int .i64 a0_3) := (blk_cell BK101.out 3).trans rfl; have hcz7_4 : w5.cell? ⟨gb101, 4, none⟩ = some (.int .i64 a0_4) := (blk_cell BK101.out 4).trans rfl; have hcz7_5 : w5.cell? ⟨gb101, 5, none⟩ = some (.int .i64 a0_5) := (blk_cell BK101.out 5).trans rfl; have hcz7_6 : w5.cell? ⟨gb101, 6, none⟩ = some (.int .u64 a0_6) := (blk_cell BK101.out 6).trans rfl; have hcz7_7 : w5.cell? ⟨gb101, 7, none⟩ = some (.int .u64 a0_7) := (blk_cell BK101.out 7).trans rfl; have hcz7_8 : w5.cell? ⟨gb101, 8, none⟩ = some (.int .i64 a0_8) := (blk_cell BK101.out 8).trans rfl; have hcz7_9 : w5.cell? ⟨gb101, 9, none⟩ = some (.int .i64 a0_9) := (blk_cell BK101.out 9).trans rfl; have hcz7_10 : w5.cell? ⟨gb101, 10, none⟩ = some (.bool a0_10) := (blk_cell BK101.out 10).trans rfl; have hcz7_11 : w5.cell? ⟨gb101, 11, none⟩ = some (.int .u64 a0_11) := (blk_cell BK101.out 11).trans rfl; have hcz7_12 : w5.cell? ⟨gb101, 12, none⟩ = some (.slice A0_12 l0_12.length c0_12) := (blk_cell BK101.out 12).trans rfl; have hfz7_0 := blk_frozen BK101.out 0; have hfz7_1 := blk_frozen BK101.out 1; have hfz7_2 := blk_frozen BK101.out 2; have hfz7_3 := blk_frozen BK101.out 3; have hfz7_4 := blk_frozen BK101.out 4; have hfz7_5 := blk_frozen BK101.out 5; have hfz7_6 := blk_frozen BK101.out 6; have hfz7_7 := blk_frozen BK101.out 7; have hfz7_8 := blk_frozen BK101.out 8; have hfz7_9 := blk_frozen BK101.out 9; have hfz7_10 := blk_frozen BK101.out 10; have hfz7_11 := blk_frozen BK101.out 11; have hfz7_12 := blk_frozen BK101.out 12; have hcz8_0 : w5.cell? ⟨gb102, 0, none⟩ = some (.int .i64 a1_0) := (blk_cell BK102.out 0).trans rfl; have hcz8_1 : w5.cell? ⟨gb102, 1, none⟩ = some (.int .i64 a1_1) := (blk_cell BK102.out 1).trans rfl; have hcz8_2 : w5.cell? ⟨gb102, 2, none⟩ = some (.int .i64 a1_2) := (blk_cell BK102.out 2).trans rfl; have hcz8_3 : w5.cell? ⟨gb102, 3, none⟩ = some (.int .i64 a1_3) := (blk_cell BK102.out 3).trans rfl; have hcz8_4 : w5.cell? ⟨gb102, 4, none⟩ = some (.int .i64 a1_4) := (blk_cell BK102.out 4).trans rfl; have hcz8_5 : w5.cell? ⟨gb102, 5, none⟩ = some (.int .i64 a1_5) := (blk_cell BK102.out 5).trans rfl; have hcz8_6 : w5.cell? ⟨gb102, 6, none⟩ = some (.int .u64 a1_6) := (blk_cell BK102.out 6).trans rfl; have hcz8_7 : w5.cell? ⟨gb102, 7, none⟩ = some (.int .u64 a1_7) := (blk_cell BK102.out 7).trans rfl; have hcz8_8 : w5.cell? ⟨gb102, 8, none⟩ = some (.int .i64 a1_8) := (blk_cell BK102.out 8).trans rfl; have hcz8_9 : w5.cell? ⟨gb102, 9, none⟩ = some (.int .i64 a1_9) := (blk_cell BK102.out 9).trans rfl; have hcz8_10 : w5.cell? ⟨gb102, 10, none⟩ = some (.bool a1_10) := (blk_cell BK102.out 10).trans rfl; have hcz8_11 : w5.cell? ⟨gb102, 11, none⟩ = some (.int .u64 a1_11) := (blk_cell BK102.out 11).trans rfl; have hcz8_12 : w5.cell? ⟨gb102, 12, none⟩ = some (.slice A1_12 l1_12.length c1_12) := (blk_cell BK102.out 12).trans rfl; have hfz8_0 := blk_frozen BK102.out 0; have hfz8_1 := blk_frozen BK102.out 1; have hfz8_2 := blk_frozen BK102.out 2; have hfz8_3 := blk_frozen BK102.out 3; have hfz8_4 := blk_frozen BK102.out 4; have hfz8_5 := blk_frozen BK102.out 5; have hfz8_6 := blk_frozen BK102.out 6; have hfz8_7 := blk_frozen BK102.out 7; have hfz8_8 := blk_frozen BK102.out 8; have hfz8_9 := blk_frozen BK102.out 9; have hfz8_10 := blk_frozen BK102.out 10; have hfz8_11 := blk_frozen BK102.out 11; have hfz8_12 := blk_frozen BK102.out 12))
    go_ret
    exact ⟨by first | rfl | (simp [errW_none, errW_some] <;> rfl) | (simp [*, errW_none, errW_some] <;> rfl), by repeat (first | (with_reducible first | exact HB.out | apply below_alloc | apply pw_below_drewN | apply below_drew1 | refine below_set ?_ GE101.out | refine below_set ?_ GE102.out) | exact HB.out)⟩
  · rw [if_neg c3] at H
    have c3b0 : decide (0 ≤ a0_3) = false := decide_eq_false c3
    clear c3
    obtain rfl := Option.some.inj H
    go_enter Try.func19, Try.ntmps19
    go_wp2_with (first | ((with_reducible refine gate_dst (N := 2) rfl ?_); refine box_event ?hg (N := 2) ?hd (cs := #[.int .i64 a0_0, .int .i64 a0_1, .int .i64 a0_2, .int .i64 a0_3, .int .i64 a0_4, .int .i64 a0_5, .int .u64 a0_6, .int .u64 a0_7, .int .i64 a0_8, .int .i64 a0_9, .bool a0_10, .int .u64 a0_11, .slice A0_12 l0_12.length c0_12]) (t := 31) ?hr ?_; (case hd => rfl); (case hg => rfl); (case hr => first | (go_simp; done) | (go_simp; rfl)); intro gb101 hg w9 hbox hb; have n0_ := Aside0.mk (below_step (by repeat (first | (with_reducible first | exact HB.out | apply below_alloc | apply pw_below_drewN | apply below_drew1) | exact HB.out)) hb); have n1_ := Aside0.mk (hbox); have n2_ := Aside0.mk ((by rw [hg]; exact (below_size (by repeat (first | (with_reducible first | exact HB.out | apply below_alloc | apply pw_below_drewN | apply below_drew1) | exact HB.out))) : w.heap.size ≤ gb101)); have n3_ := Aside0.mk ((by rw [hg]; exact (below_size (by repeat (first | (with_reducible first | exact HB.out | apply below_alloc | apply pw_below_drewN | apply below_drew1) | exact HB.out))) : w.heap.size ≤ gb101)); clear HB; have HB := n0_; have BK101 := n1_; have GW101 := n2_; have GE101 := n3_; clear n0_ n1_ n2_ n3_; clear hb hbox hg) | ((with_reducible refine gate_dst (N := 3) rfl ?_); refine box_event ?hg (N := 3) ?hd (cs := #[.int .i64 a1_0, .int .i64 a1_1, .int .i64 a1_2, .int .i64 a1_3, .int .i64 a1_4, .int .i64 a1_5, .int .u64 a1_6, .int .u64 a1_7, .int .i64 a1_8, .int .i64 a1_9, .bool a1_10, .int .u64 a1_11, .slice A1_12 l1_12.length c1_12]) (t := 31) ?hr ?_; (case hd => rfl); (case hg => rfl); (case hr => first | (go_simp; done) | (go_simp; rfl)); intro gb102 hg w10 hbox hb; have n0_ := Aside0.mk (blk_below (g := gb101) (o := .cells #[.int .i64 a0_0, .int .i64 a0_1, .int .i64 a0_2, .int .i64 a0_3, .int .i64 a0_4, .int .i64 a0_5, .int .u64 a0_6, .int .u64 a0_7, .int .i64 a0_8, .int .i64 a0_9, .bool a0_10, .int .u64 a0_11, .slice A0_12 l0_12.length c0_12] 31 (0, 0)) (by (with_reducible repeat (first | refine blk_drewN ?_ _ | refine blk_drew ?_ | refine blk_alloc ?_ _)); exact BK101.out) hb); have n1_ := Aside0.mk (below_step (by repeat (first | (with_reducible first | exact HB.out | apply below_alloc | apply pw_below_drewN | apply below_drew1 | refine below_set ?_ GE101.out) | exact HB.out)) hb); have n2_ := Aside0.mk (hbox); have n3_ := Aside0.mk ((by rw [hg]; exact (below_size (by repeat (first | (with_reducible first | exact HB.out | apply below_alloc | apply pw_below_drewN | apply below_drew1 | refine below_set ?_ GE101.out) | exact HB.out))) : w.heap.size ≤ gb102)); have n4_ := Aside0.mk ((by rw [hg]; exact (below_size (by repeat (first | (with_reducible first | exact HB.out | apply below_alloc | apply pw_below_drewN | apply below_drew1 | refine below_set ?_ GE101.out) | exact HB.out))) : w.heap.size ≤ gb102)); have n5_ := Aside0.mk ((by rw [hg]; exact Nat.ne_of_lt (blk_lt (g := gb101) (o := .cells #[.int .i64 a0_0, .int .i64 a0_1, .int .i64 a0_2, .int .i64 a0_3, .int .i64 a0_4, .int .i64 a0_5, .int .u64 a0_6, .int .u64 a0_7, .int .i64 a0_8, .int .i64 a0_9, .bool a0_10, .int .u64 a0_11, .slice A0_12 l0_12.length c0_12] 31 (0, 0)) (by (with_reducible repeat (first | refine blk_drewN ?_ _ | refine blk_drew ?_ | refine blk_alloc ?_ _)); exact BK101.out)) : gb101 ≠ gb102)); have n6_ := Aside0.mk ((by rw [hg]; exact Nat.ne_of_gt (blk_lt (g := gb101) (o := .cells #[.int .i64 a0_0, .int .i64 a0_1, .int .i64 a0_2, .int .i64 a0_3, .int .i64 a0_4, .int .i64 a0_5, .int .u64 a0_6, .int .u64 a0_7, .int .i64 a0_8, .int .i64 a0_9, .bool a0_10, .int .u64 a0_11, .slice A0_12 l0_12.length c0_12] 31 (0, 0)) (by (with_reducible repeat (first | refine blk_drewN ?_ _ | refine blk_drew ?_ | refine blk_alloc ?_ _)); exact BK101.out)) : gb102 ≠ gb101)); clear BK101; clear HB; have BK101 := n0_; have HB := n1_; have BK102 := n2_; have GW102 := n3_; have GE102 := n4_; have NB101_102 := n5_; have NB102_101 := n6_; clear n0_ n1_ n2_ n3_ n4_ n5_ n6_; clear hb hbox hg; have hnb11 := NB101_102.out; have hnc11 := NB102_101.out; have hcz12_0 : w10.cell? ⟨gb101, 0, none⟩ = some (.int .i64 a0_0) := (blk_cell BK101.out 0).trans rfl; have hcz12_1 : w10.cell? ⟨gb101, 1, none⟩ = some (.int .i64 a0_1) := (blk_cell BK101.out 1).trans rfl; have hcz12_2 : w10.cell? ⟨gb101, 2, none⟩ = some (.int .i64 a0_2) := (blk_cell BK101.out 2).trans rfl; have hcz12_3 : w10.cell? ⟨gb101, 3, none⟩ = some (.int .i64 a0_3) := (blk_cell BK101.out 3).trans rfl; have hcz12_4 : w10.cell? ⟨gb101, 4, none⟩ = some (.int .i64 a0_4) := (blk_cell BK101.out 4).trans rfl; have hcz12_5 : w10.cell? ⟨gb101, 5, none⟩ = some (.int .i64 a0_5) := (blk_cell BK101.out 5).trans rfl; have hcz12_6 : w10.cell? ⟨gb101, 6, none⟩ = some (.int .u64 a0_6) := (blk_cell BK101.out 6).trans rfl; have hcz12_7 : w10.cell? ⟨gb101, 7, none⟩ = some (.int .u64 a0_7) := (blk_cell BK101.out 7).trans rfl; have hcz12_8 : w10.cell? ⟨gb101, 8, none⟩ = some (.int .i64 a0_8) := (blk_cell BK101.out 8).trans rfl; have hcz12_9 : w10.cell? ⟨gb101, 9, none⟩ = some (.int .i64 a0_9) := (blk_cell BK101.out 9).trans rfl; have hcz12_10 : w10.cell? ⟨gb101, 10, none⟩ = some (.bool a0_10) := (blk_cell BK101.out 10).trans rfl; have hcz12_11 : w10.cell? ⟨gb101, 11, none⟩ = some (.int .u64 a0_11) := (blk_cell BK101.out 11).trans rfl; have hcz12_12 : w10.cell? ⟨gb101, 12, none⟩ = some (.slice A0_12 l0_12.length c0_12) := (blk_cell BK101.out 12).trans rfl; have hfz12_0 := blk_frozen BK101.out 0; have hfz12_1 := blk_frozen BK101.out 1; have hfz12_2 := blk_frozen BK101.out 2; have hfz12_3 := blk_frozen BK101.out 3; have hfz12_4 := blk_frozen BK101.out 4; have hfz12_5 := blk_frozen BK101.out 5; have hfz12_6 := blk_frozen BK101.out 6; have hfz12_7 := blk_frozen BK101.out 7; have hfz12_8 := blk_frozen BK101.out 8; have hfz12_9 := blk_frozen BK101.out 9; have hfz12_10 := blk_frozen BK101.out 10; have hfz12_11 := blk_frozen BK101.out 11; have hfz12_12 := blk_frozen BK101.out 12))
    go_ret
    exact ⟨by first | rfl | (simp [errW_none, errW_some] <;> rfl) | (simp [*, errW_none, errW_some] <;> rfl), by repeat (first | (with_reducible first | exact HB.out | apply below_alloc | apply pw_below_drewN | apply below_drew1 | refine below_set ?_ GE101.out | refine below_set ?_ GE102.out) | exact HB.out)⟩

end Go.Proofs.Ytpcmoclohepdiad.PHistorySize
