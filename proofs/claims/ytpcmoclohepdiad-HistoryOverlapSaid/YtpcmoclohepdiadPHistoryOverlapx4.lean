-- Written by a program of this session: a variant of the print that takes proofs by hand (wip/tools/mkprint.py)
import Derived.Test.YtpcmoclohepdiadPHistoryOverlapx0
import Derived.Test.YtpcmoclohepdiadPHistoryOverlapx2
import Derived.Test.YtpcmoclohepdiadPHistoryOverlapx3
namespace Go.Proofs.Ytpcmoclohepdiad.PHistoryOverlap
open Go.RowKit Go.Proofs.YtpcmoclohepdiadW.PrintWords Go.Proofs.YtpcmoclohepdiadW.PrintLast Go.Proofs.YtpcmoclohepdiadW.PrintMore
attribute [local go_sem] max2_int min2_int max_two min_two max_three min_three max_four min_four   -- for this text's walks alone
set_option linter.unusedVariables false
set_option linter.unusedSimpArgs false

/-! ### corrielaw19_HistoryOverlap: function 7 (by hand) -/
theorem blk_put {w : World} {g i : Nat} {cs : Array Value} {t : TypeId} {fr : Nat × Nat} (h : w.heap[g]? = some (.cells cs t fr)) (v : Value) : (w.setCell ⟨g, i, none⟩ v).heap[g]? = some (.cells (cs.setIfInBounds i v) t fr) := by
  rw [setCell_eq_setRow w g i cs t fr v h]
  exact setRow_heap w g cs _ t fr h
theorem blk_far {w : World} {g k i : Nat} {o : Obj} (h : w.heap[k]? = some o) (hne : k ≠ g) (v : Value) : (w.setCell ⟨g, i, none⟩ v).heap[k]? = some o := (Below.heap_setCell w ⟨g, i, none⟩ v k hne).trans h
theorem evC1 {W : World} {g : Nat} {x : S31} {A : Option Addr} {c : Nat} (hl : x.f6.f3.length ≤ c) (hr : Kd.C k49 W A x.f6.f3.length x.f6.f3) (hg : W.heap[g]? = some (.cells #[.int .i64 x.f0, .int .i64 x.f1, .int .i64 x.f2, .int .i64 x.f3, .int .i64 x.f4, .int .i64 x.f5.f0, .int .u64 x.f5.f1, .int .u64 x.f5.f2, .int .i64 x.f5.f3, .int .i64 x.f6.f0, .bool x.f6.f1, .int .u64 x.f6.f2, .slice A x.f6.f3.length c] 31 (0, 0))) : Kd.C k31 W (some ⟨g, 0, none⟩) 1 [x] := by
  refine ⟨rfl, by decide, fun _ => ⟨_, rfl, fun j p hj => ?_⟩⟩
  cases j with
  | succ j => simp at hj
  | zero =>
    simp at hj
    subst hj
    refine ⟨_, rfl, k31_mk W x hl hr, fun i u hu => ?_⟩
    have h : W.cell? ⟨g, i, none⟩ = (#[.int .i64 x.f0, .int .i64 x.f1, .int .i64 x.f2, .int .i64 x.f3, .int .i64 x.f4, .int .i64 x.f5.f0, .int .u64 x.f5.f1, .int .u64 x.f5.f2, .int .i64 x.f5.f3, .int .i64 x.f6.f0, .bool x.f6.f1, .int .u64 x.f6.f2, .slice A x.f6.f3.length c] : Array Value)[i]? := blk_cell hg i
    rw [show (⟨g, 0, none⟩ : Addr).add (0 * k31.sz + i) = ⟨g, i, none⟩ from by first | (simp [Addr.add]; done) | (simp [Addr.add]; intro h0; exact h0.symm)]
    rw [h]
    simpa using hu
def corrielaw19_HistoryOverlap.T6 : Bool × List (List Nat × List Nat) := (true, [([], []), ([0], [0]), ([1], [1]), ([2, 1], [1, 2]), ([1], [1]), ([3, 4, 1, 1], [1, 3, 4]), ([5, 1], [1, 5]), ([1, 6], [1, 6]), ([7, 5], [7]), ([8], [8]), ([9, 8], [8, 9]), ([8], [8]), ([10, 11, 8, 8], [8, 10, 11]), ([8], [8]), ([13, 8], [8, 13]), ([8], [8]), ([14, 15, 12, 8], [8, 14, 15]), ([12, 16, 8], [8, 12, 16]), ([8, 17], [8, 17]), ([18, 16], [18]), ([19], [19]), ([20, 19, 19], [19, 20]), ([21, 19], [19, 21]), ([19, 22], [19, 22]), ([23, 21, 0, 1, 2, 3, 4, 5, 6, 7, 8, 9, 10, 11, 12, 13, 14, 15, 16, 17, 18, 19, 20, 21, 22, 23], [23])])
def corrielaw19_HistoryOverlap.B6 : List Nat := [0, 1, 3, 7, 3, 31, 63, 127, 255, 511, 1023, 511, 4095, 511, 8703, 511, 65535, 131071, 262143, 524287, 1048575, 2097151, 4194303, 8388607, 16777215]
theorem corrielaw19_HistoryOverlap.tab6 : rtab .any (opsOf Try.f7 6) = corrielaw19_HistoryOverlap.T6 := by kernel_rfl
theorem corrielaw19_HistoryOverlap.bits6 : waitsOk corrielaw19_HistoryOverlap.T6.2 corrielaw19_HistoryOverlap.B6 = true := by kernel_rfl
def corrielaw19_HistoryOverlap.g (k : Nat) (a b : S31) : Option Bool := if a.f3 ≥ 0 ∧ a.f3 < a.f2 then some true else (hin_c.l0 ({ a with f5 := { a.f5 with f0 := 1 } } : S31) k [({ a with f5 := { a.f5 with f0 := 1 } } : S31)] 0 0).bind fun p => (hin_c.l0 ({ b with f5 := { b.f5 with f0 := 1 } } : S31) k [({ a with f5 := { a.f5 with f0 := 1 } } : S31)] 0 0).bind fun q => (hin_c.l0 ({ a with f5 := { a.f5 with f0 := 1 } } : S31) k [({ b with f5 := { b.f5 with f0 := 1 } } : S31)] 0 0).bind fun q2 => (hin_c.l0 ({ a with f5 := { a.f5 with f0 := 1 } } : S31) k [] 0 0).bind fun s => if p = 1 ∧ q = q2 ∧ s = 0 then some true else none
theorem corrielaw19_HistoryOverlap.gmono (a b : S31) (k : Nat) : LeO (corrielaw19_HistoryOverlap.g k a b) (corrielaw19_HistoryOverlap.g (k + 1) a b) := by
  unfold corrielaw19_HistoryOverlap.g
  exact LeO.ite (LeO.refl _) (LeO.bind (hin_c.mono_l _ _ _ _ _) (fun _ => LeO.bind (hin_c.mono_l _ _ _ _ _) (fun _ => LeO.bind (hin_c.mono_l _ _ _ _ _) (fun _ => LeO.bind (hin_c.mono_l _ _ _ _ _) (fun _ => LeO.refl _)))))
set_option maxHeartbeats 8000000 in
set_option maxRecDepth 100000 in
theorem corrielaw19_HistoryOverlap.law (k : Nat) (a b : S31) (A B : Option Addr) (c d : Nat) (r : Bool) (w : World) (hra : Kd.C k49 w A a.f6.f3.length a.f6.f3) (hca : a.f6.f3.length ≤ c) (hrb : Kd.C k49 w B b.f6.f3.length b.f6.f3) (hcb : b.f6.f3.length ≤ d) (h : corrielaw19_HistoryOverlap.g k a b = some r) :
    Calls Try.prog 7 #[.agg #[.int .i64 a.f0, .int .i64 a.f1, .int .i64 a.f2, .int .i64 a.f3, .int .i64 a.f4, .int .i64 a.f5.f0, .int .u64 a.f5.f1, .int .u64 a.f5.f2, .int .i64 a.f5.f3, .int .i64 a.f6.f0, .bool a.f6.f1, .int .u64 a.f6.f2, .slice A a.f6.f3.length c], .agg #[.int .i64 b.f0, .int .i64 b.f1, .int .i64 b.f2, .int .i64 b.f3, .int .i64 b.f4, .int .i64 b.f5.f0, .int .u64 b.f5.f1, .int .u64 b.f5.f2, .int .i64 b.f5.f3, .int .i64 b.f6.f0, .bool b.f6.f1, .int .u64 b.f6.f2, .slice B b.f6.f3.length d]] w fun e w' => e = .returned (.bool r) ∧ Below w.heap.size w w' := by
  have HRA := Aside0.mk hra
  have HRB := Aside0.mk hrb
  have HCA := Aside0.mk hca
  have HCB := Aside0.mk hcb
  have HB := Aside0.mk (Below.refl w.heap.size w)
  clear hra hca hrb hcb
  unfold corrielaw19_HistoryOverlap.g at h
  by_cases q1 : a.f3 ≥ 0
  · have q1b : decide (0 ≤ a.f3) = true := decide_eq_true q1
    by_cases q2 : a.f3 < a.f2
    · have q2b : decide (a.f3 < a.f2) = true := decide_eq_true q2
      rw [if_pos ⟨q1, q2⟩] at h
      clear q1 q2
      obtain rfl := Option.some.inj h
      clear h
      go_enter Try.func7, Try.ntmps7
      go_wp2_with (first | ((with_reducible refine gate_dst (N := 2) rfl ?_); refine box_event ?hg (N := 2) ?hd (cs := #[.int .i64 a.f0, .int .i64 a.f1, .int .i64 a.f2, .int .i64 a.f3, .int .i64 a.f4, .int .i64 a.f5.f0, .int .u64 a.f5.f1, .int .u64 a.f5.f2, .int .i64 a.f5.f3, .int .i64 a.f6.f0, .bool a.f6.f1, .int .u64 a.f6.f2, .slice A a.f6.f3.length c]) (t := 31) ?hr ?_; (case hd => rfl); (case hg => rfl); (case hr => first | (go_simp; done) | (go_simp; rfl)); intro ga hg wb_ga hbox hb; have BKga := Aside0.mk hbox; have n0_ := Aside0.mk (below_step HB.out hb); clear HB; have HB := n0_; clear n0_; have HGA := Aside0.mk (show w.heap.size ≤ ga from by omega); clear hb hbox hg) | ((with_reducible refine gate_dst (N := 3) rfl ?_); refine box_event ?hg (N := 3) ?hd (cs := #[.int .i64 b.f0, .int .i64 b.f1, .int .i64 b.f2, .int .i64 b.f3, .int .i64 b.f4, .int .i64 b.f5.f0, .int .u64 b.f5.f1, .int .u64 b.f5.f2, .int .i64 b.f5.f3, .int .i64 b.f6.f0, .bool b.f6.f1, .int .u64 b.f6.f2, .slice B b.f6.f3.length d]) (t := 31) ?hr ?_; (case hd => rfl); (case hg => rfl); (case hr => first | (go_simp; done) | (go_simp; rfl)); have HB1 := HB; intro gb hg wb_gb hbox hb; have BKgb := Aside0.mk hbox; have BKga0 := BKga; have n_BKga := Aside0.mk (blk_below (g := ga) (o := .cells #[.int .i64 a.f0, .int .i64 a.f1, .int .i64 a.f2, .int .i64 a.f3, .int .i64 a.f4, .int .i64 a.f5.f0, .int .u64 a.f5.f1, .int .u64 a.f5.f2, .int .i64 a.f5.f3, .int .i64 a.f6.f0, .bool a.f6.f1, .int .u64 a.f6.f2, .slice A a.f6.f3.length c] 31 (0, 0)) BKga.out hb); clear BKga; have BKga := n_BKga; clear n_BKga; have hab : ¬ ga = gb := (by have := blk_lt BKga0.out; omega); have hba : ¬ gb = ga := (by have := blk_lt BKga0.out; omega); clear BKga0; have n0_ := Aside0.mk (below_step HB.out hb); clear HB; have HB := n0_; clear n0_; have HGB := Aside0.mk (show w.heap.size ≤ gb from by have := HB1.out.size; omega); clear hb hbox hg HB1) | (go_at_call 8; (with_reducible refine (corrielaw19_awake.calls true _ rfl).mono ?_); rintro e w1 ⟨rfl, hb⟩; have n_BKga := Aside0.mk (blk_below (g := ga) (o := .cells #[.int .i64 a.f0, .int .i64 a.f1, .int .i64 a.f2, .int .i64 a.f3, .int .i64 a.f4, .int .i64 a.f5.f0, .int .u64 a.f5.f1, .int .u64 a.f5.f2, .int .i64 a.f5.f3, .int .i64 a.f6.f0, .bool a.f6.f1, .int .u64 a.f6.f2, .slice A a.f6.f3.length c] 31 (0, 0)) BKga.out hb); clear BKga; have BKga := n_BKga; clear n_BKga; have n_BKgb := Aside0.mk (blk_below (g := gb) (o := .cells #[.int .i64 b.f0, .int .i64 b.f1, .int .i64 b.f2, .int .i64 b.f3, .int .i64 b.f4, .int .i64 b.f5.f0, .int .u64 b.f5.f1, .int .u64 b.f5.f2, .int .i64 b.f5.f3, .int .i64 b.f6.f0, .bool b.f6.f1, .int .u64 b.f6.f2, .slice B b.f6.f3.length d] 31 (0, 0)) BKgb.out hb); clear BKgb; have BKgb := n_BKgb; clear n_BKgb; have n0_ := Aside0.mk (below_step HB.out hb); clear HB hb; have HB := n0_; clear n0_; have cga_0 : w1.cell? ⟨ga, 0, none⟩ = some (.int .i64 a.f0) := (blk_cell BKga.out 0).trans rfl; have cga_1 : w1.cell? ⟨ga, 1, none⟩ = some (.int .i64 a.f1) := (blk_cell BKga.out 1).trans rfl; have cga_2 : w1.cell? ⟨ga, 2, none⟩ = some (.int .i64 a.f2) := (blk_cell BKga.out 2).trans rfl; have cga_3 : w1.cell? ⟨ga, 3, none⟩ = some (.int .i64 a.f3) := (blk_cell BKga.out 3).trans rfl; have cga_4 : w1.cell? ⟨ga, 4, none⟩ = some (.int .i64 a.f4) := (blk_cell BKga.out 4).trans rfl; have cga_5 : w1.cell? ⟨ga, 5, none⟩ = some (.int .i64 a.f5.f0) := (blk_cell BKga.out 5).trans rfl; have cga_6 : w1.cell? ⟨ga, 6, none⟩ = some (.int .u64 a.f5.f1) := (blk_cell BKga.out 6).trans rfl; have cga_7 : w1.cell? ⟨ga, 7, none⟩ = some (.int .u64 a.f5.f2) := (blk_cell BKga.out 7).trans rfl; have cga_8 : w1.cell? ⟨ga, 8, none⟩ = some (.int .i64 a.f5.f3) := (blk_cell BKga.out 8).trans rfl; have cga_9 : w1.cell? ⟨ga, 9, none⟩ = some (.int .i64 a.f6.f0) := (blk_cell BKga.out 9).trans rfl; have cga_10 : w1.cell? ⟨ga, 10, none⟩ = some (.bool a.f6.f1) := (blk_cell BKga.out 10).trans rfl; have cga_11 : w1.cell? ⟨ga, 11, none⟩ = some (.int .u64 a.f6.f2) := (blk_cell BKga.out 11).trans rfl; have cga_12 : w1.cell? ⟨ga, 12, none⟩ = some (.slice A a.f6.f3.length c) := (blk_cell BKga.out 12).trans rfl; have cgb_0 : w1.cell? ⟨gb, 0, none⟩ = some (.int .i64 b.f0) := (blk_cell BKgb.out 0).trans rfl; have cgb_1 : w1.cell? ⟨gb, 1, none⟩ = some (.int .i64 b.f1) := (blk_cell BKgb.out 1).trans rfl; have cgb_2 : w1.cell? ⟨gb, 2, none⟩ = some (.int .i64 b.f2) := (blk_cell BKgb.out 2).trans rfl; have cgb_3 : w1.cell? ⟨gb, 3, none⟩ = some (.int .i64 b.f3) := (blk_cell BKgb.out 3).trans rfl; have cgb_4 : w1.cell? ⟨gb, 4, none⟩ = some (.int .i64 b.f4) := (blk_cell BKgb.out 4).trans rfl; have cgb_5 : w1.cell? ⟨gb, 5, none⟩ = some (.int .i64 b.f5.f0) := (blk_cell BKgb.out 5).trans rfl; have cgb_6 : w1.cell? ⟨gb, 6, none⟩ = some (.int .u64 b.f5.f1) := (blk_cell BKgb.out 6).trans rfl; have cgb_7 : w1.cell? ⟨gb, 7, none⟩ = some (.int .u64 b.f5.f2) := (blk_cell BKgb.out 7).trans rfl; have cgb_8 : w1.cell? ⟨gb, 8, none⟩ = some (.int .i64 b.f5.f3) := (blk_cell BKgb.out 8).trans rfl; have cgb_9 : w1.cell? ⟨gb, 9, none⟩ = some (.int .i64 b.f6.f0) := (blk_cell BKgb.out 9).trans rfl; have cgb_10 : w1.cell? ⟨gb, 10, none⟩ = some (.bool b.f6.f1) := (blk_cell BKgb.out 10).trans rfl; have cgb_11 : w1.cell? ⟨gb, 11, none⟩ = some (.int .u64 b.f6.f2) := (blk_cell BKgb.out 11).trans rfl; have cgb_12 : w1.cell? ⟨gb, 12, none⟩ = some (.slice B b.f6.f3.length d) := (blk_cell BKgb.out 12).trans rfl; have fga : w1.frozen? ⟨ga, 5, none⟩ = false := (by simp [World.frozen?, BKga.out]); have fgb : w1.frozen? ⟨gb, 5, none⟩ = false := (by simp [World.frozen?, BKgb.out])))
      go_ret
      exact ⟨by first | rfl | (simp; done), by first | exact (HB.out.setCell (p := ⟨ga, 5, none⟩) HGA.out _).setCell (p := ⟨gb, 5, none⟩) HGB.out _⟩
    · have q2b : decide (a.f3 < a.f2) = false := decide_eq_false q2
      rw [if_neg (fun h => q2 h.2)] at h
      clear q1 q2
      obtain ⟨p, hp, h⟩ := Option.bind_eq_some_iff.mp h
      obtain ⟨q, hq, h⟩ := Option.bind_eq_some_iff.mp h
      obtain ⟨q2, hq2, h⟩ := Option.bind_eq_some_iff.mp h
      obtain ⟨s, hs, h⟩ := Option.bind_eq_some_iff.mp h
      by_cases cc : p = 1 ∧ q = q2 ∧ s = 0
      rotate_left
      · rw [if_neg cc] at h
        cases h
      rw [if_pos cc] at h
      obtain rfl := Option.some.inj h
      obtain ⟨rfl, rfl, rfl⟩ := cc
      have Hp := Aside0.mk hp
      have Hq := Aside0.mk hq
      have Hq2 := Aside0.mk hq2
      have Hs := Aside0.mk hs
      clear h hp hq hq2 hs
      have HP := Aside0.mk (show ∀ (W : World) (g : Nat), W.heap[g]? = some (.cells #[.int .i64 a.f0, .int .i64 a.f1, .int .i64 a.f2, .int .i64 a.f3, .int .i64 a.f4, .int .i64 1, .int .u64 a.f5.f1, .int .u64 a.f5.f2, .int .i64 a.f5.f3, .int .i64 a.f6.f0, .bool a.f6.f1, .int .u64 a.f6.f2, .slice A a.f6.f3.length c] 31 (0, 0)) → Kd.C k49 W A a.f6.f3.length a.f6.f3 → Calls Try.prog 17 #[.slice (some ⟨g, 0, none⟩) 1 1, .agg #[.int .i64 a.f0, .int .i64 a.f1, .int .i64 a.f2, .int .i64 a.f3, .int .i64 a.f4, .int .i64 1, .int .u64 a.f5.f1, .int .u64 a.f5.f2, .int .i64 a.f5.f3, .int .i64 a.f6.f0, .bool a.f6.f1, .int .u64 a.f6.f2, .slice A a.f6.f3.length c]] W (fun e w' => e = .returned (.int .i64 1) ∧ Below W.heap.size W w') from fun W g hg hr => history_Inserts.law k (some ⟨g, 0, none⟩) 1 [({ a with f5 := { a.f5 with f0 := 1 } } : S31)] ({ a with f5 := { a.f5 with f0 := 1 } } : S31) A c 1 W (evC1 (x := ({ a with f5 := { a.f5 with f0 := 1 } } : S31)) (A := A) (c := c) HCA.out hr hg) Hp.out)
      have HQ := Aside0.mk (show ∀ (W : World) (g : Nat), W.heap[g]? = some (.cells #[.int .i64 a.f0, .int .i64 a.f1, .int .i64 a.f2, .int .i64 a.f3, .int .i64 a.f4, .int .i64 1, .int .u64 a.f5.f1, .int .u64 a.f5.f2, .int .i64 a.f5.f3, .int .i64 a.f6.f0, .bool a.f6.f1, .int .u64 a.f6.f2, .slice A a.f6.f3.length c] 31 (0, 0)) → Kd.C k49 W A a.f6.f3.length a.f6.f3 → Calls Try.prog 17 #[.slice (some ⟨g, 0, none⟩) 1 1, .agg #[.int .i64 b.f0, .int .i64 b.f1, .int .i64 b.f2, .int .i64 b.f3, .int .i64 b.f4, .int .i64 1, .int .u64 b.f5.f1, .int .u64 b.f5.f2, .int .i64 b.f5.f3, .int .i64 b.f6.f0, .bool b.f6.f1, .int .u64 b.f6.f2, .slice B b.f6.f3.length d]] W (fun e w' => e = .returned (.int .i64 q) ∧ Below W.heap.size W w') from fun W g hg hr => history_Inserts.law k (some ⟨g, 0, none⟩) 1 [({ a with f5 := { a.f5 with f0 := 1 } } : S31)] ({ b with f5 := { b.f5 with f0 := 1 } } : S31) B d q W (evC1 (x := ({ a with f5 := { a.f5 with f0 := 1 } } : S31)) (A := A) (c := c) HCA.out hr hg) Hq.out)
      have HQ2 := Aside0.mk (show ∀ (W : World) (g : Nat), W.heap[g]? = some (.cells #[.int .i64 b.f0, .int .i64 b.f1, .int .i64 b.f2, .int .i64 b.f3, .int .i64 b.f4, .int .i64 1, .int .u64 b.f5.f1, .int .u64 b.f5.f2, .int .i64 b.f5.f3, .int .i64 b.f6.f0, .bool b.f6.f1, .int .u64 b.f6.f2, .slice B b.f6.f3.length d] 31 (0, 0)) → Kd.C k49 W B b.f6.f3.length b.f6.f3 → Calls Try.prog 17 #[.slice (some ⟨g, 0, none⟩) 1 1, .agg #[.int .i64 a.f0, .int .i64 a.f1, .int .i64 a.f2, .int .i64 a.f3, .int .i64 a.f4, .int .i64 1, .int .u64 a.f5.f1, .int .u64 a.f5.f2, .int .i64 a.f5.f3, .int .i64 a.f6.f0, .bool a.f6.f1, .int .u64 a.f6.f2, .slice A a.f6.f3.length c]] W (fun e w' => e = .returned (.int .i64 q) ∧ Below W.heap.size W w') from fun W g hg hr => history_Inserts.law k (some ⟨g, 0, none⟩) 1 [({ b with f5 := { b.f5 with f0 := 1 } } : S31)] ({ a with f5 := { a.f5 with f0 := 1 } } : S31) A c q W (evC1 (x := ({ b with f5 := { b.f5 with f0 := 1 } } : S31)) (A := B) (c := d) HCB.out hr hg) Hq2.out)
      have HS := Aside0.mk (show ∀ W : World, Calls Try.prog 17 #[.slice none 0 0, .agg #[.int .i64 a.f0, .int .i64 a.f1, .int .i64 a.f2, .int .i64 a.f3, .int .i64 a.f4, .int .i64 1, .int .u64 a.f5.f1, .int .u64 a.f5.f2, .int .i64 a.f5.f3, .int .i64 a.f6.f0, .bool a.f6.f1, .int .u64 a.f6.f2, .slice A a.f6.f3.length c]] W (fun e w' => e = .returned (.int .i64 0) ∧ Below W.heap.size W w') from fun W => history_Inserts.law k none 0 [] ({ a with f5 := { a.f5 with f0 := 1 } } : S31) A c 0 W (Kd.C_nil _ _) Hs.out)
      clear Hp Hq Hq2 Hs
      go_enter Try.func7, Try.ntmps7
      go_upto_region 6 with (first | ((with_reducible refine gate_dst (N := 2) rfl ?_); refine box_event ?hg (N := 2) ?hd (cs := #[.int .i64 a.f0, .int .i64 a.f1, .int .i64 a.f2, .int .i64 a.f3, .int .i64 a.f4, .int .i64 a.f5.f0, .int .u64 a.f5.f1, .int .u64 a.f5.f2, .int .i64 a.f5.f3, .int .i64 a.f6.f0, .bool a.f6.f1, .int .u64 a.f6.f2, .slice A a.f6.f3.length c]) (t := 31) ?hr ?_; (case hd => rfl); (case hg => rfl); (case hr => first | (go_simp; done) | (go_simp; rfl)); intro ga hg wb_ga hbox hb; have BKga := Aside0.mk hbox; have n0_ := Aside0.mk (below_step HB.out hb); clear HB; have HB := n0_; clear n0_; have HGA := Aside0.mk (show w.heap.size ≤ ga from by omega); clear hb hbox hg) | ((with_reducible refine gate_dst (N := 3) rfl ?_); refine box_event ?hg (N := 3) ?hd (cs := #[.int .i64 b.f0, .int .i64 b.f1, .int .i64 b.f2, .int .i64 b.f3, .int .i64 b.f4, .int .i64 b.f5.f0, .int .u64 b.f5.f1, .int .u64 b.f5.f2, .int .i64 b.f5.f3, .int .i64 b.f6.f0, .bool b.f6.f1, .int .u64 b.f6.f2, .slice B b.f6.f3.length d]) (t := 31) ?hr ?_; (case hd => rfl); (case hg => rfl); (case hr => first | (go_simp; done) | (go_simp; rfl)); have HB1 := HB; intro gb hg wb_gb hbox hb; have BKgb := Aside0.mk hbox; have BKga0 := BKga; have n_BKga := Aside0.mk (blk_below (g := ga) (o := .cells #[.int .i64 a.f0, .int .i64 a.f1, .int .i64 a.f2, .int .i64 a.f3, .int .i64 a.f4, .int .i64 a.f5.f0, .int .u64 a.f5.f1, .int .u64 a.f5.f2, .int .i64 a.f5.f3, .int .i64 a.f6.f0, .bool a.f6.f1, .int .u64 a.f6.f2, .slice A a.f6.f3.length c] 31 (0, 0)) BKga.out hb); clear BKga; have BKga := n_BKga; clear n_BKga; have hab : ¬ ga = gb := (by have := blk_lt BKga0.out; omega); have hba : ¬ gb = ga := (by have := blk_lt BKga0.out; omega); clear BKga0; have n0_ := Aside0.mk (below_step HB.out hb); clear HB; have HB := n0_; clear n0_; have HGB := Aside0.mk (show w.heap.size ≤ gb from by have := HB1.out.size; omega); clear hb hbox hg HB1) | (go_at_call 8; (with_reducible refine (corrielaw19_awake.calls true _ rfl).mono ?_); rintro e w1 ⟨rfl, hb⟩; have n_BKga := Aside0.mk (blk_below (g := ga) (o := .cells #[.int .i64 a.f0, .int .i64 a.f1, .int .i64 a.f2, .int .i64 a.f3, .int .i64 a.f4, .int .i64 a.f5.f0, .int .u64 a.f5.f1, .int .u64 a.f5.f2, .int .i64 a.f5.f3, .int .i64 a.f6.f0, .bool a.f6.f1, .int .u64 a.f6.f2, .slice A a.f6.f3.length c] 31 (0, 0)) BKga.out hb); clear BKga; have BKga := n_BKga; clear n_BKga; have n_BKgb := Aside0.mk (blk_below (g := gb) (o := .cells #[.int .i64 b.f0, .int .i64 b.f1, .int .i64 b.f2, .int .i64 b.f3, .int .i64 b.f4, .int .i64 b.f5.f0, .int .u64 b.f5.f1, .int .u64 b.f5.f2, .int .i64 b.f5.f3, .int .i64 b.f6.f0, .bool b.f6.f1, .int .u64 b.f6.f2, .slice B b.f6.f3.length d] 31 (0, 0)) BKgb.out hb); clear BKgb; have BKgb := n_BKgb; clear n_BKgb; have n0_ := Aside0.mk (below_step HB.out hb); clear HB hb; have HB := n0_; clear n0_; have cga_0 : w1.cell? ⟨ga, 0, none⟩ = some (.int .i64 a.f0) := (blk_cell BKga.out 0).trans rfl; have cga_1 : w1.cell? ⟨ga, 1, none⟩ = some (.int .i64 a.f1) := (blk_cell BKga.out 1).trans rfl; have cga_2 : w1.cell? ⟨ga, 2, none⟩ = some (.int .i64 a.f2) := (blk_cell BKga.out 2).trans rfl; have cga_3 : w1.cell? ⟨ga, 3, none⟩ = some (.int .i64 a.f3) := (blk_cell BKga.out 3).trans rfl; have cga_4 : w1.cell? ⟨ga, 4, none⟩ = some (.int .i64 a.f4) := (blk_cell BKga.out 4).trans rfl; have cga_5 : w1.cell? ⟨ga, 5, none⟩ = some (.int .i64 a.f5.f0) := (blk_cell BKga.out 5).trans rfl; have cga_6 : w1.cell? ⟨ga, 6, none⟩ = some (.int .u64 a.f5.f1) := (blk_cell BKga.out 6).trans rfl; have cga_7 : w1.cell? ⟨ga, 7, none⟩ = some (.int .u64 a.f5.f2) := (blk_cell BKga.out 7).trans rfl; have cga_8 : w1.cell? ⟨ga, 8, none⟩ = some (.int .i64 a.f5.f3) := (blk_cell BKga.out 8).trans rfl; have cga_9 : w1.cell? ⟨ga, 9, none⟩ = some (.int .i64 a.f6.f0) := (blk_cell BKga.out 9).trans rfl; have cga_10 : w1.cell? ⟨ga, 10, none⟩ = some (.bool a.f6.f1) := (blk_cell BKga.out 10).trans rfl; have cga_11 : w1.cell? ⟨ga, 11, none⟩ = some (.int .u64 a.f6.f2) := (blk_cell BKga.out 11).trans rfl; have cga_12 : w1.cell? ⟨ga, 12, none⟩ = some (.slice A a.f6.f3.length c) := (blk_cell BKga.out 12).trans rfl; have cgb_0 : w1.cell? ⟨gb, 0, none⟩ = some (.int .i64 b.f0) := (blk_cell BKgb.out 0).trans rfl; have cgb_1 : w1.cell? ⟨gb, 1, none⟩ = some (.int .i64 b.f1) := (blk_cell BKgb.out 1).trans rfl; have cgb_2 : w1.cell? ⟨gb, 2, none⟩ = some (.int .i64 b.f2) := (blk_cell BKgb.out 2).trans rfl; have cgb_3 : w1.cell? ⟨gb, 3, none⟩ = some (.int .i64 b.f3) := (blk_cell BKgb.out 3).trans rfl; have cgb_4 : w1.cell? ⟨gb, 4, none⟩ = some (.int .i64 b.f4) := (blk_cell BKgb.out 4).trans rfl; have cgb_5 : w1.cell? ⟨gb, 5, none⟩ = some (.int .i64 b.f5.f0) := (blk_cell BKgb.out 5).trans rfl; have cgb_6 : w1.cell? ⟨gb, 6, none⟩ = some (.int .u64 b.f5.f1) := (blk_cell BKgb.out 6).trans rfl; have cgb_7 : w1.cell? ⟨gb, 7, none⟩ = some (.int .u64 b.f5.f2) := (blk_cell BKgb.out 7).trans rfl; have cgb_8 : w1.cell? ⟨gb, 8, none⟩ = some (.int .i64 b.f5.f3) := (blk_cell BKgb.out 8).trans rfl; have cgb_9 : w1.cell? ⟨gb, 9, none⟩ = some (.int .i64 b.f6.f0) := (blk_cell BKgb.out 9).trans rfl; have cgb_10 : w1.cell? ⟨gb, 10, none⟩ = some (.bool b.f6.f1) := (blk_cell BKgb.out 10).trans rfl; have cgb_11 : w1.cell? ⟨gb, 11, none⟩ = some (.int .u64 b.f6.f2) := (blk_cell BKgb.out 11).trans rfl; have cgb_12 : w1.cell? ⟨gb, 12, none⟩ = some (.slice B b.f6.f3.length d) := (blk_cell BKgb.out 12).trans rfl; have fga : w1.frozen? ⟨ga, 5, none⟩ = false := (by simp [World.frozen?, BKga.out]); have fgb : w1.frozen? ⟨gb, 5, none⟩ = false := (by simp [World.frozen?, BKgb.out])))
      obtain ⟨W6, hW6⟩ : ∃ W6, ((w1.setCell ⟨ga, 5, none⟩ (.int .i64 1)).setCell ⟨gb, 5, none⟩ (.int .i64 1)) = W6 := ⟨_, rfl⟩
      rw [hW6]
      have n1_ := Aside0.mk (show W6.heap[ga]? = some (.cells #[.int .i64 a.f0, .int .i64 a.f1, .int .i64 a.f2, .int .i64 a.f3, .int .i64 a.f4, .int .i64 1, .int .u64 a.f5.f1, .int .u64 a.f5.f2, .int .i64 a.f5.f3, .int .i64 a.f6.f0, .bool a.f6.f1, .int .u64 a.f6.f2, .slice A a.f6.f3.length c] 31 (0, 0)) from by rw [← hW6]; exact blk_far (blk_put BKga.out _) hab _)
      have n2_ := Aside0.mk (show W6.heap[gb]? = some (.cells #[.int .i64 b.f0, .int .i64 b.f1, .int .i64 b.f2, .int .i64 b.f3, .int .i64 b.f4, .int .i64 1, .int .u64 b.f5.f1, .int .u64 b.f5.f2, .int .i64 b.f5.f3, .int .i64 b.f6.f0, .bool b.f6.f1, .int .u64 b.f6.f2, .slice B b.f6.f3.length d] 31 (0, 0)) from by rw [← hW6]; exact blk_put (blk_far BKgb.out hba _) _)
      have n3_ := Aside0.mk (show Below w.heap.size w W6 from by rw [← hW6]; exact (HB.out.setCell (p := ⟨ga, 5, none⟩) HGA.out _).setCell (p := ⟨gb, 5, none⟩) HGB.out _)
      clear BKga BKgb HB hW6 cga_0 cga_1 cga_2 cga_3 cga_4 cga_5 cga_6 cga_7 cga_8 cga_9 cga_10 cga_11 cga_12 cgb_0 cgb_1 cgb_2 cgb_3 cgb_4 cgb_5 cgb_6 cgb_7 cgb_8 cgb_9 cgb_10 cgb_11 cgb_12 fga fgb
      have BKga := n1_
      have BKgb := n2_
      have HB := n3_
      clear n1_ n2_ n3_
      have n_BKga := Aside0.mk (blk_drew (g := ga) (o := .cells #[.int .i64 a.f0, .int .i64 a.f1, .int .i64 a.f2, .int .i64 a.f3, .int .i64 a.f4, .int .i64 1, .int .u64 a.f5.f1, .int .u64 a.f5.f2, .int .i64 a.f5.f3, .int .i64 a.f6.f0, .bool a.f6.f1, .int .u64 a.f6.f2, .slice A a.f6.f3.length c] 31 (0, 0)) BKga.out)
      clear BKga
      have BKga := n_BKga
      clear n_BKga
      have n_BKgb := Aside0.mk (blk_drew (g := gb) (o := .cells #[.int .i64 b.f0, .int .i64 b.f1, .int .i64 b.f2, .int .i64 b.f3, .int .i64 b.f4, .int .i64 1, .int .u64 b.f5.f1, .int .u64 b.f5.f2, .int .i64 b.f5.f3, .int .i64 b.f6.f0, .bool b.f6.f1, .int .u64 b.f6.f2, .slice B b.f6.f3.length d] 31 (0, 0)) BKgb.out)
      clear BKgb
      have BKgb := n_BKgb
      clear n_BKgb
      have n1_ := Aside0.mk (below_drew1 HB.out)
      clear HB
      have HB := n1_
      clear n1_
      refine start_ (n := 25) (S := fun w' => w'.cell? ⟨ga, 0, none⟩ = some (.int .i64 a.f0) ∧ w'.cell? ⟨ga, 1, none⟩ = some (.int .i64 a.f1) ∧ w'.cell? ⟨ga, 2, none⟩ = some (.int .i64 a.f2) ∧ w'.cell? ⟨ga, 3, none⟩ = some (.int .i64 a.f3) ∧ w'.cell? ⟨ga, 4, none⟩ = some (.int .i64 a.f4) ∧ w'.cell? ⟨ga, 5, none⟩ = some (.int .i64 1) ∧ w'.cell? ⟨ga, 6, none⟩ = some (.int .u64 a.f5.f1) ∧ w'.cell? ⟨ga, 7, none⟩ = some (.int .u64 a.f5.f2) ∧ w'.cell? ⟨ga, 8, none⟩ = some (.int .i64 a.f5.f3) ∧ w'.cell? ⟨ga, 9, none⟩ = some (.int .i64 a.f6.f0) ∧ w'.cell? ⟨ga, 10, none⟩ = some (.bool a.f6.f1) ∧ w'.cell? ⟨ga, 11, none⟩ = some (.int .u64 a.f6.f2) ∧ w'.cell? ⟨ga, 12, none⟩ = some (.slice A a.f6.f3.length c) ∧ w'.cell? ⟨gb, 0, none⟩ = some (.int .i64 b.f0) ∧ w'.cell? ⟨gb, 1, none⟩ = some (.int .i64 b.f1) ∧ w'.cell? ⟨gb, 2, none⟩ = some (.int .i64 b.f2) ∧ w'.cell? ⟨gb, 3, none⟩ = some (.int .i64 b.f3) ∧ w'.cell? ⟨gb, 4, none⟩ = some (.int .i64 b.f4) ∧ w'.cell? ⟨gb, 5, none⟩ = some (.int .i64 1) ∧ w'.cell? ⟨gb, 6, none⟩ = some (.int .u64 b.f5.f1) ∧ w'.cell? ⟨gb, 7, none⟩ = some (.int .u64 b.f5.f2) ∧ w'.cell? ⟨gb, 8, none⟩ = some (.int .i64 b.f5.f3) ∧ w'.cell? ⟨gb, 9, none⟩ = some (.int .i64 b.f6.f0) ∧ w'.cell? ⟨gb, 10, none⟩ = some (.bool b.f6.f1) ∧ w'.cell? ⟨gb, 11, none⟩ = some (.int .u64 b.f6.f2) ∧ w'.cell? ⟨gb, 12, none⟩ = some (.slice B b.f6.f3.length d)) (ds := []) #[false, false, false, false, false, false, false, false, false, false, false, false, false, false, false, false, false, false, false, false, false, false, false, false, false] (by kernel_rfl) rfl rfl ⟨((blk_cell BKga.out 0).trans rfl), ((blk_cell BKga.out 1).trans rfl), ((blk_cell BKga.out 2).trans rfl), ((blk_cell BKga.out 3).trans rfl), ((blk_cell BKga.out 4).trans rfl), ((blk_cell BKga.out 5).trans rfl), ((blk_cell BKga.out 6).trans rfl), ((blk_cell BKga.out 7).trans rfl), ((blk_cell BKga.out 8).trans rfl), ((blk_cell BKga.out 9).trans rfl), ((blk_cell BKga.out 10).trans rfl), ((blk_cell BKga.out 11).trans rfl), ((blk_cell BKga.out 12).trans rfl), ((blk_cell BKgb.out 0).trans rfl), ((blk_cell BKgb.out 1).trans rfl), ((blk_cell BKgb.out 2).trans rfl), ((blk_cell BKgb.out 3).trans rfl), ((blk_cell BKgb.out 4).trans rfl), ((blk_cell BKgb.out 5).trans rfl), ((blk_cell BKgb.out 6).trans rfl), ((blk_cell BKgb.out 7).trans rfl), ((blk_cell BKgb.out 8).trans rfl), ((blk_cell BKgb.out 9).trans rfl), ((blk_cell BKgb.out 10).trans rfl), ((blk_cell BKgb.out 11).trans rfl), ((blk_cell BKgb.out 12).trans rfl)⟩ (fun hHeld => ?_); refine with_tabW corrielaw19_HistoryOverlap.tab6 corrielaw19_HistoryOverlap.bits6 (fun HT_ HW_ => ?_)
      generalize W6.drew = W1 at BKga BKgb HB hHeld ⊢
      refine pure_ (i := 0) (N := some 22) (v := ?_) (a' := ?_) #[true, false, false, false, false, false, false, false, false, false, false, false, false, false, false, false, false, false, false, false, false, false, false, false, false] rfl rfl (any_of HT_.out (by kernel_rfl)) (fun _ _ _ h => h) (Or.inl ⟨by rfl, ?_⟩) ?_ ?_
      rotate_left
      · intro w'
        go_simp
        with_reducible rfl
      rotate_left
      · simp only [Act.put, List.setIfInBounds_toArray, List.set_cons_zero, List.set_cons_succ, i64_w, i32_w]
        rfl
      refine pure_ (i := 1) (N := some 23) (v := ?_) (a' := ?_) #[true, true, false, false, false, false, false, false, false, false, false, false, false, false, false, false, false, false, false, false, false, false, false, false, false] rfl rfl (any_of HT_.out (by kernel_rfl)) (fun _ _ _ h => h) (Or.inl ⟨by rfl, ?_⟩) ?_ ?_
      rotate_left
      · intro w'
        go_simp
        with_reducible rfl
      rotate_left
      · simp only [Act.put, List.setIfInBounds_toArray, List.set_cons_zero, List.set_cons_succ, i64_w, i32_w]
        rfl
      refine take_ (i := 2) (N := some 24) (v := ?_) (a' := ?_) #[true, true, true, false, false, false, false, false, false, false, false, false, false, false, false, false, false, false, false, false, false, false, false, false, false] rfl rfl (take_ofW HT_.out HW_.out (by kernel_rfl)) (fun _ _ _ h => h) (Or.inl ⟨by rfl, ?_⟩) hHeld ?_ ?_
      rotate_left
      · rintro w' ⟨s0, s1, s2, s3, s4, s5, s6, s7, s8, s9, s10, s11, s12, s13, s14, s15, s16, s17, s18, s19, s20, s21, s22, s23, s24, s25⟩
        go_simp
        with_reducible rfl
      rotate_left
      · simp only [Act.put, List.setIfInBounds_toArray, List.set_cons_zero, List.set_cons_succ, i64_w, i32_w]
        rfl
      refine take_ (i := 4) (N := some 26) (v := ?_) (a' := ?_) #[true, true, true, false, true, false, false, false, false, false, false, false, false, false, false, false, false, false, false, false, false, false, false, false, false] rfl rfl (take_ofW HT_.out HW_.out (by kernel_rfl)) (fun _ _ _ h => h) (Or.inl ⟨by rfl, ?_⟩) hHeld ?_ ?_
      rotate_left
      · rintro w' ⟨s0, s1, s2, s3, s4, s5, s6, s7, s8, s9, s10, s11, s12, s13, s14, s15, s16, s17, s18, s19, s20, s21, s22, s23, s24, s25⟩
        go_simp
        with_reducible rfl
      rotate_left
      · simp only [Act.put, List.setIfInBounds_toArray, List.set_cons_zero, List.set_cons_succ, i64_w, i32_w]
        rfl
      refine one_ (i := 3) (N := some 25) #[true, true, true, true, true, false, false, false, false, false, false, false, false, false, false, false, false, false, false, false, false, false, false, false, false] rfl rfl (one_of HT_.out (by kernel_rfl)) (by decide) (fun K hK => ?_)
      refine value_ (w1 := ?_) (v := ?_) (by rfl) rfl ?_ ?_
      rotate_left 2
      · go_simp
        constructor
        · rfl
        · rfl
      have n_BKga := Aside0.mk (blk_alloc (g := ga) (o := .cells #[.int .i64 a.f0, .int .i64 a.f1, .int .i64 a.f2, .int .i64 a.f3, .int .i64 a.f4, .int .i64 1, .int .u64 a.f5.f1, .int .u64 a.f5.f2, .int .i64 a.f5.f3, .int .i64 a.f6.f0, .bool a.f6.f1, .int .u64 a.f6.f2, .slice A a.f6.f3.length c] 31 (0, 0)) BKga.out (.cells #[.int .i64 a.f0, .int .i64 a.f1, .int .i64 a.f2, .int .i64 a.f3, .int .i64 a.f4, .int .i64 1, .int .u64 a.f5.f1, .int .u64 a.f5.f2, .int .i64 a.f5.f3, .int .i64 a.f6.f0, .bool a.f6.f1, .int .u64 a.f6.f2, .slice A a.f6.f3.length c] 31))
      clear BKga
      have BKga := n_BKga
      clear n_BKga
      have n_BKgb := Aside0.mk (blk_alloc (g := gb) (o := .cells #[.int .i64 b.f0, .int .i64 b.f1, .int .i64 b.f2, .int .i64 b.f3, .int .i64 b.f4, .int .i64 1, .int .u64 b.f5.f1, .int .u64 b.f5.f2, .int .i64 b.f5.f3, .int .i64 b.f6.f0, .bool b.f6.f1, .int .u64 b.f6.f2, .slice B b.f6.f3.length d] 31 (0, 0)) BKgb.out (.cells #[.int .i64 a.f0, .int .i64 a.f1, .int .i64 a.f2, .int .i64 a.f3, .int .i64 a.f4, .int .i64 1, .int .u64 a.f5.f1, .int .u64 a.f5.f2, .int .i64 a.f5.f3, .int .i64 a.f6.f0, .bool a.f6.f1, .int .u64 a.f6.f2, .slice A a.f6.f3.length c] 31))
      clear BKgb
      have BKgb := n_BKgb
      clear n_BKgb
      have BK3 := Aside0.mk (blk_new W1 (.cells #[.int .i64 a.f0, .int .i64 a.f1, .int .i64 a.f2, .int .i64 a.f3, .int .i64 a.f4, .int .i64 1, .int .u64 a.f5.f1, .int .u64 a.f5.f2, .int .i64 a.f5.f3, .int .i64 a.f6.f0, .bool a.f6.f1, .int .u64 a.f6.f2, .slice A a.f6.f3.length c] 31))
      have n1_ := Aside0.mk (below_alloc HB.out (.cells #[.int .i64 a.f0, .int .i64 a.f1, .int .i64 a.f2, .int .i64 a.f3, .int .i64 a.f4, .int .i64 1, .int .u64 a.f5.f1, .int .u64 a.f5.f2, .int .i64 a.f5.f3, .int .i64 a.f6.f0, .bool a.f6.f1, .int .u64 a.f6.f2, .slice A a.f6.f3.length c] 31))
      clear HB
      have HB := n1_
      clear n1_
      generalize W1.alloc (.cells #[.int .i64 a.f0, .int .i64 a.f1, .int .i64 a.f2, .int .i64 a.f3, .int .i64 a.f4, .int .i64 1, .int .u64 a.f5.f1, .int .u64 a.f5.f2, .int .i64 a.f5.f3, .int .i64 a.f6.f0, .bool a.f6.f1, .int .u64 a.f6.f2, .slice A a.f6.f3.length c] 31) = w3 at BKga BKgb BK3 HB ⊢
      generalize W1.heap.size = g3 at BK3 ⊢
      refine hK.out _ _ ⟨((blk_cell BKga.out 0).trans rfl), ((blk_cell BKga.out 1).trans rfl), ((blk_cell BKga.out 2).trans rfl), ((blk_cell BKga.out 3).trans rfl), ((blk_cell BKga.out 4).trans rfl), ((blk_cell BKga.out 5).trans rfl), ((blk_cell BKga.out 6).trans rfl), ((blk_cell BKga.out 7).trans rfl), ((blk_cell BKga.out 8).trans rfl), ((blk_cell BKga.out 9).trans rfl), ((blk_cell BKga.out 10).trans rfl), ((blk_cell BKga.out 11).trans rfl), ((blk_cell BKga.out 12).trans rfl), ((blk_cell BKgb.out 0).trans rfl), ((blk_cell BKgb.out 1).trans rfl), ((blk_cell BKgb.out 2).trans rfl), ((blk_cell BKgb.out 3).trans rfl), ((blk_cell BKgb.out 4).trans rfl), ((blk_cell BKgb.out 5).trans rfl), ((blk_cell BKgb.out 6).trans rfl), ((blk_cell BKgb.out 7).trans rfl), ((blk_cell BKgb.out 8).trans rfl), ((blk_cell BKgb.out 9).trans rfl), ((blk_cell BKgb.out 10).trans rfl), ((blk_cell BKgb.out 11).trans rfl), ((blk_cell BKgb.out 12).trans rfl)⟩ (fun hHeld => ?_)
      clear hK K
      refine norm_ (a' := ?_) ?_ ?_
      rotate_left
      · show Act.put _ (some 25) _ = _
        simp only [Act.put, List.setIfInBounds_toArray, List.set_cons_zero, List.set_cons_succ, i64_w, i32_w]
        rfl
      refine one_ (i := 5) (N := some 27) #[true, true, true, true, true, true, false, false, false, false, false, false, false, false, false, false, false, false, false, false, false, false, false, false, false] rfl rfl (one_of HT_.out (by kernel_rfl)) (by decide) (fun K hK => ?_)
      refine goes_ Try.func17 (by kernel_rfl) rfl #[.slice (some ⟨g3, 0, none⟩) 1 1, .agg #[.int .i64 a.f0, .int .i64 a.f1, .int .i64 a.f2, .int .i64 a.f3, .int .i64 a.f4, .int .i64 1, .int .u64 a.f5.f1, .int .u64 a.f5.f2, .int .i64 a.f5.f3, .int .i64 a.f6.f0, .bool a.f6.f1, .int .u64 a.f6.f2, .slice A a.f6.f3.length c]] (by rfl) rfl rfl (by (try simp only [List.map_toArray, List.map_cons, List.map_nil]); first | done | rfl) ?_
      with_reducible refine (HP.out _ _ BK3.out (Kd.C_below HRA.out HB.out)).mono ?_
      rintro e w5 ⟨rfl, hb⟩
      refine ⟨_, rfl, ?_⟩
      have n_BKga := Aside0.mk (blk_below (g := ga) (o := .cells #[.int .i64 a.f0, .int .i64 a.f1, .int .i64 a.f2, .int .i64 a.f3, .int .i64 a.f4, .int .i64 1, .int .u64 a.f5.f1, .int .u64 a.f5.f2, .int .i64 a.f5.f3, .int .i64 a.f6.f0, .bool a.f6.f1, .int .u64 a.f6.f2, .slice A a.f6.f3.length c] 31 (0, 0)) BKga.out hb)
      clear BKga
      have BKga := n_BKga
      clear n_BKga
      have n_BKgb := Aside0.mk (blk_below (g := gb) (o := .cells #[.int .i64 b.f0, .int .i64 b.f1, .int .i64 b.f2, .int .i64 b.f3, .int .i64 b.f4, .int .i64 1, .int .u64 b.f5.f1, .int .u64 b.f5.f2, .int .i64 b.f5.f3, .int .i64 b.f6.f0, .bool b.f6.f1, .int .u64 b.f6.f2, .slice B b.f6.f3.length d] 31 (0, 0)) BKgb.out hb)
      clear BKgb
      have BKgb := n_BKgb
      clear n_BKgb
      have n_BK3 := Aside0.mk (blk_below (g := g3) (o := .cells #[.int .i64 a.f0, .int .i64 a.f1, .int .i64 a.f2, .int .i64 a.f3, .int .i64 a.f4, .int .i64 1, .int .u64 a.f5.f1, .int .u64 a.f5.f2, .int .i64 a.f5.f3, .int .i64 a.f6.f0, .bool a.f6.f1, .int .u64 a.f6.f2, .slice A a.f6.f3.length c] 31 (0, 0)) BK3.out hb)
      clear BK3
      have BK3 := n_BK3
      clear n_BK3
      have n1_ := Aside0.mk (below_step HB.out hb)
      clear HB hb
      have HB := n1_
      clear n1_
      clear BK3
      refine hK.out _ _ ⟨((blk_cell BKga.out 0).trans rfl), ((blk_cell BKga.out 1).trans rfl), ((blk_cell BKga.out 2).trans rfl), ((blk_cell BKga.out 3).trans rfl), ((blk_cell BKga.out 4).trans rfl), ((blk_cell BKga.out 5).trans rfl), ((blk_cell BKga.out 6).trans rfl), ((blk_cell BKga.out 7).trans rfl), ((blk_cell BKga.out 8).trans rfl), ((blk_cell BKga.out 9).trans rfl), ((blk_cell BKga.out 10).trans rfl), ((blk_cell BKga.out 11).trans rfl), ((blk_cell BKga.out 12).trans rfl), ((blk_cell BKgb.out 0).trans rfl), ((blk_cell BKgb.out 1).trans rfl), ((blk_cell BKgb.out 2).trans rfl), ((blk_cell BKgb.out 3).trans rfl), ((blk_cell BKgb.out 4).trans rfl), ((blk_cell BKgb.out 5).trans rfl), ((blk_cell BKgb.out 6).trans rfl), ((blk_cell BKgb.out 7).trans rfl), ((blk_cell BKgb.out 8).trans rfl), ((blk_cell BKgb.out 9).trans rfl), ((blk_cell BKgb.out 10).trans rfl), ((blk_cell BKgb.out 11).trans rfl), ((blk_cell BKgb.out 12).trans rfl)⟩ (fun hHeld => ?_)
      clear hK K
      refine norm_ (a' := ?_) ?_ ?_
      rotate_left
      · show Act.put _ (some 27) _ = _
        simp only [Act.put, List.setIfInBounds_toArray, List.set_cons_zero, List.set_cons_succ, i64_w, i32_w]
        rfl
      refine pure_ (i := 6) (N := some 28) (v := ?_) (a' := ?_) #[true, true, true, true, true, true, true, false, false, false, false, false, false, false, false, false, false, false, false, false, false, false, false, false, false] rfl rfl (any_of HT_.out (by kernel_rfl)) (fun _ _ _ h => h) (Or.inl ⟨by rfl, ?_⟩) ?_ ?_
      rotate_left
      · intro w'
        go_simp
        with_reducible rfl
      rotate_left
      · simp only [Act.put, List.setIfInBounds_toArray, List.set_cons_zero, List.set_cons_succ, i64_w, i32_w]
        rfl
      refine pure_ (i := 7) (N := some 29) (v := ?_) (a' := ?_) #[true, true, true, true, true, true, true, true, false, false, false, false, false, false, false, false, false, false, false, false, false, false, false, false, false] rfl rfl (any_of HT_.out (by kernel_rfl)) (fun _ _ _ h => h) (Or.inl ⟨by rfl, ?_⟩) ?_ ?_
      rotate_left
      · intro w'
        go_simp
        with_reducible rfl
      rotate_left
      · simp only [Act.put, List.setIfInBounds_toArray, List.set_cons_zero, List.set_cons_succ, i64_w, i32_w]
        rfl
      refine pure_ (i := 8) (N := some 30) (v := ?_) (a' := ?_) #[true, true, true, true, true, true, true, true, true, false, false, false, false, false, false, false, false, false, false, false, false, false, false, false, false] rfl rfl (any_of HT_.out (by kernel_rfl)) (fun _ _ _ h => h) (Or.inl ⟨by rfl, ?_⟩) ?_ ?_
      rotate_left
      · intro w'
        go_simp
        with_reducible rfl
      rotate_left
      · simp only [Act.put, List.setIfInBounds_toArray, List.set_cons_zero, List.set_cons_succ, i64_w, i32_w]
        rfl
      refine take_ (i := 9) (N := some 31) (v := ?_) (a' := ?_) #[true, true, true, true, true, true, true, true, true, true, false, false, false, false, false, false, false, false, false, false, false, false, false, false, false] rfl rfl (take_ofW HT_.out HW_.out (by kernel_rfl)) (fun _ _ _ h => h) (Or.inl ⟨by rfl, ?_⟩) hHeld ?_ ?_
      rotate_left
      · rintro w' ⟨s0, s1, s2, s3, s4, s5, s6, s7, s8, s9, s10, s11, s12, s13, s14, s15, s16, s17, s18, s19, s20, s21, s22, s23, s24, s25⟩
        go_simp
        with_reducible rfl
      rotate_left
      · simp only [Act.put, List.setIfInBounds_toArray, List.set_cons_zero, List.set_cons_succ, i64_w, i32_w]
        rfl
      refine take_ (i := 11) (N := some 33) (v := ?_) (a' := ?_) #[true, true, true, true, true, true, true, true, true, true, false, true, false, false, false, false, false, false, false, false, false, false, false, false, false] rfl rfl (take_ofW HT_.out HW_.out (by kernel_rfl)) (fun _ _ _ h => h) (Or.inl ⟨by rfl, ?_⟩) hHeld ?_ ?_
      rotate_left
      · rintro w' ⟨s0, s1, s2, s3, s4, s5, s6, s7, s8, s9, s10, s11, s12, s13, s14, s15, s16, s17, s18, s19, s20, s21, s22, s23, s24, s25⟩
        go_simp
        with_reducible rfl
      rotate_left
      · simp only [Act.put, List.setIfInBounds_toArray, List.set_cons_zero, List.set_cons_succ, i64_w, i32_w]
        rfl
      refine take_ (i := 13) (N := some 35) (v := ?_) (a' := ?_) #[true, true, true, true, true, true, true, true, true, true, false, true, false, true, false, false, false, false, false, false, false, false, false, false, false] rfl rfl (take_ofW HT_.out HW_.out (by kernel_rfl)) (fun _ _ _ h => h) (Or.inl ⟨by rfl, ?_⟩) hHeld ?_ ?_
      rotate_left
      · rintro w' ⟨s0, s1, s2, s3, s4, s5, s6, s7, s8, s9, s10, s11, s12, s13, s14, s15, s16, s17, s18, s19, s20, s21, s22, s23, s24, s25⟩
        go_simp
        with_reducible rfl
      rotate_left
      · simp only [Act.put, List.setIfInBounds_toArray, List.set_cons_zero, List.set_cons_succ, i64_w, i32_w]
        rfl
      refine take_ (i := 15) (N := some 37) (v := ?_) (a' := ?_) #[true, true, true, true, true, true, true, true, true, true, false, true, false, true, false, true, false, false, false, false, false, false, false, false, false] rfl rfl (take_ofW HT_.out HW_.out (by kernel_rfl)) (fun _ _ _ h => h) (Or.inl ⟨by rfl, ?_⟩) hHeld ?_ ?_
      rotate_left
      · rintro w' ⟨s0, s1, s2, s3, s4, s5, s6, s7, s8, s9, s10, s11, s12, s13, s14, s15, s16, s17, s18, s19, s20, s21, s22, s23, s24, s25⟩
        go_simp
        with_reducible rfl
      rotate_left
      · simp only [Act.put, List.setIfInBounds_toArray, List.set_cons_zero, List.set_cons_succ, i64_w, i32_w]
        rfl
      refine join_ (σ := Nat × Nat) 9 #[true, true, true, true, true, true, true, true, true, true, true, true, true, true, true, true, false, false, false, false, false, false, false, false, false] (fun s => [(32, .slice (some ⟨s.1, 0, none⟩) 1 1), (34, .int .i64 q), (36, .slice (some ⟨s.2, 0, none⟩) 1 1)]) (fun s w' => Aside0 (w'.heap[s.2]? = some (.cells #[.int .i64 b.f0, .int .i64 b.f1, .int .i64 b.f2, .int .i64 b.f3, .int .i64 b.f4, .int .i64 1, .int .u64 b.f5.f1, .int .u64 b.f5.f2, .int .i64 b.f5.f3, .int .i64 b.f6.f0, .bool b.f6.f1, .int .u64 b.f6.f2, .slice B b.f6.f3.length d] 31 (0, 0))) ∧ Aside0 (w'.heap[ga]? = some (.cells #[.int .i64 a.f0, .int .i64 a.f1, .int .i64 a.f2, .int .i64 a.f3, .int .i64 a.f4, .int .i64 1, .int .u64 a.f5.f1, .int .u64 a.f5.f2, .int .i64 a.f5.f3, .int .i64 a.f6.f0, .bool a.f6.f1, .int .u64 a.f6.f2, .slice A a.f6.f3.length c] 31 (0, 0))) ∧ Aside0 (w'.heap[gb]? = some (.cells #[.int .i64 b.f0, .int .i64 b.f1, .int .i64 b.f2, .int .i64 b.f3, .int .i64 b.f4, .int .i64 1, .int .u64 b.f5.f1, .int .u64 b.f5.f2, .int .i64 b.f5.f3, .int .i64 b.f6.f0, .bool b.f6.f1, .int .u64 b.f6.f2, .slice B b.f6.f3.length d] 31 (0, 0))) ∧ Aside0 (Below w.heap.size w w')) ?_ ?_
      rotate_left
      · intro hCont
        refine two_ (i := 10) (j := 14) (Ni := some 32) (Nj := some 36) #[true, true, true, true, true, true, true, true, true, true, true, true, false, true, false, true, false, false, false, false, false, false, false, false, false] #[true, true, true, true, true, true, true, true, true, true, false, true, false, true, true, true, false, false, false, false, false, false, false, false, false] rfl rfl rfl rfl (two_of HT_.out (by kernel_rfl)) (by decide) (by decide) (fun K hK => ?_) (fun K hK => ?_)
        · skip
          refine value_ (w1 := ?_) (v := ?_) (by rfl) rfl ?_ ?_
          rotate_left 2
          · go_simp
            constructor
            · rfl
            · rfl
          have n_BKga := Aside0.mk (blk_alloc (g := ga) (o := .cells #[.int .i64 a.f0, .int .i64 a.f1, .int .i64 a.f2, .int .i64 a.f3, .int .i64 a.f4, .int .i64 1, .int .u64 a.f5.f1, .int .u64 a.f5.f2, .int .i64 a.f5.f3, .int .i64 a.f6.f0, .bool a.f6.f1, .int .u64 a.f6.f2, .slice A a.f6.f3.length c] 31 (0, 0)) BKga.out (.cells #[.int .i64 a.f0, .int .i64 a.f1, .int .i64 a.f2, .int .i64 a.f3, .int .i64 a.f4, .int .i64 1, .int .u64 a.f5.f1, .int .u64 a.f5.f2, .int .i64 a.f5.f3, .int .i64 a.f6.f0, .bool a.f6.f1, .int .u64 a.f6.f2, .slice A a.f6.f3.length c] 31))
          clear BKga
          have BKga := n_BKga
          clear n_BKga
          have n_BKgb := Aside0.mk (blk_alloc (g := gb) (o := .cells #[.int .i64 b.f0, .int .i64 b.f1, .int .i64 b.f2, .int .i64 b.f3, .int .i64 b.f4, .int .i64 1, .int .u64 b.f5.f1, .int .u64 b.f5.f2, .int .i64 b.f5.f3, .int .i64 b.f6.f0, .bool b.f6.f1, .int .u64 b.f6.f2, .slice B b.f6.f3.length d] 31 (0, 0)) BKgb.out (.cells #[.int .i64 a.f0, .int .i64 a.f1, .int .i64 a.f2, .int .i64 a.f3, .int .i64 a.f4, .int .i64 1, .int .u64 a.f5.f1, .int .u64 a.f5.f2, .int .i64 a.f5.f3, .int .i64 a.f6.f0, .bool a.f6.f1, .int .u64 a.f6.f2, .slice A a.f6.f3.length c] 31))
          clear BKgb
          have BKgb := n_BKgb
          clear n_BKgb
          have BK10 := Aside0.mk (blk_new w5 (.cells #[.int .i64 a.f0, .int .i64 a.f1, .int .i64 a.f2, .int .i64 a.f3, .int .i64 a.f4, .int .i64 1, .int .u64 a.f5.f1, .int .u64 a.f5.f2, .int .i64 a.f5.f3, .int .i64 a.f6.f0, .bool a.f6.f1, .int .u64 a.f6.f2, .slice A a.f6.f3.length c] 31))
          have n1_ := Aside0.mk (below_alloc HB.out (.cells #[.int .i64 a.f0, .int .i64 a.f1, .int .i64 a.f2, .int .i64 a.f3, .int .i64 a.f4, .int .i64 1, .int .u64 a.f5.f1, .int .u64 a.f5.f2, .int .i64 a.f5.f3, .int .i64 a.f6.f0, .bool a.f6.f1, .int .u64 a.f6.f2, .slice A a.f6.f3.length c] 31))
          clear HB
          have HB := n1_
          clear n1_
          generalize w5.alloc (.cells #[.int .i64 a.f0, .int .i64 a.f1, .int .i64 a.f2, .int .i64 a.f3, .int .i64 a.f4, .int .i64 1, .int .u64 a.f5.f1, .int .u64 a.f5.f2, .int .i64 a.f5.f3, .int .i64 a.f6.f0, .bool a.f6.f1, .int .u64 a.f6.f2, .slice A a.f6.f3.length c] 31) = w10 at BKga BKgb BK10 HB ⊢
          generalize w5.heap.size = g10 at BK10 ⊢
          refine hK.out _ _ ⟨((blk_cell BKga.out 0).trans rfl), ((blk_cell BKga.out 1).trans rfl), ((blk_cell BKga.out 2).trans rfl), ((blk_cell BKga.out 3).trans rfl), ((blk_cell BKga.out 4).trans rfl), ((blk_cell BKga.out 5).trans rfl), ((blk_cell BKga.out 6).trans rfl), ((blk_cell BKga.out 7).trans rfl), ((blk_cell BKga.out 8).trans rfl), ((blk_cell BKga.out 9).trans rfl), ((blk_cell BKga.out 10).trans rfl), ((blk_cell BKga.out 11).trans rfl), ((blk_cell BKga.out 12).trans rfl), ((blk_cell BKgb.out 0).trans rfl), ((blk_cell BKgb.out 1).trans rfl), ((blk_cell BKgb.out 2).trans rfl), ((blk_cell BKgb.out 3).trans rfl), ((blk_cell BKgb.out 4).trans rfl), ((blk_cell BKgb.out 5).trans rfl), ((blk_cell BKgb.out 6).trans rfl), ((blk_cell BKgb.out 7).trans rfl), ((blk_cell BKgb.out 8).trans rfl), ((blk_cell BKgb.out 9).trans rfl), ((blk_cell BKgb.out 10).trans rfl), ((blk_cell BKgb.out 11).trans rfl), ((blk_cell BKgb.out 12).trans rfl)⟩ (fun hHeld => ?_)
          clear hK K
          refine norm_ (a' := ?_) ?_ ?_
          rotate_left
          · show Act.put _ (some 32) _ = _
            simp only [Act.put, List.setIfInBounds_toArray, List.set_cons_zero, List.set_cons_succ, i64_w, i32_w]
            rfl
          refine two_ (i := 12) (j := 14) (Ni := some 34) (Nj := some 36) #[true, true, true, true, true, true, true, true, true, true, true, true, true, true, false, true, false, false, false, false, false, false, false, false, false] #[true, true, true, true, true, true, true, true, true, true, true, true, false, true, true, true, false, false, false, false, false, false, false, false, false] rfl rfl rfl rfl (two_of HT_.out (by kernel_rfl)) (by decide) (by decide) (fun K hK => ?_) (fun K hK => ?_)
          · skip
            refine goes_ Try.func17 (by kernel_rfl) rfl #[.slice (some ⟨g10, 0, none⟩) 1 1, .agg #[.int .i64 b.f0, .int .i64 b.f1, .int .i64 b.f2, .int .i64 b.f3, .int .i64 b.f4, .int .i64 1, .int .u64 b.f5.f1, .int .u64 b.f5.f2, .int .i64 b.f5.f3, .int .i64 b.f6.f0, .bool b.f6.f1, .int .u64 b.f6.f2, .slice B b.f6.f3.length d]] (by rfl) rfl rfl (by (try simp only [List.map_toArray, List.map_cons, List.map_nil]); first | done | rfl) ?_
            with_reducible refine (HQ.out _ _ BK10.out (Kd.C_below HRA.out HB.out)).mono ?_
            rintro e w12 ⟨rfl, hb⟩
            refine ⟨_, rfl, ?_⟩
            have n_BKga := Aside0.mk (blk_below (g := ga) (o := .cells #[.int .i64 a.f0, .int .i64 a.f1, .int .i64 a.f2, .int .i64 a.f3, .int .i64 a.f4, .int .i64 1, .int .u64 a.f5.f1, .int .u64 a.f5.f2, .int .i64 a.f5.f3, .int .i64 a.f6.f0, .bool a.f6.f1, .int .u64 a.f6.f2, .slice A a.f6.f3.length c] 31 (0, 0)) BKga.out hb)
            clear BKga
            have BKga := n_BKga
            clear n_BKga
            have n_BKgb := Aside0.mk (blk_below (g := gb) (o := .cells #[.int .i64 b.f0, .int .i64 b.f1, .int .i64 b.f2, .int .i64 b.f3, .int .i64 b.f4, .int .i64 1, .int .u64 b.f5.f1, .int .u64 b.f5.f2, .int .i64 b.f5.f3, .int .i64 b.f6.f0, .bool b.f6.f1, .int .u64 b.f6.f2, .slice B b.f6.f3.length d] 31 (0, 0)) BKgb.out hb)
            clear BKgb
            have BKgb := n_BKgb
            clear n_BKgb
            have n_BK10 := Aside0.mk (blk_below (g := g10) (o := .cells #[.int .i64 a.f0, .int .i64 a.f1, .int .i64 a.f2, .int .i64 a.f3, .int .i64 a.f4, .int .i64 1, .int .u64 a.f5.f1, .int .u64 a.f5.f2, .int .i64 a.f5.f3, .int .i64 a.f6.f0, .bool a.f6.f1, .int .u64 a.f6.f2, .slice A a.f6.f3.length c] 31 (0, 0)) BK10.out hb)
            clear BK10
            have BK10 := n_BK10
            clear n_BK10
            have n1_ := Aside0.mk (below_step HB.out hb)
            clear HB hb
            have HB := n1_
            clear n1_
            refine hK.out _ _ ⟨((blk_cell BKga.out 0).trans rfl), ((blk_cell BKga.out 1).trans rfl), ((blk_cell BKga.out 2).trans rfl), ((blk_cell BKga.out 3).trans rfl), ((blk_cell BKga.out 4).trans rfl), ((blk_cell BKga.out 5).trans rfl), ((blk_cell BKga.out 6).trans rfl), ((blk_cell BKga.out 7).trans rfl), ((blk_cell BKga.out 8).trans rfl), ((blk_cell BKga.out 9).trans rfl), ((blk_cell BKga.out 10).trans rfl), ((blk_cell BKga.out 11).trans rfl), ((blk_cell BKga.out 12).trans rfl), ((blk_cell BKgb.out 0).trans rfl), ((blk_cell BKgb.out 1).trans rfl), ((blk_cell BKgb.out 2).trans rfl), ((blk_cell BKgb.out 3).trans rfl), ((blk_cell BKgb.out 4).trans rfl), ((blk_cell BKgb.out 5).trans rfl), ((blk_cell BKgb.out 6).trans rfl), ((blk_cell BKgb.out 7).trans rfl), ((blk_cell BKgb.out 8).trans rfl), ((blk_cell BKgb.out 9).trans rfl), ((blk_cell BKgb.out 10).trans rfl), ((blk_cell BKgb.out 11).trans rfl), ((blk_cell BKgb.out 12).trans rfl)⟩ (fun hHeld => ?_)
            clear hK K
            refine norm_ (a' := ?_) ?_ ?_
            rotate_left
            · show Act.put _ (some 34) _ = _
              simp only [Act.put, List.setIfInBounds_toArray, List.set_cons_zero, List.set_cons_succ, i64_w, i32_w]
              rfl
            refine one_ (i := 14) (N := some 36) #[true, true, true, true, true, true, true, true, true, true, true, true, true, true, true, true, false, false, false, false, false, false, false, false, false] rfl rfl (one_of HT_.out (by kernel_rfl)) (by decide) (fun K hK => ?_)
            refine value_ (w1 := ?_) (v := ?_) (by rfl) rfl ?_ ?_
            rotate_left 2
            · go_simp
              constructor
              · rfl
              · rfl
            have n_BKga := Aside0.mk (blk_alloc (g := ga) (o := .cells #[.int .i64 a.f0, .int .i64 a.f1, .int .i64 a.f2, .int .i64 a.f3, .int .i64 a.f4, .int .i64 1, .int .u64 a.f5.f1, .int .u64 a.f5.f2, .int .i64 a.f5.f3, .int .i64 a.f6.f0, .bool a.f6.f1, .int .u64 a.f6.f2, .slice A a.f6.f3.length c] 31 (0, 0)) BKga.out (.cells #[.int .i64 b.f0, .int .i64 b.f1, .int .i64 b.f2, .int .i64 b.f3, .int .i64 b.f4, .int .i64 1, .int .u64 b.f5.f1, .int .u64 b.f5.f2, .int .i64 b.f5.f3, .int .i64 b.f6.f0, .bool b.f6.f1, .int .u64 b.f6.f2, .slice B b.f6.f3.length d] 31))
            clear BKga
            have BKga := n_BKga
            clear n_BKga
            have n_BKgb := Aside0.mk (blk_alloc (g := gb) (o := .cells #[.int .i64 b.f0, .int .i64 b.f1, .int .i64 b.f2, .int .i64 b.f3, .int .i64 b.f4, .int .i64 1, .int .u64 b.f5.f1, .int .u64 b.f5.f2, .int .i64 b.f5.f3, .int .i64 b.f6.f0, .bool b.f6.f1, .int .u64 b.f6.f2, .slice B b.f6.f3.length d] 31 (0, 0)) BKgb.out (.cells #[.int .i64 b.f0, .int .i64 b.f1, .int .i64 b.f2, .int .i64 b.f3, .int .i64 b.f4, .int .i64 1, .int .u64 b.f5.f1, .int .u64 b.f5.f2, .int .i64 b.f5.f3, .int .i64 b.f6.f0, .bool b.f6.f1, .int .u64 b.f6.f2, .slice B b.f6.f3.length d] 31))
            clear BKgb
            have BKgb := n_BKgb
            clear n_BKgb
            have n_BK10 := Aside0.mk (blk_alloc (g := g10) (o := .cells #[.int .i64 a.f0, .int .i64 a.f1, .int .i64 a.f2, .int .i64 a.f3, .int .i64 a.f4, .int .i64 1, .int .u64 a.f5.f1, .int .u64 a.f5.f2, .int .i64 a.f5.f3, .int .i64 a.f6.f0, .bool a.f6.f1, .int .u64 a.f6.f2, .slice A a.f6.f3.length c] 31 (0, 0)) BK10.out (.cells #[.int .i64 b.f0, .int .i64 b.f1, .int .i64 b.f2, .int .i64 b.f3, .int .i64 b.f4, .int .i64 1, .int .u64 b.f5.f1, .int .u64 b.f5.f2, .int .i64 b.f5.f3, .int .i64 b.f6.f0, .bool b.f6.f1, .int .u64 b.f6.f2, .slice B b.f6.f3.length d] 31))
            clear BK10
            have BK10 := n_BK10
            clear n_BK10
            have BK14 := Aside0.mk (blk_new w12 (.cells #[.int .i64 b.f0, .int .i64 b.f1, .int .i64 b.f2, .int .i64 b.f3, .int .i64 b.f4, .int .i64 1, .int .u64 b.f5.f1, .int .u64 b.f5.f2, .int .i64 b.f5.f3, .int .i64 b.f6.f0, .bool b.f6.f1, .int .u64 b.f6.f2, .slice B b.f6.f3.length d] 31))
            have n1_ := Aside0.mk (below_alloc HB.out (.cells #[.int .i64 b.f0, .int .i64 b.f1, .int .i64 b.f2, .int .i64 b.f3, .int .i64 b.f4, .int .i64 1, .int .u64 b.f5.f1, .int .u64 b.f5.f2, .int .i64 b.f5.f3, .int .i64 b.f6.f0, .bool b.f6.f1, .int .u64 b.f6.f2, .slice B b.f6.f3.length d] 31))
            clear HB
            have HB := n1_
            clear n1_
            generalize w12.alloc (.cells #[.int .i64 b.f0, .int .i64 b.f1, .int .i64 b.f2, .int .i64 b.f3, .int .i64 b.f4, .int .i64 1, .int .u64 b.f5.f1, .int .u64 b.f5.f2, .int .i64 b.f5.f3, .int .i64 b.f6.f0, .bool b.f6.f1, .int .u64 b.f6.f2, .slice B b.f6.f3.length d] 31) = w14 at BKga BKgb BK10 BK14 HB ⊢
            generalize w12.heap.size = g14 at BK14 ⊢
            refine hK.out _ _ ⟨((blk_cell BKga.out 0).trans rfl), ((blk_cell BKga.out 1).trans rfl), ((blk_cell BKga.out 2).trans rfl), ((blk_cell BKga.out 3).trans rfl), ((blk_cell BKga.out 4).trans rfl), ((blk_cell BKga.out 5).trans rfl), ((blk_cell BKga.out 6).trans rfl), ((blk_cell BKga.out 7).trans rfl), ((blk_cell BKga.out 8).trans rfl), ((blk_cell BKga.out 9).trans rfl), ((blk_cell BKga.out 10).trans rfl), ((blk_cell BKga.out 11).trans rfl), ((blk_cell BKga.out 12).trans rfl), ((blk_cell BKgb.out 0).trans rfl), ((blk_cell BKgb.out 1).trans rfl), ((blk_cell BKgb.out 2).trans rfl), ((blk_cell BKgb.out 3).trans rfl), ((blk_cell BKgb.out 4).trans rfl), ((blk_cell BKgb.out 5).trans rfl), ((blk_cell BKgb.out 6).trans rfl), ((blk_cell BKgb.out 7).trans rfl), ((blk_cell BKgb.out 8).trans rfl), ((blk_cell BKgb.out 9).trans rfl), ((blk_cell BKgb.out 10).trans rfl), ((blk_cell BKgb.out 11).trans rfl), ((blk_cell BKgb.out 12).trans rfl)⟩ (fun hHeld => ?_)
            clear hK K
            refine norm_ (a' := ?_) ?_ ?_
            rotate_left
            · show Act.put _ (some 36) _ = _
              simp only [Act.put, List.setIfInBounds_toArray, List.set_cons_zero, List.set_cons_succ, i64_w, i32_w]
              rfl
            exact norm_ (by simp only [putAll, Act.put, List.setIfInBounds_toArray, List.set_cons_zero, List.set_cons_succ]) (hCont (g10, g14) _ ⟨BK14, BKga, BKgb, HB⟩)
          · skip
            refine value_ (w1 := ?_) (v := ?_) (by rfl) rfl ?_ ?_
            rotate_left 2
            · go_simp
              constructor
              · rfl
              · rfl
            have n_BKga := Aside0.mk (blk_alloc (g := ga) (o := .cells #[.int .i64 a.f0, .int .i64 a.f1, .int .i64 a.f2, .int .i64 a.f3, .int .i64 a.f4, .int .i64 1, .int .u64 a.f5.f1, .int .u64 a.f5.f2, .int .i64 a.f5.f3, .int .i64 a.f6.f0, .bool a.f6.f1, .int .u64 a.f6.f2, .slice A a.f6.f3.length c] 31 (0, 0)) BKga.out (.cells #[.int .i64 b.f0, .int .i64 b.f1, .int .i64 b.f2, .int .i64 b.f3, .int .i64 b.f4, .int .i64 1, .int .u64 b.f5.f1, .int .u64 b.f5.f2, .int .i64 b.f5.f3, .int .i64 b.f6.f0, .bool b.f6.f1, .int .u64 b.f6.f2, .slice B b.f6.f3.length d] 31))
            clear BKga
            have BKga := n_BKga
            clear n_BKga
            have n_BKgb := Aside0.mk (blk_alloc (g := gb) (o := .cells #[.int .i64 b.f0, .int .i64 b.f1, .int .i64 b.f2, .int .i64 b.f3, .int .i64 b.f4, .int .i64 1, .int .u64 b.f5.f1, .int .u64 b.f5.f2, .int .i64 b.f5.f3, .int .i64 b.f6.f0, .bool b.f6.f1, .int .u64 b.f6.f2, .slice B b.f6.f3.length d] 31 (0, 0)) BKgb.out (.cells #[.int .i64 b.f0, .int .i64 b.f1, .int .i64 b.f2, .int .i64 b.f3, .int .i64 b.f4, .int .i64 1, .int .u64 b.f5.f1, .int .u64 b.f5.f2, .int .i64 b.f5.f3, .int .i64 b.f6.f0, .bool b.f6.f1, .int .u64 b.f6.f2, .slice B b.f6.f3.length d] 31))
            clear BKgb
            have BKgb := n_BKgb
            clear n_BKgb
            have n_BK10 := Aside0.mk (blk_alloc (g := g10) (o := .cells #[.int .i64 a.f0, .int .i64 a.f1, .int .i64 a.f2, .int .i64 a.f3, .int .i64 a.f4, .int .i64 1, .int .u64 a.f5.f1, .int .u64 a.f5.f2, .int .i64 a.f5.f3, .int .i64 a.f6.f0, .bool a.f6.f1, .int .u64 a.f6.f2, .slice A a.f6.f3.length c] 31 (0, 0)) BK10.out (.cells #[.int .i64 b.f0, .int .i64 b.f1, .int .i64 b.f2, .int .i64 b.f3, .int .i64 b.f4, .int .i64 1, .int .u64 b.f5.f1, .int .u64 b.f5.f2, .int .i64 b.f5.f3, .int .i64 b.f6.f0, .bool b.f6.f1, .int .u64 b.f6.f2, .slice B b.f6.f3.length d] 31))
            clear BK10
            have BK10 := n_BK10
            clear n_BK10
            have BK14 := Aside0.mk (blk_new w10 (.cells #[.int .i64 b.f0, .int .i64 b.f1, .int .i64 b.f2, .int .i64 b.f3, .int .i64 b.f4, .int .i64 1, .int .u64 b.f5.f1, .int .u64 b.f5.f2, .int .i64 b.f5.f3, .int .i64 b.f6.f0, .bool b.f6.f1, .int .u64 b.f6.f2, .slice B b.f6.f3.length d] 31))
            have n1_ := Aside0.mk (below_alloc HB.out (.cells #[.int .i64 b.f0, .int .i64 b.f1, .int .i64 b.f2, .int .i64 b.f3, .int .i64 b.f4, .int .i64 1, .int .u64 b.f5.f1, .int .u64 b.f5.f2, .int .i64 b.f5.f3, .int .i64 b.f6.f0, .bool b.f6.f1, .int .u64 b.f6.f2, .slice B b.f6.f3.length d] 31))
            clear HB
            have HB := n1_
            clear n1_
            generalize w10.alloc (.cells #[.int .i64 b.f0, .int .i64 b.f1, .int .i64 b.f2, .int .i64 b.f3, .int .i64 b.f4, .int .i64 1, .int .u64 b.f5.f1, .int .u64 b.f5.f2, .int .i64 b.f5.f3, .int .i64 b.f6.f0, .bool b.f6.f1, .int .u64 b.f6.f2, .slice B b.f6.f3.length d] 31) = w14 at BKga BKgb BK10 BK14 HB ⊢
            generalize w10.heap.size = g14 at BK14 ⊢
            refine hK.out _ _ ⟨((blk_cell BKga.out 0).trans rfl), ((blk_cell BKga.out 1).trans rfl), ((blk_cell BKga.out 2).trans rfl), ((blk_cell BKga.out 3).trans rfl), ((blk_cell BKga.out 4).trans rfl), ((blk_cell BKga.out 5).trans rfl), ((blk_cell BKga.out 6).trans rfl), ((blk_cell BKga.out 7).trans rfl), ((blk_cell BKga.out 8).trans rfl), ((blk_cell BKga.out 9).trans rfl), ((blk_cell BKga.out 10).trans rfl), ((blk_cell BKga.out 11).trans rfl), ((blk_cell BKga.out 12).trans rfl), ((blk_cell BKgb.out 0).trans rfl), ((blk_cell BKgb.out 1).trans rfl), ((blk_cell BKgb.out 2).trans rfl), ((blk_cell BKgb.out 3).trans rfl), ((blk_cell BKgb.out 4).trans rfl), ((blk_cell BKgb.out 5).trans rfl), ((blk_cell BKgb.out 6).trans rfl), ((blk_cell BKgb.out 7).trans rfl), ((blk_cell BKgb.out 8).trans rfl), ((blk_cell BKgb.out 9).trans rfl), ((blk_cell BKgb.out 10).trans rfl), ((blk_cell BKgb.out 11).trans rfl), ((blk_cell BKgb.out 12).trans rfl)⟩ (fun hHeld => ?_)
            clear hK K
            refine norm_ (a' := ?_) ?_ ?_
            rotate_left
            · show Act.put _ (some 36) _ = _
              simp only [Act.put, List.setIfInBounds_toArray, List.set_cons_zero, List.set_cons_succ, i64_w, i32_w]
              rfl
            refine one_ (i := 12) (N := some 34) #[true, true, true, true, true, true, true, true, true, true, true, true, true, true, true, true, false, false, false, false, false, false, false, false, false] rfl rfl (one_of HT_.out (by kernel_rfl)) (by decide) (fun K hK => ?_)
            refine goes_ Try.func17 (by kernel_rfl) rfl #[.slice (some ⟨g10, 0, none⟩) 1 1, .agg #[.int .i64 b.f0, .int .i64 b.f1, .int .i64 b.f2, .int .i64 b.f3, .int .i64 b.f4, .int .i64 1, .int .u64 b.f5.f1, .int .u64 b.f5.f2, .int .i64 b.f5.f3, .int .i64 b.f6.f0, .bool b.f6.f1, .int .u64 b.f6.f2, .slice B b.f6.f3.length d]] (by rfl) rfl rfl (by (try simp only [List.map_toArray, List.map_cons, List.map_nil]); first | done | rfl) ?_
            with_reducible refine (HQ.out _ _ BK10.out (Kd.C_below HRA.out HB.out)).mono ?_
            rintro e w12 ⟨rfl, hb⟩
            refine ⟨_, rfl, ?_⟩
            have n_BKga := Aside0.mk (blk_below (g := ga) (o := .cells #[.int .i64 a.f0, .int .i64 a.f1, .int .i64 a.f2, .int .i64 a.f3, .int .i64 a.f4, .int .i64 1, .int .u64 a.f5.f1, .int .u64 a.f5.f2, .int .i64 a.f5.f3, .int .i64 a.f6.f0, .bool a.f6.f1, .int .u64 a.f6.f2, .slice A a.f6.f3.length c] 31 (0, 0)) BKga.out hb)
            clear BKga
            have BKga := n_BKga
            clear n_BKga
            have n_BKgb := Aside0.mk (blk_below (g := gb) (o := .cells #[.int .i64 b.f0, .int .i64 b.f1, .int .i64 b.f2, .int .i64 b.f3, .int .i64 b.f4, .int .i64 1, .int .u64 b.f5.f1, .int .u64 b.f5.f2, .int .i64 b.f5.f3, .int .i64 b.f6.f0, .bool b.f6.f1, .int .u64 b.f6.f2, .slice B b.f6.f3.length d] 31 (0, 0)) BKgb.out hb)
            clear BKgb
            have BKgb := n_BKgb
            clear n_BKgb
            have n_BK10 := Aside0.mk (blk_below (g := g10) (o := .cells #[.int .i64 a.f0, .int .i64 a.f1, .int .i64 a.f2, .int .i64 a.f3, .int .i64 a.f4, .int .i64 1, .int .u64 a.f5.f1, .int .u64 a.f5.f2, .int .i64 a.f5.f3, .int .i64 a.f6.f0, .bool a.f6.f1, .int .u64 a.f6.f2, .slice A a.f6.f3.length c] 31 (0, 0)) BK10.out hb)
            clear BK10
            have BK10 := n_BK10
            clear n_BK10
            have n_BK14 := Aside0.mk (blk_below (g := g14) (o := .cells #[.int .i64 b.f0, .int .i64 b.f1, .int .i64 b.f2, .int .i64 b.f3, .int .i64 b.f4, .int .i64 1, .int .u64 b.f5.f1, .int .u64 b.f5.f2, .int .i64 b.f5.f3, .int .i64 b.f6.f0, .bool b.f6.f1, .int .u64 b.f6.f2, .slice B b.f6.f3.length d] 31 (0, 0)) BK14.out hb)
            clear BK14
            have BK14 := n_BK14
            clear n_BK14
            have n1_ := Aside0.mk (below_step HB.out hb)
            clear HB hb
            have HB := n1_
            clear n1_
            refine hK.out _ _ ⟨((blk_cell BKga.out 0).trans rfl), ((blk_cell BKga.out 1).trans rfl), ((blk_cell BKga.out 2).trans rfl), ((blk_cell BKga.out 3).trans rfl), ((blk_cell BKga.out 4).trans rfl), ((blk_cell BKga.out 5).trans rfl), ((blk_cell BKga.out 6).trans rfl), ((blk_cell BKga.out 7).trans rfl), ((blk_cell BKga.out 8).trans rfl), ((blk_cell BKga.out 9).trans rfl), ((blk_cell BKga.out 10).trans rfl), ((blk_cell BKga.out 11).trans rfl), ((blk_cell BKga.out 12).trans rfl), ((blk_cell BKgb.out 0).trans rfl), ((blk_cell BKgb.out 1).trans rfl), ((blk_cell BKgb.out 2).trans rfl), ((blk_cell BKgb.out 3).trans rfl), ((blk_cell BKgb.out 4).trans rfl), ((blk_cell BKgb.out 5).trans rfl), ((blk_cell BKgb.out 6).trans rfl), ((blk_cell BKgb.out 7).trans rfl), ((blk_cell BKgb.out 8).trans rfl), ((blk_cell BKgb.out 9).trans rfl), ((blk_cell BKgb.out 10).trans rfl), ((blk_cell BKgb.out 11).trans rfl), ((blk_cell BKgb.out 12).trans rfl)⟩ (fun hHeld => ?_)
            clear hK K
            refine norm_ (a' := ?_) ?_ ?_
            rotate_left
            · show Act.put _ (some 34) _ = _
              simp only [Act.put, List.setIfInBounds_toArray, List.set_cons_zero, List.set_cons_succ, i64_w, i32_w]
              rfl
            exact norm_ (by simp only [putAll, Act.put, List.setIfInBounds_toArray, List.set_cons_zero, List.set_cons_succ]) (hCont (g10, g14) _ ⟨BK14, BKga, BKgb, HB⟩)
        · skip
          refine value_ (w1 := ?_) (v := ?_) (by rfl) rfl ?_ ?_
          rotate_left 2
          · go_simp
            constructor
            · rfl
            · rfl
          have n_BKga := Aside0.mk (blk_alloc (g := ga) (o := .cells #[.int .i64 a.f0, .int .i64 a.f1, .int .i64 a.f2, .int .i64 a.f3, .int .i64 a.f4, .int .i64 1, .int .u64 a.f5.f1, .int .u64 a.f5.f2, .int .i64 a.f5.f3, .int .i64 a.f6.f0, .bool a.f6.f1, .int .u64 a.f6.f2, .slice A a.f6.f3.length c] 31 (0, 0)) BKga.out (.cells #[.int .i64 b.f0, .int .i64 b.f1, .int .i64 b.f2, .int .i64 b.f3, .int .i64 b.f4, .int .i64 1, .int .u64 b.f5.f1, .int .u64 b.f5.f2, .int .i64 b.f5.f3, .int .i64 b.f6.f0, .bool b.f6.f1, .int .u64 b.f6.f2, .slice B b.f6.f3.length d] 31))
          clear BKga
          have BKga := n_BKga
          clear n_BKga
          have n_BKgb := Aside0.mk (blk_alloc (g := gb) (o := .cells #[.int .i64 b.f0, .int .i64 b.f1, .int .i64 b.f2, .int .i64 b.f3, .int .i64 b.f4, .int .i64 1, .int .u64 b.f5.f1, .int .u64 b.f5.f2, .int .i64 b.f5.f3, .int .i64 b.f6.f0, .bool b.f6.f1, .int .u64 b.f6.f2, .slice B b.f6.f3.length d] 31 (0, 0)) BKgb.out (.cells #[.int .i64 b.f0, .int .i64 b.f1, .int .i64 b.f2, .int .i64 b.f3, .int .i64 b.f4, .int .i64 1, .int .u64 b.f5.f1, .int .u64 b.f5.f2, .int .i64 b.f5.f3, .int .i64 b.f6.f0, .bool b.f6.f1, .int .u64 b.f6.f2, .slice B b.f6.f3.length d] 31))
          clear BKgb
          have BKgb := n_BKgb
          clear n_BKgb
          have BK14 := Aside0.mk (blk_new w5 (.cells #[.int .i64 b.f0, .int .i64 b.f1, .int .i64 b.f2, .int .i64 b.f3, .int .i64 b.f4, .int .i64 1, .int .u64 b.f5.f1, .int .u64 b.f5.f2, .int .i64 b.f5.f3, .int .i64 b.f6.f0, .bool b.f6.f1, .int .u64 b.f6.f2, .slice B b.f6.f3.length d] 31))
          have n1_ := Aside0.mk (below_alloc HB.out (.cells #[.int .i64 b.f0, .int .i64 b.f1, .int .i64 b.f2, .int .i64 b.f3, .int .i64 b.f4, .int .i64 1, .int .u64 b.f5.f1, .int .u64 b.f5.f2, .int .i64 b.f5.f3, .int .i64 b.f6.f0, .bool b.f6.f1, .int .u64 b.f6.f2, .slice B b.f6.f3.length d] 31))
          clear HB
          have HB := n1_
          clear n1_
          generalize w5.alloc (.cells #[.int .i64 b.f0, .int .i64 b.f1, .int .i64 b.f2, .int .i64 b.f3, .int .i64 b.f4, .int .i64 1, .int .u64 b.f5.f1, .int .u64 b.f5.f2, .int .i64 b.f5.f3, .int .i64 b.f6.f0, .bool b.f6.f1, .int .u64 b.f6.f2, .slice B b.f6.f3.length d] 31) = w14 at BKga BKgb BK14 HB ⊢
          generalize w5.heap.size = g14 at BK14 ⊢
          refine hK.out _ _ ⟨((blk_cell BKga.out 0).trans rfl), ((blk_cell BKga.out 1).trans rfl), ((blk_cell BKga.out 2).trans rfl), ((blk_cell BKga.out 3).trans rfl), ((blk_cell BKga.out 4).trans rfl), ((blk_cell BKga.out 5).trans rfl), ((blk_cell BKga.out 6).trans rfl), ((blk_cell BKga.out 7).trans rfl), ((blk_cell BKga.out 8).trans rfl), ((blk_cell BKga.out 9).trans rfl), ((blk_cell BKga.out 10).trans rfl), ((blk_cell BKga.out 11).trans rfl), ((blk_cell BKga.out 12).trans rfl), ((blk_cell BKgb.out 0).trans rfl), ((blk_cell BKgb.out 1).trans rfl), ((blk_cell BKgb.out 2).trans rfl), ((blk_cell BKgb.out 3).trans rfl), ((blk_cell BKgb.out 4).trans rfl), ((blk_cell BKgb.out 5).trans rfl), ((blk_cell BKgb.out 6).trans rfl), ((blk_cell BKgb.out 7).trans rfl), ((blk_cell BKgb.out 8).trans rfl), ((blk_cell BKgb.out 9).trans rfl), ((blk_cell BKgb.out 10).trans rfl), ((blk_cell BKgb.out 11).trans rfl), ((blk_cell BKgb.out 12).trans rfl)⟩ (fun hHeld => ?_)
          clear hK K
          refine norm_ (a' := ?_) ?_ ?_
          rotate_left
          · show Act.put _ (some 36) _ = _
            simp only [Act.put, List.setIfInBounds_toArray, List.set_cons_zero, List.set_cons_succ, i64_w, i32_w]
            rfl
          refine one_ (i := 10) (N := some 32) #[true, true, true, true, true, true, true, true, true, true, true, true, false, true, true, true, false, false, false, false, false, false, false, false, false] rfl rfl (one_of HT_.out (by kernel_rfl)) (by decide) (fun K hK => ?_)
          refine value_ (w1 := ?_) (v := ?_) (by rfl) rfl ?_ ?_
          rotate_left 2
          · go_simp
            constructor
            · rfl
            · rfl
          have n_BKga := Aside0.mk (blk_alloc (g := ga) (o := .cells #[.int .i64 a.f0, .int .i64 a.f1, .int .i64 a.f2, .int .i64 a.f3, .int .i64 a.f4, .int .i64 1, .int .u64 a.f5.f1, .int .u64 a.f5.f2, .int .i64 a.f5.f3, .int .i64 a.f6.f0, .bool a.f6.f1, .int .u64 a.f6.f2, .slice A a.f6.f3.length c] 31 (0, 0)) BKga.out (.cells #[.int .i64 a.f0, .int .i64 a.f1, .int .i64 a.f2, .int .i64 a.f3, .int .i64 a.f4, .int .i64 1, .int .u64 a.f5.f1, .int .u64 a.f5.f2, .int .i64 a.f5.f3, .int .i64 a.f6.f0, .bool a.f6.f1, .int .u64 a.f6.f2, .slice A a.f6.f3.length c] 31))
          clear BKga
          have BKga := n_BKga
          clear n_BKga
          have n_BKgb := Aside0.mk (blk_alloc (g := gb) (o := .cells #[.int .i64 b.f0, .int .i64 b.f1, .int .i64 b.f2, .int .i64 b.f3, .int .i64 b.f4, .int .i64 1, .int .u64 b.f5.f1, .int .u64 b.f5.f2, .int .i64 b.f5.f3, .int .i64 b.f6.f0, .bool b.f6.f1, .int .u64 b.f6.f2, .slice B b.f6.f3.length d] 31 (0, 0)) BKgb.out (.cells #[.int .i64 a.f0, .int .i64 a.f1, .int .i64 a.f2, .int .i64 a.f3, .int .i64 a.f4, .int .i64 1, .int .u64 a.f5.f1, .int .u64 a.f5.f2, .int .i64 a.f5.f3, .int .i64 a.f6.f0, .bool a.f6.f1, .int .u64 a.f6.f2, .slice A a.f6.f3.length c] 31))
          clear BKgb
          have BKgb := n_BKgb
          clear n_BKgb
          have n_BK14 := Aside0.mk (blk_alloc (g := g14) (o := .cells #[.int .i64 b.f0, .int .i64 b.f1, .int .i64 b.f2, .int .i64 b.f3, .int .i64 b.f4, .int .i64 1, .int .u64 b.f5.f1, .int .u64 b.f5.f2, .int .i64 b.f5.f3, .int .i64 b.f6.f0, .bool b.f6.f1, .int .u64 b.f6.f2, .slice B b.f6.f3.length d] 31 (0, 0)) BK14.out (.cells #[.int .i64 a.f0, .int .i64 a.f1, .int .i64 a.f2, .int .i64 a.f3, .int .i64 a.f4, .int .i64 1, .int .u64 a.f5.f1, .int .u64 a.f5.f2, .int .i64 a.f5.f3, .int .i64 a.f6.f0, .bool a.f6.f1, .int .u64 a.f6.f2, .slice A a.f6.f3.length c] 31))
          clear BK14
          have BK14 := n_BK14
          clear n_BK14
          have BK10 := Aside0.mk (blk_new w14 (.cells #[.int .i64 a.f0, .int .i64 a.f1, .int .i64 a.f2, .int .i64 a.f3, .int .i64 a.f4, .int .i64 1, .int .u64 a.f5.f1, .int .u64 a.f5.f2, .int .i64 a.f5.f3, .int .i64 a.f6.f0, .bool a.f6.f1, .int .u64 a.f6.f2, .slice A a.f6.f3.length c] 31))
          have n1_ := Aside0.mk (below_alloc HB.out (.cells #[.int .i64 a.f0, .int .i64 a.f1, .int .i64 a.f2, .int .i64 a.f3, .int .i64 a.f4, .int .i64 1, .int .u64 a.f5.f1, .int .u64 a.f5.f2, .int .i64 a.f5.f3, .int .i64 a.f6.f0, .bool a.f6.f1, .int .u64 a.f6.f2, .slice A a.f6.f3.length c] 31))
          clear HB
          have HB := n1_
          clear n1_
          generalize w14.alloc (.cells #[.int .i64 a.f0, .int .i64 a.f1, .int .i64 a.f2, .int .i64 a.f3, .int .i64 a.f4, .int .i64 1, .int .u64 a.f5.f1, .int .u64 a.f5.f2, .int .i64 a.f5.f3, .int .i64 a.f6.f0, .bool a.f6.f1, .int .u64 a.f6.f2, .slice A a.f6.f3.length c] 31) = w10 at BKga BKgb BK14 BK10 HB ⊢
          generalize w14.heap.size = g10 at BK10 ⊢
          refine hK.out _ _ ⟨((blk_cell BKga.out 0).trans rfl), ((blk_cell BKga.out 1).trans rfl), ((blk_cell BKga.out 2).trans rfl), ((blk_cell BKga.out 3).trans rfl), ((blk_cell BKga.out 4).trans rfl), ((blk_cell BKga.out 5).trans rfl), ((blk_cell BKga.out 6).trans rfl), ((blk_cell BKga.out 7).trans rfl), ((blk_cell BKga.out 8).trans rfl), ((blk_cell BKga.out 9).trans rfl), ((blk_cell BKga.out 10).trans rfl), ((blk_cell BKga.out 11).trans rfl), ((blk_cell BKga.out 12).trans rfl), ((blk_cell BKgb.out 0).trans rfl), ((blk_cell BKgb.out 1).trans rfl), ((blk_cell BKgb.out 2).trans rfl), ((blk_cell BKgb.out 3).trans rfl), ((blk_cell BKgb.out 4).trans rfl), ((blk_cell BKgb.out 5).trans rfl), ((blk_cell BKgb.out 6).trans rfl), ((blk_cell BKgb.out 7).trans rfl), ((blk_cell BKgb.out 8).trans rfl), ((blk_cell BKgb.out 9).trans rfl), ((blk_cell BKgb.out 10).trans rfl), ((blk_cell BKgb.out 11).trans rfl), ((blk_cell BKgb.out 12).trans rfl)⟩ (fun hHeld => ?_)
          clear hK K
          refine norm_ (a' := ?_) ?_ ?_
          rotate_left
          · show Act.put _ (some 32) _ = _
            simp only [Act.put, List.setIfInBounds_toArray, List.set_cons_zero, List.set_cons_succ, i64_w, i32_w]
            rfl
          refine one_ (i := 12) (N := some 34) #[true, true, true, true, true, true, true, true, true, true, true, true, true, true, true, true, false, false, false, false, false, false, false, false, false] rfl rfl (one_of HT_.out (by kernel_rfl)) (by decide) (fun K hK => ?_)
          refine goes_ Try.func17 (by kernel_rfl) rfl #[.slice (some ⟨g10, 0, none⟩) 1 1, .agg #[.int .i64 b.f0, .int .i64 b.f1, .int .i64 b.f2, .int .i64 b.f3, .int .i64 b.f4, .int .i64 1, .int .u64 b.f5.f1, .int .u64 b.f5.f2, .int .i64 b.f5.f3, .int .i64 b.f6.f0, .bool b.f6.f1, .int .u64 b.f6.f2, .slice B b.f6.f3.length d]] (by rfl) rfl rfl (by (try simp only [List.map_toArray, List.map_cons, List.map_nil]); first | done | rfl) ?_
          with_reducible refine (HQ.out _ _ BK10.out (Kd.C_below HRA.out HB.out)).mono ?_
          rintro e w12 ⟨rfl, hb⟩
          refine ⟨_, rfl, ?_⟩
          have n_BKga := Aside0.mk (blk_below (g := ga) (o := .cells #[.int .i64 a.f0, .int .i64 a.f1, .int .i64 a.f2, .int .i64 a.f3, .int .i64 a.f4, .int .i64 1, .int .u64 a.f5.f1, .int .u64 a.f5.f2, .int .i64 a.f5.f3, .int .i64 a.f6.f0, .bool a.f6.f1, .int .u64 a.f6.f2, .slice A a.f6.f3.length c] 31 (0, 0)) BKga.out hb)
          clear BKga
          have BKga := n_BKga
          clear n_BKga
          have n_BKgb := Aside0.mk (blk_below (g := gb) (o := .cells #[.int .i64 b.f0, .int .i64 b.f1, .int .i64 b.f2, .int .i64 b.f3, .int .i64 b.f4, .int .i64 1, .int .u64 b.f5.f1, .int .u64 b.f5.f2, .int .i64 b.f5.f3, .int .i64 b.f6.f0, .bool b.f6.f1, .int .u64 b.f6.f2, .slice B b.f6.f3.length d] 31 (0, 0)) BKgb.out hb)
          clear BKgb
          have BKgb := n_BKgb
          clear n_BKgb
          have n_BK10 := Aside0.mk (blk_below (g := g10) (o := .cells #[.int .i64 a.f0, .int .i64 a.f1, .int .i64 a.f2, .int .i64 a.f3, .int .i64 a.f4, .int .i64 1, .int .u64 a.f5.f1, .int .u64 a.f5.f2, .int .i64 a.f5.f3, .int .i64 a.f6.f0, .bool a.f6.f1, .int .u64 a.f6.f2, .slice A a.f6.f3.length c] 31 (0, 0)) BK10.out hb)
          clear BK10
          have BK10 := n_BK10
          clear n_BK10
          have n_BK14 := Aside0.mk (blk_below (g := g14) (o := .cells #[.int .i64 b.f0, .int .i64 b.f1, .int .i64 b.f2, .int .i64 b.f3, .int .i64 b.f4, .int .i64 1, .int .u64 b.f5.f1, .int .u64 b.f5.f2, .int .i64 b.f5.f3, .int .i64 b.f6.f0, .bool b.f6.f1, .int .u64 b.f6.f2, .slice B b.f6.f3.length d] 31 (0, 0)) BK14.out hb)
          clear BK14
          have BK14 := n_BK14
          clear n_BK14
          have n1_ := Aside0.mk (below_step HB.out hb)
          clear HB hb
          have HB := n1_
          clear n1_
          refine hK.out _ _ ⟨((blk_cell BKga.out 0).trans rfl), ((blk_cell BKga.out 1).trans rfl), ((blk_cell BKga.out 2).trans rfl), ((blk_cell BKga.out 3).trans rfl), ((blk_cell BKga.out 4).trans rfl), ((blk_cell BKga.out 5).trans rfl), ((blk_cell BKga.out 6).trans rfl), ((blk_cell BKga.out 7).trans rfl), ((blk_cell BKga.out 8).trans rfl), ((blk_cell BKga.out 9).trans rfl), ((blk_cell BKga.out 10).trans rfl), ((blk_cell BKga.out 11).trans rfl), ((blk_cell BKga.out 12).trans rfl), ((blk_cell BKgb.out 0).trans rfl), ((blk_cell BKgb.out 1).trans rfl), ((blk_cell BKgb.out 2).trans rfl), ((blk_cell BKgb.out 3).trans rfl), ((blk_cell BKgb.out 4).trans rfl), ((blk_cell BKgb.out 5).trans rfl), ((blk_cell BKgb.out 6).trans rfl), ((blk_cell BKgb.out 7).trans rfl), ((blk_cell BKgb.out 8).trans rfl), ((blk_cell BKgb.out 9).trans rfl), ((blk_cell BKgb.out 10).trans rfl), ((blk_cell BKgb.out 11).trans rfl), ((blk_cell BKgb.out 12).trans rfl)⟩ (fun hHeld => ?_)
          clear hK K
          refine norm_ (a' := ?_) ?_ ?_
          rotate_left
          · show Act.put _ (some 34) _ = _
            simp only [Act.put, List.setIfInBounds_toArray, List.set_cons_zero, List.set_cons_succ, i64_w, i32_w]
            rfl
          exact norm_ (by simp only [putAll, Act.put, List.setIfInBounds_toArray, List.set_cons_zero, List.set_cons_succ]) (hCont (g10, g14) _ ⟨BK14, BKga, BKgb, HB⟩)
      clear BKga BKgb HB hHeld
      rintro ⟨s1, g14⟩ w16 ⟨BK14, BKga, BKgb, HB⟩
      have hHeld := (show w16.cell? ⟨ga, 0, none⟩ = some (.int .i64 a.f0) ∧ w16.cell? ⟨ga, 1, none⟩ = some (.int .i64 a.f1) ∧ w16.cell? ⟨ga, 2, none⟩ = some (.int .i64 a.f2) ∧ w16.cell? ⟨ga, 3, none⟩ = some (.int .i64 a.f3) ∧ w16.cell? ⟨ga, 4, none⟩ = some (.int .i64 a.f4) ∧ w16.cell? ⟨ga, 5, none⟩ = some (.int .i64 1) ∧ w16.cell? ⟨ga, 6, none⟩ = some (.int .u64 a.f5.f1) ∧ w16.cell? ⟨ga, 7, none⟩ = some (.int .u64 a.f5.f2) ∧ w16.cell? ⟨ga, 8, none⟩ = some (.int .i64 a.f5.f3) ∧ w16.cell? ⟨ga, 9, none⟩ = some (.int .i64 a.f6.f0) ∧ w16.cell? ⟨ga, 10, none⟩ = some (.bool a.f6.f1) ∧ w16.cell? ⟨ga, 11, none⟩ = some (.int .u64 a.f6.f2) ∧ w16.cell? ⟨ga, 12, none⟩ = some (.slice A a.f6.f3.length c) ∧ w16.cell? ⟨gb, 0, none⟩ = some (.int .i64 b.f0) ∧ w16.cell? ⟨gb, 1, none⟩ = some (.int .i64 b.f1) ∧ w16.cell? ⟨gb, 2, none⟩ = some (.int .i64 b.f2) ∧ w16.cell? ⟨gb, 3, none⟩ = some (.int .i64 b.f3) ∧ w16.cell? ⟨gb, 4, none⟩ = some (.int .i64 b.f4) ∧ w16.cell? ⟨gb, 5, none⟩ = some (.int .i64 1) ∧ w16.cell? ⟨gb, 6, none⟩ = some (.int .u64 b.f5.f1) ∧ w16.cell? ⟨gb, 7, none⟩ = some (.int .u64 b.f5.f2) ∧ w16.cell? ⟨gb, 8, none⟩ = some (.int .i64 b.f5.f3) ∧ w16.cell? ⟨gb, 9, none⟩ = some (.int .i64 b.f6.f0) ∧ w16.cell? ⟨gb, 10, none⟩ = some (.bool b.f6.f1) ∧ w16.cell? ⟨gb, 11, none⟩ = some (.int .u64 b.f6.f2) ∧ w16.cell? ⟨gb, 12, none⟩ = some (.slice B b.f6.f3.length d) from ⟨((blk_cell BKga.out 0).trans rfl), ((blk_cell BKga.out 1).trans rfl), ((blk_cell BKga.out 2).trans rfl), ((blk_cell BKga.out 3).trans rfl), ((blk_cell BKga.out 4).trans rfl), ((blk_cell BKga.out 5).trans rfl), ((blk_cell BKga.out 6).trans rfl), ((blk_cell BKga.out 7).trans rfl), ((blk_cell BKga.out 8).trans rfl), ((blk_cell BKga.out 9).trans rfl), ((blk_cell BKga.out 10).trans rfl), ((blk_cell BKga.out 11).trans rfl), ((blk_cell BKga.out 12).trans rfl), ((blk_cell BKgb.out 0).trans rfl), ((blk_cell BKgb.out 1).trans rfl), ((blk_cell BKgb.out 2).trans rfl), ((blk_cell BKgb.out 3).trans rfl), ((blk_cell BKgb.out 4).trans rfl), ((blk_cell BKgb.out 5).trans rfl), ((blk_cell BKgb.out 6).trans rfl), ((blk_cell BKgb.out 7).trans rfl), ((blk_cell BKgb.out 8).trans rfl), ((blk_cell BKgb.out 9).trans rfl), ((blk_cell BKgb.out 10).trans rfl), ((blk_cell BKgb.out 11).trans rfl), ((blk_cell BKgb.out 12).trans rfl)⟩)
      refine norm_ (a' := ?_) ?_ ?_
      rotate_left
      · simp only [putAll, Act.put, List.setIfInBounds_toArray, List.set_cons_zero, List.set_cons_succ]
        rfl
      refine one_ (i := 16) (N := some 38) #[true, true, true, true, true, true, true, true, true, true, true, true, true, true, true, true, true, false, false, false, false, false, false, false, false] rfl rfl (one_of HT_.out (by kernel_rfl)) (by decide) (fun K hK => ?_)
      refine goes_ Try.func17 (by kernel_rfl) rfl #[.slice (some ⟨g14, 0, none⟩) 1 1, .agg #[.int .i64 a.f0, .int .i64 a.f1, .int .i64 a.f2, .int .i64 a.f3, .int .i64 a.f4, .int .i64 1, .int .u64 a.f5.f1, .int .u64 a.f5.f2, .int .i64 a.f5.f3, .int .i64 a.f6.f0, .bool a.f6.f1, .int .u64 a.f6.f2, .slice A a.f6.f3.length c]] (by rfl) rfl rfl (by (try simp only [List.map_toArray, List.map_cons, List.map_nil]); first | done | rfl) ?_
      with_reducible refine (HQ2.out _ _ BK14.out (Kd.C_below HRB.out HB.out)).mono ?_
      rintro e w17 ⟨rfl, hb⟩
      refine ⟨_, rfl, ?_⟩
      have n_BKga := Aside0.mk (blk_below (g := ga) (o := .cells #[.int .i64 a.f0, .int .i64 a.f1, .int .i64 a.f2, .int .i64 a.f3, .int .i64 a.f4, .int .i64 1, .int .u64 a.f5.f1, .int .u64 a.f5.f2, .int .i64 a.f5.f3, .int .i64 a.f6.f0, .bool a.f6.f1, .int .u64 a.f6.f2, .slice A a.f6.f3.length c] 31 (0, 0)) BKga.out hb)
      clear BKga
      have BKga := n_BKga
      clear n_BKga
      have n_BKgb := Aside0.mk (blk_below (g := gb) (o := .cells #[.int .i64 b.f0, .int .i64 b.f1, .int .i64 b.f2, .int .i64 b.f3, .int .i64 b.f4, .int .i64 1, .int .u64 b.f5.f1, .int .u64 b.f5.f2, .int .i64 b.f5.f3, .int .i64 b.f6.f0, .bool b.f6.f1, .int .u64 b.f6.f2, .slice B b.f6.f3.length d] 31 (0, 0)) BKgb.out hb)
      clear BKgb
      have BKgb := n_BKgb
      clear n_BKgb
      have n1_ := Aside0.mk (below_step HB.out hb)
      clear HB hb
      have HB := n1_
      clear n1_
      clear BK14
      refine hK.out _ _ ⟨((blk_cell BKga.out 0).trans rfl), ((blk_cell BKga.out 1).trans rfl), ((blk_cell BKga.out 2).trans rfl), ((blk_cell BKga.out 3).trans rfl), ((blk_cell BKga.out 4).trans rfl), ((blk_cell BKga.out 5).trans rfl), ((blk_cell BKga.out 6).trans rfl), ((blk_cell BKga.out 7).trans rfl), ((blk_cell BKga.out 8).trans rfl), ((blk_cell BKga.out 9).trans rfl), ((blk_cell BKga.out 10).trans rfl), ((blk_cell BKga.out 11).trans rfl), ((blk_cell BKga.out 12).trans rfl), ((blk_cell BKgb.out 0).trans rfl), ((blk_cell BKgb.out 1).trans rfl), ((blk_cell BKgb.out 2).trans rfl), ((blk_cell BKgb.out 3).trans rfl), ((blk_cell BKgb.out 4).trans rfl), ((blk_cell BKgb.out 5).trans rfl), ((blk_cell BKgb.out 6).trans rfl), ((blk_cell BKgb.out 7).trans rfl), ((blk_cell BKgb.out 8).trans rfl), ((blk_cell BKgb.out 9).trans rfl), ((blk_cell BKgb.out 10).trans rfl), ((blk_cell BKgb.out 11).trans rfl), ((blk_cell BKgb.out 12).trans rfl)⟩ (fun hHeld => ?_)
      clear hK K
      refine norm_ (a' := ?_) ?_ ?_
      rotate_left
      · show Act.put _ (some 38) _ = _
        simp only [Act.put, List.setIfInBounds_toArray, List.set_cons_zero, List.set_cons_succ, i64_w, i32_w]
        rfl
      refine pure_ (i := 17) (N := some 39) (v := ?_) (a' := ?_) #[true, true, true, true, true, true, true, true, true, true, true, true, true, true, true, true, true, true, false, false, false, false, false, false, false] rfl rfl (any_of HT_.out (by kernel_rfl)) (fun _ _ _ h => h) (Or.inl ⟨by rfl, ?_⟩) ?_ ?_
      rotate_left
      · intro w'
        go_simp
        with_reducible rfl
      rotate_left
      · simp only [Act.put, List.setIfInBounds_toArray, List.set_cons_zero, List.set_cons_succ, i64_w, i32_w]
        rfl
      refine pure_ (i := 18) (N := some 40) (v := ?_) (a' := ?_) #[true, true, true, true, true, true, true, true, true, true, true, true, true, true, true, true, true, true, true, false, false, false, false, false, false] rfl rfl (any_of HT_.out (by kernel_rfl)) (fun _ _ _ h => h) (Or.inl ⟨by rfl, ?_⟩) ?_ ?_
      rotate_left
      · intro w'
        go_simp
        with_reducible rfl
      rotate_left
      · simp only [Act.put, List.setIfInBounds_toArray, List.set_cons_zero, List.set_cons_succ, i64_w, i32_w]
        rfl
      refine pure_ (i := 19) (N := some 41) (v := ?_) (a' := ?_) #[true, true, true, true, true, true, true, true, true, true, true, true, true, true, true, true, true, true, true, true, false, false, false, false, false] rfl rfl (any_of HT_.out (by kernel_rfl)) (fun _ _ _ h => h) (Or.inl ⟨by rfl, ?_⟩) ?_ ?_
      rotate_left
      · intro w'
        go_simp
        with_reducible rfl
      rotate_left
      · simp only [Act.put, List.setIfInBounds_toArray, List.set_cons_zero, List.set_cons_succ, i64_w, i32_w]
        rfl
      refine take_ (i := 20) (N := some 42) (v := ?_) (a' := ?_) #[true, true, true, true, true, true, true, true, true, true, true, true, true, true, true, true, true, true, true, true, true, false, false, false, false] rfl rfl (take_ofW HT_.out HW_.out (by kernel_rfl)) (fun _ _ _ h => h) (Or.inl ⟨by rfl, ?_⟩) hHeld ?_ ?_
      rotate_left
      · rintro w' ⟨s0, s1, s2, s3, s4, s5, s6, s7, s8, s9, s10, s11, s12, s13, s14, s15, s16, s17, s18, s19, s20, s21, s22, s23, s24, s25⟩
        go_simp
        with_reducible rfl
      rotate_left
      · simp only [Act.put, List.setIfInBounds_toArray, List.set_cons_zero, List.set_cons_succ, i64_w, i32_w]
        rfl
      refine one_ (i := 21) (N := some 43) #[true, true, true, true, true, true, true, true, true, true, true, true, true, true, true, true, true, true, true, true, true, true, false, false, false] rfl rfl (one_of HT_.out (by kernel_rfl)) (by decide) (fun K hK => ?_)
      refine goes_ Try.func17 (by kernel_rfl) rfl #[.slice none 0 0, .agg #[.int .i64 a.f0, .int .i64 a.f1, .int .i64 a.f2, .int .i64 a.f3, .int .i64 a.f4, .int .i64 1, .int .u64 a.f5.f1, .int .u64 a.f5.f2, .int .i64 a.f5.f3, .int .i64 a.f6.f0, .bool a.f6.f1, .int .u64 a.f6.f2, .slice A a.f6.f3.length c]] (by rfl) rfl rfl (by (try simp only [List.map_toArray, List.map_cons, List.map_nil]); first | done | rfl) ?_
      with_reducible refine (HS.out _).mono ?_
      rintro e w21 ⟨rfl, hb⟩
      refine ⟨_, rfl, ?_⟩
      have n_BKga := Aside0.mk (blk_below (g := ga) (o := .cells #[.int .i64 a.f0, .int .i64 a.f1, .int .i64 a.f2, .int .i64 a.f3, .int .i64 a.f4, .int .i64 1, .int .u64 a.f5.f1, .int .u64 a.f5.f2, .int .i64 a.f5.f3, .int .i64 a.f6.f0, .bool a.f6.f1, .int .u64 a.f6.f2, .slice A a.f6.f3.length c] 31 (0, 0)) BKga.out hb)
      clear BKga
      have BKga := n_BKga
      clear n_BKga
      have n_BKgb := Aside0.mk (blk_below (g := gb) (o := .cells #[.int .i64 b.f0, .int .i64 b.f1, .int .i64 b.f2, .int .i64 b.f3, .int .i64 b.f4, .int .i64 1, .int .u64 b.f5.f1, .int .u64 b.f5.f2, .int .i64 b.f5.f3, .int .i64 b.f6.f0, .bool b.f6.f1, .int .u64 b.f6.f2, .slice B b.f6.f3.length d] 31 (0, 0)) BKgb.out hb)
      clear BKgb
      have BKgb := n_BKgb
      clear n_BKgb
      have n1_ := Aside0.mk (below_step HB.out hb)
      clear HB hb
      have HB := n1_
      clear n1_
      refine hK.out _ _ ⟨((blk_cell BKga.out 0).trans rfl), ((blk_cell BKga.out 1).trans rfl), ((blk_cell BKga.out 2).trans rfl), ((blk_cell BKga.out 3).trans rfl), ((blk_cell BKga.out 4).trans rfl), ((blk_cell BKga.out 5).trans rfl), ((blk_cell BKga.out 6).trans rfl), ((blk_cell BKga.out 7).trans rfl), ((blk_cell BKga.out 8).trans rfl), ((blk_cell BKga.out 9).trans rfl), ((blk_cell BKga.out 10).trans rfl), ((blk_cell BKga.out 11).trans rfl), ((blk_cell BKga.out 12).trans rfl), ((blk_cell BKgb.out 0).trans rfl), ((blk_cell BKgb.out 1).trans rfl), ((blk_cell BKgb.out 2).trans rfl), ((blk_cell BKgb.out 3).trans rfl), ((blk_cell BKgb.out 4).trans rfl), ((blk_cell BKgb.out 5).trans rfl), ((blk_cell BKgb.out 6).trans rfl), ((blk_cell BKgb.out 7).trans rfl), ((blk_cell BKgb.out 8).trans rfl), ((blk_cell BKgb.out 9).trans rfl), ((blk_cell BKgb.out 10).trans rfl), ((blk_cell BKgb.out 11).trans rfl), ((blk_cell BKgb.out 12).trans rfl)⟩ (fun hHeld => ?_)
      clear hK K
      refine norm_ (a' := ?_) ?_ ?_
      rotate_left
      · show Act.put _ (some 43) _ = _
        simp only [Act.put, List.setIfInBounds_toArray, List.set_cons_zero, List.set_cons_succ, i64_w, i32_w]
        rfl
      refine pure_ (i := 22) (N := some 44) (v := ?_) (a' := ?_) #[true, true, true, true, true, true, true, true, true, true, true, true, true, true, true, true, true, true, true, true, true, true, true, false, false] rfl rfl (any_of HT_.out (by kernel_rfl)) (fun _ _ _ h => h) (Or.inl ⟨by rfl, ?_⟩) ?_ ?_
      rotate_left
      · intro w'
        go_simp
        with_reducible rfl
      rotate_left
      · simp only [Act.put, List.setIfInBounds_toArray, List.set_cons_zero, List.set_cons_succ, i64_w, i32_w]
        rfl
      refine pure_ (i := 23) (N := some 45) (v := ?_) (a' := ?_) #[true, true, true, true, true, true, true, true, true, true, true, true, true, true, true, true, true, true, true, true, true, true, true, true, false] rfl rfl (any_of HT_.out (by kernel_rfl)) (fun _ _ _ h => h) (Or.inl ⟨by rfl, ?_⟩) ?_ ?_
      rotate_left
      · intro w'
        go_simp
        with_reducible rfl
      rotate_left
      · simp only [Act.put, List.setIfInBounds_toArray, List.set_cons_zero, List.set_cons_succ, i64_w, i32_w]
        rfl
      refine pure_ (i := 24) (N := some 4) (v := ?_) (a' := ?_) #[true, true, true, true, true, true, true, true, true, true, true, true, true, true, true, true, true, true, true, true, true, true, true, true, true] rfl rfl (any_of HT_.out (by kernel_rfl)) (fun _ _ _ h => h) (Or.inl ⟨by rfl, ?_⟩) ?_ ?_
      rotate_left
      · intro w'
        go_simp
        with_reducible rfl
      rotate_left
      · simp only [Act.put, List.setIfInBounds_toArray, List.set_cons_zero, List.set_cons_succ, i64_w, i32_w]
        rfl
      refine done_ (done_of HT_.out (by kernel_rfl)) ?_
      go_wp2
      go_ret
      exact ⟨by first | rfl | (simp; done), by repeat (first | (with_reducible first | exact HB.out | apply below_alloc | apply pw_below_drewN | apply below_drew1) | exact HB.out)⟩
  · have q1b : decide (0 ≤ a.f3) = false := decide_eq_false q1
    rw [if_neg (fun h => q1 h.1)] at h
    clear q1
    obtain ⟨p, hp, h⟩ := Option.bind_eq_some_iff.mp h
    obtain ⟨q, hq, h⟩ := Option.bind_eq_some_iff.mp h
    obtain ⟨q2, hq2, h⟩ := Option.bind_eq_some_iff.mp h
    obtain ⟨s, hs, h⟩ := Option.bind_eq_some_iff.mp h
    by_cases cc : p = 1 ∧ q = q2 ∧ s = 0
    rotate_left
    · rw [if_neg cc] at h
      cases h
    rw [if_pos cc] at h
    obtain rfl := Option.some.inj h
    obtain ⟨rfl, rfl, rfl⟩ := cc
    have Hp := Aside0.mk hp
    have Hq := Aside0.mk hq
    have Hq2 := Aside0.mk hq2
    have Hs := Aside0.mk hs
    clear h hp hq hq2 hs
    have HP := Aside0.mk (show ∀ (W : World) (g : Nat), W.heap[g]? = some (.cells #[.int .i64 a.f0, .int .i64 a.f1, .int .i64 a.f2, .int .i64 a.f3, .int .i64 a.f4, .int .i64 1, .int .u64 a.f5.f1, .int .u64 a.f5.f2, .int .i64 a.f5.f3, .int .i64 a.f6.f0, .bool a.f6.f1, .int .u64 a.f6.f2, .slice A a.f6.f3.length c] 31 (0, 0)) → Kd.C k49 W A a.f6.f3.length a.f6.f3 → Calls Try.prog 17 #[.slice (some ⟨g, 0, none⟩) 1 1, .agg #[.int .i64 a.f0, .int .i64 a.f1, .int .i64 a.f2, .int .i64 a.f3, .int .i64 a.f4, .int .i64 1, .int .u64 a.f5.f1, .int .u64 a.f5.f2, .int .i64 a.f5.f3, .int .i64 a.f6.f0, .bool a.f6.f1, .int .u64 a.f6.f2, .slice A a.f6.f3.length c]] W (fun e w' => e = .returned (.int .i64 1) ∧ Below W.heap.size W w') from fun W g hg hr => history_Inserts.law k (some ⟨g, 0, none⟩) 1 [({ a with f5 := { a.f5 with f0 := 1 } } : S31)] ({ a with f5 := { a.f5 with f0 := 1 } } : S31) A c 1 W (evC1 (x := ({ a with f5 := { a.f5 with f0 := 1 } } : S31)) (A := A) (c := c) HCA.out hr hg) Hp.out)
    have HQ := Aside0.mk (show ∀ (W : World) (g : Nat), W.heap[g]? = some (.cells #[.int .i64 a.f0, .int .i64 a.f1, .int .i64 a.f2, .int .i64 a.f3, .int .i64 a.f4, .int .i64 1, .int .u64 a.f5.f1, .int .u64 a.f5.f2, .int .i64 a.f5.f3, .int .i64 a.f6.f0, .bool a.f6.f1, .int .u64 a.f6.f2, .slice A a.f6.f3.length c] 31 (0, 0)) → Kd.C k49 W A a.f6.f3.length a.f6.f3 → Calls Try.prog 17 #[.slice (some ⟨g, 0, none⟩) 1 1, .agg #[.int .i64 b.f0, .int .i64 b.f1, .int .i64 b.f2, .int .i64 b.f3, .int .i64 b.f4, .int .i64 1, .int .u64 b.f5.f1, .int .u64 b.f5.f2, .int .i64 b.f5.f3, .int .i64 b.f6.f0, .bool b.f6.f1, .int .u64 b.f6.f2, .slice B b.f6.f3.length d]] W (fun e w' => e = .returned (.int .i64 q) ∧ Below W.heap.size W w') from fun W g hg hr => history_Inserts.law k (some ⟨g, 0, none⟩) 1 [({ a with f5 := { a.f5 with f0 := 1 } } : S31)] ({ b with f5 := { b.f5 with f0 := 1 } } : S31) B d q W (evC1 (x := ({ a with f5 := { a.f5 with f0 := 1 } } : S31)) (A := A) (c := c) HCA.out hr hg) Hq.out)
    have HQ2 := Aside0.mk (show ∀ (W : World) (g : Nat), W.heap[g]? = some (.cells #[.int .i64 b.f0, .int .i64 b.f1, .int .i64 b.f2, .int .i64 b.f3, .int .i64 b.f4, .int .i64 1, .int .u64 b.f5.f1, .int .u64 b.f5.f2, .int .i64 b.f5.f3, .int .i64 b.f6.f0, .bool b.f6.f1, .int .u64 b.f6.f2, .slice B b.f6.f3.length d] 31 (0, 0)) → Kd.C k49 W B b.f6.f3.length b.f6.f3 → Calls Try.prog 17 #[.slice (some ⟨g, 0, none⟩) 1 1, .agg #[.int .i64 a.f0, .int .i64 a.f1, .int .i64 a.f2, .int .i64 a.f3, .int .i64 a.f4, .int .i64 1, .int .u64 a.f5.f1, .int .u64 a.f5.f2, .int .i64 a.f5.f3, .int .i64 a.f6.f0, .bool a.f6.f1, .int .u64 a.f6.f2, .slice A a.f6.f3.length c]] W (fun e w' => e = .returned (.int .i64 q) ∧ Below W.heap.size W w') from fun W g hg hr => history_Inserts.law k (some ⟨g, 0, none⟩) 1 [({ b with f5 := { b.f5 with f0 := 1 } } : S31)] ({ a with f5 := { a.f5 with f0 := 1 } } : S31) A c q W (evC1 (x := ({ b with f5 := { b.f5 with f0 := 1 } } : S31)) (A := B) (c := d) HCB.out hr hg) Hq2.out)
    have HS := Aside0.mk (show ∀ W : World, Calls Try.prog 17 #[.slice none 0 0, .agg #[.int .i64 a.f0, .int .i64 a.f1, .int .i64 a.f2, .int .i64 a.f3, .int .i64 a.f4, .int .i64 1, .int .u64 a.f5.f1, .int .u64 a.f5.f2, .int .i64 a.f5.f3, .int .i64 a.f6.f0, .bool a.f6.f1, .int .u64 a.f6.f2, .slice A a.f6.f3.length c]] W (fun e w' => e = .returned (.int .i64 0) ∧ Below W.heap.size W w') from fun W => history_Inserts.law k none 0 [] ({ a with f5 := { a.f5 with f0 := 1 } } : S31) A c 0 W (Kd.C_nil _ _) Hs.out)
    clear Hp Hq Hq2 Hs
    go_enter Try.func7, Try.ntmps7
    go_upto_region 6 with (first | ((with_reducible refine gate_dst (N := 2) rfl ?_); refine box_event ?hg (N := 2) ?hd (cs := #[.int .i64 a.f0, .int .i64 a.f1, .int .i64 a.f2, .int .i64 a.f3, .int .i64 a.f4, .int .i64 a.f5.f0, .int .u64 a.f5.f1, .int .u64 a.f5.f2, .int .i64 a.f5.f3, .int .i64 a.f6.f0, .bool a.f6.f1, .int .u64 a.f6.f2, .slice A a.f6.f3.length c]) (t := 31) ?hr ?_; (case hd => rfl); (case hg => rfl); (case hr => first | (go_simp; done) | (go_simp; rfl)); intro ga hg wb_ga hbox hb; have BKga := Aside0.mk hbox; have n0_ := Aside0.mk (below_step HB.out hb); clear HB; have HB := n0_; clear n0_; have HGA := Aside0.mk (show w.heap.size ≤ ga from by omega); clear hb hbox hg) | ((with_reducible refine gate_dst (N := 3) rfl ?_); refine box_event ?hg (N := 3) ?hd (cs := #[.int .i64 b.f0, .int .i64 b.f1, .int .i64 b.f2, .int .i64 b.f3, .int .i64 b.f4, .int .i64 b.f5.f0, .int .u64 b.f5.f1, .int .u64 b.f5.f2, .int .i64 b.f5.f3, .int .i64 b.f6.f0, .bool b.f6.f1, .int .u64 b.f6.f2, .slice B b.f6.f3.length d]) (t := 31) ?hr ?_; (case hd => rfl); (case hg => rfl); (case hr => first | (go_simp; done) | (go_simp; rfl)); have HB1 := HB; intro gb hg wb_gb hbox hb; have BKgb := Aside0.mk hbox; have BKga0 := BKga; have n_BKga := Aside0.mk (blk_below (g := ga) (o := .cells #[.int .i64 a.f0, .int .i64 a.f1, .int .i64 a.f2, .int .i64 a.f3, .int .i64 a.f4, .int .i64 a.f5.f0, .int .u64 a.f5.f1, .int .u64 a.f5.f2, .int .i64 a.f5.f3, .int .i64 a.f6.f0, .bool a.f6.f1, .int .u64 a.f6.f2, .slice A a.f6.f3.length c] 31 (0, 0)) BKga.out hb); clear BKga; have BKga := n_BKga; clear n_BKga; have hab : ¬ ga = gb := (by have := blk_lt BKga0.out; omega); have hba : ¬ gb = ga := (by have := blk_lt BKga0.out; omega); clear BKga0; have n0_ := Aside0.mk (below_step HB.out hb); clear HB; have HB := n0_; clear n0_; have HGB := Aside0.mk (show w.heap.size ≤ gb from by have := HB1.out.size; omega); clear hb hbox hg HB1) | (go_at_call 8; (with_reducible refine (corrielaw19_awake.calls true _ rfl).mono ?_); rintro e w1 ⟨rfl, hb⟩; have n_BKga := Aside0.mk (blk_below (g := ga) (o := .cells #[.int .i64 a.f0, .int .i64 a.f1, .int .i64 a.f2, .int .i64 a.f3, .int .i64 a.f4, .int .i64 a.f5.f0, .int .u64 a.f5.f1, .int .u64 a.f5.f2, .int .i64 a.f5.f3, .int .i64 a.f6.f0, .bool a.f6.f1, .int .u64 a.f6.f2, .slice A a.f6.f3.length c] 31 (0, 0)) BKga.out hb); clear BKga; have BKga := n_BKga; clear n_BKga; have n_BKgb := Aside0.mk (blk_below (g := gb) (o := .cells #[.int .i64 b.f0, .int .i64 b.f1, .int .i64 b.f2, .int .i64 b.f3, .int .i64 b.f4, .int .i64 b.f5.f0, .int .u64 b.f5.f1, .int .u64 b.f5.f2, .int .i64 b.f5.f3, .int .i64 b.f6.f0, .bool b.f6.f1, .int .u64 b.f6.f2, .slice B b.f6.f3.length d] 31 (0, 0)) BKgb.out hb); clear BKgb; have BKgb := n_BKgb; clear n_BKgb; have n0_ := Aside0.mk (below_step HB.out hb); clear HB hb; have HB := n0_; clear n0_; have cga_0 : w1.cell? ⟨ga, 0, none⟩ = some (.int .i64 a.f0) := (blk_cell BKga.out 0).trans rfl; have cga_1 : w1.cell? ⟨ga, 1, none⟩ = some (.int .i64 a.f1) := (blk_cell BKga.out 1).trans rfl; have cga_2 : w1.cell? ⟨ga, 2, none⟩ = some (.int .i64 a.f2) := (blk_cell BKga.out 2).trans rfl; have cga_3 : w1.cell? ⟨ga, 3, none⟩ = some (.int .i64 a.f3) := (blk_cell BKga.out 3).trans rfl; have cga_4 : w1.cell? ⟨ga, 4, none⟩ = some (.int .i64 a.f4) := (blk_cell BKga.out 4).trans rfl; have cga_5 : w1.cell? ⟨ga, 5, none⟩ = some (.int .i64 a.f5.f0) := (blk_cell BKga.out 5).trans rfl; have cga_6 : w1.cell? ⟨ga, 6, none⟩ = some (.int .u64 a.f5.f1) := (blk_cell BKga.out 6).trans rfl; have cga_7 : w1.cell? ⟨ga, 7, none⟩ = some (.int .u64 a.f5.f2) := (blk_cell BKga.out 7).trans rfl; have cga_8 : w1.cell? ⟨ga, 8, none⟩ = some (.int .i64 a.f5.f3) := (blk_cell BKga.out 8).trans rfl; have cga_9 : w1.cell? ⟨ga, 9, none⟩ = some (.int .i64 a.f6.f0) := (blk_cell BKga.out 9).trans rfl; have cga_10 : w1.cell? ⟨ga, 10, none⟩ = some (.bool a.f6.f1) := (blk_cell BKga.out 10).trans rfl; have cga_11 : w1.cell? ⟨ga, 11, none⟩ = some (.int .u64 a.f6.f2) := (blk_cell BKga.out 11).trans rfl; have cga_12 : w1.cell? ⟨ga, 12, none⟩ = some (.slice A a.f6.f3.length c) := (blk_cell BKga.out 12).trans rfl; have cgb_0 : w1.cell? ⟨gb, 0, none⟩ = some (.int .i64 b.f0) := (blk_cell BKgb.out 0).trans rfl; have cgb_1 : w1.cell? ⟨gb, 1, none⟩ = some (.int .i64 b.f1) := (blk_cell BKgb.out 1).trans rfl; have cgb_2 : w1.cell? ⟨gb, 2, none⟩ = some (.int .i64 b.f2) := (blk_cell BKgb.out 2).trans rfl; have cgb_3 : w1.cell? ⟨gb, 3, none⟩ = some (.int .i64 b.f3) := (blk_cell BKgb.out 3).trans rfl; have cgb_4 : w1.cell? ⟨gb, 4, none⟩ = some (.int .i64 b.f4) := (blk_cell BKgb.out 4).trans rfl; have cgb_5 : w1.cell? ⟨gb, 5, none⟩ = some (.int .i64 b.f5.f0) := (blk_cell BKgb.out 5).trans rfl; have cgb_6 : w1.cell? ⟨gb, 6, none⟩ = some (.int .u64 b.f5.f1) := (blk_cell BKgb.out 6).trans rfl; have cgb_7 : w1.cell? ⟨gb, 7, none⟩ = some (.int .u64 b.f5.f2) := (blk_cell BKgb.out 7).trans rfl; have cgb_8 : w1.cell? ⟨gb, 8, none⟩ = some (.int .i64 b.f5.f3) := (blk_cell BKgb.out 8).trans rfl; have cgb_9 : w1.cell? ⟨gb, 9, none⟩ = some (.int .i64 b.f6.f0) := (blk_cell BKgb.out 9).trans rfl; have cgb_10 : w1.cell? ⟨gb, 10, none⟩ = some (.bool b.f6.f1) := (blk_cell BKgb.out 10).trans rfl; have cgb_11 : w1.cell? ⟨gb, 11, none⟩ = some (.int .u64 b.f6.f2) := (blk_cell BKgb.out 11).trans rfl; have cgb_12 : w1.cell? ⟨gb, 12, none⟩ = some (.slice B b.f6.f3.length d) := (blk_cell BKgb.out 12).trans rfl; have fga : w1.frozen? ⟨ga, 5, none⟩ = false := (by simp [World.frozen?, BKga.out]); have fgb : w1.frozen? ⟨gb, 5, none⟩ = false := (by simp [World.frozen?, BKgb.out])))
    obtain ⟨W6, hW6⟩ : ∃ W6, ((w1.setCell ⟨ga, 5, none⟩ (.int .i64 1)).setCell ⟨gb, 5, none⟩ (.int .i64 1)) = W6 := ⟨_, rfl⟩
    rw [hW6]
    have n1_ := Aside0.mk (show W6.heap[ga]? = some (.cells #[.int .i64 a.f0, .int .i64 a.f1, .int .i64 a.f2, .int .i64 a.f3, .int .i64 a.f4, .int .i64 1, .int .u64 a.f5.f1, .int .u64 a.f5.f2, .int .i64 a.f5.f3, .int .i64 a.f6.f0, .bool a.f6.f1, .int .u64 a.f6.f2, .slice A a.f6.f3.length c] 31 (0, 0)) from by rw [← hW6]; exact blk_far (blk_put BKga.out _) hab _)
    have n2_ := Aside0.mk (show W6.heap[gb]? = some (.cells #[.int .i64 b.f0, .int .i64 b.f1, .int .i64 b.f2, .int .i64 b.f3, .int .i64 b.f4, .int .i64 1, .int .u64 b.f5.f1, .int .u64 b.f5.f2, .int .i64 b.f5.f3, .int .i64 b.f6.f0, .bool b.f6.f1, .int .u64 b.f6.f2, .slice B b.f6.f3.length d] 31 (0, 0)) from by rw [← hW6]; exact blk_put (blk_far BKgb.out hba _) _)
    have n3_ := Aside0.mk (show Below w.heap.size w W6 from by rw [← hW6]; exact (HB.out.setCell (p := ⟨ga, 5, none⟩) HGA.out _).setCell (p := ⟨gb, 5, none⟩) HGB.out _)
    clear BKga BKgb HB hW6 cga_0 cga_1 cga_2 cga_3 cga_4 cga_5 cga_6 cga_7 cga_8 cga_9 cga_10 cga_11 cga_12 cgb_0 cgb_1 cgb_2 cgb_3 cgb_4 cgb_5 cgb_6 cgb_7 cgb_8 cgb_9 cgb_10 cgb_11 cgb_12 fga fgb
    have BKga := n1_
    have BKgb := n2_
    have HB := n3_
    clear n1_ n2_ n3_
    have n_BKga := Aside0.mk (blk_drew (g := ga) (o := .cells #[.int .i64 a.f0, .int .i64 a.f1, .int .i64 a.f2, .int .i64 a.f3, .int .i64 a.f4, .int .i64 1, .int .u64 a.f5.f1, .int .u64 a.f5.f2, .int .i64 a.f5.f3, .int .i64 a.f6.f0, .bool a.f6.f1, .int .u64 a.f6.f2, .slice A a.f6.f3.length c] 31 (0, 0)) BKga.out)
    clear BKga
    have BKga := n_BKga
    clear n_BKga
    have n_BKgb := Aside0.mk (blk_drew (g := gb) (o := .cells #[.int .i64 b.f0, .int .i64 b.f1, .int .i64 b.f2, .int .i64 b.f3, .int .i64 b.f4, .int .i64 1, .int .u64 b.f5.f1, .int .u64 b.f5.f2, .int .i64 b.f5.f3, .int .i64 b.f6.f0, .bool b.f6.f1, .int .u64 b.f6.f2, .slice B b.f6.f3.length d] 31 (0, 0)) BKgb.out)
    clear BKgb
    have BKgb := n_BKgb
    clear n_BKgb
    have n1_ := Aside0.mk (below_drew1 HB.out)
    clear HB
    have HB := n1_
    clear n1_
    refine start_ (n := 25) (S := fun w' => w'.cell? ⟨ga, 0, none⟩ = some (.int .i64 a.f0) ∧ w'.cell? ⟨ga, 1, none⟩ = some (.int .i64 a.f1) ∧ w'.cell? ⟨ga, 2, none⟩ = some (.int .i64 a.f2) ∧ w'.cell? ⟨ga, 3, none⟩ = some (.int .i64 a.f3) ∧ w'.cell? ⟨ga, 4, none⟩ = some (.int .i64 a.f4) ∧ w'.cell? ⟨ga, 5, none⟩ = some (.int .i64 1) ∧ w'.cell? ⟨ga, 6, none⟩ = some (.int .u64 a.f5.f1) ∧ w'.cell? ⟨ga, 7, none⟩ = some (.int .u64 a.f5.f2) ∧ w'.cell? ⟨ga, 8, none⟩ = some (.int .i64 a.f5.f3) ∧ w'.cell? ⟨ga, 9, none⟩ = some (.int .i64 a.f6.f0) ∧ w'.cell? ⟨ga, 10, none⟩ = some (.bool a.f6.f1) ∧ w'.cell? ⟨ga, 11, none⟩ = some (.int .u64 a.f6.f2) ∧ w'.cell? ⟨ga, 12, none⟩ = some (.slice A a.f6.f3.length c) ∧ w'.cell? ⟨gb, 0, none⟩ = some (.int .i64 b.f0) ∧ w'.cell? ⟨gb, 1, none⟩ = some (.int .i64 b.f1) ∧ w'.cell? ⟨gb, 2, none⟩ = some (.int .i64 b.f2) ∧ w'.cell? ⟨gb, 3, none⟩ = some (.int .i64 b.f3) ∧ w'.cell? ⟨gb, 4, none⟩ = some (.int .i64 b.f4) ∧ w'.cell? ⟨gb, 5, none⟩ = some (.int .i64 1) ∧ w'.cell? ⟨gb, 6, none⟩ = some (.int .u64 b.f5.f1) ∧ w'.cell? ⟨gb, 7, none⟩ = some (.int .u64 b.f5.f2) ∧ w'.cell? ⟨gb, 8, none⟩ = some (.int .i64 b.f5.f3) ∧ w'.cell? ⟨gb, 9, none⟩ = some (.int .i64 b.f6.f0) ∧ w'.cell? ⟨gb, 10, none⟩ = some (.bool b.f6.f1) ∧ w'.cell? ⟨gb, 11, none⟩ = some (.int .u64 b.f6.f2) ∧ w'.cell? ⟨gb, 12, none⟩ = some (.slice B b.f6.f3.length d)) (ds := []) #[false, false, false, false, false, false, false, false, false, false, false, false, false, false, false, false, false, false, false, false, false, false, false, false, false] (by kernel_rfl) rfl rfl ⟨((blk_cell BKga.out 0).trans rfl), ((blk_cell BKga.out 1).trans rfl), ((blk_cell BKga.out 2).trans rfl), ((blk_cell BKga.out 3).trans rfl), ((blk_cell BKga.out 4).trans rfl), ((blk_cell BKga.out 5).trans rfl), ((blk_cell BKga.out 6).trans rfl), ((blk_cell BKga.out 7).trans rfl), ((blk_cell BKga.out 8).trans rfl), ((blk_cell BKga.out 9).trans rfl), ((blk_cell BKga.out 10).trans rfl), ((blk_cell BKga.out 11).trans rfl), ((blk_cell BKga.out 12).trans rfl), ((blk_cell BKgb.out 0).trans rfl), ((blk_cell BKgb.out 1).trans rfl), ((blk_cell BKgb.out 2).trans rfl), ((blk_cell BKgb.out 3).trans rfl), ((blk_cell BKgb.out 4).trans rfl), ((blk_cell BKgb.out 5).trans rfl), ((blk_cell BKgb.out 6).trans rfl), ((blk_cell BKgb.out 7).trans rfl), ((blk_cell BKgb.out 8).trans rfl), ((blk_cell BKgb.out 9).trans rfl), ((blk_cell BKgb.out 10).trans rfl), ((blk_cell BKgb.out 11).trans rfl), ((blk_cell BKgb.out 12).trans rfl)⟩ (fun hHeld => ?_); refine with_tabW corrielaw19_HistoryOverlap.tab6 corrielaw19_HistoryOverlap.bits6 (fun HT_ HW_ => ?_)
    generalize W6.drew = W1 at BKga BKgb HB hHeld ⊢
    refine pure_ (i := 0) (N := some 22) (v := ?_) (a' := ?_) #[true, false, false, false, false, false, false, false, false, false, false, false, false, false, false, false, false, false, false, false, false, false, false, false, false] rfl rfl (any_of HT_.out (by kernel_rfl)) (fun _ _ _ h => h) (Or.inl ⟨by rfl, ?_⟩) ?_ ?_
    rotate_left
    · intro w'
      go_simp
      with_reducible rfl
    rotate_left
    · simp only [Act.put, List.setIfInBounds_toArray, List.set_cons_zero, List.set_cons_succ, i64_w, i32_w]
      rfl
    refine pure_ (i := 1) (N := some 23) (v := ?_) (a' := ?_) #[true, true, false, false, false, false, false, false, false, false, false, false, false, false, false, false, false, false, false, false, false, false, false, false, false] rfl rfl (any_of HT_.out (by kernel_rfl)) (fun _ _ _ h => h) (Or.inl ⟨by rfl, ?_⟩) ?_ ?_
    rotate_left
    · intro w'
      go_simp
      with_reducible rfl
    rotate_left
    · simp only [Act.put, List.setIfInBounds_toArray, List.set_cons_zero, List.set_cons_succ, i64_w, i32_w]
      rfl
    refine take_ (i := 2) (N := some 24) (v := ?_) (a' := ?_) #[true, true, true, false, false, false, false, false, false, false, false, false, false, false, false, false, false, false, false, false, false, false, false, false, false] rfl rfl (take_ofW HT_.out HW_.out (by kernel_rfl)) (fun _ _ _ h => h) (Or.inl ⟨by rfl, ?_⟩) hHeld ?_ ?_
    rotate_left
    · rintro w' ⟨s0, s1, s2, s3, s4, s5, s6, s7, s8, s9, s10, s11, s12, s13, s14, s15, s16, s17, s18, s19, s20, s21, s22, s23, s24, s25⟩
      go_simp
      with_reducible rfl
    rotate_left
    · simp only [Act.put, List.setIfInBounds_toArray, List.set_cons_zero, List.set_cons_succ, i64_w, i32_w]
      rfl
    refine take_ (i := 4) (N := some 26) (v := ?_) (a' := ?_) #[true, true, true, false, true, false, false, false, false, false, false, false, false, false, false, false, false, false, false, false, false, false, false, false, false] rfl rfl (take_ofW HT_.out HW_.out (by kernel_rfl)) (fun _ _ _ h => h) (Or.inl ⟨by rfl, ?_⟩) hHeld ?_ ?_
    rotate_left
    · rintro w' ⟨s0, s1, s2, s3, s4, s5, s6, s7, s8, s9, s10, s11, s12, s13, s14, s15, s16, s17, s18, s19, s20, s21, s22, s23, s24, s25⟩
      go_simp
      with_reducible rfl
    rotate_left
    · simp only [Act.put, List.setIfInBounds_toArray, List.set_cons_zero, List.set_cons_succ, i64_w, i32_w]
      rfl
    refine one_ (i := 3) (N := some 25) #[true, true, true, true, true, false, false, false, false, false, false, false, false, false, false, false, false, false, false, false, false, false, false, false, false] rfl rfl (one_of HT_.out (by kernel_rfl)) (by decide) (fun K hK => ?_)
    refine value_ (w1 := ?_) (v := ?_) (by rfl) rfl ?_ ?_
    rotate_left 2
    · go_simp
      constructor
      · rfl
      · rfl
    have n_BKga := Aside0.mk (blk_alloc (g := ga) (o := .cells #[.int .i64 a.f0, .int .i64 a.f1, .int .i64 a.f2, .int .i64 a.f3, .int .i64 a.f4, .int .i64 1, .int .u64 a.f5.f1, .int .u64 a.f5.f2, .int .i64 a.f5.f3, .int .i64 a.f6.f0, .bool a.f6.f1, .int .u64 a.f6.f2, .slice A a.f6.f3.length c] 31 (0, 0)) BKga.out (.cells #[.int .i64 a.f0, .int .i64 a.f1, .int .i64 a.f2, .int .i64 a.f3, .int .i64 a.f4, .int .i64 1, .int .u64 a.f5.f1, .int .u64 a.f5.f2, .int .i64 a.f5.f3, .int .i64 a.f6.f0, .bool a.f6.f1, .int .u64 a.f6.f2, .slice A a.f6.f3.length c] 31))
    clear BKga
    have BKga := n_BKga
    clear n_BKga
    have n_BKgb := Aside0.mk (blk_alloc (g := gb) (o := .cells #[.int .i64 b.f0, .int .i64 b.f1, .int .i64 b.f2, .int .i64 b.f3, .int .i64 b.f4, .int .i64 1, .int .u64 b.f5.f1, .int .u64 b.f5.f2, .int .i64 b.f5.f3, .int .i64 b.f6.f0, .bool b.f6.f1, .int .u64 b.f6.f2, .slice B b.f6.f3.length d] 31 (0, 0)) BKgb.out (.cells #[.int .i64 a.f0, .int .i64 a.f1, .int .i64 a.f2, .int .i64 a.f3, .int .i64 a.f4, .int .i64 1, .int .u64 a.f5.f1, .int .u64 a.f5.f2, .int .i64 a.f5.f3, .int .i64 a.f6.f0, .bool a.f6.f1, .int .u64 a.f6.f2, .slice A a.f6.f3.length c] 31))
    clear BKgb
    have BKgb := n_BKgb
    clear n_BKgb
    have BK3 := Aside0.mk (blk_new W1 (.cells #[.int .i64 a.f0, .int .i64 a.f1, .int .i64 a.f2, .int .i64 a.f3, .int .i64 a.f4, .int .i64 1, .int .u64 a.f5.f1, .int .u64 a.f5.f2, .int .i64 a.f5.f3, .int .i64 a.f6.f0, .bool a.f6.f1, .int .u64 a.f6.f2, .slice A a.f6.f3.length c] 31))
    have n1_ := Aside0.mk (below_alloc HB.out (.cells #[.int .i64 a.f0, .int .i64 a.f1, .int .i64 a.f2, .int .i64 a.f3, .int .i64 a.f4, .int .i64 1, .int .u64 a.f5.f1, .int .u64 a.f5.f2, .int .i64 a.f5.f3, .int .i64 a.f6.f0, .bool a.f6.f1, .int .u64 a.f6.f2, .slice A a.f6.f3.length c] 31))
    clear HB
    have HB := n1_
    clear n1_
    generalize W1.alloc (.cells #[.int .i64 a.f0, .int .i64 a.f1, .int .i64 a.f2, .int .i64 a.f3, .int .i64 a.f4, .int .i64 1, .int .u64 a.f5.f1, .int .u64 a.f5.f2, .int .i64 a.f5.f3, .int .i64 a.f6.f0, .bool a.f6.f1, .int .u64 a.f6.f2, .slice A a.f6.f3.length c] 31) = w3 at BKga BKgb BK3 HB ⊢
    generalize W1.heap.size = g3 at BK3 ⊢
    refine hK.out _ _ ⟨((blk_cell BKga.out 0).trans rfl), ((blk_cell BKga.out 1).trans rfl), ((blk_cell BKga.out 2).trans rfl), ((blk_cell BKga.out 3).trans rfl), ((blk_cell BKga.out 4).trans rfl), ((blk_cell BKga.out 5).trans rfl), ((blk_cell BKga.out 6).trans rfl), ((blk_cell BKga.out 7).trans rfl), ((blk_cell BKga.out 8).trans rfl), ((blk_cell BKga.out 9).trans rfl), ((blk_cell BKga.out 10).trans rfl), ((blk_cell BKga.out 11).trans rfl), ((blk_cell BKga.out 12).trans rfl), ((blk_cell BKgb.out 0).trans rfl), ((blk_cell BKgb.out 1).trans rfl), ((blk_cell BKgb.out 2).trans rfl), ((blk_cell BKgb.out 3).trans rfl), ((blk_cell BKgb.out 4).trans rfl), ((blk_cell BKgb.out 5).trans rfl), ((blk_cell BKgb.out 6).trans rfl), ((blk_cell BKgb.out 7).trans rfl), ((blk_cell BKgb.out 8).trans rfl), ((blk_cell BKgb.out 9).trans rfl), ((blk_cell BKgb.out 10).trans rfl), ((blk_cell BKgb.out 11).trans rfl), ((blk_cell BKgb.out 12).trans rfl)⟩ (fun hHeld => ?_)
    clear hK K
    refine norm_ (a' := ?_) ?_ ?_
    rotate_left
    · show Act.put _ (some 25) _ = _
      simp only [Act.put, List.setIfInBounds_toArray, List.set_cons_zero, List.set_cons_succ, i64_w, i32_w]
      rfl
    refine one_ (i := 5) (N := some 27) #[true, true, true, true, true, true, false, false, false, false, false, false, false, false, false, false, false, false, false, false, false, false, false, false, false] rfl rfl (one_of HT_.out (by kernel_rfl)) (by decide) (fun K hK => ?_)
    refine goes_ Try.func17 (by kernel_rfl) rfl #[.slice (some ⟨g3, 0, none⟩) 1 1, .agg #[.int .i64 a.f0, .int .i64 a.f1, .int .i64 a.f2, .int .i64 a.f3, .int .i64 a.f4, .int .i64 1, .int .u64 a.f5.f1, .int .u64 a.f5.f2, .int .i64 a.f5.f3, .int .i64 a.f6.f0, .bool a.f6.f1, .int .u64 a.f6.f2, .slice A a.f6.f3.length c]] (by rfl) rfl rfl (by (try simp only [List.map_toArray, List.map_cons, List.map_nil]); first | done | rfl) ?_
    with_reducible refine (HP.out _ _ BK3.out (Kd.C_below HRA.out HB.out)).mono ?_
    rintro e w5 ⟨rfl, hb⟩
    refine ⟨_, rfl, ?_⟩
    have n_BKga := Aside0.mk (blk_below (g := ga) (o := .cells #[.int .i64 a.f0, .int .i64 a.f1, .int .i64 a.f2, .int .i64 a.f3, .int .i64 a.f4, .int .i64 1, .int .u64 a.f5.f1, .int .u64 a.f5.f2, .int .i64 a.f5.f3, .int .i64 a.f6.f0, .bool a.f6.f1, .int .u64 a.f6.f2, .slice A a.f6.f3.length c] 31 (0, 0)) BKga.out hb)
    clear BKga
    have BKga := n_BKga
    clear n_BKga
    have n_BKgb := Aside0.mk (blk_below (g := gb) (o := .cells #[.int .i64 b.f0, .int .i64 b.f1, .int .i64 b.f2, .int .i64 b.f3, .int .i64 b.f4, .int .i64 1, .int .u64 b.f5.f1, .int .u64 b.f5.f2, .int .i64 b.f5.f3, .int .i64 b.f6.f0, .bool b.f6.f1, .int .u64 b.f6.f2, .slice B b.f6.f3.length d] 31 (0, 0)) BKgb.out hb)
    clear BKgb
    have BKgb := n_BKgb
    clear n_BKgb
    have n_BK3 := Aside0.mk (blk_below (g := g3) (o := .cells #[.int .i64 a.f0, .int .i64 a.f1, .int .i64 a.f2, .int .i64 a.f3, .int .i64 a.f4, .int .i64 1, .int .u64 a.f5.f1, .int .u64 a.f5.f2, .int .i64 a.f5.f3, .int .i64 a.f6.f0, .bool a.f6.f1, .int .u64 a.f6.f2, .slice A a.f6.f3.length c] 31 (0, 0)) BK3.out hb)
    clear BK3
    have BK3 := n_BK3
    clear n_BK3
    have n1_ := Aside0.mk (below_step HB.out hb)
    clear HB hb
    have HB := n1_
    clear n1_
    clear BK3
    refine hK.out _ _ ⟨((blk_cell BKga.out 0).trans rfl), ((blk_cell BKga.out 1).trans rfl), ((blk_cell BKga.out 2).trans rfl), ((blk_cell BKga.out 3).trans rfl), ((blk_cell BKga.out 4).trans rfl), ((blk_cell BKga.out 5).trans rfl), ((blk_cell BKga.out 6).trans rfl), ((blk_cell BKga.out 7).trans rfl), ((blk_cell BKga.out 8).trans rfl), ((blk_cell BKga.out 9).trans rfl), ((blk_cell BKga.out 10).trans rfl), ((blk_cell BKga.out 11).trans rfl), ((blk_cell BKga.out 12).trans rfl), ((blk_cell BKgb.out 0).trans rfl), ((blk_cell BKgb.out 1).trans rfl), ((blk_cell BKgb.out 2).trans rfl), ((blk_cell BKgb.out 3).trans rfl), ((blk_cell BKgb.out 4).trans rfl), ((blk_cell BKgb.out 5).trans rfl), ((blk_cell BKgb.out 6).trans rfl), ((blk_cell BKgb.out 7).trans rfl), ((blk_cell BKgb.out 8).trans rfl), ((blk_cell BKgb.out 9).trans rfl), ((blk_cell BKgb.out 10).trans rfl), ((blk_cell BKgb.out 11).trans rfl), ((blk_cell BKgb.out 12).trans rfl)⟩ (fun hHeld => ?_)
    clear hK K
    refine norm_ (a' := ?_) ?_ ?_
    rotate_left
    · show Act.put _ (some 27) _ = _
      simp only [Act.put, List.setIfInBounds_toArray, List.set_cons_zero, List.set_cons_succ, i64_w, i32_w]
      rfl
    refine pure_ (i := 6) (N := some 28) (v := ?_) (a' := ?_) #[true, true, true, true, true, true, true, false, false, false, false, false, false, false, false, false, false, false, false, false, false, false, false, false, false] rfl rfl (any_of HT_.out (by kernel_rfl)) (fun _ _ _ h => h) (Or.inl ⟨by rfl, ?_⟩) ?_ ?_
    rotate_left
    · intro w'
      go_simp
      with_reducible rfl
    rotate_left
    · simp only [Act.put, List.setIfInBounds_toArray, List.set_cons_zero, List.set_cons_succ, i64_w, i32_w]
      rfl
    refine pure_ (i := 7) (N := some 29) (v := ?_) (a' := ?_) #[true, true, true, true, true, true, true, true, false, false, false, false, false, false, false, false, false, false, false, false, false, false, false, false, false] rfl rfl (any_of HT_.out (by kernel_rfl)) (fun _ _ _ h => h) (Or.inl ⟨by rfl, ?_⟩) ?_ ?_
    rotate_left
    · intro w'
      go_simp
      with_reducible rfl
    rotate_left
    · simp only [Act.put, List.setIfInBounds_toArray, List.set_cons_zero, List.set_cons_succ, i64_w, i32_w]
      rfl
    refine pure_ (i := 8) (N := some 30) (v := ?_) (a' := ?_) #[true, true, true, true, true, true, true, true, true, false, false, false, false, false, false, false, false, false, false, false, false, false, false, false, false] rfl rfl (any_of HT_.out (by kernel_rfl)) (fun _ _ _ h => h) (Or.inl ⟨by rfl, ?_⟩) ?_ ?_
    rotate_left
    · intro w'
      go_simp
      with_reducible rfl
    rotate_left
    · simp only [Act.put, List.setIfInBounds_toArray, List.set_cons_zero, List.set_cons_succ, i64_w, i32_w]
      rfl
    refine take_ (i := 9) (N := some 31) (v := ?_) (a' := ?_) #[true, true, true, true, true, true, true, true, true, true, false, false, false, false, false, false, false, false, false, false, false, false, false, false, false] rfl rfl (take_ofW HT_.out HW_.out (by kernel_rfl)) (fun _ _ _ h => h) (Or.inl ⟨by rfl, ?_⟩) hHeld ?_ ?_
    rotate_left
    · rintro w' ⟨s0, s1, s2, s3, s4, s5, s6, s7, s8, s9, s10, s11, s12, s13, s14, s15, s16, s17, s18, s19, s20, s21, s22, s23, s24, s25⟩
      go_simp
      with_reducible rfl
    rotate_left
    · simp only [Act.put, List.setIfInBounds_toArray, List.set_cons_zero, List.set_cons_succ, i64_w, i32_w]
      rfl
    refine take_ (i := 11) (N := some 33) (v := ?_) (a' := ?_) #[true, true, true, true, true, true, true, true, true, true, false, true, false, false, false, false, false, false, false, false, false, false, false, false, false] rfl rfl (take_ofW HT_.out HW_.out (by kernel_rfl)) (fun _ _ _ h => h) (Or.inl ⟨by rfl, ?_⟩) hHeld ?_ ?_
    rotate_left
    · rintro w' ⟨s0, s1, s2, s3, s4, s5, s6, s7, s8, s9, s10, s11, s12, s13, s14, s15, s16, s17, s18, s19, s20, s21, s22, s23, s24, s25⟩
      go_simp
      with_reducible rfl
    rotate_left
    · simp only [Act.put, List.setIfInBounds_toArray, List.set_cons_zero, List.set_cons_succ, i64_w, i32_w]
      rfl
    refine take_ (i := 13) (N := some 35) (v := ?_) (a' := ?_) #[true, true, true, true, true, true, true, true, true, true, false, true, false, true, false, false, false, false, false, false, false, false, false, false, false] rfl rfl (take_ofW HT_.out HW_.out (by kernel_rfl)) (fun _ _ _ h => h) (Or.inl ⟨by rfl, ?_⟩) hHeld ?_ ?_
    rotate_left
    · rintro w' ⟨s0, s1, s2, s3, s4, s5, s6, s7, s8, s9, s10, s11, s12, s13, s14, s15, s16, s17, s18, s19, s20, s21, s22, s23, s24, s25⟩
      go_simp
      with_reducible rfl
    rotate_left
    · simp only [Act.put, List.setIfInBounds_toArray, List.set_cons_zero, List.set_cons_succ, i64_w, i32_w]
      rfl
    refine take_ (i := 15) (N := some 37) (v := ?_) (a' := ?_) #[true, true, true, true, true, true, true, true, true, true, false, true, false, true, false, true, false, false, false, false, false, false, false, false, false] rfl rfl (take_ofW HT_.out HW_.out (by kernel_rfl)) (fun _ _ _ h => h) (Or.inl ⟨by rfl, ?_⟩) hHeld ?_ ?_
    rotate_left
    · rintro w' ⟨s0, s1, s2, s3, s4, s5, s6, s7, s8, s9, s10, s11, s12, s13, s14, s15, s16, s17, s18, s19, s20, s21, s22, s23, s24, s25⟩
      go_simp
      with_reducible rfl
    rotate_left
    · simp only [Act.put, List.setIfInBounds_toArray, List.set_cons_zero, List.set_cons_succ, i64_w, i32_w]
      rfl
    refine join_ (σ := Nat × Nat) 9 #[true, true, true, true, true, true, true, true, true, true, true, true, true, true, true, true, false, false, false, false, false, false, false, false, false] (fun s => [(32, .slice (some ⟨s.1, 0, none⟩) 1 1), (34, .int .i64 q), (36, .slice (some ⟨s.2, 0, none⟩) 1 1)]) (fun s w' => Aside0 (w'.heap[s.2]? = some (.cells #[.int .i64 b.f0, .int .i64 b.f1, .int .i64 b.f2, .int .i64 b.f3, .int .i64 b.f4, .int .i64 1, .int .u64 b.f5.f1, .int .u64 b.f5.f2, .int .i64 b.f5.f3, .int .i64 b.f6.f0, .bool b.f6.f1, .int .u64 b.f6.f2, .slice B b.f6.f3.length d] 31 (0, 0))) ∧ Aside0 (w'.heap[ga]? = some (.cells #[.int .i64 a.f0, .int .i64 a.f1, .int .i64 a.f2, .int .i64 a.f3, .int .i64 a.f4, .int .i64 1, .int .u64 a.f5.f1, .int .u64 a.f5.f2, .int .i64 a.f5.f3, .int .i64 a.f6.f0, .bool a.f6.f1, .int .u64 a.f6.f2, .slice A a.f6.f3.length c] 31 (0, 0))) ∧ Aside0 (w'.heap[gb]? = some (.cells #[.int .i64 b.f0, .int .i64 b.f1, .int .i64 b.f2, .int .i64 b.f3, .int .i64 b.f4, .int .i64 1, .int .u64 b.f5.f1, .int .u64 b.f5.f2, .int .i64 b.f5.f3, .int .i64 b.f6.f0, .bool b.f6.f1, .int .u64 b.f6.f2, .slice B b.f6.f3.length d] 31 (0, 0))) ∧ Aside0 (Below w.heap.size w w')) ?_ ?_
    rotate_left
    · intro hCont
      refine two_ (i := 10) (j := 14) (Ni := some 32) (Nj := some 36) #[true, true, true, true, true, true, true, true, true, true, true, true, false, true, false, true, false, false, false, false, false, false, false, false, false] #[true, true, true, true, true, true, true, true, true, true, false, true, false, true, true, true, false, false, false, false, false, false, false, false, false] rfl rfl rfl rfl (two_of HT_.out (by kernel_rfl)) (by decide) (by decide) (fun K hK => ?_) (fun K hK => ?_)
      · skip
        refine value_ (w1 := ?_) (v := ?_) (by rfl) rfl ?_ ?_
        rotate_left 2
        · go_simp
          constructor
          · rfl
          · rfl
        have n_BKga := Aside0.mk (blk_alloc (g := ga) (o := .cells #[.int .i64 a.f0, .int .i64 a.f1, .int .i64 a.f2, .int .i64 a.f3, .int .i64 a.f4, .int .i64 1, .int .u64 a.f5.f1, .int .u64 a.f5.f2, .int .i64 a.f5.f3, .int .i64 a.f6.f0, .bool a.f6.f1, .int .u64 a.f6.f2, .slice A a.f6.f3.length c] 31 (0, 0)) BKga.out (.cells #[.int .i64 a.f0, .int .i64 a.f1, .int .i64 a.f2, .int .i64 a.f3, .int .i64 a.f4, .int .i64 1, .int .u64 a.f5.f1, .int .u64 a.f5.f2, .int .i64 a.f5.f3, .int .i64 a.f6.f0, .bool a.f6.f1, .int .u64 a.f6.f2, .slice A a.f6.f3.length c] 31))
        clear BKga
        have BKga := n_BKga
        clear n_BKga
        have n_BKgb := Aside0.mk (blk_alloc (g := gb) (o := .cells #[.int .i64 b.f0, .int .i64 b.f1, .int .i64 b.f2, .int .i64 b.f3, .int .i64 b.f4, .int .i64 1, .int .u64 b.f5.f1, .int .u64 b.f5.f2, .int .i64 b.f5.f3, .int .i64 b.f6.f0, .bool b.f6.f1, .int .u64 b.f6.f2, .slice B b.f6.f3.length d] 31 (0, 0)) BKgb.out (.cells #[.int .i64 a.f0, .int .i64 a.f1, .int .i64 a.f2, .int .i64 a.f3, .int .i64 a.f4, .int .i64 1, .int .u64 a.f5.f1, .int .u64 a.f5.f2, .int .i64 a.f5.f3, .int .i64 a.f6.f0, .bool a.f6.f1, .int .u64 a.f6.f2, .slice A a.f6.f3.length c] 31))
        clear BKgb
        have BKgb := n_BKgb
        clear n_BKgb
        have BK10 := Aside0.mk (blk_new w5 (.cells #[.int .i64 a.f0, .int .i64 a.f1, .int .i64 a.f2, .int .i64 a.f3, .int .i64 a.f4, .int .i64 1, .int .u64 a.f5.f1, .int .u64 a.f5.f2, .int .i64 a.f5.f3, .int .i64 a.f6.f0, .bool a.f6.f1, .int .u64 a.f6.f2, .slice A a.f6.f3.length c] 31))
        have n1_ := Aside0.mk (below_alloc HB.out (.cells #[.int .i64 a.f0, .int .i64 a.f1, .int .i64 a.f2, .int .i64 a.f3, .int .i64 a.f4, .int .i64 1, .int .u64 a.f5.f1, .int .u64 a.f5.f2, .int .i64 a.f5.f3, .int .i64 a.f6.f0, .bool a.f6.f1, .int .u64 a.f6.f2, .slice A a.f6.f3.length c] 31))
        clear HB
        have HB := n1_
        clear n1_
        generalize w5.alloc (.cells #[.int .i64 a.f0, .int .i64 a.f1, .int .i64 a.f2, .int .i64 a.f3, .int .i64 a.f4, .int .i64 1, .int .u64 a.f5.f1, .int .u64 a.f5.f2, .int .i64 a.f5.f3, .int .i64 a.f6.f0, .bool a.f6.f1, .int .u64 a.f6.f2, .slice A a.f6.f3.length c] 31) = w10 at BKga BKgb BK10 HB ⊢
        generalize w5.heap.size = g10 at BK10 ⊢
        refine hK.out _ _ ⟨((blk_cell BKga.out 0).trans rfl), ((blk_cell BKga.out 1).trans rfl), ((blk_cell BKga.out 2).trans rfl), ((blk_cell BKga.out 3).trans rfl), ((blk_cell BKga.out 4).trans rfl), ((blk_cell BKga.out 5).trans rfl), ((blk_cell BKga.out 6).trans rfl), ((blk_cell BKga.out 7).trans rfl), ((blk_cell BKga.out 8).trans rfl), ((blk_cell BKga.out 9).trans rfl), ((blk_cell BKga.out 10).trans rfl), ((blk_cell BKga.out 11).trans rfl), ((blk_cell BKga.out 12).trans rfl), ((blk_cell BKgb.out 0).trans rfl), ((blk_cell BKgb.out 1).trans rfl), ((blk_cell BKgb.out 2).trans rfl), ((blk_cell BKgb.out 3).trans rfl), ((blk_cell BKgb.out 4).trans rfl), ((blk_cell BKgb.out 5).trans rfl), ((blk_cell BKgb.out 6).trans rfl), ((blk_cell BKgb.out 7).trans rfl), ((blk_cell BKgb.out 8).trans rfl), ((blk_cell BKgb.out 9).trans rfl), ((blk_cell BKgb.out 10).trans rfl), ((blk_cell BKgb.out 11).trans rfl), ((blk_cell BKgb.out 12).trans rfl)⟩ (fun hHeld => ?_)
        clear hK K
        refine norm_ (a' := ?_) ?_ ?_
        rotate_left
        · show Act.put _ (some 32) _ = _
          simp only [Act.put, List.setIfInBounds_toArray, List.set_cons_zero, List.set_cons_succ, i64_w, i32_w]
          rfl
        refine two_ (i := 12) (j := 14) (Ni := some 34) (Nj := some 36) #[true, true, true, true, true, true, true, true, true, true, true, true, true, true, false, true, false, false, false, false, false, false, false, false, false] #[true, true, true, true, true, true, true, true, true, true, true, true, false, true, true, true, false, false, false, false, false, false, false, false, false] rfl rfl rfl rfl (two_of HT_.out (by kernel_rfl)) (by decide) (by decide) (fun K hK => ?_) (fun K hK => ?_)
        · skip
          refine goes_ Try.func17 (by kernel_rfl) rfl #[.slice (some ⟨g10, 0, none⟩) 1 1, .agg #[.int .i64 b.f0, .int .i64 b.f1, .int .i64 b.f2, .int .i64 b.f3, .int .i64 b.f4, .int .i64 1, .int .u64 b.f5.f1, .int .u64 b.f5.f2, .int .i64 b.f5.f3, .int .i64 b.f6.f0, .bool b.f6.f1, .int .u64 b.f6.f2, .slice B b.f6.f3.length d]] (by rfl) rfl rfl (by (try simp only [List.map_toArray, List.map_cons, List.map_nil]); first | done | rfl) ?_
          with_reducible refine (HQ.out _ _ BK10.out (Kd.C_below HRA.out HB.out)).mono ?_
          rintro e w12 ⟨rfl, hb⟩
          refine ⟨_, rfl, ?_⟩
          have n_BKga := Aside0.mk (blk_below (g := ga) (o := .cells #[.int .i64 a.f0, .int .i64 a.f1, .int .i64 a.f2, .int .i64 a.f3, .int .i64 a.f4, .int .i64 1, .int .u64 a.f5.f1, .int .u64 a.f5.f2, .int .i64 a.f5.f3, .int .i64 a.f6.f0, .bool a.f6.f1, .int .u64 a.f6.f2, .slice A a.f6.f3.length c] 31 (0, 0)) BKga.out hb)
          clear BKga
          have BKga := n_BKga
          clear n_BKga
          have n_BKgb := Aside0.mk (blk_below (g := gb) (o := .cells #[.int .i64 b.f0, .int .i64 b.f1, .int .i64 b.f2, .int .i64 b.f3, .int .i64 b.f4, .int .i64 1, .int .u64 b.f5.f1, .int .u64 b.f5.f2, .int .i64 b.f5.f3, .int .i64 b.f6.f0, .bool b.f6.f1, .int .u64 b.f6.f2, .slice B b.f6.f3.length d] 31 (0, 0)) BKgb.out hb)
          clear BKgb
          have BKgb := n_BKgb
          clear n_BKgb
          have n_BK10 := Aside0.mk (blk_below (g := g10) (o := .cells #[.int .i64 a.f0, .int .i64 a.f1, .int .i64 a.f2, .int .i64 a.f3, .int .i64 a.f4, .int .i64 1, .int .u64 a.f5.f1, .int .u64 a.f5.f2, .int .i64 a.f5.f3, .int .i64 a.f6.f0, .bool a.f6.f1, .int .u64 a.f6.f2, .slice A a.f6.f3.length c] 31 (0, 0)) BK10.out hb)
          clear BK10
          have BK10 := n_BK10
          clear n_BK10
          have n1_ := Aside0.mk (below_step HB.out hb)
          clear HB hb
          have HB := n1_
          clear n1_
          refine hK.out _ _ ⟨((blk_cell BKga.out 0).trans rfl), ((blk_cell BKga.out 1).trans rfl), ((blk_cell BKga.out 2).trans rfl), ((blk_cell BKga.out 3).trans rfl), ((blk_cell BKga.out 4).trans rfl), ((blk_cell BKga.out 5).trans rfl), ((blk_cell BKga.out 6).trans rfl), ((blk_cell BKga.out 7).trans rfl), ((blk_cell BKga.out 8).trans rfl), ((blk_cell BKga.out 9).trans rfl), ((blk_cell BKga.out 10).trans rfl), ((blk_cell BKga.out 11).trans rfl), ((blk_cell BKga.out 12).trans rfl), ((blk_cell BKgb.out 0).trans rfl), ((blk_cell BKgb.out 1).trans rfl), ((blk_cell BKgb.out 2).trans rfl), ((blk_cell BKgb.out 3).trans rfl), ((blk_cell BKgb.out 4).trans rfl), ((blk_cell BKgb.out 5).trans rfl), ((blk_cell BKgb.out 6).trans rfl), ((blk_cell BKgb.out 7).trans rfl), ((blk_cell BKgb.out 8).trans rfl), ((blk_cell BKgb.out 9).trans rfl), ((blk_cell BKgb.out 10).trans rfl), ((blk_cell BKgb.out 11).trans rfl), ((blk_cell BKgb.out 12).trans rfl)⟩ (fun hHeld => ?_)
          clear hK K
          refine norm_ (a' := ?_) ?_ ?_
          rotate_left
          · show Act.put _ (some 34) _ = _
            simp only [Act.put, List.setIfInBounds_toArray, List.set_cons_zero, List.set_cons_succ, i64_w, i32_w]
            rfl
          refine one_ (i := 14) (N := some 36) #[true, true, true, true, true, true, true, true, true, true, true, true, true, true, true, true, false, false, false, false, false, false, false, false, false] rfl rfl (one_of HT_.out (by kernel_rfl)) (by decide) (fun K hK => ?_)
          refine value_ (w1 := ?_) (v := ?_) (by rfl) rfl ?_ ?_
          rotate_left 2
          · go_simp
            constructor
            · rfl
            · rfl
          have n_BKga := Aside0.mk (blk_alloc (g := ga) (o := .cells #[.int .i64 a.f0, .int .i64 a.f1, .int .i64 a.f2, .int .i64 a.f3, .int .i64 a.f4, .int .i64 1, .int .u64 a.f5.f1, .int .u64 a.f5.f2, .int .i64 a.f5.f3, .int .i64 a.f6.f0, .bool a.f6.f1, .int .u64 a.f6.f2, .slice A a.f6.f3.length c] 31 (0, 0)) BKga.out (.cells #[.int .i64 b.f0, .int .i64 b.f1, .int .i64 b.f2, .int .i64 b.f3, .int .i64 b.f4, .int .i64 1, .int .u64 b.f5.f1, .int .u64 b.f5.f2, .int .i64 b.f5.f3, .int .i64 b.f6.f0, .bool b.f6.f1, .int .u64 b.f6.f2, .slice B b.f6.f3.length d] 31))
          clear BKga
          have BKga := n_BKga
          clear n_BKga
          have n_BKgb := Aside0.mk (blk_alloc (g := gb) (o := .cells #[.int .i64 b.f0, .int .i64 b.f1, .int .i64 b.f2, .int .i64 b.f3, .int .i64 b.f4, .int .i64 1, .int .u64 b.f5.f1, .int .u64 b.f5.f2, .int .i64 b.f5.f3, .int .i64 b.f6.f0, .bool b.f6.f1, .int .u64 b.f6.f2, .slice B b.f6.f3.length d] 31 (0, 0)) BKgb.out (.cells #[.int .i64 b.f0, .int .i64 b.f1, .int .i64 b.f2, .int .i64 b.f3, .int .i64 b.f4, .int .i64 1, .int .u64 b.f5.f1, .int .u64 b.f5.f2, .int .i64 b.f5.f3, .int .i64 b.f6.f0, .bool b.f6.f1, .int .u64 b.f6.f2, .slice B b.f6.f3.length d] 31))
          clear BKgb
          have BKgb := n_BKgb
          clear n_BKgb
          have n_BK10 := Aside0.mk (blk_alloc (g := g10) (o := .cells #[.int .i64 a.f0, .int .i64 a.f1, .int .i64 a.f2, .int .i64 a.f3, .int .i64 a.f4, .int .i64 1, .int .u64 a.f5.f1, .int .u64 a.f5.f2, .int .i64 a.f5.f3, .int .i64 a.f6.f0, .bool a.f6.f1, .int .u64 a.f6.f2, .slice A a.f6.f3.length c] 31 (0, 0)) BK10.out (.cells #[.int .i64 b.f0, .int .i64 b.f1, .int .i64 b.f2, .int .i64 b.f3, .int .i64 b.f4, .int .i64 1, .int .u64 b.f5.f1, .int .u64 b.f5.f2, .int .i64 b.f5.f3, .int .i64 b.f6.f0, .bool b.f6.f1, .int .u64 b.f6.f2, .slice B b.f6.f3.length d] 31))
          clear BK10
          have BK10 := n_BK10
          clear n_BK10
          have BK14 := Aside0.mk (blk_new w12 (.cells #[.int .i64 b.f0, .int .i64 b.f1, .int .i64 b.f2, .int .i64 b.f3, .int .i64 b.f4, .int .i64 1, .int .u64 b.f5.f1, .int .u64 b.f5.f2, .int .i64 b.f5.f3, .int .i64 b.f6.f0, .bool b.f6.f1, .int .u64 b.f6.f2, .slice B b.f6.f3.length d] 31))
          have n1_ := Aside0.mk (below_alloc HB.out (.cells #[.int .i64 b.f0, .int .i64 b.f1, .int .i64 b.f2, .int .i64 b.f3, .int .i64 b.f4, .int .i64 1, .int .u64 b.f5.f1, .int .u64 b.f5.f2, .int .i64 b.f5.f3, .int .i64 b.f6.f0, .bool b.f6.f1, .int .u64 b.f6.f2, .slice B b.f6.f3.length d] 31))
          clear HB
          have HB := n1_
          clear n1_
          generalize w12.alloc (.cells #[.int .i64 b.f0, .int .i64 b.f1, .int .i64 b.f2, .int .i64 b.f3, .int .i64 b.f4, .int .i64 1, .int .u64 b.f5.f1, .int .u64 b.f5.f2, .int .i64 b.f5.f3, .int .i64 b.f6.f0, .bool b.f6.f1, .int .u64 b.f6.f2, .slice B b.f6.f3.length d] 31) = w14 at BKga BKgb BK10 BK14 HB ⊢
          generalize w12.heap.size = g14 at BK14 ⊢
          refine hK.out _ _ ⟨((blk_cell BKga.out 0).trans rfl), ((blk_cell BKga.out 1).trans rfl), ((blk_cell BKga.out 2).trans rfl), ((blk_cell BKga.out 3).trans rfl), ((blk_cell BKga.out 4).trans rfl), ((blk_cell BKga.out 5).trans rfl), ((blk_cell BKga.out 6).trans rfl), ((blk_cell BKga.out 7).trans rfl), ((blk_cell BKga.out 8).trans rfl), ((blk_cell BKga.out 9).trans rfl), ((blk_cell BKga.out 10).trans rfl), ((blk_cell BKga.out 11).trans rfl), ((blk_cell BKga.out 12).trans rfl), ((blk_cell BKgb.out 0).trans rfl), ((blk_cell BKgb.out 1).trans rfl), ((blk_cell BKgb.out 2).trans rfl), ((blk_cell BKgb.out 3).trans rfl), ((blk_cell BKgb.out 4).trans rfl), ((blk_cell BKgb.out 5).trans rfl), ((blk_cell BKgb.out 6).trans rfl), ((blk_cell BKgb.out 7).trans rfl), ((blk_cell BKgb.out 8).trans rfl), ((blk_cell BKgb.out 9).trans rfl), ((blk_cell BKgb.out 10).trans rfl), ((blk_cell BKgb.out 11).trans rfl), ((blk_cell BKgb.out 12).trans rfl)⟩ (fun hHeld => ?_)
          clear hK K
          refine norm_ (a' := ?_) ?_ ?_
          rotate_left
          · show Act.put _ (some 36) _ = _
            simp only [Act.put, List.setIfInBounds_toArray, List.set_cons_zero, List.set_cons_succ, i64_w, i32_w]
            rfl
          exact norm_ (by simp only [putAll, Act.put, List.setIfInBounds_toArray, List.set_cons_zero, List.set_cons_succ]) (hCont (g10, g14) _ ⟨BK14, BKga, BKgb, HB⟩)
        · skip
          refine value_ (w1 := ?_) (v := ?_) (by rfl) rfl ?_ ?_
          rotate_left 2
          · go_simp
            constructor
            · rfl
            · rfl
          have n_BKga := Aside0.mk (blk_alloc (g := ga) (o := .cells #[.int .i64 a.f0, .int .i64 a.f1, .int .i64 a.f2, .int .i64 a.f3, .int .i64 a.f4, .int .i64 1, .int .u64 a.f5.f1, .int .u64 a.f5.f2, .int .i64 a.f5.f3, .int .i64 a.f6.f0, .bool a.f6.f1, .int .u64 a.f6.f2, .slice A a.f6.f3.length c] 31 (0, 0)) BKga.out (.cells #[.int .i64 b.f0, .int .i64 b.f1, .int .i64 b.f2, .int .i64 b.f3, .int .i64 b.f4, .int .i64 1, .int .u64 b.f5.f1, .int .u64 b.f5.f2, .int .i64 b.f5.f3, .int .i64 b.f6.f0, .bool b.f6.f1, .int .u64 b.f6.f2, .slice B b.f6.f3.length d] 31))
          clear BKga
          have BKga := n_BKga
          clear n_BKga
          have n_BKgb := Aside0.mk (blk_alloc (g := gb) (o := .cells #[.int .i64 b.f0, .int .i64 b.f1, .int .i64 b.f2, .int .i64 b.f3, .int .i64 b.f4, .int .i64 1, .int .u64 b.f5.f1, .int .u64 b.f5.f2, .int .i64 b.f5.f3, .int .i64 b.f6.f0, .bool b.f6.f1, .int .u64 b.f6.f2, .slice B b.f6.f3.length d] 31 (0, 0)) BKgb.out (.cells #[.int .i64 b.f0, .int .i64 b.f1, .int .i64 b.f2, .int .i64 b.f3, .int .i64 b.f4, .int .i64 1, .int .u64 b.f5.f1, .int .u64 b.f5.f2, .int .i64 b.f5.f3, .int .i64 b.f6.f0, .bool b.f6.f1, .int .u64 b.f6.f2, .slice B b.f6.f3.length d] 31))
          clear BKgb
          have BKgb := n_BKgb
          clear n_BKgb
          have n_BK10 := Aside0.mk (blk_alloc (g := g10) (o := .cells #[.int .i64 a.f0, .int .i64 a.f1, .int .i64 a.f2, .int .i64 a.f3, .int .i64 a.f4, .int .i64 1, .int .u64 a.f5.f1, .int .u64 a.f5.f2, .int .i64 a.f5.f3, .int .i64 a.f6.f0, .bool a.f6.f1, .int .u64 a.f6.f2, .slice A a.f6.f3.length c] 31 (0, 0)) BK10.out (.cells #[.int .i64 b.f0, .int .i64 b.f1, .int .i64 b.f2, .int .i64 b.f3, .int .i64 b.f4, .int .i64 1, .int .u64 b.f5.f1, .int .u64 b.f5.f2, .int .i64 b.f5.f3, .int .i64 b.f6.f0, .bool b.f6.f1, .int .u64 b.f6.f2, .slice B b.f6.f3.length d] 31))
          clear BK10
          have BK10 := n_BK10
          clear n_BK10
          have BK14 := Aside0.mk (blk_new w10 (.cells #[.int .i64 b.f0, .int .i64 b.f1, .int .i64 b.f2, .int .i64 b.f3, .int .i64 b.f4, .int .i64 1, .int .u64 b.f5.f1, .int .u64 b.f5.f2, .int .i64 b.f5.f3, .int .i64 b.f6.f0, .bool b.f6.f1, .int .u64 b.f6.f2, .slice B b.f6.f3.length d] 31))
          have n1_ := Aside0.mk (below_alloc HB.out (.cells #[.int .i64 b.f0, .int .i64 b.f1, .int .i64 b.f2, .int .i64 b.f3, .int .i64 b.f4, .int .i64 1, .int .u64 b.f5.f1, .int .u64 b.f5.f2, .int .i64 b.f5.f3, .int .i64 b.f6.f0, .bool b.f6.f1, .int .u64 b.f6.f2, .slice B b.f6.f3.length d] 31))
          clear HB
          have HB := n1_
          clear n1_
          generalize w10.alloc (.cells #[.int .i64 b.f0, .int .i64 b.f1, .int .i64 b.f2, .int .i64 b.f3, .int .i64 b.f4, .int .i64 1, .int .u64 b.f5.f1, .int .u64 b.f5.f2, .int .i64 b.f5.f3, .int .i64 b.f6.f0, .bool b.f6.f1, .int .u64 b.f6.f2, .slice B b.f6.f3.length d] 31) = w14 at BKga BKgb BK10 BK14 HB ⊢
          generalize w10.heap.size = g14 at BK14 ⊢
          refine hK.out _ _ ⟨((blk_cell BKga.out 0).trans rfl), ((blk_cell BKga.out 1).trans rfl), ((blk_cell BKga.out 2).trans rfl), ((blk_cell BKga.out 3).trans rfl), ((blk_cell BKga.out 4).trans rfl), ((blk_cell BKga.out 5).trans rfl), ((blk_cell BKga.out 6).trans rfl), ((blk_cell BKga.out 7).trans rfl), ((blk_cell BKga.out 8).trans rfl), ((blk_cell BKga.out 9).trans rfl), ((blk_cell BKga.out 10).trans rfl), ((blk_cell BKga.out 11).trans rfl), ((blk_cell BKga.out 12).trans rfl), ((blk_cell BKgb.out 0).trans rfl), ((blk_cell BKgb.out 1).trans rfl), ((blk_cell BKgb.out 2).trans rfl), ((blk_cell BKgb.out 3).trans rfl), ((blk_cell BKgb.out 4).trans rfl), ((blk_cell BKgb.out 5).trans rfl), ((blk_cell BKgb.out 6).trans rfl), ((blk_cell BKgb.out 7).trans rfl), ((blk_cell BKgb.out 8).trans rfl), ((blk_cell BKgb.out 9).trans rfl), ((blk_cell BKgb.out 10).trans rfl), ((blk_cell BKgb.out 11).trans rfl), ((blk_cell BKgb.out 12).trans rfl)⟩ (fun hHeld => ?_)
          clear hK K
          refine norm_ (a' := ?_) ?_ ?_
          rotate_left
          · show Act.put _ (some 36) _ = _
            simp only [Act.put, List.setIfInBounds_toArray, List.set_cons_zero, List.set_cons_succ, i64_w, i32_w]
            rfl
          refine one_ (i := 12) (N := some 34) #[true, true, true, true, true, true, true, true, true, true, true, true, true, true, true, true, false, false, false, false, false, false, false, false, false] rfl rfl (one_of HT_.out (by kernel_rfl)) (by decide) (fun K hK => ?_)
          refine goes_ Try.func17 (by kernel_rfl) rfl #[.slice (some ⟨g10, 0, none⟩) 1 1, .agg #[.int .i64 b.f0, .int .i64 b.f1, .int .i64 b.f2, .int .i64 b.f3, .int .i64 b.f4, .int .i64 1, .int .u64 b.f5.f1, .int .u64 b.f5.f2, .int .i64 b.f5.f3, .int .i64 b.f6.f0, .bool b.f6.f1, .int .u64 b.f6.f2, .slice B b.f6.f3.length d]] (by rfl) rfl rfl (by (try simp only [List.map_toArray, List.map_cons, List.map_nil]); first | done | rfl) ?_
          with_reducible refine (HQ.out _ _ BK10.out (Kd.C_below HRA.out HB.out)).mono ?_
          rintro e w12 ⟨rfl, hb⟩
          refine ⟨_, rfl, ?_⟩
          have n_BKga := Aside0.mk (blk_below (g := ga) (o := .cells #[.int .i64 a.f0, .int .i64 a.f1, .int .i64 a.f2, .int .i64 a.f3, .int .i64 a.f4, .int .i64 1, .int .u64 a.f5.f1, .int .u64 a.f5.f2, .int .i64 a.f5.f3, .int .i64 a.f6.f0, .bool a.f6.f1, .int .u64 a.f6.f2, .slice A a.f6.f3.length c] 31 (0, 0)) BKga.out hb)
          clear BKga
          have BKga := n_BKga
          clear n_BKga
          have n_BKgb := Aside0.mk (blk_below (g := gb) (o := .cells #[.int .i64 b.f0, .int .i64 b.f1, .int .i64 b.f2, .int .i64 b.f3, .int .i64 b.f4, .int .i64 1, .int .u64 b.f5.f1, .int .u64 b.f5.f2, .int .i64 b.f5.f3, .int .i64 b.f6.f0, .bool b.f6.f1, .int .u64 b.f6.f2, .slice B b.f6.f3.length d] 31 (0, 0)) BKgb.out hb)
          clear BKgb
          have BKgb := n_BKgb
          clear n_BKgb
          have n_BK10 := Aside0.mk (blk_below (g := g10) (o := .cells #[.int .i64 a.f0, .int .i64 a.f1, .int .i64 a.f2, .int .i64 a.f3, .int .i64 a.f4, .int .i64 1, .int .u64 a.f5.f1, .int .u64 a.f5.f2, .int .i64 a.f5.f3, .int .i64 a.f6.f0, .bool a.f6.f1, .int .u64 a.f6.f2, .slice A a.f6.f3.length c] 31 (0, 0)) BK10.out hb)
          clear BK10
          have BK10 := n_BK10
          clear n_BK10
          have n_BK14 := Aside0.mk (blk_below (g := g14) (o := .cells #[.int .i64 b.f0, .int .i64 b.f1, .int .i64 b.f2, .int .i64 b.f3, .int .i64 b.f4, .int .i64 1, .int .u64 b.f5.f1, .int .u64 b.f5.f2, .int .i64 b.f5.f3, .int .i64 b.f6.f0, .bool b.f6.f1, .int .u64 b.f6.f2, .slice B b.f6.f3.length d] 31 (0, 0)) BK14.out hb)
          clear BK14
          have BK14 := n_BK14
          clear n_BK14
          have n1_ := Aside0.mk (below_step HB.out hb)
          clear HB hb
          have HB := n1_
          clear n1_
          refine hK.out _ _ ⟨((blk_cell BKga.out 0).trans rfl), ((blk_cell BKga.out 1).trans rfl), ((blk_cell BKga.out 2).trans rfl), ((blk_cell BKga.out 3).trans rfl), ((blk_cell BKga.out 4).trans rfl), ((blk_cell BKga.out 5).trans rfl), ((blk_cell BKga.out 6).trans rfl), ((blk_cell BKga.out 7).trans rfl), ((blk_cell BKga.out 8).trans rfl), ((blk_cell BKga.out 9).trans rfl), ((blk_cell BKga.out 10).trans rfl), ((blk_cell BKga.out 11).trans rfl), ((blk_cell BKga.out 12).trans rfl), ((blk_cell BKgb.out 0).trans rfl), ((blk_cell BKgb.out 1).trans rfl), ((blk_cell BKgb.out 2).trans rfl), ((blk_cell BKgb.out 3).trans rfl), ((blk_cell BKgb.out 4).trans rfl), ((blk_cell BKgb.out 5).trans rfl), ((blk_cell BKgb.out 6).trans rfl), ((blk_cell BKgb.out 7).trans rfl), ((blk_cell BKgb.out 8).trans rfl), ((blk_cell BKgb.out 9).trans rfl), ((blk_cell BKgb.out 10).trans rfl), ((blk_cell BKgb.out 11).trans rfl), ((blk_cell BKgb.out 12).trans rfl)⟩ (fun hHeld => ?_)
          clear hK K
          refine norm_ (a' := ?_) ?_ ?_
          rotate_left
          · show Act.put _ (some 34) _ = _
            simp only [Act.put, List.setIfInBounds_toArray, List.set_cons_zero, List.set_cons_succ, i64_w, i32_w]
            rfl
          exact norm_ (by simp only [putAll, Act.put, List.setIfInBounds_toArray, List.set_cons_zero, List.set_cons_succ]) (hCont (g10, g14) _ ⟨BK14, BKga, BKgb, HB⟩)
      · skip
        refine value_ (w1 := ?_) (v := ?_) (by rfl) rfl ?_ ?_
        rotate_left 2
        · go_simp
          constructor
          · rfl
          · rfl
        have n_BKga := Aside0.mk (blk_alloc (g := ga) (o := .cells #[.int .i64 a.f0, .int .i64 a.f1, .int .i64 a.f2, .int .i64 a.f3, .int .i64 a.f4, .int .i64 1, .int .u64 a.f5.f1, .int .u64 a.f5.f2, .int .i64 a.f5.f3, .int .i64 a.f6.f0, .bool a.f6.f1, .int .u64 a.f6.f2, .slice A a.f6.f3.length c] 31 (0, 0)) BKga.out (.cells #[.int .i64 b.f0, .int .i64 b.f1, .int .i64 b.f2, .int .i64 b.f3, .int .i64 b.f4, .int .i64 1, .int .u64 b.f5.f1, .int .u64 b.f5.f2, .int .i64 b.f5.f3, .int .i64 b.f6.f0, .bool b.f6.f1, .int .u64 b.f6.f2, .slice B b.f6.f3.length d] 31))
        clear BKga
        have BKga := n_BKga
        clear n_BKga
        have n_BKgb := Aside0.mk (blk_alloc (g := gb) (o := .cells #[.int .i64 b.f0, .int .i64 b.f1, .int .i64 b.f2, .int .i64 b.f3, .int .i64 b.f4, .int .i64 1, .int .u64 b.f5.f1, .int .u64 b.f5.f2, .int .i64 b.f5.f3, .int .i64 b.f6.f0, .bool b.f6.f1, .int .u64 b.f6.f2, .slice B b.f6.f3.length d] 31 (0, 0)) BKgb.out (.cells #[.int .i64 b.f0, .int .i64 b.f1, .int .i64 b.f2, .int .i64 b.f3, .int .i64 b.f4, .int .i64 1, .int .u64 b.f5.f1, .int .u64 b.f5.f2, .int .i64 b.f5.f3, .int .i64 b.f6.f0, .bool b.f6.f1, .int .u64 b.f6.f2, .slice B b.f6.f3.length d] 31))
        clear BKgb
        have BKgb := n_BKgb
        clear n_BKgb
        have BK14 := Aside0.mk (blk_new w5 (.cells #[.int .i64 b.f0, .int .i64 b.f1, .int .i64 b.f2, .int .i64 b.f3, .int .i64 b.f4, .int .i64 1, .int .u64 b.f5.f1, .int .u64 b.f5.f2, .int .i64 b.f5.f3, .int .i64 b.f6.f0, .bool b.f6.f1, .int .u64 b.f6.f2, .slice B b.f6.f3.length d] 31))
        have n1_ := Aside0.mk (below_alloc HB.out (.cells #[.int .i64 b.f0, .int .i64 b.f1, .int .i64 b.f2, .int .i64 b.f3, .int .i64 b.f4, .int .i64 1, .int .u64 b.f5.f1, .int .u64 b.f5.f2, .int .i64 b.f5.f3, .int .i64 b.f6.f0, .bool b.f6.f1, .int .u64 b.f6.f2, .slice B b.f6.f3.length d] 31))
        clear HB
        have HB := n1_
        clear n1_
        generalize w5.alloc (.cells #[.int .i64 b.f0, .int .i64 b.f1, .int .i64 b.f2, .int .i64 b.f3, .int .i64 b.f4, .int .i64 1, .int .u64 b.f5.f1, .int .u64 b.f5.f2, .int .i64 b.f5.f3, .int .i64 b.f6.f0, .bool b.f6.f1, .int .u64 b.f6.f2, .slice B b.f6.f3.length d] 31) = w14 at BKga BKgb BK14 HB ⊢
        generalize w5.heap.size = g14 at BK14 ⊢
        refine hK.out _ _ ⟨((blk_cell BKga.out 0).trans rfl), ((blk_cell BKga.out 1).trans rfl), ((blk_cell BKga.out 2).trans rfl), ((blk_cell BKga.out 3).trans rfl), ((blk_cell BKga.out 4).trans rfl), ((blk_cell BKga.out 5).trans rfl), ((blk_cell BKga.out 6).trans rfl), ((blk_cell BKga.out 7).trans rfl), ((blk_cell BKga.out 8).trans rfl), ((blk_cell BKga.out 9).trans rfl), ((blk_cell BKga.out 10).trans rfl), ((blk_cell BKga.out 11).trans rfl), ((blk_cell BKga.out 12).trans rfl), ((blk_cell BKgb.out 0).trans rfl), ((blk_cell BKgb.out 1).trans rfl), ((blk_cell BKgb.out 2).trans rfl), ((blk_cell BKgb.out 3).trans rfl), ((blk_cell BKgb.out 4).trans rfl), ((blk_cell BKgb.out 5).trans rfl), ((blk_cell BKgb.out 6).trans rfl), ((blk_cell BKgb.out 7).trans rfl), ((blk_cell BKgb.out 8).trans rfl), ((blk_cell BKgb.out 9).trans rfl), ((blk_cell BKgb.out 10).trans rfl), ((blk_cell BKgb.out 11).trans rfl), ((blk_cell BKgb.out 12).trans rfl)⟩ (fun hHeld => ?_)
        clear hK K
        refine norm_ (a' := ?_) ?_ ?_
        rotate_left
        · show Act.put _ (some 36) _ = _
          simp only [Act.put, List.setIfInBounds_toArray, List.set_cons_zero, List.set_cons_succ, i64_w, i32_w]
          rfl
        refine one_ (i := 10) (N := some 32) #[true, true, true, true, true, true, true, true, true, true, true, true, false, true, true, true, false, false, false, false, false, false, false, false, false] rfl rfl (one_of HT_.out (by kernel_rfl)) (by decide) (fun K hK => ?_)
        refine value_ (w1 := ?_) (v := ?_) (by rfl) rfl ?_ ?_
        rotate_left 2
        · go_simp
          constructor
          · rfl
          · rfl
        have n_BKga := Aside0.mk (blk_alloc (g := ga) (o := .cells #[.int .i64 a.f0, .int .i64 a.f1, .int .i64 a.f2, .int .i64 a.f3, .int .i64 a.f4, .int .i64 1, .int .u64 a.f5.f1, .int .u64 a.f5.f2, .int .i64 a.f5.f3, .int .i64 a.f6.f0, .bool a.f6.f1, .int .u64 a.f6.f2, .slice A a.f6.f3.length c] 31 (0, 0)) BKga.out (.cells #[.int .i64 a.f0, .int .i64 a.f1, .int .i64 a.f2, .int .i64 a.f3, .int .i64 a.f4, .int .i64 1, .int .u64 a.f5.f1, .int .u64 a.f5.f2, .int .i64 a.f5.f3, .int .i64 a.f6.f0, .bool a.f6.f1, .int .u64 a.f6.f2, .slice A a.f6.f3.length c] 31))
        clear BKga
        have BKga := n_BKga
        clear n_BKga
        have n_BKgb := Aside0.mk (blk_alloc (g := gb) (o := .cells #[.int .i64 b.f0, .int .i64 b.f1, .int .i64 b.f2, .int .i64 b.f3, .int .i64 b.f4, .int .i64 1, .int .u64 b.f5.f1, .int .u64 b.f5.f2, .int .i64 b.f5.f3, .int .i64 b.f6.f0, .bool b.f6.f1, .int .u64 b.f6.f2, .slice B b.f6.f3.length d] 31 (0, 0)) BKgb.out (.cells #[.int .i64 a.f0, .int .i64 a.f1, .int .i64 a.f2, .int .i64 a.f3, .int .i64 a.f4, .int .i64 1, .int .u64 a.f5.f1, .int .u64 a.f5.f2, .int .i64 a.f5.f3, .int .i64 a.f6.f0, .bool a.f6.f1, .int .u64 a.f6.f2, .slice A a.f6.f3.length c] 31))
        clear BKgb
        have BKgb := n_BKgb
        clear n_BKgb
        have n_BK14 := Aside0.mk (blk_alloc (g := g14) (o := .cells #[.int .i64 b.f0, .int .i64 b.f1, .int .i64 b.f2, .int .i64 b.f3, .int .i64 b.f4, .int .i64 1, .int .u64 b.f5.f1, .int .u64 b.f5.f2, .int .i64 b.f5.f3, .int .i64 b.f6.f0, .bool b.f6.f1, .int .u64 b.f6.f2, .slice B b.f6.f3.length d] 31 (0, 0)) BK14.out (.cells #[.int .i64 a.f0, .int .i64 a.f1, .int .i64 a.f2, .int .i64 a.f3, .int .i64 a.f4, .int .i64 1, .int .u64 a.f5.f1, .int .u64 a.f5.f2, .int .i64 a.f5.f3, .int .i64 a.f6.f0, .bool a.f6.f1, .int .u64 a.f6.f2, .slice A a.f6.f3.length c] 31))
        clear BK14
        have BK14 := n_BK14
        clear n_BK14
        have BK10 := Aside0.mk (blk_new w14 (.cells #[.int .i64 a.f0, .int .i64 a.f1, .int .i64 a.f2, .int .i64 a.f3, .int .i64 a.f4, .int .i64 1, .int .u64 a.f5.f1, .int .u64 a.f5.f2, .int .i64 a.f5.f3, .int .i64 a.f6.f0, .bool a.f6.f1, .int .u64 a.f6.f2, .slice A a.f6.f3.length c] 31))
        have n1_ := Aside0.mk (below_alloc HB.out (.cells #[.int .i64 a.f0, .int .i64 a.f1, .int .i64 a.f2, .int .i64 a.f3, .int .i64 a.f4, .int .i64 1, .int .u64 a.f5.f1, .int .u64 a.f5.f2, .int .i64 a.f5.f3, .int .i64 a.f6.f0, .bool a.f6.f1, .int .u64 a.f6.f2, .slice A a.f6.f3.length c] 31))
        clear HB
        have HB := n1_
        clear n1_
        generalize w14.alloc (.cells #[.int .i64 a.f0, .int .i64 a.f1, .int .i64 a.f2, .int .i64 a.f3, .int .i64 a.f4, .int .i64 1, .int .u64 a.f5.f1, .int .u64 a.f5.f2, .int .i64 a.f5.f3, .int .i64 a.f6.f0, .bool a.f6.f1, .int .u64 a.f6.f2, .slice A a.f6.f3.length c] 31) = w10 at BKga BKgb BK14 BK10 HB ⊢
        generalize w14.heap.size = g10 at BK10 ⊢
        refine hK.out _ _ ⟨((blk_cell BKga.out 0).trans rfl), ((blk_cell BKga.out 1).trans rfl), ((blk_cell BKga.out 2).trans rfl), ((blk_cell BKga.out 3).trans rfl), ((blk_cell BKga.out 4).trans rfl), ((blk_cell BKga.out 5).trans rfl), ((blk_cell BKga.out 6).trans rfl), ((blk_cell BKga.out 7).trans rfl), ((blk_cell BKga.out 8).trans rfl), ((blk_cell BKga.out 9).trans rfl), ((blk_cell BKga.out 10).trans rfl), ((blk_cell BKga.out 11).trans rfl), ((blk_cell BKga.out 12).trans rfl), ((blk_cell BKgb.out 0).trans rfl), ((blk_cell BKgb.out 1).trans rfl), ((blk_cell BKgb.out 2).trans rfl), ((blk_cell BKgb.out 3).trans rfl), ((blk_cell BKgb.out 4).trans rfl), ((blk_cell BKgb.out 5).trans rfl), ((blk_cell BKgb.out 6).trans rfl), ((blk_cell BKgb.out 7).trans rfl), ((blk_cell BKgb.out 8).trans rfl), ((blk_cell BKgb.out 9).trans rfl), ((blk_cell BKgb.out 10).trans rfl), ((blk_cell BKgb.out 11).trans rfl), ((blk_cell BKgb.out 12).trans rfl)⟩ (fun hHeld => ?_)
        clear hK K
        refine norm_ (a' := ?_) ?_ ?_
        rotate_left
        · show Act.put _ (some 32) _ = _
          simp only [Act.put, List.setIfInBounds_toArray, List.set_cons_zero, List.set_cons_succ, i64_w, i32_w]
          rfl
        refine one_ (i := 12) (N := some 34) #[true, true, true, true, true, true, true, true, true, true, true, true, true, true, true, true, false, false, false, false, false, false, false, false, false] rfl rfl (one_of HT_.out (by kernel_rfl)) (by decide) (fun K hK => ?_)
        refine goes_ Try.func17 (by kernel_rfl) rfl #[.slice (some ⟨g10, 0, none⟩) 1 1, .agg #[.int .i64 b.f0, .int .i64 b.f1, .int .i64 b.f2, .int .i64 b.f3, .int .i64 b.f4, .int .i64 1, .int .u64 b.f5.f1, .int .u64 b.f5.f2, .int .i64 b.f5.f3, .int .i64 b.f6.f0, .bool b.f6.f1, .int .u64 b.f6.f2, .slice B b.f6.f3.length d]] (by rfl) rfl rfl (by (try simp only [List.map_toArray, List.map_cons, List.map_nil]); first | done | rfl) ?_
        with_reducible refine (HQ.out _ _ BK10.out (Kd.C_below HRA.out HB.out)).mono ?_
        rintro e w12 ⟨rfl, hb⟩
        refine ⟨_, rfl, ?_⟩
        have n_BKga := Aside0.mk (blk_below (g := ga) (o := .cells #[.int .i64 a.f0, .int .i64 a.f1, .int .i64 a.f2, .int .i64 a.f3, .int .i64 a.f4, .int .i64 1, .int .u64 a.f5.f1, .int .u64 a.f5.f2, .int .i64 a.f5.f3, .int .i64 a.f6.f0, .bool a.f6.f1, .int .u64 a.f6.f2, .slice A a.f6.f3.length c] 31 (0, 0)) BKga.out hb)
        clear BKga
        have BKga := n_BKga
        clear n_BKga
        have n_BKgb := Aside0.mk (blk_below (g := gb) (o := .cells #[.int .i64 b.f0, .int .i64 b.f1, .int .i64 b.f2, .int .i64 b.f3, .int .i64 b.f4, .int .i64 1, .int .u64 b.f5.f1, .int .u64 b.f5.f2, .int .i64 b.f5.f3, .int .i64 b.f6.f0, .bool b.f6.f1, .int .u64 b.f6.f2, .slice B b.f6.f3.length d] 31 (0, 0)) BKgb.out hb)
        clear BKgb
        have BKgb := n_BKgb
        clear n_BKgb
        have n_BK10 := Aside0.mk (blk_below (g := g10) (o := .cells #[.int .i64 a.f0, .int .i64 a.f1, .int .i64 a.f2, .int .i64 a.f3, .int .i64 a.f4, .int .i64 1, .int .u64 a.f5.f1, .int .u64 a.f5.f2, .int .i64 a.f5.f3, .int .i64 a.f6.f0, .bool a.f6.f1, .int .u64 a.f6.f2, .slice A a.f6.f3.length c] 31 (0, 0)) BK10.out hb)
        clear BK10
        have BK10 := n_BK10
        clear n_BK10
        have n_BK14 := Aside0.mk (blk_below (g := g14) (o := .cells #[.int .i64 b.f0, .int .i64 b.f1, .int .i64 b.f2, .int .i64 b.f3, .int .i64 b.f4, .int .i64 1, .int .u64 b.f5.f1, .int .u64 b.f5.f2, .int .i64 b.f5.f3, .int .i64 b.f6.f0, .bool b.f6.f1, .int .u64 b.f6.f2, .slice B b.f6.f3.length d] 31 (0, 0)) BK14.out hb)
        clear BK14
        have BK14 := n_BK14
        clear n_BK14
        have n1_ := Aside0.mk (below_step HB.out hb)
        clear HB hb
        have HB := n1_
        clear n1_
        refine hK.out _ _ ⟨((blk_cell BKga.out 0).trans rfl), ((blk_cell BKga.out 1).trans rfl), ((blk_cell BKga.out 2).trans rfl), ((blk_cell BKga.out 3).trans rfl), ((blk_cell BKga.out 4).trans rfl), ((blk_cell BKga.out 5).trans rfl), ((blk_cell BKga.out 6).trans rfl), ((blk_cell BKga.out 7).trans rfl), ((blk_cell BKga.out 8).trans rfl), ((blk_cell BKga.out 9).trans rfl), ((blk_cell BKga.out 10).trans rfl), ((blk_cell BKga.out 11).trans rfl), ((blk_cell BKga.out 12).trans rfl), ((blk_cell BKgb.out 0).trans rfl), ((blk_cell BKgb.out 1).trans rfl), ((blk_cell BKgb.out 2).trans rfl), ((blk_cell BKgb.out 3).trans rfl), ((blk_cell BKgb.out 4).trans rfl), ((blk_cell BKgb.out 5).trans rfl), ((blk_cell BKgb.out 6).trans rfl), ((blk_cell BKgb.out 7).trans rfl), ((blk_cell BKgb.out 8).trans rfl), ((blk_cell BKgb.out 9).trans rfl), ((blk_cell BKgb.out 10).trans rfl), ((blk_cell BKgb.out 11).trans rfl), ((blk_cell BKgb.out 12).trans rfl)⟩ (fun hHeld => ?_)
        clear hK K
        refine norm_ (a' := ?_) ?_ ?_
        rotate_left
        · show Act.put _ (some 34) _ = _
          simp only [Act.put, List.setIfInBounds_toArray, List.set_cons_zero, List.set_cons_succ, i64_w, i32_w]
          rfl
        exact norm_ (by simp only [putAll, Act.put, List.setIfInBounds_toArray, List.set_cons_zero, List.set_cons_succ]) (hCont (g10, g14) _ ⟨BK14, BKga, BKgb, HB⟩)
    clear BKga BKgb HB hHeld
    rintro ⟨s1, g14⟩ w16 ⟨BK14, BKga, BKgb, HB⟩
    have hHeld := (show w16.cell? ⟨ga, 0, none⟩ = some (.int .i64 a.f0) ∧ w16.cell? ⟨ga, 1, none⟩ = some (.int .i64 a.f1) ∧ w16.cell? ⟨ga, 2, none⟩ = some (.int .i64 a.f2) ∧ w16.cell? ⟨ga, 3, none⟩ = some (.int .i64 a.f3) ∧ w16.cell? ⟨ga, 4, none⟩ = some (.int .i64 a.f4) ∧ w16.cell? ⟨ga, 5, none⟩ = some (.int .i64 1) ∧ w16.cell? ⟨ga, 6, none⟩ = some (.int .u64 a.f5.f1) ∧ w16.cell? ⟨ga, 7, none⟩ = some (.int .u64 a.f5.f2) ∧ w16.cell? ⟨ga, 8, none⟩ = some (.int .i64 a.f5.f3) ∧ w16.cell? ⟨ga, 9, none⟩ = some (.int .i64 a.f6.f0) ∧ w16.cell? ⟨ga, 10, none⟩ = some (.bool a.f6.f1) ∧ w16.cell? ⟨ga, 11, none⟩ = some (.int .u64 a.f6.f2) ∧ w16.cell? ⟨ga, 12, none⟩ = some (.slice A a.f6.f3.length c) ∧ w16.cell? ⟨gb, 0, none⟩ = some (.int .i64 b.f0) ∧ w16.cell? ⟨gb, 1, none⟩ = some (.int .i64 b.f1) ∧ w16.cell? ⟨gb, 2, none⟩ = some (.int .i64 b.f2) ∧ w16.cell? ⟨gb, 3, none⟩ = some (.int .i64 b.f3) ∧ w16.cell? ⟨gb, 4, none⟩ = some (.int .i64 b.f4) ∧ w16.cell? ⟨gb, 5, none⟩ = some (.int .i64 1) ∧ w16.cell? ⟨gb, 6, none⟩ = some (.int .u64 b.f5.f1) ∧ w16.cell? ⟨gb, 7, none⟩ = some (.int .u64 b.f5.f2) ∧ w16.cell? ⟨gb, 8, none⟩ = some (.int .i64 b.f5.f3) ∧ w16.cell? ⟨gb, 9, none⟩ = some (.int .i64 b.f6.f0) ∧ w16.cell? ⟨gb, 10, none⟩ = some (.bool b.f6.f1) ∧ w16.cell? ⟨gb, 11, none⟩ = some (.int .u64 b.f6.f2) ∧ w16.cell? ⟨gb, 12, none⟩ = some (.slice B b.f6.f3.length d) from ⟨((blk_cell BKga.out 0).trans rfl), ((blk_cell BKga.out 1).trans rfl), ((blk_cell BKga.out 2).trans rfl), ((blk_cell BKga.out 3).trans rfl), ((blk_cell BKga.out 4).trans rfl), ((blk_cell BKga.out 5).trans rfl), ((blk_cell BKga.out 6).trans rfl), ((blk_cell BKga.out 7).trans rfl), ((blk_cell BKga.out 8).trans rfl), ((blk_cell BKga.out 9).trans rfl), ((blk_cell BKga.out 10).trans rfl), ((blk_cell BKga.out 11).trans rfl), ((blk_cell BKga.out 12).trans rfl), ((blk_cell BKgb.out 0).trans rfl), ((blk_cell BKgb.out 1).trans rfl), ((blk_cell BKgb.out 2).trans rfl), ((blk_cell BKgb.out 3).trans rfl), ((blk_cell BKgb.out 4).trans rfl), ((blk_cell BKgb.out 5).trans rfl), ((blk_cell BKgb.out 6).trans rfl), ((blk_cell BKgb.out 7).trans rfl), ((blk_cell BKgb.out 8).trans rfl), ((blk_cell BKgb.out 9).trans rfl), ((blk_cell BKgb.out 10).trans rfl), ((blk_cell BKgb.out 11).trans rfl), ((blk_cell BKgb.out 12).trans rfl)⟩)
    refine norm_ (a' := ?_) ?_ ?_
    rotate_left
    · simp only [putAll, Act.put, List.setIfInBounds_toArray, List.set_cons_zero, List.set_cons_succ]
      rfl
    refine one_ (i := 16) (N := some 38) #[true, true, true, true, true, true, true, true, true, true, true, true, true, true, true, true, true, false, false, false, false, false, false, false, false] rfl rfl (one_of HT_.out (by kernel_rfl)) (by decide) (fun K hK => ?_)
    refine goes_ Try.func17 (by kernel_rfl) rfl #[.slice (some ⟨g14, 0, none⟩) 1 1, .agg #[.int .i64 a.f0, .int .i64 a.f1, .int .i64 a.f2, .int .i64 a.f3, .int .i64 a.f4, .int .i64 1, .int .u64 a.f5.f1, .int .u64 a.f5.f2, .int .i64 a.f5.f3, .int .i64 a.f6.f0, .bool a.f6.f1, .int .u64 a.f6.f2, .slice A a.f6.f3.length c]] (by rfl) rfl rfl (by (try simp only [List.map_toArray, List.map_cons, List.map_nil]); first | done | rfl) ?_
    with_reducible refine (HQ2.out _ _ BK14.out (Kd.C_below HRB.out HB.out)).mono ?_
    rintro e w17 ⟨rfl, hb⟩
    refine ⟨_, rfl, ?_⟩
    have n_BKga := Aside0.mk (blk_below (g := ga) (o := .cells #[.int .i64 a.f0, .int .i64 a.f1, .int .i64 a.f2, .int .i64 a.f3, .int .i64 a.f4, .int .i64 1, .int .u64 a.f5.f1, .int .u64 a.f5.f2, .int .i64 a.f5.f3, .int .i64 a.f6.f0, .bool a.f6.f1, .int .u64 a.f6.f2, .slice A a.f6.f3.length c] 31 (0, 0)) BKga.out hb)
    clear BKga
    have BKga := n_BKga
    clear n_BKga
    have n_BKgb := Aside0.mk (blk_below (g := gb) (o := .cells #[.int .i64 b.f0, .int .i64 b.f1, .int .i64 b.f2, .int .i64 b.f3, .int .i64 b.f4, .int .i64 1, .int .u64 b.f5.f1, .int .u64 b.f5.f2, .int .i64 b.f5.f3, .int .i64 b.f6.f0, .bool b.f6.f1, .int .u64 b.f6.f2, .slice B b.f6.f3.length d] 31 (0, 0)) BKgb.out hb)
    clear BKgb
    have BKgb := n_BKgb
    clear n_BKgb
    have n1_ := Aside0.mk (below_step HB.out hb)
    clear HB hb
    have HB := n1_
    clear n1_
    clear BK14
    refine hK.out _ _ ⟨((blk_cell BKga.out 0).trans rfl), ((blk_cell BKga.out 1).trans rfl), ((blk_cell BKga.out 2).trans rfl), ((blk_cell BKga.out 3).trans rfl), ((blk_cell BKga.out 4).trans rfl), ((blk_cell BKga.out 5).trans rfl), ((blk_cell BKga.out 6).trans rfl), ((blk_cell BKga.out 7).trans rfl), ((blk_cell BKga.out 8).trans rfl), ((blk_cell BKga.out 9).trans rfl), ((blk_cell BKga.out 10).trans rfl), ((blk_cell BKga.out 11).trans rfl), ((blk_cell BKga.out 12).trans rfl), ((blk_cell BKgb.out 0).trans rfl), ((blk_cell BKgb.out 1).trans rfl), ((blk_cell BKgb.out 2).trans rfl), ((blk_cell BKgb.out 3).trans rfl), ((blk_cell BKgb.out 4).trans rfl), ((blk_cell BKgb.out 5).trans rfl), ((blk_cell BKgb.out 6).trans rfl), ((blk_cell BKgb.out 7).trans rfl), ((blk_cell BKgb.out 8).trans rfl), ((blk_cell BKgb.out 9).trans rfl), ((blk_cell BKgb.out 10).trans rfl), ((blk_cell BKgb.out 11).trans rfl), ((blk_cell BKgb.out 12).trans rfl)⟩ (fun hHeld => ?_)
    clear hK K
    refine norm_ (a' := ?_) ?_ ?_
    rotate_left
    · show Act.put _ (some 38) _ = _
      simp only [Act.put, List.setIfInBounds_toArray, List.set_cons_zero, List.set_cons_succ, i64_w, i32_w]
      rfl
    refine pure_ (i := 17) (N := some 39) (v := ?_) (a' := ?_) #[true, true, true, true, true, true, true, true, true, true, true, true, true, true, true, true, true, true, false, false, false, false, false, false, false] rfl rfl (any_of HT_.out (by kernel_rfl)) (fun _ _ _ h => h) (Or.inl ⟨by rfl, ?_⟩) ?_ ?_
    rotate_left
    · intro w'
      go_simp
      with_reducible rfl
    rotate_left
    · simp only [Act.put, List.setIfInBounds_toArray, List.set_cons_zero, List.set_cons_succ, i64_w, i32_w]
      rfl
    refine pure_ (i := 18) (N := some 40) (v := ?_) (a' := ?_) #[true, true, true, true, true, true, true, true, true, true, true, true, true, true, true, true, true, true, true, false, false, false, false, false, false] rfl rfl (any_of HT_.out (by kernel_rfl)) (fun _ _ _ h => h) (Or.inl ⟨by rfl, ?_⟩) ?_ ?_
    rotate_left
    · intro w'
      go_simp
      with_reducible rfl
    rotate_left
    · simp only [Act.put, List.setIfInBounds_toArray, List.set_cons_zero, List.set_cons_succ, i64_w, i32_w]
      rfl
    refine pure_ (i := 19) (N := some 41) (v := ?_) (a' := ?_) #[true, true, true, true, true, true, true, true, true, true, true, true, true, true, true, true, true, true, true, true, false, false, false, false, false] rfl rfl (any_of HT_.out (by kernel_rfl)) (fun _ _ _ h => h) (Or.inl ⟨by rfl, ?_⟩) ?_ ?_
    rotate_left
    · intro w'
      go_simp
      with_reducible rfl
    rotate_left
    · simp only [Act.put, List.setIfInBounds_toArray, List.set_cons_zero, List.set_cons_succ, i64_w, i32_w]
      rfl
    refine take_ (i := 20) (N := some 42) (v := ?_) (a' := ?_) #[true, true, true, true, true, true, true, true, true, true, true, true, true, true, true, true, true, true, true, true, true, false, false, false, false] rfl rfl (take_ofW HT_.out HW_.out (by kernel_rfl)) (fun _ _ _ h => h) (Or.inl ⟨by rfl, ?_⟩) hHeld ?_ ?_
    rotate_left
    · rintro w' ⟨s0, s1, s2, s3, s4, s5, s6, s7, s8, s9, s10, s11, s12, s13, s14, s15, s16, s17, s18, s19, s20, s21, s22, s23, s24, s25⟩
      go_simp
      with_reducible rfl
    rotate_left
    · simp only [Act.put, List.setIfInBounds_toArray, List.set_cons_zero, List.set_cons_succ, i64_w, i32_w]
      rfl
    refine one_ (i := 21) (N := some 43) #[true, true, true, true, true, true, true, true, true, true, true, true, true, true, true, true, true, true, true, true, true, true, false, false, false] rfl rfl (one_of HT_.out (by kernel_rfl)) (by decide) (fun K hK => ?_)
    refine goes_ Try.func17 (by kernel_rfl) rfl #[.slice none 0 0, .agg #[.int .i64 a.f0, .int .i64 a.f1, .int .i64 a.f2, .int .i64 a.f3, .int .i64 a.f4, .int .i64 1, .int .u64 a.f5.f1, .int .u64 a.f5.f2, .int .i64 a.f5.f3, .int .i64 a.f6.f0, .bool a.f6.f1, .int .u64 a.f6.f2, .slice A a.f6.f3.length c]] (by rfl) rfl rfl (by (try simp only [List.map_toArray, List.map_cons, List.map_nil]); first | done | rfl) ?_
    with_reducible refine (HS.out _).mono ?_
    rintro e w21 ⟨rfl, hb⟩
    refine ⟨_, rfl, ?_⟩
    have n_BKga := Aside0.mk (blk_below (g := ga) (o := .cells #[.int .i64 a.f0, .int .i64 a.f1, .int .i64 a.f2, .int .i64 a.f3, .int .i64 a.f4, .int .i64 1, .int .u64 a.f5.f1, .int .u64 a.f5.f2, .int .i64 a.f5.f3, .int .i64 a.f6.f0, .bool a.f6.f1, .int .u64 a.f6.f2, .slice A a.f6.f3.length c] 31 (0, 0)) BKga.out hb)
    clear BKga
    have BKga := n_BKga
    clear n_BKga
    have n_BKgb := Aside0.mk (blk_below (g := gb) (o := .cells #[.int .i64 b.f0, .int .i64 b.f1, .int .i64 b.f2, .int .i64 b.f3, .int .i64 b.f4, .int .i64 1, .int .u64 b.f5.f1, .int .u64 b.f5.f2, .int .i64 b.f5.f3, .int .i64 b.f6.f0, .bool b.f6.f1, .int .u64 b.f6.f2, .slice B b.f6.f3.length d] 31 (0, 0)) BKgb.out hb)
    clear BKgb
    have BKgb := n_BKgb
    clear n_BKgb
    have n1_ := Aside0.mk (below_step HB.out hb)
    clear HB hb
    have HB := n1_
    clear n1_
    refine hK.out _ _ ⟨((blk_cell BKga.out 0).trans rfl), ((blk_cell BKga.out 1).trans rfl), ((blk_cell BKga.out 2).trans rfl), ((blk_cell BKga.out 3).trans rfl), ((blk_cell BKga.out 4).trans rfl), ((blk_cell BKga.out 5).trans rfl), ((blk_cell BKga.out 6).trans rfl), ((blk_cell BKga.out 7).trans rfl), ((blk_cell BKga.out 8).trans rfl), ((blk_cell BKga.out 9).trans rfl), ((blk_cell BKga.out 10).trans rfl), ((blk_cell BKga.out 11).trans rfl), ((blk_cell BKga.out 12).trans rfl), ((blk_cell BKgb.out 0).trans rfl), ((blk_cell BKgb.out 1).trans rfl), ((blk_cell BKgb.out 2).trans rfl), ((blk_cell BKgb.out 3).trans rfl), ((blk_cell BKgb.out 4).trans rfl), ((blk_cell BKgb.out 5).trans rfl), ((blk_cell BKgb.out 6).trans rfl), ((blk_cell BKgb.out 7).trans rfl), ((blk_cell BKgb.out 8).trans rfl), ((blk_cell BKgb.out 9).trans rfl), ((blk_cell BKgb.out 10).trans rfl), ((blk_cell BKgb.out 11).trans rfl), ((blk_cell BKgb.out 12).trans rfl)⟩ (fun hHeld => ?_)
    clear hK K
    refine norm_ (a' := ?_) ?_ ?_
    rotate_left
    · show Act.put _ (some 43) _ = _
      simp only [Act.put, List.setIfInBounds_toArray, List.set_cons_zero, List.set_cons_succ, i64_w, i32_w]
      rfl
    refine pure_ (i := 22) (N := some 44) (v := ?_) (a' := ?_) #[true, true, true, true, true, true, true, true, true, true, true, true, true, true, true, true, true, true, true, true, true, true, true, false, false] rfl rfl (any_of HT_.out (by kernel_rfl)) (fun _ _ _ h => h) (Or.inl ⟨by rfl, ?_⟩) ?_ ?_
    rotate_left
    · intro w'
      go_simp
      with_reducible rfl
    rotate_left
    · simp only [Act.put, List.setIfInBounds_toArray, List.set_cons_zero, List.set_cons_succ, i64_w, i32_w]
      rfl
    refine pure_ (i := 23) (N := some 45) (v := ?_) (a' := ?_) #[true, true, true, true, true, true, true, true, true, true, true, true, true, true, true, true, true, true, true, true, true, true, true, true, false] rfl rfl (any_of HT_.out (by kernel_rfl)) (fun _ _ _ h => h) (Or.inl ⟨by rfl, ?_⟩) ?_ ?_
    rotate_left
    · intro w'
      go_simp
      with_reducible rfl
    rotate_left
    · simp only [Act.put, List.setIfInBounds_toArray, List.set_cons_zero, List.set_cons_succ, i64_w, i32_w]
      rfl
    refine pure_ (i := 24) (N := some 4) (v := ?_) (a' := ?_) #[true, true, true, true, true, true, true, true, true, true, true, true, true, true, true, true, true, true, true, true, true, true, true, true, true] rfl rfl (any_of HT_.out (by kernel_rfl)) (fun _ _ _ h => h) (Or.inl ⟨by rfl, ?_⟩) ?_ ?_
    rotate_left
    · intro w'
      go_simp
      with_reducible rfl
    rotate_left
    · simp only [Act.put, List.setIfInBounds_toArray, List.set_cons_zero, List.set_cons_succ, i64_w, i32_w]
      rfl
    refine done_ (done_of HT_.out (by kernel_rfl)) ?_
    go_wp2
    go_ret
    exact ⟨by first | rfl | (simp; done), by repeat (first | (with_reducible first | exact HB.out | apply below_alloc | apply pw_below_drewN | apply below_drew1) | exact HB.out)⟩
def corrielaw19_HistoryOverlap.f (k : Nat) (a0_0 : Int) (a0_1 : Int) (a0_2 : Int) (a0_3 : Int) (a0_4 : Int) (a0_5 : Int) (a0_6 : Int) (a0_7 : Int) (a0_8 : Int) (a0_9 : Int) (a0_10 : Bool) (a0_11 : Int) (l0_12 : List S49) (a1_0 : Int) (a1_1 : Int) (a1_2 : Int) (a1_3 : Int) (a1_4 : Int) (a1_5 : Int) (a1_6 : Int) (a1_7 : Int) (a1_8 : Int) (a1_9 : Int) (a1_10 : Bool) (a1_11 : Int) (l1_12 : List S49) : Option Bool := corrielaw19_HistoryOverlap.g k ⟨a0_0, a0_1, a0_2, a0_3, a0_4, ⟨a0_5, a0_6, a0_7, a0_8⟩, ⟨a0_9, a0_10, a0_11, l0_12⟩⟩ ⟨a1_0, a1_1, a1_2, a1_3, a1_4, ⟨a1_5, a1_6, a1_7, a1_8⟩, ⟨a1_9, a1_10, a1_11, l1_12⟩⟩
theorem corrielaw19_HistoryOverlap.mono : ∀ a0_0 a0_1 a0_2 a0_3 a0_4 a0_5 a0_6 a0_7 a0_8 a0_9 a0_10 a0_11 l0_12 a1_0 a1_1 a1_2 a1_3 a1_4 a1_5 a1_6 a1_7 a1_8 a1_9 a1_10 a1_11 l1_12 k, LeO (corrielaw19_HistoryOverlap.f k a0_0 a0_1 a0_2 a0_3 a0_4 a0_5 a0_6 a0_7 a0_8 a0_9 a0_10 a0_11 l0_12 a1_0 a1_1 a1_2 a1_3 a1_4 a1_5 a1_6 a1_7 a1_8 a1_9 a1_10 a1_11 l1_12) (corrielaw19_HistoryOverlap.f (k + 1) a0_0 a0_1 a0_2 a0_3 a0_4 a0_5 a0_6 a0_7 a0_8 a0_9 a0_10 a0_11 l0_12 a1_0 a1_1 a1_2 a1_3 a1_4 a1_5 a1_6 a1_7 a1_8 a1_9 a1_10 a1_11 l1_12) := by
  intros
  exact corrielaw19_HistoryOverlap.gmono _ _ _
theorem corrielaw19_HistoryOverlap.calls (k : Nat) (a0_0 : Int) (a0_1 : Int) (a0_2 : Int) (a0_3 : Int) (a0_4 : Int) (a0_5 : Int) (a0_6 : Int) (a0_7 : Int) (a0_8 : Int) (a0_9 : Int) (a0_10 : Bool) (a0_11 : Int) (A0_12 : Option Addr) (c0_12 : Nat) (l0_12 : List S49) (a1_0 : Int) (a1_1 : Int) (a1_2 : Int) (a1_3 : Int) (a1_4 : Int) (a1_5 : Int) (a1_6 : Int) (a1_7 : Int) (a1_8 : Int) (a1_9 : Int) (a1_10 : Bool) (a1_11 : Int) (A1_12 : Option Addr) (c1_12 : Nat) (l1_12 : List S49) (r : Bool) (w : World) (hr0_12 : Kd.C k49 w A0_12 l0_12.length l0_12) (hc0_12 : l0_12.length ≤ c0_12) (hr1_12 : Kd.C k49 w A1_12 l1_12.length l1_12) (hc1_12 : l1_12.length ≤ c1_12) (h : corrielaw19_HistoryOverlap.f k a0_0 a0_1 a0_2 a0_3 a0_4 a0_5 a0_6 a0_7 a0_8 a0_9 a0_10 a0_11 l0_12 a1_0 a1_1 a1_2 a1_3 a1_4 a1_5 a1_6 a1_7 a1_8 a1_9 a1_10 a1_11 l1_12 = some r) :
    Calls Try.prog 7 #[.agg #[.int .i64 a0_0, .int .i64 a0_1, .int .i64 a0_2, .int .i64 a0_3, .int .i64 a0_4, .int .i64 a0_5, .int .u64 a0_6, .int .u64 a0_7, .int .i64 a0_8, .int .i64 a0_9, .bool a0_10, .int .u64 a0_11, .slice A0_12 l0_12.length c0_12], .agg #[.int .i64 a1_0, .int .i64 a1_1, .int .i64 a1_2, .int .i64 a1_3, .int .i64 a1_4, .int .i64 a1_5, .int .u64 a1_6, .int .u64 a1_7, .int .i64 a1_8, .int .i64 a1_9, .bool a1_10, .int .u64 a1_11, .slice A1_12 l1_12.length c1_12]] w fun e w' => e = .returned (.bool r) ∧ Below w.heap.size w w' := by
  exact corrielaw19_HistoryOverlap.law k ⟨a0_0, a0_1, a0_2, a0_3, a0_4, ⟨a0_5, a0_6, a0_7, a0_8⟩, ⟨a0_9, a0_10, a0_11, l0_12⟩⟩ ⟨a1_0, a1_1, a1_2, a1_3, a1_4, ⟨a1_5, a1_6, a1_7, a1_8⟩, ⟨a1_9, a1_10, a1_11, l1_12⟩⟩ A0_12 A1_12 c0_12 c1_12 r w hr0_12 hc0_12 hr1_12 hc1_12 h


end Go.Proofs.Ytpcmoclohepdiad.PHistoryOverlap
