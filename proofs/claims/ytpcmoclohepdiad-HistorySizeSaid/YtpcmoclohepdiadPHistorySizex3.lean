-- Written by a program of this session: a variant of the print that takes proofs by hand (wip/tools/mkprint.py)
import Derived.Test.YtpcmoclohepdiadPHistorySizex0
import Derived.Test.YtpcmoclohepdiadPHistorySizex1
import Derived.Test.YtpcmoclohepdiadPHistorySizex2
namespace Go.Proofs.Ytpcmoclohepdiad.PHistorySize
open Go.RowKit Go.Proofs.YtpcmoclohepdiadW.PrintWords Go.Proofs.YtpcmoclohepdiadW.PrintLast Go.Proofs.YtpcmoclohepdiadW.PrintMore
attribute [local go_sem] max2_int min2_int max_two min_two max_three min_three max_four min_four   -- for this text's walks alone
set_option linter.unusedVariables false
set_option linter.unusedSimpArgs false

/-! ### corrielaw19_awake: function 8 (by hand) -/
def haw_Bf.f (a b : S31) : Bool := if a.f3 ≥ 0 then decide (a.f3 < b.f2) else false
set_option maxHeartbeats 8000000 in
set_option maxRecDepth 100000 in
theorem haw_Bf.calls (a b : S31) (A B : Option Addr) (c d : Nat) (W : World) : Calls Try.prog 19 #[.agg #[.int .i64 a.f0, .int .i64 a.f1, .int .i64 a.f2, .int .i64 a.f3, .int .i64 a.f4, .int .i64 a.f5.f0, .int .u64 a.f5.f1, .int .u64 a.f5.f2, .int .i64 a.f5.f3, .int .i64 a.f6.f0, .bool a.f6.f1, .int .u64 a.f6.f2, .slice A a.f6.f3.length c], .agg #[.int .i64 b.f0, .int .i64 b.f1, .int .i64 b.f2, .int .i64 b.f3, .int .i64 b.f4, .int .i64 b.f5.f0, .int .u64 b.f5.f1, .int .u64 b.f5.f2, .int .i64 b.f5.f3, .int .i64 b.f6.f0, .bool b.f6.f1, .int .u64 b.f6.f2, .slice B b.f6.f3.length d]] W fun e w' => e = .returned (.bool (haw_Bf.f a b)) ∧ Below W.heap.size W w' := by
  have HB := Aside0.mk (Below.refl W.heap.size W)
  unfold haw_Bf.f
  by_cases c1 : a.f3 ≥ 0
  · rw [if_pos c1]
    have c1b : decide (0 ≤ a.f3) = true := decide_eq_true c1
    go_enter Try.func19, Try.ntmps19
    go_wp2_with (first | ((with_reducible refine gate_dst (N := 2) rfl ?_); refine box_event ?hg (N := 2) ?hd (cs := #[.int .i64 a.f0, .int .i64 a.f1, .int .i64 a.f2, .int .i64 a.f3, .int .i64 a.f4, .int .i64 a.f5.f0, .int .u64 a.f5.f1, .int .u64 a.f5.f2, .int .i64 a.f5.f3, .int .i64 a.f6.f0, .bool a.f6.f1, .int .u64 a.f6.f2, .slice A a.f6.f3.length c]) (t := 31) ?hr ?_; (case hd => rfl); (case hg => rfl); (case hr => first | (go_simp; done) | (go_simp; rfl)); intro ga hg wb_ga hbox hb; have BKga := Aside0.mk hbox; have n0_ := Aside0.mk (below_step HB.out hb); clear HB; have HB := n0_; clear n0_; clear hb hbox hg) | ((with_reducible refine gate_dst (N := 3) rfl ?_); refine box_event ?hg (N := 3) ?hd (cs := #[.int .i64 b.f0, .int .i64 b.f1, .int .i64 b.f2, .int .i64 b.f3, .int .i64 b.f4, .int .i64 b.f5.f0, .int .u64 b.f5.f1, .int .u64 b.f5.f2, .int .i64 b.f5.f3, .int .i64 b.f6.f0, .bool b.f6.f1, .int .u64 b.f6.f2, .slice B b.f6.f3.length d]) (t := 31) ?hr ?_; (case hd => rfl); (case hg => rfl); (case hr => first | (go_simp; done) | (go_simp; rfl)); intro gb hg wb_gb hbox hb; have BKgb := Aside0.mk hbox; have n_BKga := Aside0.mk (blk_below (g := ga) (o := .cells #[.int .i64 a.f0, .int .i64 a.f1, .int .i64 a.f2, .int .i64 a.f3, .int .i64 a.f4, .int .i64 a.f5.f0, .int .u64 a.f5.f1, .int .u64 a.f5.f2, .int .i64 a.f5.f3, .int .i64 a.f6.f0, .bool a.f6.f1, .int .u64 a.f6.f2, .slice A a.f6.f3.length c] 31 (0, 0)) BKga.out hb); clear BKga; have BKga := n_BKga; clear n_BKga; have n0_ := Aside0.mk (below_step HB.out hb); clear HB; have HB := n0_; clear n0_; have cgb_2 : wb_gb.cell? ⟨gb, 2, none⟩ = some (.int .i64 b.f2) := (blk_cell BKgb.out 2).trans rfl; have cga_3 : wb_gb.cell? ⟨ga, 3, none⟩ = some (.int .i64 a.f3) := (blk_cell BKga.out 3).trans rfl; clear hb hbox hg))
    go_ret
    exact ⟨by first | rfl | (simp [*]; done), by repeat (first | (with_reducible first | exact HB.out | apply below_alloc | apply pw_below_drewN | apply below_drew1) | exact HB.out)⟩
  · rw [if_neg c1]
    have c1b : decide (0 ≤ a.f3) = false := decide_eq_false c1
    go_enter Try.func19, Try.ntmps19
    go_wp2_with (first | ((with_reducible refine gate_dst (N := 2) rfl ?_); refine box_event ?hg (N := 2) ?hd (cs := #[.int .i64 a.f0, .int .i64 a.f1, .int .i64 a.f2, .int .i64 a.f3, .int .i64 a.f4, .int .i64 a.f5.f0, .int .u64 a.f5.f1, .int .u64 a.f5.f2, .int .i64 a.f5.f3, .int .i64 a.f6.f0, .bool a.f6.f1, .int .u64 a.f6.f2, .slice A a.f6.f3.length c]) (t := 31) ?hr ?_; (case hd => rfl); (case hg => rfl); (case hr => first | (go_simp; done) | (go_simp; rfl)); intro ga hg wb_ga hbox hb; have BKga := Aside0.mk hbox; have n0_ := Aside0.mk (below_step HB.out hb); clear HB; have HB := n0_; clear n0_; clear hb hbox hg) | ((with_reducible refine gate_dst (N := 3) rfl ?_); refine box_event ?hg (N := 3) ?hd (cs := #[.int .i64 b.f0, .int .i64 b.f1, .int .i64 b.f2, .int .i64 b.f3, .int .i64 b.f4, .int .i64 b.f5.f0, .int .u64 b.f5.f1, .int .u64 b.f5.f2, .int .i64 b.f5.f3, .int .i64 b.f6.f0, .bool b.f6.f1, .int .u64 b.f6.f2, .slice B b.f6.f3.length d]) (t := 31) ?hr ?_; (case hd => rfl); (case hg => rfl); (case hr => first | (go_simp; done) | (go_simp; rfl)); intro gb hg wb_gb hbox hb; have BKgb := Aside0.mk hbox; have n_BKga := Aside0.mk (blk_below (g := ga) (o := .cells #[.int .i64 a.f0, .int .i64 a.f1, .int .i64 a.f2, .int .i64 a.f3, .int .i64 a.f4, .int .i64 a.f5.f0, .int .u64 a.f5.f1, .int .u64 a.f5.f2, .int .i64 a.f5.f3, .int .i64 a.f6.f0, .bool a.f6.f1, .int .u64 a.f6.f2, .slice A a.f6.f3.length c] 31 (0, 0)) BKga.out hb); clear BKga; have BKga := n_BKga; clear n_BKga; have n0_ := Aside0.mk (below_step HB.out hb); clear HB; have HB := n0_; clear n0_; have cgb_2 : wb_gb.cell? ⟨gb, 2, none⟩ = some (.int .i64 b.f2) := (blk_cell BKgb.out 2).trans rfl; have cga_3 : wb_gb.cell? ⟨ga, 3, none⟩ = some (.int .i64 a.f3) := (blk_cell BKga.out 3).trans rfl; clear hb hbox hg))
    go_ret
    exact ⟨by first | rfl | (simp [*]; done), by repeat (first | (with_reducible first | exact HB.out | apply below_alloc | apply pw_below_drewN | apply below_drew1) | exact HB.out)⟩
theorem evC2 {W : World} {g : Nat} {x y : S31} {A B : Option Addr} {c d : Nat} (hl : x.f6.f3.length ≤ c) (hr : Kd.C k49 W A x.f6.f3.length x.f6.f3) (hl2 : y.f6.f3.length ≤ d) (hr2 : Kd.C k49 W B y.f6.f3.length y.f6.f3) (hg : W.heap[g]? = some (.cells #[.int .i64 x.f0, .int .i64 x.f1, .int .i64 x.f2, .int .i64 x.f3, .int .i64 x.f4, .int .i64 x.f5.f0, .int .u64 x.f5.f1, .int .u64 x.f5.f2, .int .i64 x.f5.f3, .int .i64 x.f6.f0, .bool x.f6.f1, .int .u64 x.f6.f2, .slice A x.f6.f3.length c, .int .i64 y.f0, .int .i64 y.f1, .int .i64 y.f2, .int .i64 y.f3, .int .i64 y.f4, .int .i64 y.f5.f0, .int .u64 y.f5.f1, .int .u64 y.f5.f2, .int .i64 y.f5.f3, .int .i64 y.f6.f0, .bool y.f6.f1, .int .u64 y.f6.f2, .slice B y.f6.f3.length d] 31 (0, 0))) : Kd.C k31 W (some ⟨g, 0, none⟩) 2 [x, y] := by
  refine ⟨rfl, by decide, fun _ => ⟨_, rfl, fun j p hj => ?_⟩⟩
  match j, hj with
  | 0, hj =>
    simp at hj
    subst hj
    have h : ∀ i, i < 13 → W.cell? ⟨g, i + 0, none⟩ = (#[.int .i64 x.f0, .int .i64 x.f1, .int .i64 x.f2, .int .i64 x.f3, .int .i64 x.f4, .int .i64 x.f5.f0, .int .u64 x.f5.f1, .int .u64 x.f5.f2, .int .i64 x.f5.f3, .int .i64 x.f6.f0, .bool x.f6.f1, .int .u64 x.f6.f2, .slice A x.f6.f3.length c] : Array Value)[i]? := fun i hi => by
      have h0 : W.cell? ⟨g, i + 0, none⟩ = (#[.int .i64 x.f0, .int .i64 x.f1, .int .i64 x.f2, .int .i64 x.f3, .int .i64 x.f4, .int .i64 x.f5.f0, .int .u64 x.f5.f1, .int .u64 x.f5.f2, .int .i64 x.f5.f3, .int .i64 x.f6.f0, .bool x.f6.f1, .int .u64 x.f6.f2, .slice A x.f6.f3.length c, .int .i64 y.f0, .int .i64 y.f1, .int .i64 y.f2, .int .i64 y.f3, .int .i64 y.f4, .int .i64 y.f5.f0, .int .u64 y.f5.f1, .int .u64 y.f5.f2, .int .i64 y.f5.f3, .int .i64 y.f6.f0, .bool y.f6.f1, .int .u64 y.f6.f2, .slice B y.f6.f3.length d] : Array Value)[i + 0]? := blk_cell hg (i + 0)
      rw [h0]
      match i, hi with
      | 0, _ => rfl
      | 1, _ => rfl
      | 2, _ => rfl
      | 3, _ => rfl
      | 4, _ => rfl
      | 5, _ => rfl
      | 6, _ => rfl
      | 7, _ => rfl
      | 8, _ => rfl
      | 9, _ => rfl
      | 10, _ => rfl
      | 11, _ => rfl
      | 12, _ => rfl
    refine ⟨_, rfl, k31_mk W x hl hr, fun i u hu => ?_⟩
    have hi : i < 13 := by simpa using (List.getElem?_eq_some_iff.1 hu).1
    have e1 : (⟨g, 0, none⟩ : Addr).add (0 * k31.sz + i) = ⟨g, i + 0, none⟩ := by
      have hs : k31.sz = 13 := rfl
      rw [hs, Addr.add_lit]
      congr 1
      omega
    rw [e1, h i hi]
    simpa using hu
  | 1, hj =>
    simp at hj
    subst hj
    have h : ∀ i, i < 13 → W.cell? ⟨g, i + 13, none⟩ = (#[.int .i64 y.f0, .int .i64 y.f1, .int .i64 y.f2, .int .i64 y.f3, .int .i64 y.f4, .int .i64 y.f5.f0, .int .u64 y.f5.f1, .int .u64 y.f5.f2, .int .i64 y.f5.f3, .int .i64 y.f6.f0, .bool y.f6.f1, .int .u64 y.f6.f2, .slice B y.f6.f3.length d] : Array Value)[i]? := fun i hi => by
      have h0 : W.cell? ⟨g, i + 13, none⟩ = (#[.int .i64 x.f0, .int .i64 x.f1, .int .i64 x.f2, .int .i64 x.f3, .int .i64 x.f4, .int .i64 x.f5.f0, .int .u64 x.f5.f1, .int .u64 x.f5.f2, .int .i64 x.f5.f3, .int .i64 x.f6.f0, .bool x.f6.f1, .int .u64 x.f6.f2, .slice A x.f6.f3.length c, .int .i64 y.f0, .int .i64 y.f1, .int .i64 y.f2, .int .i64 y.f3, .int .i64 y.f4, .int .i64 y.f5.f0, .int .u64 y.f5.f1, .int .u64 y.f5.f2, .int .i64 y.f5.f3, .int .i64 y.f6.f0, .bool y.f6.f1, .int .u64 y.f6.f2, .slice B y.f6.f3.length d] : Array Value)[i + 13]? := blk_cell hg (i + 13)
      rw [h0]
      match i, hi with
      | 0, _ => rfl
      | 1, _ => rfl
      | 2, _ => rfl
      | 3, _ => rfl
      | 4, _ => rfl
      | 5, _ => rfl
      | 6, _ => rfl
      | 7, _ => rfl
      | 8, _ => rfl
      | 9, _ => rfl
      | 10, _ => rfl
      | 11, _ => rfl
      | 12, _ => rfl
    refine ⟨_, rfl, k31_mk W y hl2 hr2, fun i u hu => ?_⟩
    have hi : i < 13 := by simpa using (List.getElem?_eq_some_iff.1 hu).1
    have e1 : (⟨g, 0, none⟩ : Addr).add (1 * k31.sz + i) = ⟨g, i + 13, none⟩ := by
      have hs : k31.sz = 13 := rfl
      rw [hs, Addr.add_lit]
      congr 1
      omega
    rw [e1, h i hi]
    simpa using hu
  | j + 2, hj => simp at hj
def corrielaw19_awake.T2 : Bool × List (List Nat × List Nat) := (true, [([], []), ([0], [0]), ([1, 1], [1]), ([2], [2]), ([3, 2, 2], [2, 3]), ([4, 2], [2, 4]), ([5, 2], [2, 5]), ([2, 6], [2, 6]), ([7, 4], [7]), ([8], [8]), ([9, 8, 8], [8, 9]), ([10, 8], [8, 10]), ([8, 11], [8, 11]), ([12, 10], [12]), ([13], [13]), ([14, 13, 13], [13, 14]), ([15, 13], [13, 15]), ([13, 16], [13, 16]), ([17, 15], [17]), ([18], [18]), ([18], [18]), ([20, 18], [18, 20]), ([21, 18], [18, 21]), ([19, 22, 18, 18], [18, 19, 22]), ([23, 18], [18, 23]), ([18, 24], [18, 24]), ([25, 23], [25]), ([26], [26]), ([27, 26], [26, 27]), ([28, 26], [26, 28]), ([26], [26]), ([30, 26], [26, 30]), ([31, 26], [26, 31]), ([29, 32, 26, 26], [26, 29, 32]), ([33, 26], [26, 33]), ([26, 34], [26, 34]), ([35, 33, 0, 1, 2, 3, 4, 5, 6, 7, 8, 9, 10, 11, 12, 13, 14, 15, 16, 17, 18, 19, 20, 21, 22, 23, 24, 25, 26, 27, 28, 29, 30, 31, 32, 33, 34, 35], [35])])
def corrielaw19_awake.B2 : List Nat := [0, 1, 3, 7, 15, 31, 63, 127, 255, 511, 1023, 2047, 4095, 8191, 16383, 32767, 65535, 131071, 262143, 524287, 524287, 1572863, 3670015, 8388607, 16777215, 33554431, 67108863, 134217727, 268435455, 536870911, 134217727, 1207959551, 3355443199, 8589934591, 17179869183, 34359738367, 68719476735]
theorem corrielaw19_awake.tab2 : rtab .any (opsOf Try.f8 2) = corrielaw19_awake.T2 := by kernel_rfl
theorem corrielaw19_awake.bits2 : waitsOk corrielaw19_awake.T2.2 corrielaw19_awake.B2 = true := by kernel_rfl
def corrielaw19_awake.f : Option Bool := some true
set_option maxHeartbeats 8000000 in
set_option maxRecDepth 100000 in
theorem corrielaw19_awake.calls (r : Bool) (w : World) (h : corrielaw19_awake.f = some r) :
    Calls Try.prog 8 #[] w fun e w' => e = .returned (.bool r) ∧ Below w.heap.size w w' := by
  obtain rfl := Option.some.inj h
  clear h
  have HV := Aside0.mk (show ∀ W : World, Kd.C k31 W (some ⟨w.heap.size, 0, none⟩) 2 [(⟨0, 0, 0, 3, 0, ⟨1, 0, 0, 0⟩, ⟨0, true, 0, []⟩⟩ : S31), (⟨1, 0, 2, -1, 0, ⟨1, 0, 0, 0⟩, ⟨0, false, 0, []⟩⟩ : S31)] → Calls Try.prog 10 #[.slice (some ⟨w.heap.size, 0, none⟩) 2 2] W (fun e w' => e = .returned (.bool true) ∧ Below W.heap.size W w') from fun W hC => history_Valid.calls 20 _ 2 [(⟨0, 0, 0, 3, 0, ⟨1, 0, 0, 0⟩, ⟨0, true, 0, []⟩⟩ : S31), (⟨1, 0, 2, -1, 0, ⟨1, 0, 0, 0⟩, ⟨0, false, 0, []⟩⟩ : S31)] true W hC (by decide) (by decide +kernel))
  have HP := Aside0.mk (show ∀ W : World, Kd.C k31 W (some ⟨w.heap.size, 0, none⟩) 2 [(⟨0, 0, 0, 3, 0, ⟨1, 0, 0, 0⟩, ⟨0, true, 0, []⟩⟩ : S31), (⟨1, 0, 2, -1, 0, ⟨1, 0, 0, 0⟩, ⟨0, false, 0, []⟩⟩ : S31)] → Calls Try.prog 13 #[.slice (some ⟨w.heap.size, 0, none⟩) 2 2] W (fun e w' => ∃ A c, e = .returned (.slice A 2 c) ∧ Below W.heap.size W w') from fun W hC => (history_Points.law _ 2 [(⟨0, 0, 0, 3, 0, ⟨1, 0, 0, 0⟩, ⟨0, true, 0, []⟩⟩ : S31), (⟨1, 0, 2, -1, 0, ⟨1, 0, 0, 0⟩, ⟨0, false, 0, []⟩⟩ : S31)] W hC (by decide)).mono (fun e w' h => by
    obtain ⟨A, c, rfl, _, _, hb⟩ := h
    exact ⟨A, c, rfl, hb⟩))
  have H1 := Aside0.mk (show ∀ W : World, Kd.C k31 W (some ⟨w.heap.size, 0, none⟩) 2 [(⟨0, 0, 0, 3, 0, ⟨1, 0, 0, 0⟩, ⟨0, true, 0, []⟩⟩ : S31), (⟨1, 0, 2, -1, 0, ⟨1, 0, 0, 0⟩, ⟨0, false, 0, []⟩⟩ : S31)] → Calls Try.prog 15 #[.slice (some ⟨w.heap.size, 0, none⟩) 2 2, .int .i64 1] W (fun e w' => e = .returned (.int .i64 1) ∧ Below W.heap.size W w') from fun W hC => history_Size.calls 20 _ 2 [(⟨0, 0, 0, 3, 0, ⟨1, 0, 0, 0⟩, ⟨0, true, 0, []⟩⟩ : S31), (⟨1, 0, 2, -1, 0, ⟨1, 0, 0, 0⟩, ⟨0, false, 0, []⟩⟩ : S31)] 1 1 W hC (by decide) (by decide +kernel))
  have H5 := Aside0.mk (show ∀ W : World, Kd.C k31 W (some ⟨w.heap.size, 0, none⟩) 2 [(⟨0, 0, 0, 3, 0, ⟨1, 0, 0, 0⟩, ⟨0, true, 0, []⟩⟩ : S31), (⟨1, 0, 2, -1, 0, ⟨1, 0, 0, 0⟩, ⟨0, false, 0, []⟩⟩ : S31)] → Calls Try.prog 15 #[.slice (some ⟨w.heap.size, 0, none⟩) 2 2, .int .i64 5] W (fun e w' => e = .returned (.int .i64 2) ∧ Below W.heap.size W w') from fun W hC => history_Size.calls 20 _ 2 [(⟨0, 0, 0, 3, 0, ⟨1, 0, 0, 0⟩, ⟨0, true, 0, []⟩⟩ : S31), (⟨1, 0, 2, -1, 0, ⟨1, 0, 0, 0⟩, ⟨0, false, 0, []⟩⟩ : S31)] 5 2 W hC (by decide) (by decide +kernel))
  have HI := Aside0.mk (show ∀ W : World, Kd.C k31 W (some ⟨w.heap.size, 0, none⟩) 2 [(⟨0, 0, 0, 3, 0, ⟨1, 0, 0, 0⟩, ⟨0, true, 0, []⟩⟩ : S31), (⟨1, 0, 2, -1, 0, ⟨1, 0, 0, 0⟩, ⟨0, false, 0, []⟩⟩ : S31)] → Calls Try.prog 17 #[.slice (some ⟨w.heap.size, 0, none⟩) 2 2, .agg #[.int .i64 0, .int .i64 0, .int .i64 0, .int .i64 3, .int .i64 0, .int .i64 1, .int .u64 0, .int .u64 0, .int .i64 0, .int .i64 0, .bool true, .int .u64 0, .slice none 0 0]] W (fun e w' => e = .returned (.int .i64 2) ∧ Below W.heap.size W w') from fun W hC => history_Inserts.law 20 _ 2 [(⟨0, 0, 0, 3, 0, ⟨1, 0, 0, 0⟩, ⟨0, true, 0, []⟩⟩ : S31), (⟨1, 0, 2, -1, 0, ⟨1, 0, 0, 0⟩, ⟨0, false, 0, []⟩⟩ : S31)] (⟨0, 0, 0, 3, 0, ⟨1, 0, 0, 0⟩, ⟨0, true, 0, []⟩⟩ : S31) none 0 2 W hC (by decide +kernel))
  have HF := Aside0.mk (show ∀ W : World, Calls Try.prog 19 #[.agg #[.int .i64 0, .int .i64 0, .int .i64 0, .int .i64 3, .int .i64 0, .int .i64 1, .int .u64 0, .int .u64 0, .int .i64 0, .int .i64 0, .bool true, .int .u64 0, .slice none 0 0], .agg #[.int .i64 1, .int .i64 0, .int .i64 2, .int .i64 (-1), .int .i64 0, .int .i64 1, .int .u64 0, .int .u64 0, .int .i64 0, .int .i64 0, .bool false, .int .u64 0, .slice none 0 0]] W (fun e w' => e = .returned (.bool false) ∧ Below W.heap.size W w') from fun W => haw_Bf.calls (⟨0, 0, 0, 3, 0, ⟨1, 0, 0, 0⟩, ⟨0, true, 0, []⟩⟩ : S31) (⟨1, 0, 2, -1, 0, ⟨1, 0, 0, 0⟩, ⟨0, false, 0, []⟩⟩ : S31) none none 0 0 W)
  go_enter Try.func8, Try.ntmps8
  go_wp2_with (fail)
  have BKgh := Aside0.mk (blk_new w (.cells #[.int .i64 0, .int .i64 0, .int .i64 0, .int .i64 3, .int .i64 0, .int .i64 1, .int .u64 0, .int .u64 0, .int .i64 0, .int .i64 0, .bool true, .int .u64 0, .slice none 0 0, .int .i64 1, .int .i64 0, .int .i64 2, .int .i64 (-1), .int .i64 0, .int .i64 1, .int .u64 0, .int .u64 0, .int .i64 0, .int .i64 0, .bool false, .int .u64 0, .slice none 0 0] 31))
  have HB := Aside0.mk (below_alloc (Below.refl w.heap.size w) (.cells #[.int .i64 0, .int .i64 0, .int .i64 0, .int .i64 3, .int .i64 0, .int .i64 1, .int .u64 0, .int .u64 0, .int .i64 0, .int .i64 0, .bool true, .int .u64 0, .slice none 0 0, .int .i64 1, .int .i64 0, .int .i64 2, .int .i64 (-1), .int .i64 0, .int .i64 1, .int .u64 0, .int .u64 0, .int .i64 0, .int .i64 0, .bool false, .int .u64 0, .slice none 0 0] 31))
  have n_BKgh := Aside0.mk (blk_drew (g := w.heap.size) (o := .cells #[.int .i64 0, .int .i64 0, .int .i64 0, .int .i64 3, .int .i64 0, .int .i64 1, .int .u64 0, .int .u64 0, .int .i64 0, .int .i64 0, .bool true, .int .u64 0, .slice none 0 0, .int .i64 1, .int .i64 0, .int .i64 2, .int .i64 (-1), .int .i64 0, .int .i64 1, .int .u64 0, .int .u64 0, .int .i64 0, .int .i64 0, .bool false, .int .u64 0, .slice none 0 0] 31 (0, 0)) BKgh.out)
  clear BKgh
  have BKgh := n_BKgh
  clear n_BKgh
  have n1_ := Aside0.mk (below_drew1 HB.out)
  clear HB
  have HB := n1_
  clear n1_
  refine start_ (n := 37) (S := fun w' => w'.cell? ⟨w.heap.size, 0, none⟩ = some (.int .i64 0) ∧ w'.cell? ⟨w.heap.size, 1, none⟩ = some (.int .i64 0) ∧ w'.cell? ⟨w.heap.size, 2, none⟩ = some (.int .i64 0) ∧ w'.cell? ⟨w.heap.size, 3, none⟩ = some (.int .i64 3) ∧ w'.cell? ⟨w.heap.size, 4, none⟩ = some (.int .i64 0) ∧ w'.cell? ⟨w.heap.size, 5, none⟩ = some (.int .i64 1) ∧ w'.cell? ⟨w.heap.size, 6, none⟩ = some (.int .u64 0) ∧ w'.cell? ⟨w.heap.size, 7, none⟩ = some (.int .u64 0) ∧ w'.cell? ⟨w.heap.size, 8, none⟩ = some (.int .i64 0) ∧ w'.cell? ⟨w.heap.size, 9, none⟩ = some (.int .i64 0) ∧ w'.cell? ⟨w.heap.size, 10, none⟩ = some (.bool true) ∧ w'.cell? ⟨w.heap.size, 11, none⟩ = some (.int .u64 0) ∧ w'.cell? ⟨w.heap.size, 12, none⟩ = some (.slice none 0 0) ∧ w'.cell? ⟨w.heap.size, 13, none⟩ = some (.int .i64 1) ∧ w'.cell? ⟨w.heap.size, 14, none⟩ = some (.int .i64 0) ∧ w'.cell? ⟨w.heap.size, 15, none⟩ = some (.int .i64 2) ∧ w'.cell? ⟨w.heap.size, 16, none⟩ = some (.int .i64 (-1)) ∧ w'.cell? ⟨w.heap.size, 17, none⟩ = some (.int .i64 0) ∧ w'.cell? ⟨w.heap.size, 18, none⟩ = some (.int .i64 1) ∧ w'.cell? ⟨w.heap.size, 19, none⟩ = some (.int .u64 0) ∧ w'.cell? ⟨w.heap.size, 20, none⟩ = some (.int .u64 0) ∧ w'.cell? ⟨w.heap.size, 21, none⟩ = some (.int .i64 0) ∧ w'.cell? ⟨w.heap.size, 22, none⟩ = some (.int .i64 0) ∧ w'.cell? ⟨w.heap.size, 23, none⟩ = some (.bool false) ∧ w'.cell? ⟨w.heap.size, 24, none⟩ = some (.int .u64 0) ∧ w'.cell? ⟨w.heap.size, 25, none⟩ = some (.slice none 0 0)) (ds := []) #[false, false, false, false, false, false, false, false, false, false, false, false, false, false, false, false, false, false, false, false, false, false, false, false, false, false, false, false, false, false, false, false, false, false, false, false, false] (by kernel_rfl) rfl rfl ⟨(blk_cell BKgh.out 0).trans rfl, (blk_cell BKgh.out 1).trans rfl, (blk_cell BKgh.out 2).trans rfl, (blk_cell BKgh.out 3).trans rfl, (blk_cell BKgh.out 4).trans rfl, (blk_cell BKgh.out 5).trans rfl, (blk_cell BKgh.out 6).trans rfl, (blk_cell BKgh.out 7).trans rfl, (blk_cell BKgh.out 8).trans rfl, (blk_cell BKgh.out 9).trans rfl, (blk_cell BKgh.out 10).trans rfl, (blk_cell BKgh.out 11).trans rfl, (blk_cell BKgh.out 12).trans rfl, (blk_cell BKgh.out 13).trans rfl, (blk_cell BKgh.out 14).trans rfl, (blk_cell BKgh.out 15).trans rfl, (blk_cell BKgh.out 16).trans rfl, (blk_cell BKgh.out 17).trans rfl, (blk_cell BKgh.out 18).trans rfl, (blk_cell BKgh.out 19).trans rfl, (blk_cell BKgh.out 20).trans rfl, (blk_cell BKgh.out 21).trans rfl, (blk_cell BKgh.out 22).trans rfl, (blk_cell BKgh.out 23).trans rfl, (blk_cell BKgh.out 24).trans rfl, (blk_cell BKgh.out 25).trans rfl⟩ (fun hHeld => ?_); refine with_tabW corrielaw19_awake.tab2 corrielaw19_awake.bits2 (fun HT_ HW_ => ?_)
  generalize (w.alloc (.cells #[.int .i64 0, .int .i64 0, .int .i64 0, .int .i64 3, .int .i64 0, .int .i64 1, .int .u64 0, .int .u64 0, .int .i64 0, .int .i64 0, .bool true, .int .u64 0, .slice none 0 0, .int .i64 1, .int .i64 0, .int .i64 2, .int .i64 (-1), .int .i64 0, .int .i64 1, .int .u64 0, .int .u64 0, .int .i64 0, .int .i64 0, .bool false, .int .u64 0, .slice none 0 0] 31)).drew = W1 at BKgh HB hHeld ⊢
  refine pure_ (i := 0) (N := some 8) (v := ?_) (a' := ?_) #[true, false, false, false, false, false, false, false, false, false, false, false, false, false, false, false, false, false, false, false, false, false, false, false, false, false, false, false, false, false, false, false, false, false, false, false, false] rfl rfl (any_of HT_.out (by kernel_rfl)) (fun _ _ _ h => h) (Or.inl ⟨by rfl, ?_⟩) ?_ ?_
  rotate_left
  · intro w'
    go_simp
    with_reducible rfl
  rotate_left
  · simp only [Act.put, List.setIfInBounds_toArray, List.set_cons_zero, List.set_cons_succ, i64_w, i32_w]
    rfl
  refine one_ (i := 1) (N := some 9) #[true, true, false, false, false, false, false, false, false, false, false, false, false, false, false, false, false, false, false, false, false, false, false, false, false, false, false, false, false, false, false, false, false, false, false, false, false] rfl rfl (one_of HT_.out (by kernel_rfl)) (by decide) (fun K hK => ?_)
  refine goes_ Try.func10 (by kernel_rfl) rfl #[.slice (some ⟨w.heap.size, 0, none⟩) 2 2] (by rfl) rfl rfl (by (try simp only [List.map_toArray, List.map_cons, List.map_nil]); first | done | rfl) ?_
  with_reducible refine (HV.out _ (evC2 (x := (⟨0, 0, 0, 3, 0, ⟨1, 0, 0, 0⟩, ⟨0, true, 0, []⟩⟩ : S31)) (y := (⟨1, 0, 2, -1, 0, ⟨1, 0, 0, 0⟩, ⟨0, false, 0, []⟩⟩ : S31)) (A := none) (B := none) (c := 0) (d := 0) (by decide) (Kd.C_nil _ _) (by decide) (Kd.C_nil _ _) BKgh.out)).mono ?_
  rintro e w1 ⟨rfl, hb⟩
  refine ⟨_, rfl, ?_⟩
  have n_BKgh := Aside0.mk (blk_below (g := w.heap.size) (o := .cells #[.int .i64 0, .int .i64 0, .int .i64 0, .int .i64 3, .int .i64 0, .int .i64 1, .int .u64 0, .int .u64 0, .int .i64 0, .int .i64 0, .bool true, .int .u64 0, .slice none 0 0, .int .i64 1, .int .i64 0, .int .i64 2, .int .i64 (-1), .int .i64 0, .int .i64 1, .int .u64 0, .int .u64 0, .int .i64 0, .int .i64 0, .bool false, .int .u64 0, .slice none 0 0] 31 (0, 0)) BKgh.out hb)
  clear BKgh
  have BKgh := n_BKgh
  clear n_BKgh
  have n1_ := Aside0.mk (below_step HB.out hb)
  clear HB hb
  have HB := n1_
  clear n1_
  refine hK.out _ _ ⟨(blk_cell BKgh.out 0).trans rfl, (blk_cell BKgh.out 1).trans rfl, (blk_cell BKgh.out 2).trans rfl, (blk_cell BKgh.out 3).trans rfl, (blk_cell BKgh.out 4).trans rfl, (blk_cell BKgh.out 5).trans rfl, (blk_cell BKgh.out 6).trans rfl, (blk_cell BKgh.out 7).trans rfl, (blk_cell BKgh.out 8).trans rfl, (blk_cell BKgh.out 9).trans rfl, (blk_cell BKgh.out 10).trans rfl, (blk_cell BKgh.out 11).trans rfl, (blk_cell BKgh.out 12).trans rfl, (blk_cell BKgh.out 13).trans rfl, (blk_cell BKgh.out 14).trans rfl, (blk_cell BKgh.out 15).trans rfl, (blk_cell BKgh.out 16).trans rfl, (blk_cell BKgh.out 17).trans rfl, (blk_cell BKgh.out 18).trans rfl, (blk_cell BKgh.out 19).trans rfl, (blk_cell BKgh.out 20).trans rfl, (blk_cell BKgh.out 21).trans rfl, (blk_cell BKgh.out 22).trans rfl, (blk_cell BKgh.out 23).trans rfl, (blk_cell BKgh.out 24).trans rfl, (blk_cell BKgh.out 25).trans rfl⟩ (fun hHeld => ?_)
  clear hK K
  refine norm_ (a' := ?_) ?_ ?_
  rotate_left
  · show Act.put _ (some 9) _ = _
    simp only [Act.put, List.setIfInBounds_toArray, List.set_cons_zero, List.set_cons_succ, i64_w, i32_w]
    rfl
  refine pure_ (i := 2) (N := some 10) (v := ?_) (a' := ?_) #[true, true, true, false, false, false, false, false, false, false, false, false, false, false, false, false, false, false, false, false, false, false, false, false, false, false, false, false, false, false, false, false, false, false, false, false, false] rfl rfl (any_of HT_.out (by kernel_rfl)) (fun _ _ _ h => h) (Or.inl ⟨by rfl, ?_⟩) ?_ ?_
  rotate_left
  · intro w'
    go_simp
    with_reducible rfl
  rotate_left
  · simp only [Act.put, List.setIfInBounds_toArray, List.set_cons_zero, List.set_cons_succ, i64_w, i32_w]
    rfl
  refine pure_ (i := 3) (N := some 11) (v := ?_) (a' := ?_) #[true, true, true, true, false, false, false, false, false, false, false, false, false, false, false, false, false, false, false, false, false, false, false, false, false, false, false, false, false, false, false, false, false, false, false, false, false] rfl rfl (any_of HT_.out (by kernel_rfl)) (fun _ _ _ h => h) (Or.inl ⟨by rfl, ?_⟩) ?_ ?_
  rotate_left
  · intro w'
    go_simp
    with_reducible rfl
  rotate_left
  · simp only [Act.put, List.setIfInBounds_toArray, List.set_cons_zero, List.set_cons_succ, i64_w, i32_w]
    rfl
  refine one_ (i := 4) (N := some 12) #[true, true, true, true, true, false, false, false, false, false, false, false, false, false, false, false, false, false, false, false, false, false, false, false, false, false, false, false, false, false, false, false, false, false, false, false, false] rfl rfl (one_of HT_.out (by kernel_rfl)) (by decide) (fun K hK => ?_)
  refine goes_ Try.func13 (by kernel_rfl) rfl #[.slice (some ⟨w.heap.size, 0, none⟩) 2 2] (by rfl) rfl rfl (by (try simp only [List.map_toArray, List.map_cons, List.map_nil]); first | done | rfl) ?_
  with_reducible refine (HP.out _ (evC2 (x := (⟨0, 0, 0, 3, 0, ⟨1, 0, 0, 0⟩, ⟨0, true, 0, []⟩⟩ : S31)) (y := (⟨1, 0, 2, -1, 0, ⟨1, 0, 0, 0⟩, ⟨0, false, 0, []⟩⟩ : S31)) (A := none) (B := none) (c := 0) (d := 0) (by decide) (Kd.C_nil _ _) (by decide) (Kd.C_nil _ _) BKgh.out)).mono ?_
  rintro e w2 ⟨Ap, cp, rfl, hb⟩
  refine ⟨_, rfl, ?_⟩
  have n_BKgh := Aside0.mk (blk_below (g := w.heap.size) (o := .cells #[.int .i64 0, .int .i64 0, .int .i64 0, .int .i64 3, .int .i64 0, .int .i64 1, .int .u64 0, .int .u64 0, .int .i64 0, .int .i64 0, .bool true, .int .u64 0, .slice none 0 0, .int .i64 1, .int .i64 0, .int .i64 2, .int .i64 (-1), .int .i64 0, .int .i64 1, .int .u64 0, .int .u64 0, .int .i64 0, .int .i64 0, .bool false, .int .u64 0, .slice none 0 0] 31 (0, 0)) BKgh.out hb)
  clear BKgh
  have BKgh := n_BKgh
  clear n_BKgh
  have n1_ := Aside0.mk (below_step HB.out hb)
  clear HB hb
  have HB := n1_
  clear n1_
  refine hK.out _ _ ⟨(blk_cell BKgh.out 0).trans rfl, (blk_cell BKgh.out 1).trans rfl, (blk_cell BKgh.out 2).trans rfl, (blk_cell BKgh.out 3).trans rfl, (blk_cell BKgh.out 4).trans rfl, (blk_cell BKgh.out 5).trans rfl, (blk_cell BKgh.out 6).trans rfl, (blk_cell BKgh.out 7).trans rfl, (blk_cell BKgh.out 8).trans rfl, (blk_cell BKgh.out 9).trans rfl, (blk_cell BKgh.out 10).trans rfl, (blk_cell BKgh.out 11).trans rfl, (blk_cell BKgh.out 12).trans rfl, (blk_cell BKgh.out 13).trans rfl, (blk_cell BKgh.out 14).trans rfl, (blk_cell BKgh.out 15).trans rfl, (blk_cell BKgh.out 16).trans rfl, (blk_cell BKgh.out 17).trans rfl, (blk_cell BKgh.out 18).trans rfl, (blk_cell BKgh.out 19).trans rfl, (blk_cell BKgh.out 20).trans rfl, (blk_cell BKgh.out 21).trans rfl, (blk_cell BKgh.out 22).trans rfl, (blk_cell BKgh.out 23).trans rfl, (blk_cell BKgh.out 24).trans rfl, (blk_cell BKgh.out 25).trans rfl⟩ (fun hHeld => ?_)
  clear hK K
  refine norm_ (a' := ?_) ?_ ?_
  rotate_left
  · show Act.put _ (some 12) _ = _
    simp only [Act.put, List.setIfInBounds_toArray, List.set_cons_zero, List.set_cons_succ, i64_w, i32_w]
    rfl
  refine pure_ (i := 5) (N := some 13) (v := ?_) (a' := ?_) #[true, true, true, true, true, true, false, false, false, false, false, false, false, false, false, false, false, false, false, false, false, false, false, false, false, false, false, false, false, false, false, false, false, false, false, false, false] rfl rfl (any_of HT_.out (by kernel_rfl)) (fun _ _ _ h => h) (Or.inl ⟨by rfl, ?_⟩) ?_ ?_
  rotate_left
  · intro w'
    go_simp
    with_reducible rfl
  rotate_left
  · simp only [Act.put, List.setIfInBounds_toArray, List.set_cons_zero, List.set_cons_succ, i64_w, i32_w]
    rfl
  refine pure_ (i := 6) (N := some 14) (v := ?_) (a' := ?_) #[true, true, true, true, true, true, true, false, false, false, false, false, false, false, false, false, false, false, false, false, false, false, false, false, false, false, false, false, false, false, false, false, false, false, false, false, false] rfl rfl (any_of HT_.out (by kernel_rfl)) (fun _ _ _ h => h) (Or.inl ⟨by rfl, ?_⟩) ?_ ?_
  rotate_left
  · intro w'
    go_simp
    with_reducible rfl
  rotate_left
  · simp only [Act.put, List.setIfInBounds_toArray, List.set_cons_zero, List.set_cons_succ, i64_w, i32_w]
    rfl
  refine pure_ (i := 7) (N := some 15) (v := ?_) (a' := ?_) #[true, true, true, true, true, true, true, true, false, false, false, false, false, false, false, false, false, false, false, false, false, false, false, false, false, false, false, false, false, false, false, false, false, false, false, false, false] rfl rfl (any_of HT_.out (by kernel_rfl)) (fun _ _ _ h => h) (Or.inl ⟨by rfl, ?_⟩) ?_ ?_
  rotate_left
  · intro w'
    go_simp
    with_reducible rfl
  rotate_left
  · simp only [Act.put, List.setIfInBounds_toArray, List.set_cons_zero, List.set_cons_succ, i64_w, i32_w]
    rfl
  refine pure_ (i := 8) (N := some 16) (v := ?_) (a' := ?_) #[true, true, true, true, true, true, true, true, true, false, false, false, false, false, false, false, false, false, false, false, false, false, false, false, false, false, false, false, false, false, false, false, false, false, false, false, false] rfl rfl (any_of HT_.out (by kernel_rfl)) (fun _ _ _ h => h) (Or.inl ⟨by rfl, ?_⟩) ?_ ?_
  rotate_left
  · intro w'
    go_simp
    with_reducible rfl
  rotate_left
  · simp only [Act.put, List.setIfInBounds_toArray, List.set_cons_zero, List.set_cons_succ, i64_w, i32_w]
    rfl
  refine pure_ (i := 9) (N := some 17) (v := ?_) (a' := ?_) #[true, true, true, true, true, true, true, true, true, true, false, false, false, false, false, false, false, false, false, false, false, false, false, false, false, false, false, false, false, false, false, false, false, false, false, false, false] rfl rfl (any_of HT_.out (by kernel_rfl)) (fun _ _ _ h => h) (Or.inl ⟨by rfl, ?_⟩) ?_ ?_
  rotate_left
  · intro w'
    go_simp
    with_reducible rfl
  rotate_left
  · simp only [Act.put, List.setIfInBounds_toArray, List.set_cons_zero, List.set_cons_succ, i64_w, i32_w]
    rfl
  refine one_ (i := 10) (N := some 18) #[true, true, true, true, true, true, true, true, true, true, true, false, false, false, false, false, false, false, false, false, false, false, false, false, false, false, false, false, false, false, false, false, false, false, false, false, false] rfl rfl (one_of HT_.out (by kernel_rfl)) (by decide) (fun K hK => ?_)
  refine goes_ Try.func15 (by kernel_rfl) rfl #[.slice (some ⟨w.heap.size, 0, none⟩) 2 2, .int .i64 1] (by rfl) rfl rfl (by (try simp only [List.map_toArray, List.map_cons, List.map_nil]); first | done | rfl) ?_
  with_reducible refine (H1.out _ (evC2 (x := (⟨0, 0, 0, 3, 0, ⟨1, 0, 0, 0⟩, ⟨0, true, 0, []⟩⟩ : S31)) (y := (⟨1, 0, 2, -1, 0, ⟨1, 0, 0, 0⟩, ⟨0, false, 0, []⟩⟩ : S31)) (A := none) (B := none) (c := 0) (d := 0) (by decide) (Kd.C_nil _ _) (by decide) (Kd.C_nil _ _) BKgh.out)).mono ?_
  rintro e w3 ⟨rfl, hb⟩
  refine ⟨_, rfl, ?_⟩
  have n_BKgh := Aside0.mk (blk_below (g := w.heap.size) (o := .cells #[.int .i64 0, .int .i64 0, .int .i64 0, .int .i64 3, .int .i64 0, .int .i64 1, .int .u64 0, .int .u64 0, .int .i64 0, .int .i64 0, .bool true, .int .u64 0, .slice none 0 0, .int .i64 1, .int .i64 0, .int .i64 2, .int .i64 (-1), .int .i64 0, .int .i64 1, .int .u64 0, .int .u64 0, .int .i64 0, .int .i64 0, .bool false, .int .u64 0, .slice none 0 0] 31 (0, 0)) BKgh.out hb)
  clear BKgh
  have BKgh := n_BKgh
  clear n_BKgh
  have n1_ := Aside0.mk (below_step HB.out hb)
  clear HB hb
  have HB := n1_
  clear n1_
  refine hK.out _ _ ⟨(blk_cell BKgh.out 0).trans rfl, (blk_cell BKgh.out 1).trans rfl, (blk_cell BKgh.out 2).trans rfl, (blk_cell BKgh.out 3).trans rfl, (blk_cell BKgh.out 4).trans rfl, (blk_cell BKgh.out 5).trans rfl, (blk_cell BKgh.out 6).trans rfl, (blk_cell BKgh.out 7).trans rfl, (blk_cell BKgh.out 8).trans rfl, (blk_cell BKgh.out 9).trans rfl, (blk_cell BKgh.out 10).trans rfl, (blk_cell BKgh.out 11).trans rfl, (blk_cell BKgh.out 12).trans rfl, (blk_cell BKgh.out 13).trans rfl, (blk_cell BKgh.out 14).trans rfl, (blk_cell BKgh.out 15).trans rfl, (blk_cell BKgh.out 16).trans rfl, (blk_cell BKgh.out 17).trans rfl, (blk_cell BKgh.out 18).trans rfl, (blk_cell BKgh.out 19).trans rfl, (blk_cell BKgh.out 20).trans rfl, (blk_cell BKgh.out 21).trans rfl, (blk_cell BKgh.out 22).trans rfl, (blk_cell BKgh.out 23).trans rfl, (blk_cell BKgh.out 24).trans rfl, (blk_cell BKgh.out 25).trans rfl⟩ (fun hHeld => ?_)
  clear hK K
  refine norm_ (a' := ?_) ?_ ?_
  rotate_left
  · show Act.put _ (some 18) _ = _
    simp only [Act.put, List.setIfInBounds_toArray, List.set_cons_zero, List.set_cons_succ, i64_w, i32_w]
    rfl
  refine pure_ (i := 11) (N := some 19) (v := ?_) (a' := ?_) #[true, true, true, true, true, true, true, true, true, true, true, true, false, false, false, false, false, false, false, false, false, false, false, false, false, false, false, false, false, false, false, false, false, false, false, false, false] rfl rfl (any_of HT_.out (by kernel_rfl)) (fun _ _ _ h => h) (Or.inl ⟨by rfl, ?_⟩) ?_ ?_
  rotate_left
  · intro w'
    go_simp
    with_reducible rfl
  rotate_left
  · simp only [Act.put, List.setIfInBounds_toArray, List.set_cons_zero, List.set_cons_succ, i64_w, i32_w]
    rfl
  refine pure_ (i := 12) (N := some 20) (v := ?_) (a' := ?_) #[true, true, true, true, true, true, true, true, true, true, true, true, true, false, false, false, false, false, false, false, false, false, false, false, false, false, false, false, false, false, false, false, false, false, false, false, false] rfl rfl (any_of HT_.out (by kernel_rfl)) (fun _ _ _ h => h) (Or.inl ⟨by rfl, ?_⟩) ?_ ?_
  rotate_left
  · intro w'
    go_simp
    with_reducible rfl
  rotate_left
  · simp only [Act.put, List.setIfInBounds_toArray, List.set_cons_zero, List.set_cons_succ, i64_w, i32_w]
    rfl
  refine pure_ (i := 13) (N := some 21) (v := ?_) (a' := ?_) #[true, true, true, true, true, true, true, true, true, true, true, true, true, true, false, false, false, false, false, false, false, false, false, false, false, false, false, false, false, false, false, false, false, false, false, false, false] rfl rfl (any_of HT_.out (by kernel_rfl)) (fun _ _ _ h => h) (Or.inl ⟨by rfl, ?_⟩) ?_ ?_
  rotate_left
  · intro w'
    go_simp
    with_reducible rfl
  rotate_left
  · simp only [Act.put, List.setIfInBounds_toArray, List.set_cons_zero, List.set_cons_succ, i64_w, i32_w]
    rfl
  refine pure_ (i := 14) (N := some 22) (v := ?_) (a' := ?_) #[true, true, true, true, true, true, true, true, true, true, true, true, true, true, true, false, false, false, false, false, false, false, false, false, false, false, false, false, false, false, false, false, false, false, false, false, false] rfl rfl (any_of HT_.out (by kernel_rfl)) (fun _ _ _ h => h) (Or.inl ⟨by rfl, ?_⟩) ?_ ?_
  rotate_left
  · intro w'
    go_simp
    with_reducible rfl
  rotate_left
  · simp only [Act.put, List.setIfInBounds_toArray, List.set_cons_zero, List.set_cons_succ, i64_w, i32_w]
    rfl
  refine one_ (i := 15) (N := some 23) #[true, true, true, true, true, true, true, true, true, true, true, true, true, true, true, true, false, false, false, false, false, false, false, false, false, false, false, false, false, false, false, false, false, false, false, false, false] rfl rfl (one_of HT_.out (by kernel_rfl)) (by decide) (fun K hK => ?_)
  refine goes_ Try.func15 (by kernel_rfl) rfl #[.slice (some ⟨w.heap.size, 0, none⟩) 2 2, .int .i64 5] (by rfl) rfl rfl (by (try simp only [List.map_toArray, List.map_cons, List.map_nil]); first | done | rfl) ?_
  with_reducible refine (H5.out _ (evC2 (x := (⟨0, 0, 0, 3, 0, ⟨1, 0, 0, 0⟩, ⟨0, true, 0, []⟩⟩ : S31)) (y := (⟨1, 0, 2, -1, 0, ⟨1, 0, 0, 0⟩, ⟨0, false, 0, []⟩⟩ : S31)) (A := none) (B := none) (c := 0) (d := 0) (by decide) (Kd.C_nil _ _) (by decide) (Kd.C_nil _ _) BKgh.out)).mono ?_
  rintro e w4 ⟨rfl, hb⟩
  refine ⟨_, rfl, ?_⟩
  have n_BKgh := Aside0.mk (blk_below (g := w.heap.size) (o := .cells #[.int .i64 0, .int .i64 0, .int .i64 0, .int .i64 3, .int .i64 0, .int .i64 1, .int .u64 0, .int .u64 0, .int .i64 0, .int .i64 0, .bool true, .int .u64 0, .slice none 0 0, .int .i64 1, .int .i64 0, .int .i64 2, .int .i64 (-1), .int .i64 0, .int .i64 1, .int .u64 0, .int .u64 0, .int .i64 0, .int .i64 0, .bool false, .int .u64 0, .slice none 0 0] 31 (0, 0)) BKgh.out hb)
  clear BKgh
  have BKgh := n_BKgh
  clear n_BKgh
  have n1_ := Aside0.mk (below_step HB.out hb)
  clear HB hb
  have HB := n1_
  clear n1_
  refine hK.out _ _ ⟨(blk_cell BKgh.out 0).trans rfl, (blk_cell BKgh.out 1).trans rfl, (blk_cell BKgh.out 2).trans rfl, (blk_cell BKgh.out 3).trans rfl, (blk_cell BKgh.out 4).trans rfl, (blk_cell BKgh.out 5).trans rfl, (blk_cell BKgh.out 6).trans rfl, (blk_cell BKgh.out 7).trans rfl, (blk_cell BKgh.out 8).trans rfl, (blk_cell BKgh.out 9).trans rfl, (blk_cell BKgh.out 10).trans rfl, (blk_cell BKgh.out 11).trans rfl, (blk_cell BKgh.out 12).trans rfl, (blk_cell BKgh.out 13).trans rfl, (blk_cell BKgh.out 14).trans rfl, (blk_cell BKgh.out 15).trans rfl, (blk_cell BKgh.out 16).trans rfl, (blk_cell BKgh.out 17).trans rfl, (blk_cell BKgh.out 18).trans rfl, (blk_cell BKgh.out 19).trans rfl, (blk_cell BKgh.out 20).trans rfl, (blk_cell BKgh.out 21).trans rfl, (blk_cell BKgh.out 22).trans rfl, (blk_cell BKgh.out 23).trans rfl, (blk_cell BKgh.out 24).trans rfl, (blk_cell BKgh.out 25).trans rfl⟩ (fun hHeld => ?_)
  clear hK K
  refine norm_ (a' := ?_) ?_ ?_
  rotate_left
  · show Act.put _ (some 23) _ = _
    simp only [Act.put, List.setIfInBounds_toArray, List.set_cons_zero, List.set_cons_succ, i64_w, i32_w]
    rfl
  refine pure_ (i := 16) (N := some 24) (v := ?_) (a' := ?_) #[true, true, true, true, true, true, true, true, true, true, true, true, true, true, true, true, true, false, false, false, false, false, false, false, false, false, false, false, false, false, false, false, false, false, false, false, false] rfl rfl (any_of HT_.out (by kernel_rfl)) (fun _ _ _ h => h) (Or.inl ⟨by rfl, ?_⟩) ?_ ?_
  rotate_left
  · intro w'
    go_simp
    with_reducible rfl
  rotate_left
  · simp only [Act.put, List.setIfInBounds_toArray, List.set_cons_zero, List.set_cons_succ, i64_w, i32_w]
    rfl
  refine pure_ (i := 17) (N := some 25) (v := ?_) (a' := ?_) #[true, true, true, true, true, true, true, true, true, true, true, true, true, true, true, true, true, true, false, false, false, false, false, false, false, false, false, false, false, false, false, false, false, false, false, false, false] rfl rfl (any_of HT_.out (by kernel_rfl)) (fun _ _ _ h => h) (Or.inl ⟨by rfl, ?_⟩) ?_ ?_
  rotate_left
  · intro w'
    go_simp
    with_reducible rfl
  rotate_left
  · simp only [Act.put, List.setIfInBounds_toArray, List.set_cons_zero, List.set_cons_succ, i64_w, i32_w]
    rfl
  refine pure_ (i := 18) (N := some 26) (v := ?_) (a' := ?_) #[true, true, true, true, true, true, true, true, true, true, true, true, true, true, true, true, true, true, true, false, false, false, false, false, false, false, false, false, false, false, false, false, false, false, false, false, false] rfl rfl (any_of HT_.out (by kernel_rfl)) (fun _ _ _ h => h) (Or.inl ⟨by rfl, ?_⟩) ?_ ?_
  rotate_left
  · intro w'
    go_simp
    with_reducible rfl
  rotate_left
  · simp only [Act.put, List.setIfInBounds_toArray, List.set_cons_zero, List.set_cons_succ, i64_w, i32_w]
    rfl
  refine pure_ (i := 19) (N := some 27) (v := ?_) (a' := ?_) #[true, true, true, true, true, true, true, true, true, true, true, true, true, true, true, true, true, true, true, true, false, false, false, false, false, false, false, false, false, false, false, false, false, false, false, false, false] rfl rfl (any_of HT_.out (by kernel_rfl)) (fun _ _ _ h => h) (Or.inl ⟨by rfl, ?_⟩) ?_ ?_
  rotate_left
  · intro w'
    go_simp
    with_reducible rfl
  rotate_left
  · simp only [Act.put, List.setIfInBounds_toArray, List.set_cons_zero, List.set_cons_succ, i64_w, i32_w]
    rfl
  refine pure_ (i := 20) (N := some 28) (v := ?_) (a' := ?_) #[true, true, true, true, true, true, true, true, true, true, true, true, true, true, true, true, true, true, true, true, true, false, false, false, false, false, false, false, false, false, false, false, false, false, false, false, false] rfl rfl (any_of HT_.out (by kernel_rfl)) (fun _ _ _ h => h) (Or.inl ⟨by rfl, ?_⟩) ?_ ?_
  rotate_left
  · intro w'
    go_simp
    with_reducible rfl
  rotate_left
  · simp only [Act.put, List.setIfInBounds_toArray, List.set_cons_zero, List.set_cons_succ, i64_w, i32_w]
    rfl
  refine pure_ (i := 21) (N := some 29) (v := ?_) (a' := ?_) #[true, true, true, true, true, true, true, true, true, true, true, true, true, true, true, true, true, true, true, true, true, true, false, false, false, false, false, false, false, false, false, false, false, false, false, false, false] rfl rfl (any_of HT_.out (by kernel_rfl)) (fun _ _ _ h => h) (Or.inl ⟨by rfl, ?_⟩) ?_ ?_
  rotate_left
  · intro w'
    go_simp
    with_reducible rfl
  rotate_left
  · simp only [Act.put, List.setIfInBounds_toArray, List.set_cons_zero, List.set_cons_succ, i64_w, i32_w]
    rfl
  refine take_ (i := 22) (N := some 30) (v := ?_) (a' := ?_) #[true, true, true, true, true, true, true, true, true, true, true, true, true, true, true, true, true, true, true, true, true, true, true, false, false, false, false, false, false, false, false, false, false, false, false, false, false] rfl rfl (take_ofW HT_.out HW_.out (by kernel_rfl)) (fun _ _ _ h => h) (Or.inl ⟨by rfl, ?_⟩) hHeld ?_ ?_
  rotate_left
  · rintro w' ⟨s0, s1, s2, s3, s4, s5, s6, s7, s8, s9, s10, s11, s12, s13, s14, s15, s16, s17, s18, s19, s20, s21, s22, s23, s24, s25⟩
    go_simp
    with_reducible rfl
  rotate_left
  · simp only [Act.put, List.setIfInBounds_toArray, List.set_cons_zero, List.set_cons_succ, i64_w, i32_w]
    rfl
  refine one_ (i := 23) (N := some 31) #[true, true, true, true, true, true, true, true, true, true, true, true, true, true, true, true, true, true, true, true, true, true, true, true, false, false, false, false, false, false, false, false, false, false, false, false, false] rfl rfl (one_of HT_.out (by kernel_rfl)) (by decide) (fun K hK => ?_)
  refine goes_ Try.func17 (by kernel_rfl) rfl #[.slice (some ⟨w.heap.size, 0, none⟩) 2 2, .agg #[.int .i64 0, .int .i64 0, .int .i64 0, .int .i64 3, .int .i64 0, .int .i64 1, .int .u64 0, .int .u64 0, .int .i64 0, .int .i64 0, .bool true, .int .u64 0, .slice none 0 0]] (by rfl) rfl rfl (by (try simp only [List.map_toArray, List.map_cons, List.map_nil]); first | done | rfl) ?_
  with_reducible refine (HI.out _ (evC2 (x := (⟨0, 0, 0, 3, 0, ⟨1, 0, 0, 0⟩, ⟨0, true, 0, []⟩⟩ : S31)) (y := (⟨1, 0, 2, -1, 0, ⟨1, 0, 0, 0⟩, ⟨0, false, 0, []⟩⟩ : S31)) (A := none) (B := none) (c := 0) (d := 0) (by decide) (Kd.C_nil _ _) (by decide) (Kd.C_nil _ _) BKgh.out)).mono ?_
  rintro e w5 ⟨rfl, hb⟩
  refine ⟨_, rfl, ?_⟩
  have n_BKgh := Aside0.mk (blk_below (g := w.heap.size) (o := .cells #[.int .i64 0, .int .i64 0, .int .i64 0, .int .i64 3, .int .i64 0, .int .i64 1, .int .u64 0, .int .u64 0, .int .i64 0, .int .i64 0, .bool true, .int .u64 0, .slice none 0 0, .int .i64 1, .int .i64 0, .int .i64 2, .int .i64 (-1), .int .i64 0, .int .i64 1, .int .u64 0, .int .u64 0, .int .i64 0, .int .i64 0, .bool false, .int .u64 0, .slice none 0 0] 31 (0, 0)) BKgh.out hb)
  clear BKgh
  have BKgh := n_BKgh
  clear n_BKgh
  have n1_ := Aside0.mk (below_step HB.out hb)
  clear HB hb
  have HB := n1_
  clear n1_
  refine hK.out _ _ ⟨(blk_cell BKgh.out 0).trans rfl, (blk_cell BKgh.out 1).trans rfl, (blk_cell BKgh.out 2).trans rfl, (blk_cell BKgh.out 3).trans rfl, (blk_cell BKgh.out 4).trans rfl, (blk_cell BKgh.out 5).trans rfl, (blk_cell BKgh.out 6).trans rfl, (blk_cell BKgh.out 7).trans rfl, (blk_cell BKgh.out 8).trans rfl, (blk_cell BKgh.out 9).trans rfl, (blk_cell BKgh.out 10).trans rfl, (blk_cell BKgh.out 11).trans rfl, (blk_cell BKgh.out 12).trans rfl, (blk_cell BKgh.out 13).trans rfl, (blk_cell BKgh.out 14).trans rfl, (blk_cell BKgh.out 15).trans rfl, (blk_cell BKgh.out 16).trans rfl, (blk_cell BKgh.out 17).trans rfl, (blk_cell BKgh.out 18).trans rfl, (blk_cell BKgh.out 19).trans rfl, (blk_cell BKgh.out 20).trans rfl, (blk_cell BKgh.out 21).trans rfl, (blk_cell BKgh.out 22).trans rfl, (blk_cell BKgh.out 23).trans rfl, (blk_cell BKgh.out 24).trans rfl, (blk_cell BKgh.out 25).trans rfl⟩ (fun hHeld => ?_)
  clear hK K
  refine norm_ (a' := ?_) ?_ ?_
  rotate_left
  · show Act.put _ (some 31) _ = _
    simp only [Act.put, List.setIfInBounds_toArray, List.set_cons_zero, List.set_cons_succ, i64_w, i32_w]
    rfl
  refine pure_ (i := 24) (N := some 32) (v := ?_) (a' := ?_) #[true, true, true, true, true, true, true, true, true, true, true, true, true, true, true, true, true, true, true, true, true, true, true, true, true, false, false, false, false, false, false, false, false, false, false, false, false] rfl rfl (any_of HT_.out (by kernel_rfl)) (fun _ _ _ h => h) (Or.inl ⟨by rfl, ?_⟩) ?_ ?_
  rotate_left
  · intro w'
    go_simp
    with_reducible rfl
  rotate_left
  · simp only [Act.put, List.setIfInBounds_toArray, List.set_cons_zero, List.set_cons_succ, i64_w, i32_w]
    rfl
  refine pure_ (i := 25) (N := some 33) (v := ?_) (a' := ?_) #[true, true, true, true, true, true, true, true, true, true, true, true, true, true, true, true, true, true, true, true, true, true, true, true, true, true, false, false, false, false, false, false, false, false, false, false, false] rfl rfl (any_of HT_.out (by kernel_rfl)) (fun _ _ _ h => h) (Or.inl ⟨by rfl, ?_⟩) ?_ ?_
  rotate_left
  · intro w'
    go_simp
    with_reducible rfl
  rotate_left
  · simp only [Act.put, List.setIfInBounds_toArray, List.set_cons_zero, List.set_cons_succ, i64_w, i32_w]
    rfl
  refine pure_ (i := 26) (N := some 34) (v := ?_) (a' := ?_) #[true, true, true, true, true, true, true, true, true, true, true, true, true, true, true, true, true, true, true, true, true, true, true, true, true, true, true, false, false, false, false, false, false, false, false, false, false] rfl rfl (any_of HT_.out (by kernel_rfl)) (fun _ _ _ h => h) (Or.inl ⟨by rfl, ?_⟩) ?_ ?_
  rotate_left
  · intro w'
    go_simp
    with_reducible rfl
  rotate_left
  · simp only [Act.put, List.setIfInBounds_toArray, List.set_cons_zero, List.set_cons_succ, i64_w, i32_w]
    rfl
  refine pure_ (i := 27) (N := some 35) (v := ?_) (a' := ?_) #[true, true, true, true, true, true, true, true, true, true, true, true, true, true, true, true, true, true, true, true, true, true, true, true, true, true, true, true, false, false, false, false, false, false, false, false, false] rfl rfl (any_of HT_.out (by kernel_rfl)) (fun _ _ _ h => h) (Or.inl ⟨by rfl, ?_⟩) ?_ ?_
  rotate_left
  · intro w'
    go_simp
    with_reducible rfl
  rotate_left
  · simp only [Act.put, List.setIfInBounds_toArray, List.set_cons_zero, List.set_cons_succ, i64_w, i32_w]
    rfl
  refine pure_ (i := 28) (N := some 36) (v := ?_) (a' := ?_) #[true, true, true, true, true, true, true, true, true, true, true, true, true, true, true, true, true, true, true, true, true, true, true, true, true, true, true, true, true, false, false, false, false, false, false, false, false] rfl rfl (any_of HT_.out (by kernel_rfl)) (fun _ _ _ h => h) (Or.inl ⟨by rfl, ?_⟩) ?_ ?_
  rotate_left
  · intro w'
    go_simp
    with_reducible rfl
  rotate_left
  · simp only [Act.put, List.setIfInBounds_toArray, List.set_cons_zero, List.set_cons_succ, i64_w, i32_w]
    rfl
  refine take_ (i := 29) (N := some 37) (v := ?_) (a' := ?_) #[true, true, true, true, true, true, true, true, true, true, true, true, true, true, true, true, true, true, true, true, true, true, true, true, true, true, true, true, true, true, false, false, false, false, false, false, false] rfl rfl (take_ofW HT_.out HW_.out (by kernel_rfl)) (fun _ _ _ h => h) (Or.inl ⟨by rfl, ?_⟩) hHeld ?_ ?_
  rotate_left
  · rintro w' ⟨s0, s1, s2, s3, s4, s5, s6, s7, s8, s9, s10, s11, s12, s13, s14, s15, s16, s17, s18, s19, s20, s21, s22, s23, s24, s25⟩
    go_simp
    with_reducible rfl
  rotate_left
  · simp only [Act.put, List.setIfInBounds_toArray, List.set_cons_zero, List.set_cons_succ, i64_w, i32_w]
    rfl
  refine pure_ (i := 30) (N := some 38) (v := ?_) (a' := ?_) #[true, true, true, true, true, true, true, true, true, true, true, true, true, true, true, true, true, true, true, true, true, true, true, true, true, true, true, true, true, true, true, false, false, false, false, false, false] rfl rfl (any_of HT_.out (by kernel_rfl)) (fun _ _ _ h => h) (Or.inl ⟨by rfl, ?_⟩) ?_ ?_
  rotate_left
  · intro w'
    go_simp
    with_reducible rfl
  rotate_left
  · simp only [Act.put, List.setIfInBounds_toArray, List.set_cons_zero, List.set_cons_succ, i64_w, i32_w]
    rfl
  refine pure_ (i := 31) (N := some 39) (v := ?_) (a' := ?_) #[true, true, true, true, true, true, true, true, true, true, true, true, true, true, true, true, true, true, true, true, true, true, true, true, true, true, true, true, true, true, true, true, false, false, false, false, false] rfl rfl (any_of HT_.out (by kernel_rfl)) (fun _ _ _ h => h) (Or.inl ⟨by rfl, ?_⟩) ?_ ?_
  rotate_left
  · intro w'
    go_simp
    with_reducible rfl
  rotate_left
  · simp only [Act.put, List.setIfInBounds_toArray, List.set_cons_zero, List.set_cons_succ, i64_w, i32_w]
    rfl
  refine take_ (i := 32) (N := some 40) (v := ?_) (a' := ?_) #[true, true, true, true, true, true, true, true, true, true, true, true, true, true, true, true, true, true, true, true, true, true, true, true, true, true, true, true, true, true, true, true, true, false, false, false, false] rfl rfl (take_ofW HT_.out HW_.out (by kernel_rfl)) (fun _ _ _ h => h) (Or.inl ⟨by rfl, ?_⟩) hHeld ?_ ?_
  rotate_left
  · rintro w' ⟨s0, s1, s2, s3, s4, s5, s6, s7, s8, s9, s10, s11, s12, s13, s14, s15, s16, s17, s18, s19, s20, s21, s22, s23, s24, s25⟩
    go_simp
    with_reducible rfl
  rotate_left
  · simp only [Act.put, List.setIfInBounds_toArray, List.set_cons_zero, List.set_cons_succ, i64_w, i32_w]
    rfl
  refine one_ (i := 33) (N := some 41) #[true, true, true, true, true, true, true, true, true, true, true, true, true, true, true, true, true, true, true, true, true, true, true, true, true, true, true, true, true, true, true, true, true, true, false, false, false] rfl rfl (one_of HT_.out (by kernel_rfl)) (by decide) (fun K hK => ?_)
  refine goes_ Try.func19 (by kernel_rfl) rfl #[.agg #[.int .i64 0, .int .i64 0, .int .i64 0, .int .i64 3, .int .i64 0, .int .i64 1, .int .u64 0, .int .u64 0, .int .i64 0, .int .i64 0, .bool true, .int .u64 0, .slice none 0 0], .agg #[.int .i64 1, .int .i64 0, .int .i64 2, .int .i64 (-1), .int .i64 0, .int .i64 1, .int .u64 0, .int .u64 0, .int .i64 0, .int .i64 0, .bool false, .int .u64 0, .slice none 0 0]] (by rfl) rfl rfl (by (try simp only [List.map_toArray, List.map_cons, List.map_nil]); first | done | rfl) ?_
  with_reducible refine (HF.out _).mono ?_
  rintro e w6 ⟨rfl, hb⟩
  refine ⟨_, rfl, ?_⟩
  have n_BKgh := Aside0.mk (blk_below (g := w.heap.size) (o := .cells #[.int .i64 0, .int .i64 0, .int .i64 0, .int .i64 3, .int .i64 0, .int .i64 1, .int .u64 0, .int .u64 0, .int .i64 0, .int .i64 0, .bool true, .int .u64 0, .slice none 0 0, .int .i64 1, .int .i64 0, .int .i64 2, .int .i64 (-1), .int .i64 0, .int .i64 1, .int .u64 0, .int .u64 0, .int .i64 0, .int .i64 0, .bool false, .int .u64 0, .slice none 0 0] 31 (0, 0)) BKgh.out hb)
  clear BKgh
  have BKgh := n_BKgh
  clear n_BKgh
  have n1_ := Aside0.mk (below_step HB.out hb)
  clear HB hb
  have HB := n1_
  clear n1_
  refine hK.out _ _ ⟨(blk_cell BKgh.out 0).trans rfl, (blk_cell BKgh.out 1).trans rfl, (blk_cell BKgh.out 2).trans rfl, (blk_cell BKgh.out 3).trans rfl, (blk_cell BKgh.out 4).trans rfl, (blk_cell BKgh.out 5).trans rfl, (blk_cell BKgh.out 6).trans rfl, (blk_cell BKgh.out 7).trans rfl, (blk_cell BKgh.out 8).trans rfl, (blk_cell BKgh.out 9).trans rfl, (blk_cell BKgh.out 10).trans rfl, (blk_cell BKgh.out 11).trans rfl, (blk_cell BKgh.out 12).trans rfl, (blk_cell BKgh.out 13).trans rfl, (blk_cell BKgh.out 14).trans rfl, (blk_cell BKgh.out 15).trans rfl, (blk_cell BKgh.out 16).trans rfl, (blk_cell BKgh.out 17).trans rfl, (blk_cell BKgh.out 18).trans rfl, (blk_cell BKgh.out 19).trans rfl, (blk_cell BKgh.out 20).trans rfl, (blk_cell BKgh.out 21).trans rfl, (blk_cell BKgh.out 22).trans rfl, (blk_cell BKgh.out 23).trans rfl, (blk_cell BKgh.out 24).trans rfl, (blk_cell BKgh.out 25).trans rfl⟩ (fun hHeld => ?_)
  clear hK K
  refine norm_ (a' := ?_) ?_ ?_
  rotate_left
  · show Act.put _ (some 41) _ = _
    simp only [Act.put, List.setIfInBounds_toArray, List.set_cons_zero, List.set_cons_succ, i64_w, i32_w]
    rfl
  refine pure_ (i := 34) (N := some 42) (v := ?_) (a' := ?_) #[true, true, true, true, true, true, true, true, true, true, true, true, true, true, true, true, true, true, true, true, true, true, true, true, true, true, true, true, true, true, true, true, true, true, true, false, false] rfl rfl (any_of HT_.out (by kernel_rfl)) (fun _ _ _ h => h) (Or.inl ⟨by rfl, ?_⟩) ?_ ?_
  rotate_left
  · intro w'
    go_simp
    with_reducible rfl
  rotate_left
  · simp only [Act.put, List.setIfInBounds_toArray, List.set_cons_zero, List.set_cons_succ, i64_w, i32_w]
    rfl
  refine pure_ (i := 35) (N := some 43) (v := ?_) (a' := ?_) #[true, true, true, true, true, true, true, true, true, true, true, true, true, true, true, true, true, true, true, true, true, true, true, true, true, true, true, true, true, true, true, true, true, true, true, true, false] rfl rfl (any_of HT_.out (by kernel_rfl)) (fun _ _ _ h => h) (Or.inl ⟨by rfl, ?_⟩) ?_ ?_
  rotate_left
  · intro w'
    go_simp
    with_reducible rfl
  rotate_left
  · simp only [Act.put, List.setIfInBounds_toArray, List.set_cons_zero, List.set_cons_succ, i64_w, i32_w]
    rfl
  refine pure_ (i := 36) (N := some 0) (v := ?_) (a' := ?_) #[true, true, true, true, true, true, true, true, true, true, true, true, true, true, true, true, true, true, true, true, true, true, true, true, true, true, true, true, true, true, true, true, true, true, true, true, true] rfl rfl (any_of HT_.out (by kernel_rfl)) (fun _ _ _ h => h) (Or.inl ⟨by rfl, ?_⟩) ?_ ?_
  rotate_left
  · intro w'
    go_simp
    with_reducible rfl
  rotate_left
  · simp only [Act.put, List.setIfInBounds_toArray, List.set_cons_zero, List.set_cons_succ, i64_w, i32_w]
    rfl
  refine done_ (done_of HT_.out (by kernel_rfl)) ?_
  go_wp2
  go_ret
  exact ⟨by first | rfl | (simp; done), by repeat (first | (with_reducible first | exact HB.out | apply below_alloc | apply pw_below_drewN | apply below_drew1) | exact HB.out)⟩


/-! ### corrieref19_Few: function 9 -/
mutual
def corrieref19_Few.l0 : Nat → List (S31) → Int → Int → Option (Bool)
  | 0, _, _, _ => none
  | k + 1, x0, x1, x5 => if x5 < (x0.length : Int) then (corrieref19_Few.j1 k x0 x1 x5 (decide (x5 ≤ x1))) else (corrieref19_Few.j1 k x0 x1 x5 false)
def corrieref19_Few.j1 : Nat → List (S31) → Int → Int → Bool → Option (Bool)
  | 0, _, _, _, _ => none
  | k + 1, x0, x1, x5, x14 => if x14 = true then (if 0 ≤ x5 then (if x5 < (x0.length : Int) then (if (((rd_T31 x0 x5).f6.f3).length : Int) > 20 then (some false) else (corrieref19_Few.l0 k x0 x1 (wrap64 (x5 + 1)))) else (none)) else (none)) else (some (decide ((x0.length : Int) ≤ x1)))
end
def corrieref19_Few.f (k : Nat) (l0 : List (S31)) (a1 : Int) : Option (Bool) := corrieref19_Few.l0 k l0 a1 0
theorem corrieref19_Few.mono_l : ∀ k, (∀ y0 y1 y2, LeO (corrieref19_Few.l0 k y0 y1 y2) (corrieref19_Few.l0 (k + 1) y0 y1 y2)) ∧ (∀ y0 y1 y2 y3, LeO (corrieref19_Few.j1 k y0 y1 y2 y3) (corrieref19_Few.j1 (k + 1) y0 y1 y2 y3))
  | 0 => ⟨fun _ _ _ r h => by simp [corrieref19_Few.l0] at h, fun _ _ _ _ r h => by simp [corrieref19_Few.j1] at h⟩
  | k + 1 => by
    obtain ⟨ih0, ih1⟩ := corrieref19_Few.mono_l k
    refine ⟨?_, ?_⟩
    · intro y0 y1 y2
      unfold corrieref19_Few.l0
      repeat' first
      | (with_reducible exact ih0 _ _ _)
      | (with_reducible exact ih1 _ _ _ _)
      | (with_reducible exact LeO.refl _)
      | (with_reducible exact LeO.none _)
      | (with_reducible refine LeO.ite ?_ ?_)
      | (with_reducible refine LeO.bind ?_ (fun _ => ?_))
      | exact ih0 _ _ _
      | exact ih1 _ _ _ _
      | exact LeO.none _
      | refine LeO.ite ?_ ?_
      | refine LeO.bind ?_ (fun _ => ?_)
    · intro y0 y1 y2 y3
      unfold corrieref19_Few.j1
      repeat' first
      | (with_reducible exact ih0 _ _ _)
      | (with_reducible exact ih1 _ _ _ _)
      | (with_reducible exact LeO.refl _)
      | (with_reducible exact LeO.none _)
      | (with_reducible refine LeO.ite ?_ ?_)
      | (with_reducible refine LeO.bind ?_ (fun _ => ?_))
      | exact ih0 _ _ _
      | exact ih1 _ _ _ _
      | exact LeO.none _
      | refine LeO.ite ?_ ?_
      | refine LeO.bind ?_ (fun _ => ?_)
theorem corrieref19_Few.mono : ∀ a0 a1 k, LeO (corrieref19_Few.f k a0 a1) (corrieref19_Few.f (k + 1) a0 a1) := by
  intro a0 a1 k
  obtain ⟨ih0, ih1⟩ := corrieref19_Few.mono_l k
  unfold corrieref19_Few.f
  repeat' first
      | (with_reducible exact ih0 _ _ _)
      | (with_reducible exact ih1 _ _ _ _)
      | (with_reducible exact LeO.refl _)
      | (with_reducible exact LeO.none _)
      | (with_reducible refine LeO.ite ?_ ?_)
      | (with_reducible refine LeO.bind ?_ (fun _ => ?_))
      | exact ih0 _ _ _
      | exact ih1 _ _ _ _
      | exact LeO.none _
      | refine LeO.ite ?_ ?_
      | refine LeO.bind ?_ (fun _ => ?_)
set_option maxHeartbeats 8000000 in
set_option maxRecDepth 100000 in
theorem corrieref19_Few.calls (k : Nat) (A0 : Option Addr) (c0 : Nat) (l0 : List (S31)) (a1 : Int) (r : Bool) (w : World) (hr0 : Kd.C k31 w A0 l0.length l0) (hc0 : l0.length ≤ c0) (h : corrieref19_Few.f k l0 a1 = some r) :
    Calls Try.prog 9 #[.slice A0 l0.length c0, .int .i64 a1] w fun e w' => e = .returned (.bool r) ∧ Drawn0 w w' := by
  have HR0 := Aside0.mk hr0
  have HC0 := Aside0.mk hc0
  clear hr0 hc0
  have H : (corrieref19_Few.l0 k l0 a1 0) = some r := h
  clear h
  have H' := Aside0.mk H
  clear H
  go_enter Try.func9, Try.ntmps9
  go_wp2
  go_loopg [5] k (fun kq v5 w' => ∃ (x5_1 : Int), v5 = .int .i64 x5_1 ∧ Aside0 (corrieref19_Few.l0 kq l0 a1 x5_1 = some r) ∧ Aside0 (kq ≤ k) ∧ Drawn0 w w')
  case atStart => exact ⟨(0), (by first | rfl | (simp; done) | (simp [*]; done)), H', ⟨Nat.le_refl _⟩, by repeat (first | exact Drawn0.refl _ | apply Drawn0.step)⟩
  case round =>
    clear H'
    try clear p2
    obtain ⟨x5_1, rfl, HA, HK1, ⟨m1, rfl⟩⟩ := hrel
    cases gk with
    | zero => exact absurd HA.out (by simp [corrieref19_Few.l0])
    | succ k1 =>
      have H := HA.out
      clear HA
      simp only [corrieref19_Few.l0] at H
      have HC3 := Aside0.mk H
      clear H
      go_upto_region 2 with (fail)
      go_cut [14] (fun v14 wc => ∃ (kq : Nat) (x14_2 : Bool), v14 = .bool x14_2 ∧ Aside0 (corrieref19_Few.j1 kq l0 a1 x5_1 x14_2 = some r) ∧ Aside0 (kq ≤ k1) ∧ Drawn0 w wc)
      case first =>
        have H := HC3.out
        clear HC3
        by_cases c4 : x5_1 < (l0.length : Int)
        · rw [if_pos c4] at H
          have c4b0 : decide (x5_1 < (l0.length : Int)) = true := decide_eq_true c4
          clear c4
          (first | rw [c4b0] | (simp only [i64_w, i32_w]; rw [c4b0]) | skip)
          have H' := Aside0.mk H
          clear H
          go_wp2
          go_meet
          case rel => exact ⟨_, (decide (x5_1 ≤ a1)), (by first | rfl | (simp; done) | (simp [*]; done)), H', ⟨by have := HK1.out; first | omega | exact Nat.le_refl _⟩, by repeat (first | exact Drawn0.refl _ | apply Drawn0.step)⟩
        · rw [if_neg c4] at H
          have c4b0 : decide (x5_1 < (l0.length : Int)) = false := decide_eq_false c4
          clear c4
          (first | rw [c4b0] | (simp only [i64_w, i32_w]; rw [c4b0]) | skip)
          have H' := Aside0.mk H
          clear H
          go_wp2
          go_meet
          case rel => exact ⟨_, (false), (by first | rfl | (simp; done) | (simp [*]; done)), H', ⟨by have := HK1.out; first | omega | exact Nat.le_refl _⟩, by repeat (first | exact Drawn0.refl _ | apply Drawn0.step)⟩
      case rest =>
        clear HC3
        try clear p2
        try clear c4
        try clear c4b0
        try clear p2
        obtain ⟨kq, x14_2, rfl, HA, HJ2, ⟨mc2, rfl⟩⟩ := hcut
        cases kq with
        | zero => exact absurd HA.out (by simp [corrieref19_Few.j1])
        | succ kj2 =>
          have H := HA.out
          clear HA
          simp only [corrieref19_Few.j1] at H
          by_cases c5 : x14_2 = true
          · subst c5
            have H1 : (if 0 ≤ x5_1 then (if x5_1 < (l0.length : Int) then (if (((rd_T31 l0 x5_1).f6.f3).length : Int) > 20 then (some false) else (corrieref19_Few.l0 kj2 l0 a1 (wrap64 (x5_1 + 1)))) else (none)) else (none)) = some r := by rw [if_pos rfl] at H; exact H
            clear H
            have H := H1
            clear H1
            by_cases c6 : 0 ≤ x5_1
            · rw [if_pos c6] at H
              have c6b0 : decide (0 ≤ x5_1) = true := decide_eq_true c6
              clear c6
              by_cases c7 : x5_1 < (l0.length : Int)
              · rw [if_pos c7] at H
                have c7b0 : decide (x5_1 < (l0.length : Int)) = true := decide_eq_true c7
                clear c7
                by_cases c8 : (((rd_T31 l0 x5_1).f6.f3).length : Int) > 20
                · rw [if_pos c8] at H
                  have c8b0 : decide (20 < (((rd_T31 l0 x5_1).f6.f3).length : Int)) = true := decide_eq_true c8
                  have c8b1 : decide (20 < ((rd_T31 l0 x5_1).f6.f3).length) = true := decide_eq_true (by omega)
                  clear c8
                  obtain rfl := Option.some.inj H
                  have p103 : 0 ≤ (x5_1 : Int) := of_decide_eq_true (by first | (with_reducible assumption) | assumption)
                  have q103 : x5_1 < (l0.length : Int) := of_decide_eq_true (by first | (with_reducible assumption) | assumption)
                  obtain ⟨ad103, A103_12, c103_12, e103, hx103_0, hx103_1, hx103_2, hx103_3, hx103_4, hx103_5, hx103_6, hx103_7, hx103_8, hx103_9, hx103_10, hx103_11, hx103_12, hl103_12, hi103_12⟩ := at_T31 HR0.out x5_1 p103 q103
                  cases e103
                  have HR103_12 := Aside0.mk hi103_12
                  have HC103_12 := Aside0.mk hl103_12
                  clear hi103_12 hl103_12
                  replace p103 := eq_true p103
                  replace q103 := eq_true q103
                  go_wp2
                  go_ret
                  exact ⟨by first | rfl | (simp; done) | (simp [*]; done), by repeat (first | exact Drawn0.refl _ | apply Drawn0.step)⟩
                · rw [if_neg c8] at H
                  have c8b0 : decide (20 < (((rd_T31 l0 x5_1).f6.f3).length : Int)) = false := decide_eq_false c8
                  have c8b1 : decide (20 < ((rd_T31 l0 x5_1).f6.f3).length) = false := decide_eq_false (by omega)
                  clear c8
                  have H' := Aside0.mk H
                  clear H
                  have p103 : 0 ≤ (x5_1 : Int) := of_decide_eq_true (by first | (with_reducible assumption) | assumption)
                  have q103 : x5_1 < (l0.length : Int) := of_decide_eq_true (by first | (with_reducible assumption) | assumption)
                  obtain ⟨ad103, A103_12, c103_12, e103, hx103_0, hx103_1, hx103_2, hx103_3, hx103_4, hx103_5, hx103_6, hx103_7, hx103_8, hx103_9, hx103_10, hx103_11, hx103_12, hl103_12, hi103_12⟩ := at_T31 HR0.out x5_1 p103 q103
                  cases e103
                  have HR103_12 := Aside0.mk hi103_12
                  have HC103_12 := Aside0.mk hl103_12
                  clear hi103_12 hl103_12
                  replace p103 := eq_true p103
                  replace q103 := eq_true q103
                  go_wp2
                  go_roundg kj2
                  case measure => have := HK1.out; have := HJ2.out; omega
                  case rel => exact ⟨(wrap64 (x5_1 + 1)), (by first | rfl | (simp; done) | (simp [*]; done)), H', ⟨by have := HK1.out; have := HJ2.out; omega⟩, by repeat (first | exact Drawn0.refl _ | apply Drawn0.step)⟩
              · rw [if_neg c7] at H
                exact absurd H (by simp)
            · rw [if_neg c6] at H
              exact absurd H (by simp)
          · replace c5 := Bool.eq_false_iff.mpr c5
            subst c5
            have H1 : (some (decide ((l0.length : Int) ≤ a1))) = some r := by rw [if_neg (show ¬ (false = true) by decide)] at H; exact H
            clear H
            have H := H1
            clear H1
            obtain rfl := Option.some.inj H
            go_wp2
            go_ret
            exact ⟨by first | rfl | (simp; done) | (simp [*]; done), by repeat (first | exact Drawn0.refl _ | apply Drawn0.step)⟩

end Go.Proofs.Ytpcmoclohepdiad.PHistorySize
