-- Written by a program of this session: a variant of the print that takes proofs by hand (wip/tools/mkprint.py)
import Derived.Test.YtpcmoclohepdiafPBookStaysx0
import Derived.Test.YtpcmoclohepdiafPBookStaysx4
import Derived.Test.YtpcmoclohepdiafPBookStaysx6
import Derived.Test.YtpcmoclohepdiafPBookStaysx7
namespace Go.Proofs.Ytpcmoclohepdiaf.PBookStays
open Go.RowKit Go.Proofs.YtpcmoclohepdiafW.PrintWords Go.Proofs.YtpcmoclohepdiafW.PrintLast
set_option linter.unusedVariables false
set_option linter.unusedSimpArgs false

/-! ### corrieref07_Begin: function 37 (by hand) -/
theorem bkinfo60 : (Try.prog.info? 60).map (fun i => (i.zero, i.size, i.bytes)) = some (some (.agg #[.int .i64 0, .int .i64 0, .int .u64 0, .int .u64 0, .int .i64 0]), 5, 40) := by kernel_rfl
theorem rop_eq (k : Nat) (t b i f c s n : Int) : corrieref05_Op.f (k + 1) t b i f c s n = some (if Ok t b i f c ∧ (0 ≤ s ∧ s < t) ∧ 0 ≤ n ∧ n < c then s * c + n else -1) := by
 unfold corrieref05_Op.f
 simp only [Option.bind_some, in_eq]
 by_cases h : Ok t b i f c
 ·have hb := bnds h
  simp only [h, true_and, decide_eq_true_eq]
  by_cases g : 0 ≤ s ∧ s < t
  ·rw [if_pos g]
   by_cases g2 : 0 ≤ n ∧ n < c
   ·have hs := sc_le (s := s) (t := t) (c := c) (by omega) (by omega) (by omega) (by omega) (by omega)
    rw [if_pos g2, if_pos ⟨g, g2⟩, wrap64_eq (n := s * c) (by omega) (by omega), wrap64_eq (by omega) (by omega)]
   ·rw [if_neg g2, if_neg (fun hh => g2 hh.2)]
  ·rw [if_neg g, if_neg (fun hh => g hh.1)]
 ·simp only [h, false_and, if_false, decide_false, Bool.false_eq_true]
theorem one60 {W : World} {g : Nat} {x : S60} (h : W.heap[g]? = some (.cells #[.int .i64 x.f0, .int .i64 x.f1.f0, .int .u64 x.f1.f1, .int .u64 x.f1.f2, .int .i64 x.f1.f3] 60 (0, 0))) : Kd.C k60 W (some ⟨g, 0, none⟩) 1 [x] := by
 refine ⟨rfl, by decide, fun _ => ⟨_, rfl, fun j p hj => ?_⟩⟩
 cases j with
 | succ j => simp at hj
 | zero =>
  simp at hj
  subst hj
  refine ⟨_, rfl, k60_mk W x, fun i u hu => ?_⟩
  have h1 : W.cell? ⟨g, i, none⟩ = (#[.int .i64 x.f0, .int .i64 x.f1.f0, .int .u64 x.f1.f1, .int .u64 x.f1.f2, .int .i64 x.f1.f3] : Array Value)[i]? := blk_cell h i
  rw [show (⟨g, 0, none⟩ : Addr).add (0 * k60.sz + i) = ⟨g, i, none⟩ from by rw [Addr.add_lit]; congr 1; omega, h1]
  simpa using hu
def r_Begin.T7 : Bool × List (List Nat × List Nat) := (true, [([], []), ([0], [0]), ([1], [1]), ([2], [2]), ([3], [3]), ([4, 3], [3, 4]), ([3], [3]), ([5, 6, 3], [3, 5, 6]), ([7, 3], [3, 7]), ([3], [3]), ([9, 3], [3, 9]), ([10, 3], [3, 10]), ([8, 11, 3], [3, 8, 11]), ([3, 12], [3, 12])])
def r_Begin.B7 : List Nat := [0, 1, 3, 7, 15, 31, 15, 127, 255, 15, 527, 1551, 4095, 8191]
theorem r_Begin.tab7 : rtab .any (opsOf Try.f37 7) = r_Begin.T7 := by kernel_rfl
theorem r_Begin.bits7 : waitsOk r_Begin.T7.2 r_Begin.B7 = true := by kernel_rfl
def r_Begin.T12 : Bool × List (List Nat × List Nat) := (true, [([], []), ([], []), ([1], [1]), ([0, 2], [0, 2]), ([], []), ([], []), ([4, 5], [4, 5]), ([6], [6]), ([3, 7, 3], [3, 7]), ([0, 1, 2, 3, 4, 5, 6, 7, 8], []), ([9, 8, 8, 0, 1, 2, 3, 4, 5, 6, 7, 8], [8, 9])])
def r_Begin.B12 : List Nat := [0, 0, 2, 7, 0, 0, 48, 112, 255, 511, 1023]
theorem r_Begin.tab12 : rtab .any (opsOf Try.f37 12) = r_Begin.T12 := by kernel_rfl
theorem r_Begin.bits12 : waitsOk r_Begin.T12.2 r_Begin.B12 = true := by kernel_rfl
set_option maxHeartbeats 8000000 in
set_option maxRecDepth 100000 in
theorem r_Begin_none_is (b : RB) (a5 a6 a7 a8 a9 : Option Addr) (c5 c6 c7 c8 c9 : Nat) (x : S38) (i : Int) (hi : i < 0 ∨ (b.calls.length : Int) ≤ i) (w : World) (h : RAt w b ⟨a5, a6, a7, a8, a9, c5, c6, c7, c8, c9⟩) :
  Calls Try.prog 37 #[.agg #[.int .i64 b.c.f0, .int .i64 b.c.f1, .int .i64 b.c.f2, .int .i64 b.c.f3, .int .i64 b.c.f4, .slice a5 b.calls.length c5, .slice a6 b.ins.length c6, .slice a7 b.made.length c7, .slice a8 b.ops.length c8, .slice a9 b.nodes.length c9], .int .i64 i, .agg #[.int .i64 x.f0, .int .u64 x.f1, .int .u64 x.f2, .int .i64 x.f3]] w fun e w' => ∃ r' : RA, e = .returned (.tuple #[.agg #[.int .i64 b.c.f0, .int .i64 b.c.f1, .int .i64 b.c.f2, .int .i64 b.c.f3, .int .i64 b.c.f4, .slice r'.a5 (b).calls.length r'.c5, .slice r'.a6 (b).ins.length r'.c6, .slice r'.a7 (b).made.length r'.c7, .slice r'.a8 (b).ops.length r'.c8, .slice r'.a9 (b).nodes.length r'.c9], .int .i64 0, .int .i64 1]) ∧ RAt w' (b) r' ∧ Below w.heap.size w w' := by
 have HR0 := Aside0.mk h
 have HB := Aside0.mk (Below.refl w.heap.size w)
 have hisb : (decide (0 ≤ i ∧ i < (b.calls.length : Int))) = false := decide_eq_false (by omega)
 clear hi
 have HIS := Aside0.mk (fun (W : World) (h : RAt W b ⟨a5, a6, a7, a8, a9, c5, c6, c7, c8, c9⟩) => r_is b ⟨a5, a6, a7, a8, a9, c5, c6, c7, c8, c9⟩ i W h)
 rw [hisb] at HIS
 clear hisb h
 go_enter Try.func37, Try.ntmps37
 go_wp2_with (first | ((with_reducible refine gate_dst (N := 3) rfl ?_); refine box_event ?hg (N := 3) ?hd (cs := #[.int .i64 b.c.f0, .int .i64 b.c.f1, .int .i64 b.c.f2, .int .i64 b.c.f3, .int .i64 b.c.f4, .slice a5 b.calls.length c5, .slice a6 b.ins.length c6, .slice a7 b.made.length c7, .slice a8 b.ops.length c8, .slice a9 b.nodes.length c9]) (t := 32) ?hr ?_; (case hd => rfl); (case hg => rfl); (case hr => first | (go_simp; done) | (go_simp; rfl)); intro g3 hg w3 hbox hbk; have B3 := Aside0.mk hbox; have HGB3 := Aside0.mk (show w.heap.size ≤ g3 from by rw [hg]; exact HB.out.size); have n_HB := Aside0.mk (below_step HB.out hbk); clear HB; have HB := n_HB; clear n_HB; clear hbk hbox hg) | ((with_reducible refine gate_dst (N := 5) rfl ?_); refine box_event ?hg (N := 5) ?hd (cs := #[.int .i64 x.f0, .int .u64 x.f1, .int .u64 x.f2, .int .i64 x.f3]) (t := 38) ?hr ?_; (case hd => rfl); (case hg => rfl); (case hr => first | (go_simp; done) | (go_simp; rfl)); intro g5 hg w5 hbox hbk; have B5 := Aside0.mk hbox; have HNE5 := Aside0.mk (show g3 ≠ g5 from by rw [hg]; exact Nat.ne_of_lt (blk_lt B3.out)); have HGB5 := Aside0.mk (show w.heap.size ≤ g5 from by rw [hg]; exact HB.out.size); have n_B3 := Aside0.mk (blk_below B3.out hbk); have n_HB := Aside0.mk (below_step HB.out hbk); clear B3 HB; have B3 := n_B3; have HB := n_HB; clear n_B3 n_HB; clear hbk hbox hg) | ((with_reducible refine gate_dst (N := 6) rfl ?_); refine box_event ?hg (N := 6) ?hd (cs := #[.int .i64 0, .int .i64 0, .int .i64 0, .int .i64 0, .int .i64 0, .slice none 0 0, .slice none 0 0, .slice none 0 0, .slice none 0 0, .slice none 0 0]) (t := 32) ?hr ?_; (case hd => rfl); (case hg => rfl); (case hr => first | (go_simp; done) | (go_simp; rfl)); intro g6 hg w6 hbox hbk; have B6 := Aside0.mk hbox; have HNE := Aside0.mk (show g3 ≠ g6 from by rw [hg]; exact Nat.ne_of_lt (blk_lt B3.out)); have HNE56 := Aside0.mk (show g5 ≠ g6 from by rw [hg]; exact Nat.ne_of_lt (blk_lt B5.out)); have HGB6 := Aside0.mk (show w.heap.size ≤ g6 from by rw [hg]; exact HB.out.size); have n_B3 := Aside0.mk (blk_below B3.out hbk); have n_B5 := Aside0.mk (blk_below B5.out hbk); have n_HB := Aside0.mk (below_step HB.out hbk); clear B3 B5 HB; have B3 := n_B3; have B5 := n_B5; have HB := n_HB; clear n_B3 n_B5 n_HB; obtain ⟨c3_0, c3_1, c3_2, c3_3, c3_4, c3_5, c3_6, c3_7, c3_8, c3_9⟩ := blkc10 B3.out; obtain ⟨c6_0, c6_1, c6_2, c6_3, c6_4, c6_5, c6_6, c6_7, c6_8, c6_9⟩ := blkc10 B6.out; obtain ⟨f6_0, f6_1, f6_2, f6_3, f6_4, f6_5, f6_6, f6_7, f6_8, f6_9⟩ := blkf10 B6.out; obtain ⟨f3_0, f3_1, f3_2, f3_3, f3_4, f3_5, f3_6, f3_7, f3_8, f3_9⟩ := blkf10 B3.out; obtain ⟨c5_0, c5_1, c5_2, c5_3⟩ := blkc4 B5.out; clear hbk hbox hg) | (go_at_call 30; (with_reducible refine (HIS.out _ (HR0.out.below HB.out)).mono ?_); rintro e w7 ⟨rfl, hbk⟩; have n_B3 := Aside0.mk (blk_below B3.out hbk); have n_B5 := Aside0.mk (blk_below B5.out hbk); have n_B6 := Aside0.mk (blk_below B6.out hbk); have n_HB := Aside0.mk (below_step HB.out hbk); clear B3 B5 B6 HB; have B3 := n_B3; have B5 := n_B5; have B6 := n_B6; have HB := n_HB; clear n_B3 n_B5 n_B6 n_HB; clear c3_0 c3_1 c3_2 c3_3 c3_4 c3_5 c3_6 c3_7 c3_8 c3_9; clear c6_0 c6_1 c6_2 c6_3 c6_4 c6_5 c6_6 c6_7 c6_8 c6_9; clear f6_0 f6_1 f6_2 f6_3 f6_4 f6_5 f6_6 f6_7 f6_8 f6_9; clear f3_0 f3_1 f3_2 f3_3 f3_4 f3_5 f3_6 f3_7 f3_8 f3_9; clear c5_0 c5_1 c5_2 c5_3; obtain ⟨c3_0, c3_1, c3_2, c3_3, c3_4, c3_5, c3_6, c3_7, c3_8, c3_9⟩ := blkc10 B3.out; obtain ⟨c6_0, c6_1, c6_2, c6_3, c6_4, c6_5, c6_6, c6_7, c6_8, c6_9⟩ := blkc10 B6.out; obtain ⟨f6_0, f6_1, f6_2, f6_3, f6_4, f6_5, f6_6, f6_7, f6_8, f6_9⟩ := blkf10 B6.out; obtain ⟨f3_0, f3_1, f3_2, f3_3, f3_4, f3_5, f3_6, f3_7, f3_8, f3_9⟩ := blkf10 B3.out; obtain ⟨c5_0, c5_1, c5_2, c5_3⟩ := blkc4 B5.out; clear hbk))
 refine bodyPost_ret (results_ctt rfl _ _ g6 32 #[.int .i64 b.c.f0, .int .i64 b.c.f1, .int .i64 b.c.f2, .int .i64 b.c.f3, .int .i64 b.c.f4, .slice a5 b.calls.length c5, .slice a6 b.ins.length c6, .slice a7 b.made.length c7, .slice a8 b.ops.length c8, .slice a9 b.nodes.length c9] (0, 0) _ rfl (put10 B6.out) Try.underlying32 rfl (by kernel_rfl)) rfl ?_
 refine ⟨⟨a5, a6, a7, a8, a9, c5, c6, c7, c8, c9⟩, ?_, ?_, bel10 HB.out HGB6.out⟩
 ·rfl
 ·exact HR0.out.below (bel10 HB.out HGB6.out)
set_option maxHeartbeats 8000000 in
set_option maxRecDepth 100000 in
theorem r_Begin_bad (b : RB) (a5 a6 a7 a8 a9 : Option Addr) (c5 c6 c7 c8 c9 : Nat) (x : S38) (i : Nat) (hi : i < b.calls.length) (hk : x.f0 < 1 ∨ 4 < x.f0) (w : World) (h : RAt w b ⟨a5, a6, a7, a8, a9, c5, c6, c7, c8, c9⟩) :
  Calls Try.prog 37 #[.agg #[.int .i64 b.c.f0, .int .i64 b.c.f1, .int .i64 b.c.f2, .int .i64 b.c.f3, .int .i64 b.c.f4, .slice a5 b.calls.length c5, .slice a6 b.ins.length c6, .slice a7 b.made.length c7, .slice a8 b.ops.length c8, .slice a9 b.nodes.length c9], .int .i64 (i : Int), .agg #[.int .i64 x.f0, .int .u64 x.f1, .int .u64 x.f2, .int .i64 x.f3]] w fun e w' => ∃ r' : RA, e = .returned (.tuple #[.agg #[.int .i64 b.c.f0, .int .i64 b.c.f1, .int .i64 b.c.f2, .int .i64 b.c.f3, .int .i64 b.c.f4, .slice r'.a5 (b).calls.length r'.c5, .slice r'.a6 (b).ins.length r'.c6, .slice r'.a7 (b).made.length r'.c7, .slice r'.a8 (b).ops.length r'.c8, .slice r'.a9 (b).nodes.length r'.c9], .int .i64 0, .int .i64 1]) ∧ RAt w' (b) r' ∧ Below w.heap.size w w' := by
 have HR0 := Aside0.mk h
 have HB := Aside0.mk (Below.refl w.heap.size w)
 have hisb : (decide (0 ≤ (i : Int) ∧ (i : Int) < (b.calls.length : Int))) = true := decide_eq_true (by omega)
 have HI := Aside0.mk hi
 clear hi
 have HIS := Aside0.mk (fun (W : World) (h : RAt W b ⟨a5, a6, a7, a8, a9, c5, c6, c7, c8, c9⟩) => r_is b ⟨a5, a6, a7, a8, a9, c5, c6, c7, c8, c9⟩ i W h)
 rw [hisb] at HIS
 clear hisb h
 rcases hk with hk | hk
 ·have hkb : decide (x.f0 < 1) = true := decide_eq_true hk
  go_enter Try.func37, Try.ntmps37
  go_wp2_with (first | ((with_reducible refine gate_dst (N := 3) rfl ?_); refine box_event ?hg (N := 3) ?hd (cs := #[.int .i64 b.c.f0, .int .i64 b.c.f1, .int .i64 b.c.f2, .int .i64 b.c.f3, .int .i64 b.c.f4, .slice a5 b.calls.length c5, .slice a6 b.ins.length c6, .slice a7 b.made.length c7, .slice a8 b.ops.length c8, .slice a9 b.nodes.length c9]) (t := 32) ?hr ?_; (case hd => rfl); (case hg => rfl); (case hr => first | (go_simp; done) | (go_simp; rfl)); intro g3 hg w3 hbox hbk; have B3 := Aside0.mk hbox; have HGB3 := Aside0.mk (show w.heap.size ≤ g3 from by rw [hg]; exact HB.out.size); have n_HB := Aside0.mk (below_step HB.out hbk); clear HB; have HB := n_HB; clear n_HB; clear hbk hbox hg) | ((with_reducible refine gate_dst (N := 5) rfl ?_); refine box_event ?hg (N := 5) ?hd (cs := #[.int .i64 x.f0, .int .u64 x.f1, .int .u64 x.f2, .int .i64 x.f3]) (t := 38) ?hr ?_; (case hd => rfl); (case hg => rfl); (case hr => first | (go_simp; done) | (go_simp; rfl)); intro g5 hg w5 hbox hbk; have B5 := Aside0.mk hbox; have HNE5 := Aside0.mk (show g3 ≠ g5 from by rw [hg]; exact Nat.ne_of_lt (blk_lt B3.out)); have HGB5 := Aside0.mk (show w.heap.size ≤ g5 from by rw [hg]; exact HB.out.size); have n_B3 := Aside0.mk (blk_below B3.out hbk); have n_HB := Aside0.mk (below_step HB.out hbk); clear B3 HB; have B3 := n_B3; have HB := n_HB; clear n_B3 n_HB; clear hbk hbox hg) | ((with_reducible refine gate_dst (N := 6) rfl ?_); refine box_event ?hg (N := 6) ?hd (cs := #[.int .i64 0, .int .i64 0, .int .i64 0, .int .i64 0, .int .i64 0, .slice none 0 0, .slice none 0 0, .slice none 0 0, .slice none 0 0, .slice none 0 0]) (t := 32) ?hr ?_; (case hd => rfl); (case hg => rfl); (case hr => first | (go_simp; done) | (go_simp; rfl)); intro g6 hg w6 hbox hbk; have B6 := Aside0.mk hbox; have HNE := Aside0.mk (show g3 ≠ g6 from by rw [hg]; exact Nat.ne_of_lt (blk_lt B3.out)); have HNE56 := Aside0.mk (show g5 ≠ g6 from by rw [hg]; exact Nat.ne_of_lt (blk_lt B5.out)); have HGB6 := Aside0.mk (show w.heap.size ≤ g6 from by rw [hg]; exact HB.out.size); have n_B3 := Aside0.mk (blk_below B3.out hbk); have n_B5 := Aside0.mk (blk_below B5.out hbk); have n_HB := Aside0.mk (below_step HB.out hbk); clear B3 B5 HB; have B3 := n_B3; have B5 := n_B5; have HB := n_HB; clear n_B3 n_B5 n_HB; obtain ⟨c3_0, c3_1, c3_2, c3_3, c3_4, c3_5, c3_6, c3_7, c3_8, c3_9⟩ := blkc10 B3.out; obtain ⟨c6_0, c6_1, c6_2, c6_3, c6_4, c6_5, c6_6, c6_7, c6_8, c6_9⟩ := blkc10 B6.out; obtain ⟨f6_0, f6_1, f6_2, f6_3, f6_4, f6_5, f6_6, f6_7, f6_8, f6_9⟩ := blkf10 B6.out; obtain ⟨f3_0, f3_1, f3_2, f3_3, f3_4, f3_5, f3_6, f3_7, f3_8, f3_9⟩ := blkf10 B3.out; obtain ⟨c5_0, c5_1, c5_2, c5_3⟩ := blkc4 B5.out; clear hbk hbox hg) | (go_at_call 30; (with_reducible refine (HIS.out _ (HR0.out.below HB.out)).mono ?_); rintro e w7 ⟨rfl, hbk⟩; have n_B3 := Aside0.mk (blk_below B3.out hbk); have n_B5 := Aside0.mk (blk_below B5.out hbk); have n_B6 := Aside0.mk (blk_below B6.out hbk); have n_HB := Aside0.mk (below_step HB.out hbk); clear B3 B5 B6 HB; have B3 := n_B3; have B5 := n_B5; have B6 := n_B6; have HB := n_HB; clear n_B3 n_B5 n_B6 n_HB; clear c3_0 c3_1 c3_2 c3_3 c3_4 c3_5 c3_6 c3_7 c3_8 c3_9; clear c6_0 c6_1 c6_2 c6_3 c6_4 c6_5 c6_6 c6_7 c6_8 c6_9; clear f6_0 f6_1 f6_2 f6_3 f6_4 f6_5 f6_6 f6_7 f6_8 f6_9; clear f3_0 f3_1 f3_2 f3_3 f3_4 f3_5 f3_6 f3_7 f3_8 f3_9; clear c5_0 c5_1 c5_2 c5_3; obtain ⟨c3_0, c3_1, c3_2, c3_3, c3_4, c3_5, c3_6, c3_7, c3_8, c3_9⟩ := blkc10 B3.out; obtain ⟨c6_0, c6_1, c6_2, c6_3, c6_4, c6_5, c6_6, c6_7, c6_8, c6_9⟩ := blkc10 B6.out; obtain ⟨f6_0, f6_1, f6_2, f6_3, f6_4, f6_5, f6_6, f6_7, f6_8, f6_9⟩ := blkf10 B6.out; obtain ⟨f3_0, f3_1, f3_2, f3_3, f3_4, f3_5, f3_6, f3_7, f3_8, f3_9⟩ := blkf10 B3.out; obtain ⟨c5_0, c5_1, c5_2, c5_3⟩ := blkc4 B5.out; clear hbk))
  refine bodyPost_ret (results_ctt rfl _ _ g6 32 #[.int .i64 b.c.f0, .int .i64 b.c.f1, .int .i64 b.c.f2, .int .i64 b.c.f3, .int .i64 b.c.f4, .slice a5 b.calls.length c5, .slice a6 b.ins.length c6, .slice a7 b.made.length c7, .slice a8 b.ops.length c8, .slice a9 b.nodes.length c9] (0, 0) _ rfl (put10 B6.out) Try.underlying32 rfl (by kernel_rfl)) rfl ?_
  refine ⟨⟨a5, a6, a7, a8, a9, c5, c6, c7, c8, c9⟩, ?_, ?_, bel10 HB.out HGB6.out⟩
  ·rfl
  ·exact HR0.out.below (bel10 HB.out HGB6.out)
 ·have hk1 : ¬ x.f0 < 1 := by omega
  have hkb : decide (4 < x.f0) = true := decide_eq_true hk
  go_enter Try.func37, Try.ntmps37
  go_wp2_with (first | ((with_reducible refine gate_dst (N := 3) rfl ?_); refine box_event ?hg (N := 3) ?hd (cs := #[.int .i64 b.c.f0, .int .i64 b.c.f1, .int .i64 b.c.f2, .int .i64 b.c.f3, .int .i64 b.c.f4, .slice a5 b.calls.length c5, .slice a6 b.ins.length c6, .slice a7 b.made.length c7, .slice a8 b.ops.length c8, .slice a9 b.nodes.length c9]) (t := 32) ?hr ?_; (case hd => rfl); (case hg => rfl); (case hr => first | (go_simp; done) | (go_simp; rfl)); intro g3 hg w3 hbox hbk; have B3 := Aside0.mk hbox; have HGB3 := Aside0.mk (show w.heap.size ≤ g3 from by rw [hg]; exact HB.out.size); have n_HB := Aside0.mk (below_step HB.out hbk); clear HB; have HB := n_HB; clear n_HB; clear hbk hbox hg) | ((with_reducible refine gate_dst (N := 5) rfl ?_); refine box_event ?hg (N := 5) ?hd (cs := #[.int .i64 x.f0, .int .u64 x.f1, .int .u64 x.f2, .int .i64 x.f3]) (t := 38) ?hr ?_; (case hd => rfl); (case hg => rfl); (case hr => first | (go_simp; done) | (go_simp; rfl)); intro g5 hg w5 hbox hbk; have B5 := Aside0.mk hbox; have HNE5 := Aside0.mk (show g3 ≠ g5 from by rw [hg]; exact Nat.ne_of_lt (blk_lt B3.out)); have HGB5 := Aside0.mk (show w.heap.size ≤ g5 from by rw [hg]; exact HB.out.size); have n_B3 := Aside0.mk (blk_below B3.out hbk); have n_HB := Aside0.mk (below_step HB.out hbk); clear B3 HB; have B3 := n_B3; have HB := n_HB; clear n_B3 n_HB; clear hbk hbox hg) | ((with_reducible refine gate_dst (N := 6) rfl ?_); refine box_event ?hg (N := 6) ?hd (cs := #[.int .i64 0, .int .i64 0, .int .i64 0, .int .i64 0, .int .i64 0, .slice none 0 0, .slice none 0 0, .slice none 0 0, .slice none 0 0, .slice none 0 0]) (t := 32) ?hr ?_; (case hd => rfl); (case hg => rfl); (case hr => first | (go_simp; done) | (go_simp; rfl)); intro g6 hg w6 hbox hbk; have B6 := Aside0.mk hbox; have HNE := Aside0.mk (show g3 ≠ g6 from by rw [hg]; exact Nat.ne_of_lt (blk_lt B3.out)); have HNE56 := Aside0.mk (show g5 ≠ g6 from by rw [hg]; exact Nat.ne_of_lt (blk_lt B5.out)); have HGB6 := Aside0.mk (show w.heap.size ≤ g6 from by rw [hg]; exact HB.out.size); have n_B3 := Aside0.mk (blk_below B3.out hbk); have n_B5 := Aside0.mk (blk_below B5.out hbk); have n_HB := Aside0.mk (below_step HB.out hbk); clear B3 B5 HB; have B3 := n_B3; have B5 := n_B5; have HB := n_HB; clear n_B3 n_B5 n_HB; obtain ⟨c3_0, c3_1, c3_2, c3_3, c3_4, c3_5, c3_6, c3_7, c3_8, c3_9⟩ := blkc10 B3.out; obtain ⟨c6_0, c6_1, c6_2, c6_3, c6_4, c6_5, c6_6, c6_7, c6_8, c6_9⟩ := blkc10 B6.out; obtain ⟨f6_0, f6_1, f6_2, f6_3, f6_4, f6_5, f6_6, f6_7, f6_8, f6_9⟩ := blkf10 B6.out; obtain ⟨f3_0, f3_1, f3_2, f3_3, f3_4, f3_5, f3_6, f3_7, f3_8, f3_9⟩ := blkf10 B3.out; obtain ⟨c5_0, c5_1, c5_2, c5_3⟩ := blkc4 B5.out; clear hbk hbox hg) | (go_at_call 30; (with_reducible refine (HIS.out _ (HR0.out.below HB.out)).mono ?_); rintro e w7 ⟨rfl, hbk⟩; have n_B3 := Aside0.mk (blk_below B3.out hbk); have n_B5 := Aside0.mk (blk_below B5.out hbk); have n_B6 := Aside0.mk (blk_below B6.out hbk); have n_HB := Aside0.mk (below_step HB.out hbk); clear B3 B5 B6 HB; have B3 := n_B3; have B5 := n_B5; have B6 := n_B6; have HB := n_HB; clear n_B3 n_B5 n_B6 n_HB; clear c3_0 c3_1 c3_2 c3_3 c3_4 c3_5 c3_6 c3_7 c3_8 c3_9; clear c6_0 c6_1 c6_2 c6_3 c6_4 c6_5 c6_6 c6_7 c6_8 c6_9; clear f6_0 f6_1 f6_2 f6_3 f6_4 f6_5 f6_6 f6_7 f6_8 f6_9; clear f3_0 f3_1 f3_2 f3_3 f3_4 f3_5 f3_6 f3_7 f3_8 f3_9; clear c5_0 c5_1 c5_2 c5_3; obtain ⟨c3_0, c3_1, c3_2, c3_3, c3_4, c3_5, c3_6, c3_7, c3_8, c3_9⟩ := blkc10 B3.out; obtain ⟨c6_0, c6_1, c6_2, c6_3, c6_4, c6_5, c6_6, c6_7, c6_8, c6_9⟩ := blkc10 B6.out; obtain ⟨f6_0, f6_1, f6_2, f6_3, f6_4, f6_5, f6_6, f6_7, f6_8, f6_9⟩ := blkf10 B6.out; obtain ⟨f3_0, f3_1, f3_2, f3_3, f3_4, f3_5, f3_6, f3_7, f3_8, f3_9⟩ := blkf10 B3.out; obtain ⟨c5_0, c5_1, c5_2, c5_3⟩ := blkc4 B5.out; clear hbk))
  refine bodyPost_ret (results_ctt rfl _ _ g6 32 #[.int .i64 b.c.f0, .int .i64 b.c.f1, .int .i64 b.c.f2, .int .i64 b.c.f3, .int .i64 b.c.f4, .slice a5 b.calls.length c5, .slice a6 b.ins.length c6, .slice a7 b.made.length c7, .slice a8 b.ops.length c8, .slice a9 b.nodes.length c9] (0, 0) _ rfl (put10 B6.out) Try.underlying32 rfl (by kernel_rfl)) rfl ?_
  refine ⟨⟨a5, a6, a7, a8, a9, c5, c6, c7, c8, c9⟩, ?_, ?_, bel10 HB.out HGB6.out⟩
  ·rfl
  ·exact HR0.out.below (bel10 HB.out HGB6.out)
set_option maxHeartbeats 8000000 in
set_option maxRecDepth 100000 in
theorem r_Begin_ret (b : RB) (a5 a6 a7 a8 a9 : Option Addr) (c5 c6 c7 c8 c9 : Nat) (x : S38) (i : Nat) (hi : i < b.calls.length) (hk1 : ¬ x.f0 < 1) (hk4 : ¬ 4 < x.f0) (cc : Int) (hcc : b.calls.getD i 0 = cc) (hc : cc = b.c.f4) (w : World) (h : RAt w b ⟨a5, a6, a7, a8, a9, c5, c6, c7, c8, c9⟩) :
  Calls Try.prog 37 #[.agg #[.int .i64 b.c.f0, .int .i64 b.c.f1, .int .i64 b.c.f2, .int .i64 b.c.f3, .int .i64 b.c.f4, .slice a5 b.calls.length c5, .slice a6 b.ins.length c6, .slice a7 b.made.length c7, .slice a8 b.ops.length c8, .slice a9 b.nodes.length c9], .int .i64 (i : Int), .agg #[.int .i64 x.f0, .int .u64 x.f1, .int .u64 x.f2, .int .i64 x.f3]] w fun e w' => ∃ r' : RA, e = .returned (.tuple #[.agg #[.int .i64 b.c.f0, .int .i64 b.c.f1, .int .i64 b.c.f2, .int .i64 b.c.f3, .int .i64 b.c.f4, .slice r'.a5 (b).calls.length r'.c5, .slice r'.a6 (b).ins.length r'.c6, .slice r'.a7 (b).made.length r'.c7, .slice r'.a8 (b).ops.length r'.c8, .slice r'.a9 (b).nodes.length r'.c9], .int .i64 0, .int .i64 2]) ∧ RAt w' (b) r' ∧ Below w.heap.size w w' := by
 have HR0 := Aside0.mk h
 have HB := Aside0.mk (Below.refl w.heap.size w)
 have hisb : (decide (0 ≤ (i : Int) ∧ (i : Int) < (b.calls.length : Int))) = true := decide_eq_true (by omega)
 have HI := Aside0.mk hi
 clear hi
 have HIS := Aside0.mk (fun (W : World) (h : RAt W b ⟨a5, a6, a7, a8, a9, c5, c6, c7, c8, c9⟩) => r_is b ⟨a5, a6, a7, a8, a9, c5, c6, c7, c8, c9⟩ i W h)
 rw [hisb] at HIS
 clear hisb h
 have HCC := Aside0.mk hcc
 clear hcc
 have hcb : (cc == b.c.f4) = true := beq_iff_eq.2 hc
 clear hc
 go_enter Try.func37, Try.ntmps37
 go_upto_region 3 with (first | ((with_reducible refine gate_dst (N := 3) rfl ?_); refine box_event ?hg (N := 3) ?hd (cs := #[.int .i64 b.c.f0, .int .i64 b.c.f1, .int .i64 b.c.f2, .int .i64 b.c.f3, .int .i64 b.c.f4, .slice a5 b.calls.length c5, .slice a6 b.ins.length c6, .slice a7 b.made.length c7, .slice a8 b.ops.length c8, .slice a9 b.nodes.length c9]) (t := 32) ?hr ?_; (case hd => rfl); (case hg => rfl); (case hr => first | (go_simp; done) | (go_simp; rfl)); intro g3 hg w3 hbox hbk; have B3 := Aside0.mk hbox; have HGB3 := Aside0.mk (show w.heap.size ≤ g3 from by rw [hg]; exact HB.out.size); have n_HB := Aside0.mk (below_step HB.out hbk); clear HB; have HB := n_HB; clear n_HB; clear hbk hbox hg) | ((with_reducible refine gate_dst (N := 5) rfl ?_); refine box_event ?hg (N := 5) ?hd (cs := #[.int .i64 x.f0, .int .u64 x.f1, .int .u64 x.f2, .int .i64 x.f3]) (t := 38) ?hr ?_; (case hd => rfl); (case hg => rfl); (case hr => first | (go_simp; done) | (go_simp; rfl)); intro g5 hg w5 hbox hbk; have B5 := Aside0.mk hbox; have HNE5 := Aside0.mk (show g3 ≠ g5 from by rw [hg]; exact Nat.ne_of_lt (blk_lt B3.out)); have HGB5 := Aside0.mk (show w.heap.size ≤ g5 from by rw [hg]; exact HB.out.size); have n_B3 := Aside0.mk (blk_below B3.out hbk); have n_HB := Aside0.mk (below_step HB.out hbk); clear B3 HB; have B3 := n_B3; have HB := n_HB; clear n_B3 n_HB; clear hbk hbox hg) | ((with_reducible refine gate_dst (N := 6) rfl ?_); refine box_event ?hg (N := 6) ?hd (cs := #[.int .i64 0, .int .i64 0, .int .i64 0, .int .i64 0, .int .i64 0, .slice none 0 0, .slice none 0 0, .slice none 0 0, .slice none 0 0, .slice none 0 0]) (t := 32) ?hr ?_; (case hd => rfl); (case hg => rfl); (case hr => first | (go_simp; done) | (go_simp; rfl)); intro g6 hg w6 hbox hbk; have B6 := Aside0.mk hbox; have HNE := Aside0.mk (show g3 ≠ g6 from by rw [hg]; exact Nat.ne_of_lt (blk_lt B3.out)); have HNE56 := Aside0.mk (show g5 ≠ g6 from by rw [hg]; exact Nat.ne_of_lt (blk_lt B5.out)); have HGB6 := Aside0.mk (show w.heap.size ≤ g6 from by rw [hg]; exact HB.out.size); have n_B3 := Aside0.mk (blk_below B3.out hbk); have n_B5 := Aside0.mk (blk_below B5.out hbk); have n_HB := Aside0.mk (below_step HB.out hbk); clear B3 B5 HB; have B3 := n_B3; have B5 := n_B5; have HB := n_HB; clear n_B3 n_B5 n_HB; obtain ⟨c3_0, c3_1, c3_2, c3_3, c3_4, c3_5, c3_6, c3_7, c3_8, c3_9⟩ := blkc10 B3.out; obtain ⟨c6_0, c6_1, c6_2, c6_3, c6_4, c6_5, c6_6, c6_7, c6_8, c6_9⟩ := blkc10 B6.out; obtain ⟨f6_0, f6_1, f6_2, f6_3, f6_4, f6_5, f6_6, f6_7, f6_8, f6_9⟩ := blkf10 B6.out; obtain ⟨f3_0, f3_1, f3_2, f3_3, f3_4, f3_5, f3_6, f3_7, f3_8, f3_9⟩ := blkf10 B3.out; obtain ⟨c5_0, c5_1, c5_2, c5_3⟩ := blkc4 B5.out; clear hbk hbox hg) | (go_at_call 30; (with_reducible refine (HIS.out _ (HR0.out.below HB.out)).mono ?_); rintro e w7 ⟨rfl, hbk⟩; have n_B3 := Aside0.mk (blk_below B3.out hbk); have n_B5 := Aside0.mk (blk_below B5.out hbk); have n_B6 := Aside0.mk (blk_below B6.out hbk); have n_HB := Aside0.mk (below_step HB.out hbk); clear B3 B5 B6 HB; have B3 := n_B3; have B5 := n_B5; have B6 := n_B6; have HB := n_HB; clear n_B3 n_B5 n_B6 n_HB; clear c3_0 c3_1 c3_2 c3_3 c3_4 c3_5 c3_6 c3_7 c3_8 c3_9; clear c6_0 c6_1 c6_2 c6_3 c6_4 c6_5 c6_6 c6_7 c6_8 c6_9; clear f6_0 f6_1 f6_2 f6_3 f6_4 f6_5 f6_6 f6_7 f6_8 f6_9; clear f3_0 f3_1 f3_2 f3_3 f3_4 f3_5 f3_6 f3_7 f3_8 f3_9; clear c5_0 c5_1 c5_2 c5_3; obtain ⟨c3_0, c3_1, c3_2, c3_3, c3_4, c3_5, c3_6, c3_7, c3_8, c3_9⟩ := blkc10 B3.out; obtain ⟨c6_0, c6_1, c6_2, c6_3, c6_4, c6_5, c6_6, c6_7, c6_8, c6_9⟩ := blkc10 B6.out; obtain ⟨f6_0, f6_1, f6_2, f6_3, f6_4, f6_5, f6_6, f6_7, f6_8, f6_9⟩ := blkf10 B6.out; obtain ⟨f3_0, f3_1, f3_2, f3_3, f3_4, f3_5, f3_6, f3_7, f3_8, f3_9⟩ := blkf10 B3.out; obtain ⟨c5_0, c5_1, c5_2, c5_3⟩ := blkc4 B5.out; clear hbk))
 obtain ⟨ad, e5, hx⟩ := int_at (HR0.out.below HB.out).h5 i HI.out HCC.out
 dsimp only at e5
 subst e5
 have hi1 : (i : Int) < (b.calls.length : Int) := by have := HI.out; omega
 go_wp2_with (fail)
 refine bodyPost_ret (results_ctt rfl _ _ g6 32 #[.int .i64 b.c.f0, .int .i64 b.c.f1, .int .i64 b.c.f2, .int .i64 b.c.f3, .int .i64 b.c.f4, .slice (some ad) b.calls.length c5, .slice a6 b.ins.length c6, .slice a7 b.made.length c7, .slice a8 b.ops.length c8, .slice a9 b.nodes.length c9] (0, 0) _ rfl (put10 B6.out) Try.underlying32 rfl (by kernel_rfl)) rfl ?_
 refine ⟨⟨(some ad), a6, a7, a8, a9, c5, c6, c7, c8, c9⟩, ?_, ?_, bel10 HB.out HGB6.out⟩
 ·rfl
 ·exact HR0.out.below (bel10 HB.out HGB6.out)
set_option maxHeartbeats 8000000 in
set_option maxRecDepth 100000 in
theorem r_Begin_full (b : RB) (a5 a6 a7 a8 a9 : Option Addr) (c5 c6 c7 c8 c9 : Nat) (x : S38) (i : Nat) (hi : i < b.calls.length) (hk1 : ¬ x.f0 < 1) (hk4 : ¬ 4 < x.f0) (cc : Int) (hcc : b.calls.getD i 0 = cc) (hc : ¬ cc = b.c.f4) (hb0 : 0 ≤ cc) (hb1 : cc ≤ 1000) (h8 : b.calls.length ≤ 8) (hl6 : b.ins.length = b.calls.length) (ii : Int) (hii : b.ins.getD i 0 = ii) (hk : x.f0 = 1) (hin : ii = b.c.f2) (w : World) (h : RAt w b ⟨a5, a6, a7, a8, a9, c5, c6, c7, c8, c9⟩) :
  Calls Try.prog 37 #[.agg #[.int .i64 b.c.f0, .int .i64 b.c.f1, .int .i64 b.c.f2, .int .i64 b.c.f3, .int .i64 b.c.f4, .slice a5 b.calls.length c5, .slice a6 b.ins.length c6, .slice a7 b.made.length c7, .slice a8 b.ops.length c8, .slice a9 b.nodes.length c9], .int .i64 (i : Int), .agg #[.int .i64 x.f0, .int .u64 x.f1, .int .u64 x.f2, .int .i64 x.f3]] w fun e w' => ∃ r' : RA, e = .returned (.tuple #[.agg #[.int .i64 b.c.f0, .int .i64 b.c.f1, .int .i64 b.c.f2, .int .i64 b.c.f3, .int .i64 b.c.f4, .slice r'.a5 (b.called i).calls.length r'.c5, .slice r'.a6 (b.called i).ins.length r'.c6, .slice r'.a7 (b.called i).made.length r'.c7, .slice r'.a8 (b.called i).ops.length r'.c8, .slice r'.a9 (b.called i).nodes.length r'.c9], .int .i64 0, .int .i64 3]) ∧ RAt w' (b.called i) r' ∧ Below w.heap.size w w' := by
 have HR0 := Aside0.mk h
 have HB := Aside0.mk (Below.refl w.heap.size w)
 have hisb : (decide (0 ≤ (i : Int) ∧ (i : Int) < (b.calls.length : Int))) = true := decide_eq_true (by omega)
 have HI := Aside0.mk hi
 clear hi
 have HIS := Aside0.mk (fun (W : World) (h : RAt W b ⟨a5, a6, a7, a8, a9, c5, c6, c7, c8, c9⟩) => r_is b ⟨a5, a6, a7, a8, a9, c5, c6, c7, c8, c9⟩ i W h)
 rw [hisb] at HIS
 clear hisb h
 have HCC := Aside0.mk hcc
 clear hcc
 have hcb : (cc == b.c.f4) = false := beq_eq_false_iff_ne.2 hc
 have H8 := Aside0.mk h8
 clear hc h8
 have HII := Aside0.mk hii
 have HL6 := Aside0.mk hl6
 have hkb : (x.f0 == 1) = true := beq_iff_eq.2 hk
 clear hk hii hl6
 have hinb : (ii == b.c.f2) = true := beq_iff_eq.2 hin
 clear hin
 go_enter Try.func37, Try.ntmps37
 go_upto_region 3 with (first | ((with_reducible refine gate_dst (N := 3) rfl ?_); refine box_event ?hg (N := 3) ?hd (cs := #[.int .i64 b.c.f0, .int .i64 b.c.f1, .int .i64 b.c.f2, .int .i64 b.c.f3, .int .i64 b.c.f4, .slice a5 b.calls.length c5, .slice a6 b.ins.length c6, .slice a7 b.made.length c7, .slice a8 b.ops.length c8, .slice a9 b.nodes.length c9]) (t := 32) ?hr ?_; (case hd => rfl); (case hg => rfl); (case hr => first | (go_simp; done) | (go_simp; rfl)); intro g3 hg w3 hbox hbk; have B3 := Aside0.mk hbox; have HGB3 := Aside0.mk (show w.heap.size ≤ g3 from by rw [hg]; exact HB.out.size); have n_HB := Aside0.mk (below_step HB.out hbk); clear HB; have HB := n_HB; clear n_HB; clear hbk hbox hg) | ((with_reducible refine gate_dst (N := 5) rfl ?_); refine box_event ?hg (N := 5) ?hd (cs := #[.int .i64 x.f0, .int .u64 x.f1, .int .u64 x.f2, .int .i64 x.f3]) (t := 38) ?hr ?_; (case hd => rfl); (case hg => rfl); (case hr => first | (go_simp; done) | (go_simp; rfl)); intro g5 hg w5 hbox hbk; have B5 := Aside0.mk hbox; have HNE5 := Aside0.mk (show g3 ≠ g5 from by rw [hg]; exact Nat.ne_of_lt (blk_lt B3.out)); have HGB5 := Aside0.mk (show w.heap.size ≤ g5 from by rw [hg]; exact HB.out.size); have n_B3 := Aside0.mk (blk_below B3.out hbk); have n_HB := Aside0.mk (below_step HB.out hbk); clear B3 HB; have B3 := n_B3; have HB := n_HB; clear n_B3 n_HB; clear hbk hbox hg) | ((with_reducible refine gate_dst (N := 6) rfl ?_); refine box_event ?hg (N := 6) ?hd (cs := #[.int .i64 0, .int .i64 0, .int .i64 0, .int .i64 0, .int .i64 0, .slice none 0 0, .slice none 0 0, .slice none 0 0, .slice none 0 0, .slice none 0 0]) (t := 32) ?hr ?_; (case hd => rfl); (case hg => rfl); (case hr => first | (go_simp; done) | (go_simp; rfl)); intro g6 hg w6 hbox hbk; have B6 := Aside0.mk hbox; have HNE := Aside0.mk (show g3 ≠ g6 from by rw [hg]; exact Nat.ne_of_lt (blk_lt B3.out)); have HNE56 := Aside0.mk (show g5 ≠ g6 from by rw [hg]; exact Nat.ne_of_lt (blk_lt B5.out)); have HGB6 := Aside0.mk (show w.heap.size ≤ g6 from by rw [hg]; exact HB.out.size); have n_B3 := Aside0.mk (blk_below B3.out hbk); have n_B5 := Aside0.mk (blk_below B5.out hbk); have n_HB := Aside0.mk (below_step HB.out hbk); clear B3 B5 HB; have B3 := n_B3; have B5 := n_B5; have HB := n_HB; clear n_B3 n_B5 n_HB; obtain ⟨c3_0, c3_1, c3_2, c3_3, c3_4, c3_5, c3_6, c3_7, c3_8, c3_9⟩ := blkc10 B3.out; obtain ⟨c6_0, c6_1, c6_2, c6_3, c6_4, c6_5, c6_6, c6_7, c6_8, c6_9⟩ := blkc10 B6.out; obtain ⟨f6_0, f6_1, f6_2, f6_3, f6_4, f6_5, f6_6, f6_7, f6_8, f6_9⟩ := blkf10 B6.out; obtain ⟨f3_0, f3_1, f3_2, f3_3, f3_4, f3_5, f3_6, f3_7, f3_8, f3_9⟩ := blkf10 B3.out; obtain ⟨c5_0, c5_1, c5_2, c5_3⟩ := blkc4 B5.out; clear hbk hbox hg) | (go_at_call 30; (with_reducible refine (HIS.out _ (HR0.out.below HB.out)).mono ?_); rintro e w7 ⟨rfl, hbk⟩; have n_B3 := Aside0.mk (blk_below B3.out hbk); have n_B5 := Aside0.mk (blk_below B5.out hbk); have n_B6 := Aside0.mk (blk_below B6.out hbk); have n_HB := Aside0.mk (below_step HB.out hbk); clear B3 B5 B6 HB; have B3 := n_B3; have B5 := n_B5; have B6 := n_B6; have HB := n_HB; clear n_B3 n_B5 n_B6 n_HB; clear c3_0 c3_1 c3_2 c3_3 c3_4 c3_5 c3_6 c3_7 c3_8 c3_9; clear c6_0 c6_1 c6_2 c6_3 c6_4 c6_5 c6_6 c6_7 c6_8 c6_9; clear f6_0 f6_1 f6_2 f6_3 f6_4 f6_5 f6_6 f6_7 f6_8 f6_9; clear f3_0 f3_1 f3_2 f3_3 f3_4 f3_5 f3_6 f3_7 f3_8 f3_9; clear c5_0 c5_1 c5_2 c5_3; obtain ⟨c3_0, c3_1, c3_2, c3_3, c3_4, c3_5, c3_6, c3_7, c3_8, c3_9⟩ := blkc10 B3.out; obtain ⟨c6_0, c6_1, c6_2, c6_3, c6_4, c6_5, c6_6, c6_7, c6_8, c6_9⟩ := blkc10 B6.out; obtain ⟨f6_0, f6_1, f6_2, f6_3, f6_4, f6_5, f6_6, f6_7, f6_8, f6_9⟩ := blkf10 B6.out; obtain ⟨f3_0, f3_1, f3_2, f3_3, f3_4, f3_5, f3_6, f3_7, f3_8, f3_9⟩ := blkf10 B3.out; obtain ⟨c5_0, c5_1, c5_2, c5_3⟩ := blkc4 B5.out; clear hbk))
 obtain ⟨ad, e5, hx⟩ := int_at (HR0.out.below HB.out).h5 i HI.out HCC.out
 dsimp only at e5
 subst e5
 have hi1 : (i : Int) < (b.calls.length : Int) := by have := HI.out; omega
 go_upto_region 6 with (fail)
 clear hi1 hx
 go_upto_region 7 with (first | (go_at_call 43; (with_reducible refine (r_more (some ad) c5 b.calls i HI.out (by have := H8.out; omega) cc HCC.out (by omega) _ (HR0.out.below HB.out).h5 HR0.out.l5).mono ?_); rintro e w10 ⟨A1, c1, rfl, hM, hbk⟩; have HM := Aside0.mk hM; have n_B3 := Aside0.mk (blk_below B3.out hbk); have n_B5 := Aside0.mk (blk_below B5.out hbk); have n_B6 := Aside0.mk (blk_below B6.out hbk); have n_HB := Aside0.mk (below_step HB.out hbk); clear B3 B5 B6 HB; have B3 := n_B3; have B5 := n_B5; have B6 := n_B6; have HB := n_HB; clear n_B3 n_B5 n_B6 n_HB; clear c3_0 c3_1 c3_2 c3_3 c3_4 c3_5 c3_6 c3_7 c3_8 c3_9; clear c6_0 c6_1 c6_2 c6_3 c6_4 c6_5 c6_6 c6_7 c6_8 c6_9; clear f6_0 f6_1 f6_2 f6_3 f6_4 f6_5 f6_6 f6_7 f6_8 f6_9; clear f3_0 f3_1 f3_2 f3_3 f3_4 f3_5 f3_6 f3_7 f3_8 f3_9; clear c5_0 c5_1 c5_2 c5_3; obtain ⟨c3_0, c3_1, c3_2, c3_3, c3_4, c3_5, c3_6, c3_7, c3_8, c3_9⟩ := blkc10 B3.out; obtain ⟨c6_0, c6_1, c6_2, c6_3, c6_4, c6_5, c6_6, c6_7, c6_8, c6_9⟩ := blkc10 B6.out; obtain ⟨f6_0, f6_1, f6_2, f6_3, f6_4, f6_5, f6_6, f6_7, f6_8, f6_9⟩ := blkf10 B6.out; obtain ⟨f3_0, f3_1, f3_2, f3_3, f3_4, f3_5, f3_6, f3_7, f3_8, f3_9⟩ := blkf10 B3.out; obtain ⟨c5_0, c5_1, c5_2, c5_3⟩ := blkc4 B5.out; clear hbk hM))
 clear c3_0 c3_1 c3_2 c3_3 c3_4 c3_5 c3_6 c3_7 c3_8 c3_9
 clear c6_0 c6_1 c6_2 c6_3 c6_4 c6_5 c6_6 c6_7 c6_8 c6_9
 clear f6_0 f6_1 f6_2 f6_3 f6_4 f6_5 f6_6 f6_7 f6_8 f6_9
 clear f3_0 f3_1 f3_2 f3_3 f3_4 f3_5 f3_6 f3_7 f3_8 f3_9
 clear c5_0 c5_1 c5_2 c5_3
 obtain ⟨W6, hW6⟩ : ∃ W, w10.setCell ⟨g3, 5, none⟩ (.slice A1 b.calls.length c1) = W := ⟨_, rfl⟩
 rw [hW6]
 have n_B3 := Aside0.mk (show W6.heap[g3]? = some (.cells #[.int .i64 b.c.f0, .int .i64 b.c.f1, .int .i64 b.c.f2, .int .i64 b.c.f3, .int .i64 b.c.f4, .slice A1 b.calls.length c1, .slice a6 b.ins.length c6, .slice a7 b.made.length c7, .slice a8 b.ops.length c8, .slice a9 b.nodes.length c9] 32 (0, 0)) from by rw [← hW6]; exact blk_put B3.out 5 _ rfl)
 have n_B5 := Aside0.mk (show W6.heap[g5]? = some (.cells #[.int .i64 x.f0, .int .u64 x.f1, .int .u64 x.f2, .int .i64 x.f3] 38 (0, 0)) from by rw [← hW6]; exact cel_far B5.out (Ne.symm HNE5.out) _)
 have n_B6 := Aside0.mk (show W6.heap[g6]? = some (.cells #[.int .i64 0, .int .i64 0, .int .i64 0, .int .i64 0, .int .i64 0, .slice none 0 0, .slice none 0 0, .slice none 0 0, .slice none 0 0, .slice none 0 0] 32 (0, 0)) from by rw [← hW6]; exact cel_far B6.out (Ne.symm HNE.out) _)
 have n_HM := Aside0.mk (show ∃ base, Kd.R (Kd.int .i64) 3 W6 base (fun _ => True) (.slice A1 b.calls.length c1) (b.calls.set i (cc + 1)) from by rw [← hW6]; exact ⟨_, Kd.R_set HM.out B3.out (by decide) 5 _⟩)
 have n_HB := Aside0.mk (show Below w.heap.size w W6 from by rw [← hW6]; exact HB.out.setCell (p := ⟨g3, 5, none⟩) HGB3.out _)
 clear hW6 B3 B5 B6 HM HB
 have B3 := n_B3
 have B5 := n_B5
 have B6 := n_B6
 have HM := n_HM
 have HB := n_HB
 clear n_B3 n_B5 n_B6 n_HM n_HB
 obtain ⟨ad6, e6, hx6⟩ := int_at (HR0.out.below HB.out).h6 i (by have := HI.out; have := HL6.out; omega) HII.out
 dsimp only at e6
 subst e6
 have HX6 := Aside0.mk hx6
 clear hx6
 have hi6 : (i : Int) < (b.ins.length : Int) := by have := HI.out; have := HL6.out; omega
 have n_B3 := Aside0.mk (blk_drew B3.out)
 have n_B5 := Aside0.mk (blk_drew B5.out)
 have n_B6 := Aside0.mk (blk_drew B6.out)
 have n_HB := Aside0.mk (below_drew1 HB.out)
 have n_HM := Aside0.mk (Exists.imp (fun bs hm => Kd.R_drew hm) HM.out)
 have n_HX6 := Aside0.mk (HX6.out)
 clear B3 B5 B6 HB HM HX6
 have B3 := n_B3
 have B5 := n_B5
 have B6 := n_B6
 have HB := n_HB
 have HM := n_HM
 have HX6 := n_HX6
 clear n_B3 n_B5 n_B6 n_HB n_HM n_HX6
 refine start_ (n := 14) (S := fun w' => w'.cell? ⟨g5, 0, none⟩ = some (.int .i64 x.f0) ∧ w'.cell? ⟨g3, 6, none⟩ = some (.slice (some ad6) b.ins.length c6) ∧ w'.cell? (ad6.add i) = some (.int .i64 ii) ∧ w'.cell? ⟨g3, 2, none⟩ = some (.int .i64 b.c.f2)) (ds := []) #[false, false, false, false, false, false, false, false, false, false, false, false, false, false] (by kernel_rfl) rfl rfl ⟨((blk_cell B5.out 0).trans rfl), ((blk_cell B3.out 6).trans rfl), HX6.out, ((blk_cell B3.out 2).trans rfl)⟩ (fun hHeld => ?_); refine with_tabW r_Begin.tab7 r_Begin.bits7 (fun HT_ HW_ => ?_)
 generalize W6.drew = W1 at B3 B5 B6 HB HM HX6 hHeld ⊢
 refine pure_ (i := 0) (N := some 42) (v := ?_) (a' := ?_) (lb_ 14 1) rfl rfl (any_of HT_.out (by kernel_rfl)) (fun _ _ _ h => h) (Or.inl ⟨by rfl, ?_⟩) ?_ ?_; rotate_left
 ·intro w'; go_simp; with_reducible rfl
 rotate_left
 ·simp only [Act.put, List.setIfInBounds_toArray, List.set_cons_zero, List.set_cons_succ, i64_w, i32_w]; rfl
 refine take_ (i := 1) (N := some 43) (v := ?_) (a' := ?_) (lb_ 14 3) rfl rfl (take_ofW HT_.out HW_.out (by kernel_rfl)) (fun _ _ _ h => h) (Or.inl ⟨by rfl, ?_⟩) hHeld ?_ ?_; rotate_left
 ·rintro w' ⟨s0, s1, s2, s3⟩; go_simp; with_reducible rfl
 rotate_left
 ·simp only [Act.put, List.setIfInBounds_toArray, List.set_cons_zero, List.set_cons_succ, i64_w, i32_w]; rfl
 refine pure_ (i := 2) (N := some 44) (v := ?_) (a' := ?_) (lb_ 14 7) rfl rfl (any_of HT_.out (by kernel_rfl)) (fun _ _ _ h => h) (Or.inl ⟨by rfl, ?_⟩) ?_ ?_; rotate_left
 ·intro w'; go_simp; with_reducible rfl
 rotate_left
 ·simp only [Act.put, List.setIfInBounds_toArray, List.set_cons_zero, List.set_cons_succ, i64_w, i32_w]; rfl
 refine pure_ (i := 3) (N := some 45) (v := ?_) (a' := ?_) (lb_ 14 15) rfl rfl (any_of HT_.out (by kernel_rfl)) (fun _ _ _ h => h) (Or.inl ⟨by rfl, ?_⟩) ?_ ?_; rotate_left
 ·intro w'; go_simp; with_reducible rfl
 rotate_left
 ·simp only [Act.put, List.setIfInBounds_toArray, List.set_cons_zero, List.set_cons_succ, i64_w, i32_w]; rfl
 refine pure_ (i := 4) (N := some 46) (v := ?_) (a' := ?_) (lb_ 14 31) rfl rfl (any_of HT_.out (by kernel_rfl)) (fun _ _ _ h => h) (Or.inl ⟨by rfl, ?_⟩) ?_ ?_; rotate_left
 ·intro w'; go_simp; with_reducible rfl
 rotate_left
 ·simp only [Act.put, List.setIfInBounds_toArray, List.set_cons_zero, List.set_cons_succ, i64_w, i32_w]; rfl
 refine pure_ (i := 6) (N := some 48) (v := ?_) (a' := ?_) (lb_ 14 95) rfl rfl (any_of HT_.out (by kernel_rfl)) (fun _ _ _ h => h) (Or.inl ⟨by rfl, ?_⟩) ?_ ?_; rotate_left
 ·intro w'; go_simp; with_reducible rfl
 rotate_left
 ·simp only [Act.put, List.setIfInBounds_toArray, List.set_cons_zero, List.set_cons_succ, i64_w, i32_w]; rfl
 refine pure_ (i := 9) (N := some 51) (v := ?_) (a' := ?_) (lb_ 14 607) rfl rfl (any_of HT_.out (by kernel_rfl)) (fun _ _ _ h => h) (Or.inl ⟨by rfl, ?_⟩) ?_ ?_; rotate_left
 ·intro w'; go_simp; with_reducible rfl
 rotate_left
 ·simp only [Act.put, List.setIfInBounds_toArray, List.set_cons_zero, List.set_cons_succ, i64_w, i32_w]; rfl
 refine pure_ (i := 10) (N := some 52) (v := ?_) (a' := ?_) (lb_ 14 1631) rfl rfl (any_of HT_.out (by kernel_rfl)) (fun _ _ _ h => h) (Or.inl ⟨by rfl, ?_⟩) ?_ ?_; rotate_left
 ·intro w'; go_simp; with_reducible rfl
 rotate_left
 ·simp only [Act.put, List.setIfInBounds_toArray, List.set_cons_zero, List.set_cons_succ, i64_w, i32_w]; rfl
 refine take_ (i := 5) (N := some 47) (v := ?_) (a' := ?_) (lb_ 14 1663) rfl rfl (take_ofW HT_.out HW_.out (by kernel_rfl)) (fun _ _ _ h => h) (Or.inl ⟨by rfl, ?_⟩) hHeld ?_ ?_; rotate_left
 ·rintro w' ⟨s0, s1, s2, s3⟩; go_simp; with_reducible rfl
 rotate_left
 ·simp only [Act.put, List.setIfInBounds_toArray, List.set_cons_zero, List.set_cons_succ, i64_w, i32_w]; rfl
 refine pure_ (i := 7) (N := some 49) (v := ?_) (a' := ?_) (lb_ 14 1791) rfl rfl (any_of HT_.out (by kernel_rfl)) (fun _ _ _ h => h) (Or.inl ⟨by rfl, ?_⟩) ?_ ?_; rotate_left
 ·intro w'; go_simp; with_reducible rfl
 rotate_left
 ·simp only [Act.put, List.setIfInBounds_toArray, List.set_cons_zero, List.set_cons_succ, i64_w, i32_w]; rfl
 refine take_ (i := 8) (N := some 50) (v := ?_) (a' := ?_) (lb_ 14 2047) rfl rfl (take_ofW HT_.out HW_.out (by kernel_rfl)) (fun _ _ _ h => h) (Or.inl ⟨by rfl, ?_⟩) hHeld ?_ ?_; rotate_left
 ·rintro w' ⟨s0, s1, s2, s3⟩; go_simp; with_reducible rfl
 rotate_left
 ·simp only [Act.put, List.setIfInBounds_toArray, List.set_cons_zero, List.set_cons_succ, i64_w, i32_w]; rfl
 refine take_ (i := 11) (N := some 53) (v := ?_) (a' := ?_) (lb_ 14 4095) rfl rfl (take_ofW HT_.out HW_.out (by kernel_rfl)) (fun _ _ _ h => h) (Or.inl ⟨by rfl, ?_⟩) hHeld ?_ ?_; rotate_left
 ·rintro w' ⟨s0, s1, s2, s3⟩; go_simp; with_reducible rfl
 rotate_left
 ·simp only [Act.put, List.setIfInBounds_toArray, List.set_cons_zero, List.set_cons_succ, i64_w, i32_w]; rfl
 refine pure_ (i := 12) (N := some 54) (v := ?_) (a' := ?_) (lb_ 14 8191) rfl rfl (any_of HT_.out (by kernel_rfl)) (fun _ _ _ h => h) (Or.inl ⟨by rfl, ?_⟩) ?_ ?_; rotate_left
 ·intro w'; go_simp; with_reducible rfl
 rotate_left
 ·simp only [Act.put, List.setIfInBounds_toArray, List.set_cons_zero, List.set_cons_succ, i64_w, i32_w]; rfl
 refine pure_ (i := 13) (N := some 55) (v := ?_) (a' := ?_) (lb_ 14 16383) rfl rfl (any_of HT_.out (by kernel_rfl)) (fun _ _ _ h => h) (Or.inl ⟨by rfl, ?_⟩) ?_ ?_; rotate_left
 ·intro w'; go_simp; with_reducible rfl
 rotate_left
 ·simp only [Act.put, List.setIfInBounds_toArray, List.set_cons_zero, List.set_cons_succ, i64_w, i32_w]; rfl
 refine done_ (done_of HT_.out (by kernel_rfl)) ?_
 clear HX6
 obtain ⟨c3_0, c3_1, c3_2, c3_3, c3_4, c3_5, c3_6, c3_7, c3_8, c3_9⟩ := blkc10 B3.out
 obtain ⟨c6_0, c6_1, c6_2, c6_3, c6_4, c6_5, c6_6, c6_7, c6_8, c6_9⟩ := blkc10 B6.out
 obtain ⟨f6_0, f6_1, f6_2, f6_3, f6_4, f6_5, f6_6, f6_7, f6_8, f6_9⟩ := blkf10 B6.out
 obtain ⟨f3_0, f3_1, f3_2, f3_3, f3_4, f3_5, f3_6, f3_7, f3_8, f3_9⟩ := blkf10 B3.out
 obtain ⟨c5_0, c5_1, c5_2, c5_3⟩ := blkc4 B5.out
 go_wp2_with (fail)
 obtain ⟨bs, hm⟩ := HM.out
 have hcc := HCC.out
 subst hcc
 refine bodyPost_ret (results_ctt rfl _ _ g6 32 #[.int .i64 b.c.f0, .int .i64 b.c.f1, .int .i64 b.c.f2, .int .i64 b.c.f3, .int .i64 b.c.f4, .slice A1 b.calls.length c1, .slice (some ad6) b.ins.length c6, .slice a7 b.made.length c7, .slice a8 b.ops.length c8, .slice a9 b.nodes.length c9] (0, 0) _ rfl (put10 B6.out) Try.underlying32 rfl (by kernel_rfl)) rfl ?_
 refine ⟨⟨A1, some ad6, a7, a8, a9, c1, c6, c7, c8, c9⟩, ?_, ?_, bel10 HB.out HGB6.out⟩
 ·simp [RB.called]
 ·exact ⟨MR.of (R_set10 hm B6.out (by decide)), HR0.out.m6.below (bel10 HB.out HGB6.out), HR0.out.m7.below (bel10 HB.out HGB6.out), HR0.out.m8.below (bel10 HB.out HGB6.out), HR0.out.m9.below (bel10 HB.out HGB6.out)⟩
set_option maxHeartbeats 8000000 in
set_option maxRecDepth 100000 in
theorem r_Begin_oth (b : RB) (a5 a6 a7 a8 a9 : Option Addr) (c5 c6 c7 c8 c9 : Nat) (x : S38) (i : Nat) (hi : i < b.calls.length) (hk1 : ¬ x.f0 < 1) (hk4 : ¬ 4 < x.f0) (cc : Int) (hcc : b.calls.getD i 0 = cc) (hc : ¬ cc = b.c.f4) (hb0 : 0 ≤ cc) (hb1 : cc ≤ 1000) (h8 : b.calls.length ≤ 8) (hk : ¬ x.f0 = 1) (op : Int) (hop : ∀ W, Calls Try.prog 44 #[.agg #[.int .i64 b.c.f0, .int .i64 b.c.f1, .int .i64 b.c.f2, .int .i64 b.c.f3, .int .i64 b.c.f4], .int .i64 (i : Int), .int .i64 cc] W (fun e w' => e = .returned (.int .i64 op) ∧ Below W.heap.size W w')) (hs : b.ops.length ≤ 1000000) (w : World) (h : RAt w b ⟨a5, a6, a7, a8, a9, c5, c6, c7, c8, c9⟩) :
  Calls Try.prog 37 #[.agg #[.int .i64 b.c.f0, .int .i64 b.c.f1, .int .i64 b.c.f2, .int .i64 b.c.f3, .int .i64 b.c.f4, .slice a5 b.calls.length c5, .slice a6 b.ins.length c6, .slice a7 b.made.length c7, .slice a8 b.ops.length c8, .slice a9 b.nodes.length c9], .int .i64 (i : Int), .agg #[.int .i64 x.f0, .int .u64 x.f1, .int .u64 x.f2, .int .i64 x.f3]] w fun e w' => ∃ r' : RA, e = .returned (.tuple #[.agg #[.int .i64 b.c.f0, .int .i64 b.c.f1, .int .i64 b.c.f2, .int .i64 b.c.f3, .int .i64 b.c.f4, .slice r'.a5 ((b.called i).addOp op x).calls.length r'.c5, .slice r'.a6 ((b.called i).addOp op x).ins.length r'.c6, .slice r'.a7 ((b.called i).addOp op x).made.length r'.c7, .slice r'.a8 ((b.called i).addOp op x).ops.length r'.c8, .slice r'.a9 ((b.called i).addOp op x).nodes.length r'.c9], .int .i64 op, .int .i64 0]) ∧ RAt w' ((b.called i).addOp op x) r' ∧ Below w.heap.size w w' := by
 have HR0 := Aside0.mk h
 have HB := Aside0.mk (Below.refl w.heap.size w)
 have hisb : (decide (0 ≤ (i : Int) ∧ (i : Int) < (b.calls.length : Int))) = true := decide_eq_true (by omega)
 have HI := Aside0.mk hi
 clear hi
 have HIS := Aside0.mk (fun (W : World) (h : RAt W b ⟨a5, a6, a7, a8, a9, c5, c6, c7, c8, c9⟩) => r_is b ⟨a5, a6, a7, a8, a9, c5, c6, c7, c8, c9⟩ i W h)
 rw [hisb] at HIS
 clear hisb h
 have HCC := Aside0.mk hcc
 clear hcc
 have hcb : (cc == b.c.f4) = false := beq_eq_false_iff_ne.2 hc
 have H8 := Aside0.mk h8
 clear hc h8
 have hkb : (x.f0 == 1) = false := beq_eq_false_iff_ne.2 hk
 clear hk
 have HOP := Aside0.mk hop
 have HS := Aside0.mk hs
 clear hop hs
 go_enter Try.func37, Try.ntmps37
 go_upto_region 3 with (first | ((with_reducible refine gate_dst (N := 3) rfl ?_); refine box_event ?hg (N := 3) ?hd (cs := #[.int .i64 b.c.f0, .int .i64 b.c.f1, .int .i64 b.c.f2, .int .i64 b.c.f3, .int .i64 b.c.f4, .slice a5 b.calls.length c5, .slice a6 b.ins.length c6, .slice a7 b.made.length c7, .slice a8 b.ops.length c8, .slice a9 b.nodes.length c9]) (t := 32) ?hr ?_; (case hd => rfl); (case hg => rfl); (case hr => first | (go_simp; done) | (go_simp; rfl)); intro g3 hg w3 hbox hbk; have B3 := Aside0.mk hbox; have HGB3 := Aside0.mk (show w.heap.size ≤ g3 from by rw [hg]; exact HB.out.size); have n_HB := Aside0.mk (below_step HB.out hbk); clear HB; have HB := n_HB; clear n_HB; clear hbk hbox hg) | ((with_reducible refine gate_dst (N := 5) rfl ?_); refine box_event ?hg (N := 5) ?hd (cs := #[.int .i64 x.f0, .int .u64 x.f1, .int .u64 x.f2, .int .i64 x.f3]) (t := 38) ?hr ?_; (case hd => rfl); (case hg => rfl); (case hr => first | (go_simp; done) | (go_simp; rfl)); intro g5 hg w5 hbox hbk; have B5 := Aside0.mk hbox; have HNE5 := Aside0.mk (show g3 ≠ g5 from by rw [hg]; exact Nat.ne_of_lt (blk_lt B3.out)); have HGB5 := Aside0.mk (show w.heap.size ≤ g5 from by rw [hg]; exact HB.out.size); have n_B3 := Aside0.mk (blk_below B3.out hbk); have n_HB := Aside0.mk (below_step HB.out hbk); clear B3 HB; have B3 := n_B3; have HB := n_HB; clear n_B3 n_HB; clear hbk hbox hg) | ((with_reducible refine gate_dst (N := 6) rfl ?_); refine box_event ?hg (N := 6) ?hd (cs := #[.int .i64 0, .int .i64 0, .int .i64 0, .int .i64 0, .int .i64 0, .slice none 0 0, .slice none 0 0, .slice none 0 0, .slice none 0 0, .slice none 0 0]) (t := 32) ?hr ?_; (case hd => rfl); (case hg => rfl); (case hr => first | (go_simp; done) | (go_simp; rfl)); intro g6 hg w6 hbox hbk; have B6 := Aside0.mk hbox; have HNE := Aside0.mk (show g3 ≠ g6 from by rw [hg]; exact Nat.ne_of_lt (blk_lt B3.out)); have HNE56 := Aside0.mk (show g5 ≠ g6 from by rw [hg]; exact Nat.ne_of_lt (blk_lt B5.out)); have HGB6 := Aside0.mk (show w.heap.size ≤ g6 from by rw [hg]; exact HB.out.size); have n_B3 := Aside0.mk (blk_below B3.out hbk); have n_B5 := Aside0.mk (blk_below B5.out hbk); have n_HB := Aside0.mk (below_step HB.out hbk); clear B3 B5 HB; have B3 := n_B3; have B5 := n_B5; have HB := n_HB; clear n_B3 n_B5 n_HB; obtain ⟨c3_0, c3_1, c3_2, c3_3, c3_4, c3_5, c3_6, c3_7, c3_8, c3_9⟩ := blkc10 B3.out; obtain ⟨c6_0, c6_1, c6_2, c6_3, c6_4, c6_5, c6_6, c6_7, c6_8, c6_9⟩ := blkc10 B6.out; obtain ⟨f6_0, f6_1, f6_2, f6_3, f6_4, f6_5, f6_6, f6_7, f6_8, f6_9⟩ := blkf10 B6.out; obtain ⟨f3_0, f3_1, f3_2, f3_3, f3_4, f3_5, f3_6, f3_7, f3_8, f3_9⟩ := blkf10 B3.out; obtain ⟨c5_0, c5_1, c5_2, c5_3⟩ := blkc4 B5.out; clear hbk hbox hg) | (go_at_call 30; (with_reducible refine (HIS.out _ (HR0.out.below HB.out)).mono ?_); rintro e w7 ⟨rfl, hbk⟩; have n_B3 := Aside0.mk (blk_below B3.out hbk); have n_B5 := Aside0.mk (blk_below B5.out hbk); have n_B6 := Aside0.mk (blk_below B6.out hbk); have n_HB := Aside0.mk (below_step HB.out hbk); clear B3 B5 B6 HB; have B3 := n_B3; have B5 := n_B5; have B6 := n_B6; have HB := n_HB; clear n_B3 n_B5 n_B6 n_HB; clear c3_0 c3_1 c3_2 c3_3 c3_4 c3_5 c3_6 c3_7 c3_8 c3_9; clear c6_0 c6_1 c6_2 c6_3 c6_4 c6_5 c6_6 c6_7 c6_8 c6_9; clear f6_0 f6_1 f6_2 f6_3 f6_4 f6_5 f6_6 f6_7 f6_8 f6_9; clear f3_0 f3_1 f3_2 f3_3 f3_4 f3_5 f3_6 f3_7 f3_8 f3_9; clear c5_0 c5_1 c5_2 c5_3; obtain ⟨c3_0, c3_1, c3_2, c3_3, c3_4, c3_5, c3_6, c3_7, c3_8, c3_9⟩ := blkc10 B3.out; obtain ⟨c6_0, c6_1, c6_2, c6_3, c6_4, c6_5, c6_6, c6_7, c6_8, c6_9⟩ := blkc10 B6.out; obtain ⟨f6_0, f6_1, f6_2, f6_3, f6_4, f6_5, f6_6, f6_7, f6_8, f6_9⟩ := blkf10 B6.out; obtain ⟨f3_0, f3_1, f3_2, f3_3, f3_4, f3_5, f3_6, f3_7, f3_8, f3_9⟩ := blkf10 B3.out; obtain ⟨c5_0, c5_1, c5_2, c5_3⟩ := blkc4 B5.out; clear hbk))
 obtain ⟨ad, e5, hx⟩ := int_at (HR0.out.below HB.out).h5 i HI.out HCC.out
 dsimp only at e5
 subst e5
 have hi1 : (i : Int) < (b.calls.length : Int) := by have := HI.out; omega
 go_upto_region 6 with (fail)
 clear hi1 hx
 go_upto_region 7 with (first | (go_at_call 43; (with_reducible refine (r_more (some ad) c5 b.calls i HI.out (by have := H8.out; omega) cc HCC.out (by omega) _ (HR0.out.below HB.out).h5 HR0.out.l5).mono ?_); rintro e w10 ⟨A1, c1, rfl, hM, hbk⟩; have HM := Aside0.mk hM; have n_B3 := Aside0.mk (blk_below B3.out hbk); have n_B5 := Aside0.mk (blk_below B5.out hbk); have n_B6 := Aside0.mk (blk_below B6.out hbk); have n_HB := Aside0.mk (below_step HB.out hbk); clear B3 B5 B6 HB; have B3 := n_B3; have B5 := n_B5; have B6 := n_B6; have HB := n_HB; clear n_B3 n_B5 n_B6 n_HB; clear c3_0 c3_1 c3_2 c3_3 c3_4 c3_5 c3_6 c3_7 c3_8 c3_9; clear c6_0 c6_1 c6_2 c6_3 c6_4 c6_5 c6_6 c6_7 c6_8 c6_9; clear f6_0 f6_1 f6_2 f6_3 f6_4 f6_5 f6_6 f6_7 f6_8 f6_9; clear f3_0 f3_1 f3_2 f3_3 f3_4 f3_5 f3_6 f3_7 f3_8 f3_9; clear c5_0 c5_1 c5_2 c5_3; obtain ⟨c3_0, c3_1, c3_2, c3_3, c3_4, c3_5, c3_6, c3_7, c3_8, c3_9⟩ := blkc10 B3.out; obtain ⟨c6_0, c6_1, c6_2, c6_3, c6_4, c6_5, c6_6, c6_7, c6_8, c6_9⟩ := blkc10 B6.out; obtain ⟨f6_0, f6_1, f6_2, f6_3, f6_4, f6_5, f6_6, f6_7, f6_8, f6_9⟩ := blkf10 B6.out; obtain ⟨f3_0, f3_1, f3_2, f3_3, f3_4, f3_5, f3_6, f3_7, f3_8, f3_9⟩ := blkf10 B3.out; obtain ⟨c5_0, c5_1, c5_2, c5_3⟩ := blkc4 B5.out; clear hbk hM))
 clear c3_0 c3_1 c3_2 c3_3 c3_4 c3_5 c3_6 c3_7 c3_8 c3_9
 clear c6_0 c6_1 c6_2 c6_3 c6_4 c6_5 c6_6 c6_7 c6_8 c6_9
 clear f6_0 f6_1 f6_2 f6_3 f6_4 f6_5 f6_6 f6_7 f6_8 f6_9
 clear f3_0 f3_1 f3_2 f3_3 f3_4 f3_5 f3_6 f3_7 f3_8 f3_9
 clear c5_0 c5_1 c5_2 c5_3
 obtain ⟨W6, hW6⟩ : ∃ W, w10.setCell ⟨g3, 5, none⟩ (.slice A1 b.calls.length c1) = W := ⟨_, rfl⟩
 rw [hW6]
 have n_B3 := Aside0.mk (show W6.heap[g3]? = some (.cells #[.int .i64 b.c.f0, .int .i64 b.c.f1, .int .i64 b.c.f2, .int .i64 b.c.f3, .int .i64 b.c.f4, .slice A1 b.calls.length c1, .slice a6 b.ins.length c6, .slice a7 b.made.length c7, .slice a8 b.ops.length c8, .slice a9 b.nodes.length c9] 32 (0, 0)) from by rw [← hW6]; exact blk_put B3.out 5 _ rfl)
 have n_B5 := Aside0.mk (show W6.heap[g5]? = some (.cells #[.int .i64 x.f0, .int .u64 x.f1, .int .u64 x.f2, .int .i64 x.f3] 38 (0, 0)) from by rw [← hW6]; exact cel_far B5.out (Ne.symm HNE5.out) _)
 have n_B6 := Aside0.mk (show W6.heap[g6]? = some (.cells #[.int .i64 0, .int .i64 0, .int .i64 0, .int .i64 0, .int .i64 0, .slice none 0 0, .slice none 0 0, .slice none 0 0, .slice none 0 0, .slice none 0 0] 32 (0, 0)) from by rw [← hW6]; exact cel_far B6.out (Ne.symm HNE.out) _)
 have n_HM := Aside0.mk (show ∃ base, Kd.R (Kd.int .i64) 3 W6 base (fun _ => True) (.slice A1 b.calls.length c1) (b.calls.set i (cc + 1)) from by rw [← hW6]; exact ⟨_, Kd.R_set HM.out B3.out (by decide) 5 _⟩)
 have n_HB := Aside0.mk (show Below w.heap.size w W6 from by rw [← hW6]; exact HB.out.setCell (p := ⟨g3, 5, none⟩) HGB3.out _)
 clear hW6 B3 B5 B6 HM HB
 have B3 := n_B3
 have B5 := n_B5
 have B6 := n_B6
 have HM := n_HM
 have HB := n_HB
 clear n_B3 n_B5 n_B6 n_HM n_HB
 have n_B3 := Aside0.mk (blk_drew B3.out)
 have n_B5 := Aside0.mk (blk_drew B5.out)
 have n_B6 := Aside0.mk (blk_drew B6.out)
 have n_HB := Aside0.mk (below_drew1 HB.out)
 have n_HM := Aside0.mk (Exists.imp (fun bs hm => Kd.R_drew hm) HM.out)
 clear B3 B5 B6 HB HM
 have B3 := n_B3
 have B5 := n_B5
 have B6 := n_B6
 have HB := n_HB
 have HM := n_HM
 clear n_B3 n_B5 n_B6 n_HB n_HM
 refine start_ (n := 14) (S := fun w' => w'.cell? ⟨g5, 0, none⟩ = some (.int .i64 x.f0)) (ds := []) #[false, false, false, false, false, false, false, false, false, false, false, false, false, false] (by kernel_rfl) rfl rfl (((blk_cell B5.out 0).trans rfl)) (fun hHeld => ?_); refine with_tabW r_Begin.tab7 r_Begin.bits7 (fun HT_ HW_ => ?_)
 generalize W6.drew = W1 at B3 B5 B6 HB HM hHeld ⊢
 refine pure_ (i := 0) (N := some 42) (v := ?_) (a' := ?_) (lb_ 14 1) rfl rfl (any_of HT_.out (by kernel_rfl)) (fun _ _ _ h => h) (Or.inl ⟨by rfl, ?_⟩) ?_ ?_; rotate_left
 ·intro w'; go_simp; with_reducible rfl
 rotate_left
 ·simp only [Act.put, List.setIfInBounds_toArray, List.set_cons_zero, List.set_cons_succ, i64_w, i32_w]; rfl
 refine take_ (i := 1) (N := some 43) (v := ?_) (a' := ?_) (lb_ 14 3) rfl rfl (take_ofW HT_.out HW_.out (by kernel_rfl)) (fun _ _ _ h => h) (Or.inl ⟨by rfl, ?_⟩) hHeld ?_ ?_; rotate_left
 ·intro w' s0; go_simp; with_reducible rfl
 rotate_left
 ·simp only [Act.put, List.setIfInBounds_toArray, List.set_cons_zero, List.set_cons_succ, i64_w, i32_w]; rfl
 refine pure_ (i := 2) (N := some 44) (v := ?_) (a' := ?_) (lb_ 14 7) rfl rfl (any_of HT_.out (by kernel_rfl)) (fun _ _ _ h => h) (Or.inl ⟨by rfl, ?_⟩) ?_ ?_; rotate_left
 ·intro w'; go_simp; with_reducible rfl
 rotate_left
 ·simp only [Act.put, List.setIfInBounds_toArray, List.set_cons_zero, List.set_cons_succ, i64_w, i32_w]; rfl
 refine pure_ (i := 3) (N := some 45) (v := ?_) (a' := ?_) (lb_ 14 15) rfl rfl (any_of HT_.out (by kernel_rfl)) (fun _ _ _ h => h) (Or.inl ⟨by rfl, ?_⟩) ?_ ?_; rotate_left
 ·intro w'; go_simp; with_reducible rfl
 rotate_left
 ·simp only [Act.put, List.setIfInBounds_toArray, List.set_cons_zero, List.set_cons_succ, i64_w, i32_w]; rfl
 refine pure_ (i := 4) (N := some 46) (v := undef) (a' := ?_) (lb_ 14 31) rfl rfl (any_of HT_.out (by kernel_rfl)) (fun _ _ _ h => h) (Or.inr ⟨by rfl, rfl⟩) ?_ ?_; rotate_left
 ·simp only [Act.put, List.setIfInBounds_toArray, List.set_cons_zero, List.set_cons_succ, i64_w, i32_w]; rfl
 refine pure_ (i := 5) (N := some 47) (v := undef) (a' := ?_) (lb_ 14 63) rfl rfl (any_of HT_.out (by kernel_rfl)) (fun _ _ _ h => h) (Or.inr ⟨by rfl, rfl⟩) ?_ ?_; rotate_left
 ·simp only [Act.put, List.setIfInBounds_toArray, List.set_cons_zero, List.set_cons_succ, i64_w, i32_w]; rfl
 refine pure_ (i := 6) (N := some 48) (v := undef) (a' := ?_) (lb_ 14 127) rfl rfl (any_of HT_.out (by kernel_rfl)) (fun _ _ _ h => h) (Or.inr ⟨by rfl, rfl⟩) ?_ ?_; rotate_left
 ·simp only [Act.put, List.setIfInBounds_toArray, List.set_cons_zero, List.set_cons_succ, i64_w, i32_w]; rfl
 refine pure_ (i := 7) (N := some 49) (v := undef) (a' := ?_) (lb_ 14 255) rfl rfl (any_of HT_.out (by kernel_rfl)) (fun _ _ _ h => h) (Or.inr ⟨by rfl, rfl⟩) ?_ ?_; rotate_left
 ·simp only [Act.put, List.setIfInBounds_toArray, List.set_cons_zero, List.set_cons_succ, i64_w, i32_w]; rfl
 refine pure_ (i := 8) (N := some 50) (v := undef) (a' := ?_) (lb_ 14 511) rfl rfl (any_of HT_.out (by kernel_rfl)) (fun _ _ _ h => h) (Or.inr ⟨by rfl, rfl⟩) ?_ ?_; rotate_left
 ·simp only [Act.put, List.setIfInBounds_toArray, List.set_cons_zero, List.set_cons_succ, i64_w, i32_w]; rfl
 refine pure_ (i := 9) (N := some 51) (v := undef) (a' := ?_) (lb_ 14 1023) rfl rfl (any_of HT_.out (by kernel_rfl)) (fun _ _ _ h => h) (Or.inr ⟨by rfl, rfl⟩) ?_ ?_; rotate_left
 ·simp only [Act.put, List.setIfInBounds_toArray, List.set_cons_zero, List.set_cons_succ, i64_w, i32_w]; rfl
 refine pure_ (i := 10) (N := some 52) (v := undef) (a' := ?_) (lb_ 14 2047) rfl rfl (any_of HT_.out (by kernel_rfl)) (fun _ _ _ h => h) (Or.inr ⟨by rfl, rfl⟩) ?_ ?_; rotate_left
 ·simp only [Act.put, List.setIfInBounds_toArray, List.set_cons_zero, List.set_cons_succ, i64_w, i32_w]; rfl
 refine pure_ (i := 11) (N := some 53) (v := undef) (a' := ?_) (lb_ 14 4095) rfl rfl (any_of HT_.out (by kernel_rfl)) (fun _ _ _ h => h) (Or.inr ⟨by rfl, rfl⟩) ?_ ?_; rotate_left
 ·simp only [Act.put, List.setIfInBounds_toArray, List.set_cons_zero, List.set_cons_succ, i64_w, i32_w]; rfl
 refine pure_ (i := 12) (N := some 54) (v := undef) (a' := ?_) (lb_ 14 8191) rfl rfl (any_of HT_.out (by kernel_rfl)) (fun _ _ _ h => h) (Or.inr ⟨by rfl, rfl⟩) ?_ ?_; rotate_left
 ·simp only [Act.put, List.setIfInBounds_toArray, List.set_cons_zero, List.set_cons_succ, i64_w, i32_w]; rfl
 refine pure_ (i := 13) (N := some 55) (v := ?_) (a' := ?_) (lb_ 14 16383) rfl rfl (any_of HT_.out (by kernel_rfl)) (fun _ _ _ h => h) (Or.inl ⟨by rfl, ?_⟩) ?_ ?_; rotate_left
 ·intro w'; go_simp; with_reducible rfl
 rotate_left
 ·simp only [Act.put, List.setIfInBounds_toArray, List.set_cons_zero, List.set_cons_succ, i64_w, i32_w]; rfl
 refine done_ (done_of HT_.out (by kernel_rfl)) ?_
 obtain ⟨c3_0, c3_1, c3_2, c3_3, c3_4, c3_5, c3_6, c3_7, c3_8, c3_9⟩ := blkc10 B3.out
 obtain ⟨c6_0, c6_1, c6_2, c6_3, c6_4, c6_5, c6_6, c6_7, c6_8, c6_9⟩ := blkc10 B6.out
 obtain ⟨f6_0, f6_1, f6_2, f6_3, f6_4, f6_5, f6_6, f6_7, f6_8, f6_9⟩ := blkf10 B6.out
 obtain ⟨f3_0, f3_1, f3_2, f3_3, f3_4, f3_5, f3_6, f3_7, f3_8, f3_9⟩ := blkf10 B3.out
 obtain ⟨c5_0, c5_1, c5_2, c5_3⟩ := blkc4 B5.out
 go_upto_region 12 with (first | (go_at_call 44; (with_reducible refine (HOP.out _).mono ?_); rintro e w12 ⟨rfl, hbk⟩; have n_B3 := Aside0.mk (blk_below B3.out hbk); have n_B5 := Aside0.mk (blk_below B5.out hbk); have n_B6 := Aside0.mk (blk_below B6.out hbk); have n_HB := Aside0.mk (below_step HB.out hbk); have n_HM := Aside0.mk (Exists.imp (fun bs hm => Kd.R_below hm hbk) HM.out); clear B3 B5 B6 HB HM; have B3 := n_B3; have B5 := n_B5; have B6 := n_B6; have HB := n_HB; have HM := n_HM; clear n_B3 n_B5 n_B6 n_HB n_HM; clear c3_0 c3_1 c3_2 c3_3 c3_4 c3_5 c3_6 c3_7 c3_8 c3_9; clear c6_0 c6_1 c6_2 c6_3 c6_4 c6_5 c6_6 c6_7 c6_8 c6_9; clear f6_0 f6_1 f6_2 f6_3 f6_4 f6_5 f6_6 f6_7 f6_8 f6_9; clear f3_0 f3_1 f3_2 f3_3 f3_4 f3_5 f3_6 f3_7 f3_8 f3_9; clear c5_0 c5_1 c5_2 c5_3; obtain ⟨c3_0, c3_1, c3_2, c3_3, c3_4, c3_5, c3_6, c3_7, c3_8, c3_9⟩ := blkc10 B3.out; obtain ⟨c6_0, c6_1, c6_2, c6_3, c6_4, c6_5, c6_6, c6_7, c6_8, c6_9⟩ := blkc10 B6.out; obtain ⟨f6_0, f6_1, f6_2, f6_3, f6_4, f6_5, f6_6, f6_7, f6_8, f6_9⟩ := blkf10 B6.out; obtain ⟨f3_0, f3_1, f3_2, f3_3, f3_4, f3_5, f3_6, f3_7, f3_8, f3_9⟩ := blkf10 B3.out; obtain ⟨c5_0, c5_1, c5_2, c5_3⟩ := blkc4 B5.out; clear hbk))
 clear c3_0 c3_1 c3_2 c3_3 c3_4 c3_5 c3_6 c3_7 c3_8 c3_9
 clear c6_0 c6_1 c6_2 c6_3 c6_4 c6_5 c6_6 c6_7 c6_8 c6_9
 clear f6_0 f6_1 f6_2 f6_3 f6_4 f6_5 f6_6 f6_7 f6_8 f6_9
 clear f3_0 f3_1 f3_2 f3_3 f3_4 f3_5 f3_6 f3_7 f3_8 f3_9
 clear c5_0 c5_1 c5_2 c5_3
 have n_B3 := Aside0.mk (blk_drew B3.out)
 have n_B5 := Aside0.mk (blk_drew B5.out)
 have n_B6 := Aside0.mk (blk_drew B6.out)
 have n_HB := Aside0.mk (below_drew1 HB.out)
 have n_HM := Aside0.mk (Exists.imp (fun bs hm => Kd.R_drew hm) HM.out)
 clear B3 B5 B6 HB HM
 have B3 := n_B3
 have B5 := n_B5
 have B6 := n_B6
 have HB := n_HB
 have HM := n_HM
 clear n_B3 n_B5 n_B6 n_HB n_HM
 refine start_ (n := 11) (S := fun w' => w'.cell? ⟨g3, 8, none⟩ = some (.slice a8 b.ops.length c8) ∧ w'.cell? ⟨g5, 0, none⟩ = some (.int .i64 x.f0) ∧ w'.cell? ⟨g5, 1, none⟩ = some (.int .u64 x.f1) ∧ w'.cell? ⟨g5, 2, none⟩ = some (.int .u64 x.f2) ∧ w'.cell? ⟨g5, 3, none⟩ = some (.int .i64 x.f3)) (ds := [10]) #[false, false, false, false, false, false, false, false, false, false, false] (by kernel_rfl) rfl rfl ⟨((blk_cell B3.out 8).trans rfl), ((blk_cell B5.out 0).trans rfl), ((blk_cell B5.out 1).trans rfl), ((blk_cell B5.out 2).trans rfl), ((blk_cell B5.out 3).trans rfl)⟩ (fun hHeld => ?_); refine with_tabW r_Begin.tab12 r_Begin.bits12 (fun HT_ HW_ => ?_)
 generalize w12.drew = W1 at B3 B5 B6 HB HM hHeld ⊢
 refine pure_ (i := 1) (N := some 71) (v := ?_) (a' := ?_) (lb_ 11 2) rfl rfl (any_of HT_.out (by kernel_rfl)) (fun _ _ _ h => h) (Or.inl ⟨by rfl, ?_⟩) ?_ ?_; rotate_left
 ·intro w'; go_simp; with_reducible rfl
 rotate_left
 ·simp only [Act.put, List.setIfInBounds_toArray, List.set_cons_zero, List.set_cons_succ, i64_w, i32_w]; rfl
 refine pure_ (i := 4) (N := some 74) (v := ?_) (a' := ?_) (lb_ 11 18) rfl rfl (any_of HT_.out (by kernel_rfl)) (fun _ _ _ h => h) (Or.inl ⟨by rfl, ?_⟩) ?_ ?_; rotate_left
 ·intro w'; go_simp; with_reducible rfl
 rotate_left
 ·simp only [Act.put, List.setIfInBounds_toArray, List.set_cons_zero, List.set_cons_succ, i64_w, i32_w]; rfl
 refine take_ (i := 2) (N := some 72) (v := ?_) (a' := ?_) (lb_ 11 22) rfl rfl (take_ofW HT_.out HW_.out (by kernel_rfl)) (fun _ _ _ h => h) (Or.inl ⟨by rfl, ?_⟩) hHeld ?_ ?_; rotate_left
 ·rintro w' ⟨s0, s1, s2, s3, s4⟩; go_simp; with_reducible rfl
 rotate_left
 ·simp only [Act.put, List.setIfInBounds_toArray, List.set_cons_zero, List.set_cons_succ, i64_w, i32_w]; rfl
 refine take_ (i := 5) (N := some 75) (v := ?_) (a' := ?_) (lb_ 11 54) rfl rfl (take_ofW HT_.out HW_.out (by kernel_rfl)) (fun _ _ _ h => h) (Or.inl ⟨by rfl, ?_⟩) hHeld ?_ ?_; rotate_left
 ·rintro w' ⟨s0, s1, s2, s3, s4⟩; go_simp; with_reducible rfl
 rotate_left
 ·simp only [Act.put, List.setIfInBounds_toArray, List.set_cons_zero, List.set_cons_succ, i64_w, i32_w]; rfl
 refine pure_ (i := 6) (N := some 76) (v := ?_) (a' := ?_) (lb_ 11 118) rfl rfl (any_of HT_.out (by kernel_rfl)) (fun _ _ _ h => h) (Or.inl ⟨by rfl, ?_⟩) ?_ ?_; rotate_left
 ·intro w'; go_simp; with_reducible rfl
 rotate_left
 ·simp only [Act.put, List.setIfInBounds_toArray, List.set_cons_zero, List.set_cons_succ, i64_w, i32_w]; rfl
 refine join_ (σ := Value × Value × Nat) 3 (lb_ 11 255) (fun s => [(70, s.1), (73, s.2.1), (77, .slice (some ⟨s.2.2, 0, none⟩) 1 1)]) (fun s w' => Aside0 (w'.heap[g3]? = some (.cells #[.int .i64 b.c.f0, .int .i64 b.c.f1, .int .i64 b.c.f2, .int .i64 b.c.f3, .int .i64 b.c.f4, .slice A1 b.calls.length c1, .slice a6 b.ins.length c6, .slice a7 b.made.length c7, .slice a8 b.ops.length c8, .slice a9 b.nodes.length c9] 32 (0, 0))) ∧ Aside0 (w'.heap[g5]? = some (.cells #[.int .i64 x.f0, .int .u64 x.f1, .int .u64 x.f2, .int .i64 x.f3] 38 (0, 0))) ∧ Aside0 (w'.heap[g6]? = some (.cells #[.int .i64 0, .int .i64 0, .int .i64 0, .int .i64 0, .int .i64 0, .slice none 0 0, .slice none 0 0, .slice none 0 0, .slice none 0 0, .slice none 0 0] 32 (0, 0))) ∧ Aside0 (∃ base, Kd.R (Kd.int .i64) 3 w' base (fun _ => True) (.slice A1 b.calls.length c1) (b.calls.set i (cc + 1))) ∧ Aside0 (Below w.heap.size w w') ∧ Aside0 (Kd.R k60 60 w' w.heap.size (fun k_ => w.heap.size ≤ k_) s.2.1 b.ops) ∧ Aside0 (w'.heap[s.2.2]? = some (.cells #[.int .i64 op, .int .i64 x.f0, .int .u64 x.f1, .int .u64 x.f2, .int .i64 x.f3] 60 (0, 0)))) ?_ ?_
 rotate_left
 ·intro hCont
  refine two_ (i := 0) (j := 7) (Ni := some 70) (Nj := some 77) (lb_ 11 119) (lb_ 11 246) rfl rfl rfl rfl (two_of HT_.out (by kernel_rfl)) (by decide) (by decide) (fun K hK => ?_) (fun K hK => ?_)
  ·skip
   refine Kd.R_lit_step k60 (w0 := w) w.heap.size 60 (by rfl) (N := 70) rfl (xs := ([] : List S60)) (inner := []) (ok := (fun k_ => w.heap.size ≤ k_)) (okp := fun _ => False) (by first | (go_simp; done) | (go_simp; rfl)) (Reps.none _ _) (fun _ hk => hk.elim) HB.out.size HB.out HB.out.size (by simp) ?_
   intro v70 w120 q1 hbb gr _
   have hbk := grown_none gr
   have HN := Aside0.mk q1
   have n_B3 := Aside0.mk ((hbk.block g3 (blk_lt B3.out)).trans B3.out)
   have n_B5 := Aside0.mk ((hbk.block g5 (blk_lt B5.out)).trans B5.out)
   have n_B6 := Aside0.mk ((hbk.block g6 (blk_lt B6.out)).trans B6.out)
   have n_HM := Aside0.mk (show ∃ base, Kd.R (Kd.int .i64) 3 w120 base (fun _ => True) (.slice A1 b.calls.length c1) (b.calls.set i (cc + 1)) from Exists.imp (fun bs hm => Kd.R_below hm hbk) HM.out)
   have n_HB := Aside0.mk hbb
   clear q1 hbb gr hbk
   clear B3 B5 B6 HM HB
   have B3 := n_B3
   have B5 := n_B5
   have B6 := n_B6
   have HM := n_HM
   have HB := n_HB
   clear n_B3 n_B5 n_B6 n_HM n_HB
   refine hK.out _ _ ⟨((blk_cell B3.out 8).trans rfl), ((blk_cell B5.out 0).trans rfl), ((blk_cell B5.out 1).trans rfl), ((blk_cell B5.out 2).trans rfl), ((blk_cell B5.out 3).trans rfl)⟩ (fun hHeld => ?_)
   clear hK K
   refine norm_ (a' := ?_) ?_ ?_
   rotate_left
   ·show Act.put _ (some 70) _ = _
    simp only [Act.put, List.setIfInBounds_toArray, List.set_cons_zero, List.set_cons_succ, i64_w, i32_w]
    rfl
   refine two_ (i := 3) (j := 7) (Ni := some 73) (Nj := some 77) (lb_ 11 127) (lb_ 11 247) rfl rfl rfl rfl (two_of HT_.out (by kernel_rfl)) (by decide) (by decide) (fun K hK => ?_) (fun K hK => ?_)
   ·skip
    refine Kd.R_append_rows_step k60 (w0 := w) w.heap.size (by rfl) (.tmp 70) (.tmp 72) 29 60 (.agg #[.int .i64 0, .int .i64 0, .int .u64 0, .int .u64 0, .int .i64 0]) 40 rfl Try.underlying29 bkinfo60 rfl (by decide) (by decide) v70 [] b.ops a8 b.ops.length c8 (fun k_ => w.heap.size ≤ k_) (fun _ => False) (by rfl) (by rfl) HN.out (show ReadsRow (k60.K w120) k60.sz w120 a8 b.ops.length b.ops from Kd.C_below HR0.out.h8 HB.out) (fun x_ cs_ h_ => k60_KM w120 w.heap.size x_ cs_ h_) (fun _ h_ => h_.elim) (fun k_ hk => Nat.le_trans HB.out.size hk) HB.out HB.out.size (by have := HS.out; simp; omega) ?_
    intro v73 w123 q1 hbb gr _
    have HN2 := Aside0.mk (show Kd.R k60 60 w123 w.heap.size (fun k_ => w.heap.size ≤ k_) v73 b.ops from q1)
    have n_B3 := Aside0.mk ((gr.block g3 (blk_lt B3.out) (Kd.R_ne HN.out B3.out (by decide))).trans B3.out)
    have n_B5 := Aside0.mk ((gr.block g5 (blk_lt B5.out) (Kd.R_ne HN.out B5.out (by decide))).trans B5.out)
    have n_B6 := Aside0.mk ((gr.block g6 (blk_lt B6.out) (Kd.R_ne HN.out B6.out (by decide))).trans B6.out)
    have n_HM := Aside0.mk (show ∃ base, Kd.R (Kd.int .i64) 3 w123 base (fun _ => True) (.slice A1 b.calls.length c1) (b.calls.set i (cc + 1)) from Exists.imp (fun bs hm => Kd.R_mono (Kd.R_grown (Kd.R_apartR hm HN.out (by decide)) gr (fun k hk => hk.2)) (fun _ _ => trivial)) HM.out)
    have n_HB := Aside0.mk hbb
    clear q1 hbb gr HN
    clear B3 B5 B6 HM HB
    have B3 := n_B3
    have B5 := n_B5
    have B6 := n_B6
    have HM := n_HM
    have HB := n_HB
    clear n_B3 n_B5 n_B6 n_HM n_HB
    refine hK.out _ _ ⟨((blk_cell B3.out 8).trans rfl), ((blk_cell B5.out 0).trans rfl), ((blk_cell B5.out 1).trans rfl), ((blk_cell B5.out 2).trans rfl), ((blk_cell B5.out 3).trans rfl)⟩ (fun hHeld => ?_)
    clear hK K
    refine norm_ (a' := ?_) ?_ ?_
    rotate_left
    ·show Act.put _ (some 73) _ = _
     simp only [Act.put, List.setIfInBounds_toArray, List.set_cons_zero, List.set_cons_succ, i64_w, i32_w]
     rfl
    refine one_ (i := 7) (N := some 77) (lb_ 11 255) rfl rfl (one_of HT_.out (by kernel_rfl)) (by decide) (fun K hK => ?_)
    refine value_ (w1 := ?_) (v := ?_) (by rfl) rfl ?_ ?_
    rotate_left 2
    ·go_simp
     constructor
     ·rfl
     ·rfl
    have hbk : Below w123.heap.size w123 (w123.alloc (.cells #[.int .i64 op, .int .i64 x.f0, .int .u64 x.f1, .int .u64 x.f2, .int .i64 x.f3] 60)) := below_alloc (Below.refl _ _) _
    have hbb := below_step HB.out hbk
    have n_B3 := Aside0.mk ((hbk.block g3 (blk_lt B3.out)).trans B3.out)
    have n_B5 := Aside0.mk ((hbk.block g5 (blk_lt B5.out)).trans B5.out)
    have n_B6 := Aside0.mk ((hbk.block g6 (blk_lt B6.out)).trans B6.out)
    have n_HM := Aside0.mk (show ∃ base, Kd.R (Kd.int .i64) 3 (w123.alloc (.cells #[.int .i64 op, .int .i64 x.f0, .int .u64 x.f1, .int .u64 x.f2, .int .i64 x.f3] 60)) base (fun _ => True) (.slice A1 b.calls.length c1) (b.calls.set i (cc + 1)) from Exists.imp (fun bs hm => Kd.R_below hm hbk) HM.out)
    have n_HB := Aside0.mk hbb
    have B7 := Aside0.mk (blk_new w123 (.cells #[.int .i64 op, .int .i64 x.f0, .int .u64 x.f1, .int .u64 x.f2, .int .i64 x.f3] 60))
    have n_HN2 := Aside0.mk (Kd.R_below HN2.out hbk)
    clear hbk hbb
    clear B3 B5 B6 HM HB HN2
    have B3 := n_B3
    have B5 := n_B5
    have B6 := n_B6
    have HM := n_HM
    have HB := n_HB
    have HN2 := n_HN2
    clear n_B3 n_B5 n_B6 n_HM n_HB n_HN2
    generalize w123.alloc (.cells #[.int .i64 op, .int .i64 x.f0, .int .u64 x.f1, .int .u64 x.f2, .int .i64 x.f3] 60) = w127 at B3 B5 B6 HM HB HN2 B7 ⊢
    generalize w123.heap.size = g77 at B7  ⊢
    refine hK.out _ _ ⟨((blk_cell B3.out 8).trans rfl), ((blk_cell B5.out 0).trans rfl), ((blk_cell B5.out 1).trans rfl), ((blk_cell B5.out 2).trans rfl), ((blk_cell B5.out 3).trans rfl)⟩ (fun hHeld => ?_)
    clear hK K
    refine norm_ (a' := ?_) ?_ ?_
    rotate_left
    ·show Act.put _ (some 77) _ = _
     simp only [Act.put, List.setIfInBounds_toArray, List.set_cons_zero, List.set_cons_succ, i64_w, i32_w]
     rfl
    exact norm_ (by simp only [putAll, Act.put, List.setIfInBounds_toArray, List.set_cons_zero, List.set_cons_succ]) (hCont (v70, v73, g77) _ ⟨B3, B5, B6, HM, HB, HN2, B7⟩)
   ·skip
    refine value_ (w1 := ?_) (v := ?_) (by rfl) rfl ?_ ?_
    rotate_left 2
    ·go_simp
     constructor
     ·rfl
     ·rfl
    have hbk : Below w120.heap.size w120 (w120.alloc (.cells #[.int .i64 op, .int .i64 x.f0, .int .u64 x.f1, .int .u64 x.f2, .int .i64 x.f3] 60)) := below_alloc (Below.refl _ _) _
    have hbb := below_step HB.out hbk
    have n_B3 := Aside0.mk ((hbk.block g3 (blk_lt B3.out)).trans B3.out)
    have n_B5 := Aside0.mk ((hbk.block g5 (blk_lt B5.out)).trans B5.out)
    have n_B6 := Aside0.mk ((hbk.block g6 (blk_lt B6.out)).trans B6.out)
    have n_HM := Aside0.mk (show ∃ base, Kd.R (Kd.int .i64) 3 (w120.alloc (.cells #[.int .i64 op, .int .i64 x.f0, .int .u64 x.f1, .int .u64 x.f2, .int .i64 x.f3] 60)) base (fun _ => True) (.slice A1 b.calls.length c1) (b.calls.set i (cc + 1)) from Exists.imp (fun bs hm => Kd.R_below hm hbk) HM.out)
    have n_HB := Aside0.mk hbb
    have B7 := Aside0.mk (blk_new w120 (.cells #[.int .i64 op, .int .i64 x.f0, .int .u64 x.f1, .int .u64 x.f2, .int .i64 x.f3] 60))
    have HN7 := Aside0.mk (show some w120.heap.size ≠ v70.ownBlock from Kd.R_ne_new HN.out 0)
    have n_HN := Aside0.mk (Kd.R_below HN.out hbk)
    clear hbk hbb
    clear B3 B5 B6 HM HB HN
    have B3 := n_B3
    have B5 := n_B5
    have B6 := n_B6
    have HM := n_HM
    have HB := n_HB
    have HN := n_HN
    clear n_B3 n_B5 n_B6 n_HM n_HB n_HN
    generalize w120.alloc (.cells #[.int .i64 op, .int .i64 x.f0, .int .u64 x.f1, .int .u64 x.f2, .int .i64 x.f3] 60) = w127 at B3 B5 B6 HM HB HN B7 ⊢
    generalize w120.heap.size = g77 at B7 HN7 ⊢
    refine hK.out _ _ ⟨((blk_cell B3.out 8).trans rfl), ((blk_cell B5.out 0).trans rfl), ((blk_cell B5.out 1).trans rfl), ((blk_cell B5.out 2).trans rfl), ((blk_cell B5.out 3).trans rfl)⟩ (fun hHeld => ?_)
    clear hK K
    refine norm_ (a' := ?_) ?_ ?_
    rotate_left
    ·show Act.put _ (some 77) _ = _
     simp only [Act.put, List.setIfInBounds_toArray, List.set_cons_zero, List.set_cons_succ, i64_w, i32_w]
     rfl
    refine one_ (i := 3) (N := some 73) (lb_ 11 255) rfl rfl (one_of HT_.out (by kernel_rfl)) (by decide) (fun K hK => ?_)
    refine Kd.R_append_rows_step k60 (w0 := w) w.heap.size (by rfl) (.tmp 70) (.tmp 72) 29 60 (.agg #[.int .i64 0, .int .i64 0, .int .u64 0, .int .u64 0, .int .i64 0]) 40 rfl Try.underlying29 bkinfo60 rfl (by decide) (by decide) v70 [] b.ops a8 b.ops.length c8 (fun k_ => w.heap.size ≤ k_) (fun _ => False) (by rfl) (by rfl) HN.out (show ReadsRow (k60.K w127) k60.sz w127 a8 b.ops.length b.ops from Kd.C_below HR0.out.h8 HB.out) (fun x_ cs_ h_ => k60_KM w127 w.heap.size x_ cs_ h_) (fun _ h_ => h_.elim) (fun k_ hk => Nat.le_trans HB.out.size hk) HB.out HB.out.size (by have := HS.out; simp; omega) ?_
    intro v73 w123 q1 hbb gr _
    have HN2 := Aside0.mk (show Kd.R k60 60 w123 w.heap.size (fun k_ => w.heap.size ≤ k_) v73 b.ops from q1)
    have n_B3 := Aside0.mk ((gr.block g3 (blk_lt B3.out) (Kd.R_ne HN.out B3.out (by decide))).trans B3.out)
    have n_B5 := Aside0.mk ((gr.block g5 (blk_lt B5.out) (Kd.R_ne HN.out B5.out (by decide))).trans B5.out)
    have n_B6 := Aside0.mk ((gr.block g6 (blk_lt B6.out) (Kd.R_ne HN.out B6.out (by decide))).trans B6.out)
    have n_HM := Aside0.mk (show ∃ base, Kd.R (Kd.int .i64) 3 w123 base (fun _ => True) (.slice A1 b.calls.length c1) (b.calls.set i (cc + 1)) from Exists.imp (fun bs hm => Kd.R_mono (Kd.R_grown (Kd.R_apartR hm HN.out (by decide)) gr (fun k hk => hk.2)) (fun _ _ => trivial)) HM.out)
    have n_HB := Aside0.mk hbb
    have n_B7 := Aside0.mk ((gr.block g77 (blk_lt B7.out) HN7.out).trans B7.out)
    clear q1 hbb gr HN
    clear B3 B5 B6 HM HB B7
    have B3 := n_B3
    have B5 := n_B5
    have B6 := n_B6
    have HM := n_HM
    have HB := n_HB
    have B7 := n_B7
    clear n_B3 n_B5 n_B6 n_HM n_HB n_B7
    clear HN7
    refine hK.out _ _ ⟨((blk_cell B3.out 8).trans rfl), ((blk_cell B5.out 0).trans rfl), ((blk_cell B5.out 1).trans rfl), ((blk_cell B5.out 2).trans rfl), ((blk_cell B5.out 3).trans rfl)⟩ (fun hHeld => ?_)
    clear hK K
    refine norm_ (a' := ?_) ?_ ?_
    rotate_left
    ·show Act.put _ (some 73) _ = _
     simp only [Act.put, List.setIfInBounds_toArray, List.set_cons_zero, List.set_cons_succ, i64_w, i32_w]
     rfl
    exact norm_ (by simp only [putAll, Act.put, List.setIfInBounds_toArray, List.set_cons_zero, List.set_cons_succ]) (hCont (v70, v73, g77) _ ⟨B3, B5, B6, HM, HB, HN2, B7⟩)
  ·skip
   refine value_ (w1 := ?_) (v := ?_) (by rfl) rfl ?_ ?_
   rotate_left 2
   ·go_simp
    constructor
    ·rfl
    ·rfl
   have hbk : Below W1.heap.size W1 (W1.alloc (.cells #[.int .i64 op, .int .i64 x.f0, .int .u64 x.f1, .int .u64 x.f2, .int .i64 x.f3] 60)) := below_alloc (Below.refl _ _) _
   have hbb := below_step HB.out hbk
   have n_B3 := Aside0.mk ((hbk.block g3 (blk_lt B3.out)).trans B3.out)
   have n_B5 := Aside0.mk ((hbk.block g5 (blk_lt B5.out)).trans B5.out)
   have n_B6 := Aside0.mk ((hbk.block g6 (blk_lt B6.out)).trans B6.out)
   have n_HM := Aside0.mk (show ∃ base, Kd.R (Kd.int .i64) 3 (W1.alloc (.cells #[.int .i64 op, .int .i64 x.f0, .int .u64 x.f1, .int .u64 x.f2, .int .i64 x.f3] 60)) base (fun _ => True) (.slice A1 b.calls.length c1) (b.calls.set i (cc + 1)) from Exists.imp (fun bs hm => Kd.R_below hm hbk) HM.out)
   have n_HB := Aside0.mk hbb
   have B7 := Aside0.mk (blk_new W1 (.cells #[.int .i64 op, .int .i64 x.f0, .int .u64 x.f1, .int .u64 x.f2, .int .i64 x.f3] 60))
   clear hbk hbb
   clear B3 B5 B6 HM HB
   have B3 := n_B3
   have B5 := n_B5
   have B6 := n_B6
   have HM := n_HM
   have HB := n_HB
   clear n_B3 n_B5 n_B6 n_HM n_HB
   generalize W1.alloc (.cells #[.int .i64 op, .int .i64 x.f0, .int .u64 x.f1, .int .u64 x.f2, .int .i64 x.f3] 60) = w127 at B3 B5 B6 HM HB B7 ⊢
   generalize W1.heap.size = g77 at B7  ⊢
   refine hK.out _ _ ⟨((blk_cell B3.out 8).trans rfl), ((blk_cell B5.out 0).trans rfl), ((blk_cell B5.out 1).trans rfl), ((blk_cell B5.out 2).trans rfl), ((blk_cell B5.out 3).trans rfl)⟩ (fun hHeld => ?_)
   clear hK K
   refine norm_ (a' := ?_) ?_ ?_
   rotate_left
   ·show Act.put _ (some 77) _ = _
    simp only [Act.put, List.setIfInBounds_toArray, List.set_cons_zero, List.set_cons_succ, i64_w, i32_w]
    rfl
   refine one_ (i := 0) (N := some 70) (lb_ 11 247) rfl rfl (one_of HT_.out (by kernel_rfl)) (by decide) (fun K hK => ?_)
   refine Kd.R_lit_step k60 (w0 := w) w.heap.size 60 (by rfl) (N := 70) rfl (xs := ([] : List S60)) (inner := []) (ok := (fun k_ => w.heap.size ≤ k_)) (okp := fun _ => False) (by first | (go_simp; done) | (go_simp; rfl)) (Reps.none _ _) (fun _ hk => hk.elim) HB.out.size HB.out HB.out.size (by simp) ?_
   intro v70 w120 q1 hbb gr hnew_
   have hbk := grown_none gr
   have HN := Aside0.mk q1
   have HN7 := Aside0.mk (show some g77 ≠ v70.ownBlock from by obtain ⟨q, hq1, hq2⟩ := hnew_; rw [hq1]; intro e; injection e with e; have := blk_lt B7.out; omega)
   have n_B3 := Aside0.mk ((hbk.block g3 (blk_lt B3.out)).trans B3.out)
   have n_B5 := Aside0.mk ((hbk.block g5 (blk_lt B5.out)).trans B5.out)
   have n_B6 := Aside0.mk ((hbk.block g6 (blk_lt B6.out)).trans B6.out)
   have n_HM := Aside0.mk (show ∃ base, Kd.R (Kd.int .i64) 3 w120 base (fun _ => True) (.slice A1 b.calls.length c1) (b.calls.set i (cc + 1)) from Exists.imp (fun bs hm => Kd.R_below hm hbk) HM.out)
   have n_HB := Aside0.mk hbb
   have n_B7 := Aside0.mk ((hbk.block g77 (blk_lt B7.out)).trans B7.out)
   clear q1 hbb gr hbk hnew_
   clear B3 B5 B6 HM HB B7
   have B3 := n_B3
   have B5 := n_B5
   have B6 := n_B6
   have HM := n_HM
   have HB := n_HB
   have B7 := n_B7
   clear n_B3 n_B5 n_B6 n_HM n_HB n_B7
   refine hK.out _ _ ⟨((blk_cell B3.out 8).trans rfl), ((blk_cell B5.out 0).trans rfl), ((blk_cell B5.out 1).trans rfl), ((blk_cell B5.out 2).trans rfl), ((blk_cell B5.out 3).trans rfl)⟩ (fun hHeld => ?_)
   clear hK K
   refine norm_ (a' := ?_) ?_ ?_
   rotate_left
   ·show Act.put _ (some 70) _ = _
    simp only [Act.put, List.setIfInBounds_toArray, List.set_cons_zero, List.set_cons_succ, i64_w, i32_w]
    rfl
   refine one_ (i := 3) (N := some 73) (lb_ 11 255) rfl rfl (one_of HT_.out (by kernel_rfl)) (by decide) (fun K hK => ?_)
   refine Kd.R_append_rows_step k60 (w0 := w) w.heap.size (by rfl) (.tmp 70) (.tmp 72) 29 60 (.agg #[.int .i64 0, .int .i64 0, .int .u64 0, .int .u64 0, .int .i64 0]) 40 rfl Try.underlying29 bkinfo60 rfl (by decide) (by decide) v70 [] b.ops a8 b.ops.length c8 (fun k_ => w.heap.size ≤ k_) (fun _ => False) (by rfl) (by rfl) HN.out (show ReadsRow (k60.K w120) k60.sz w120 a8 b.ops.length b.ops from Kd.C_below HR0.out.h8 HB.out) (fun x_ cs_ h_ => k60_KM w120 w.heap.size x_ cs_ h_) (fun _ h_ => h_.elim) (fun k_ hk => Nat.le_trans HB.out.size hk) HB.out HB.out.size (by have := HS.out; simp; omega) ?_
   intro v73 w123 q1 hbb gr _
   have HN2 := Aside0.mk (show Kd.R k60 60 w123 w.heap.size (fun k_ => w.heap.size ≤ k_) v73 b.ops from q1)
   have n_B3 := Aside0.mk ((gr.block g3 (blk_lt B3.out) (Kd.R_ne HN.out B3.out (by decide))).trans B3.out)
   have n_B5 := Aside0.mk ((gr.block g5 (blk_lt B5.out) (Kd.R_ne HN.out B5.out (by decide))).trans B5.out)
   have n_B6 := Aside0.mk ((gr.block g6 (blk_lt B6.out) (Kd.R_ne HN.out B6.out (by decide))).trans B6.out)
   have n_HM := Aside0.mk (show ∃ base, Kd.R (Kd.int .i64) 3 w123 base (fun _ => True) (.slice A1 b.calls.length c1) (b.calls.set i (cc + 1)) from Exists.imp (fun bs hm => Kd.R_mono (Kd.R_grown (Kd.R_apartR hm HN.out (by decide)) gr (fun k hk => hk.2)) (fun _ _ => trivial)) HM.out)
   have n_HB := Aside0.mk hbb
   have n_B7 := Aside0.mk ((gr.block g77 (blk_lt B7.out) HN7.out).trans B7.out)
   clear q1 hbb gr HN
   clear B3 B5 B6 HM HB B7
   have B3 := n_B3
   have B5 := n_B5
   have B6 := n_B6
   have HM := n_HM
   have HB := n_HB
   have B7 := n_B7
   clear n_B3 n_B5 n_B6 n_HM n_HB n_B7
   clear HN7
   refine hK.out _ _ ⟨((blk_cell B3.out 8).trans rfl), ((blk_cell B5.out 0).trans rfl), ((blk_cell B5.out 1).trans rfl), ((blk_cell B5.out 2).trans rfl), ((blk_cell B5.out 3).trans rfl)⟩ (fun hHeld => ?_)
   clear hK K
   refine norm_ (a' := ?_) ?_ ?_
   rotate_left
   ·show Act.put _ (some 73) _ = _
    simp only [Act.put, List.setIfInBounds_toArray, List.set_cons_zero, List.set_cons_succ, i64_w, i32_w]
    rfl
   exact norm_ (by simp only [putAll, Act.put, List.setIfInBounds_toArray, List.set_cons_zero, List.set_cons_succ]) (hCont (v70, v73, g77) _ ⟨B3, B5, B6, HM, HB, HN2, B7⟩)
 clear B3 B5 B6 HM HB hHeld
 rintro ⟨v70, v73, g77⟩ w126 ⟨B3, B5, B6, HM, HB, HN2, B7⟩
 have hHeld := (show w126.cell? ⟨g3, 8, none⟩ = some (.slice a8 b.ops.length c8) ∧ w126.cell? ⟨g5, 0, none⟩ = some (.int .i64 x.f0) ∧ w126.cell? ⟨g5, 1, none⟩ = some (.int .u64 x.f1) ∧ w126.cell? ⟨g5, 2, none⟩ = some (.int .u64 x.f2) ∧ w126.cell? ⟨g5, 3, none⟩ = some (.int .i64 x.f3) from ⟨((blk_cell B3.out 8).trans rfl), ((blk_cell B5.out 0).trans rfl), ((blk_cell B5.out 1).trans rfl), ((blk_cell B5.out 2).trans rfl), ((blk_cell B5.out 3).trans rfl)⟩)
 dsimp only at HN2 B7
 refine norm_ (a' := ?_) ?_ ?_
 rotate_left
 ·simp only [putAll, Act.put, List.setIfInBounds_toArray, List.set_cons_zero, List.set_cons_succ]
  rfl
 refine one_ (i := 8) (N := some 78) (lb_ 11 511) rfl rfl (one_of HT_.out (by kernel_rfl)) (by decide) (fun K hK => ?_)
 refine Kd.R_append_rows_step k60 (w0 := w) w.heap.size (by rfl) (.tmp 73) (.tmp 77) 29 60 (.agg #[.int .i64 0, .int .i64 0, .int .u64 0, .int .u64 0, .int .i64 0]) 40 rfl Try.underlying29 bkinfo60 rfl (by decide) (by decide) v73 b.ops [(⟨op, x⟩ : S60)] (some ⟨g77, 0, none⟩) 1 1 (fun k_ => w.heap.size ≤ k_) (fun _ => False) (by rfl) (by rfl) HN2.out (show ReadsRow (k60.K w126) k60.sz w126 (some ⟨g77, 0, none⟩) 1 [(⟨op, x⟩ : S60)] from one60 B7.out) (fun x_ cs_ h_ => k60_KM w126 w.heap.size x_ cs_ h_) (fun _ h_ => h_.elim) (fun k_ hk => Nat.le_trans HB.out.size hk) HB.out HB.out.size (by have := HS.out; omega) ?_
 intro v78 w128 q1 hbb gr _
 obtain ⟨A78, c78, hv78⟩ := Kd.R_slice q1
 rw [show (b.ops ++ [(⟨op, x⟩ : S60)]).length = b.ops.length + 1 from by simp] at hv78
 subst hv78
 have HN3 := Aside0.mk q1
 have n_B3 := Aside0.mk ((gr.block g3 (blk_lt B3.out) (Kd.R_ne HN2.out B3.out (by decide))).trans B3.out)
 have n_B5 := Aside0.mk ((gr.block g5 (blk_lt B5.out) (Kd.R_ne HN2.out B5.out (by decide))).trans B5.out)
 have n_B6 := Aside0.mk ((gr.block g6 (blk_lt B6.out) (Kd.R_ne HN2.out B6.out (by decide))).trans B6.out)
 have n_HM := Aside0.mk (show ∃ base, Kd.R (Kd.int .i64) 3 w128 base (fun _ => True) (.slice A1 b.calls.length c1) (b.calls.set i (cc + 1)) from Exists.imp (fun bs hm => Kd.R_mono (Kd.R_grown (Kd.R_apartR hm HN2.out (by decide)) gr (fun k hk => hk.2)) (fun _ _ => trivial)) HM.out)
 have n_HB := Aside0.mk hbb
 clear q1 hbb gr HN2 B7
 clear B3 B5 B6 HM HB
 have B3 := n_B3
 have B5 := n_B5
 have B6 := n_B6
 have HM := n_HM
 have HB := n_HB
 clear n_B3 n_B5 n_B6 n_HM n_HB
 refine hK.out _ _ ⟨((blk_cell B3.out 8).trans rfl), ((blk_cell B5.out 0).trans rfl), ((blk_cell B5.out 1).trans rfl), ((blk_cell B5.out 2).trans rfl), ((blk_cell B5.out 3).trans rfl)⟩ (fun hHeld => ?_)
 clear hK K
 refine norm_ (a' := ?_) ?_ ?_
 rotate_left
 ·show Act.put _ (some 78) _ = _
  simp only [Act.put, List.setIfInBounds_toArray, List.set_cons_zero, List.set_cons_succ, i64_w, i32_w]
  rfl
 refine pure_ (i := 9) (N := some 79) (v := ?_) (a' := ?_) (lb_ 11 1023) rfl rfl (any_of HT_.out (by kernel_rfl)) (fun _ _ _ h => h) (Or.inl ⟨by rfl, ?_⟩) ?_ ?_; rotate_left
 ·intro w'; go_simp; with_reducible rfl
 rotate_left
 ·simp only [Act.put, List.setIfInBounds_toArray, List.set_cons_zero, List.set_cons_succ, i64_w, i32_w]; rfl
 refine last_ (i := 10) (N := none) (lb_ 11 2047) rfl rfl (one_of HT_.out (by kernel_rfl)) (by decide) (fun K hK => ?_)
 have c3_8 : w128.cell? ⟨g3, 8, none⟩ = some (.slice a8 b.ops.length c8) := (blk_cell B3.out 8).trans rfl
 have f3_8 : w128.frozen? ⟨g3, 8, none⟩ = false := blk_frozen B3.out 8
 refine skip_ (w1 := ?_) (by rfl) rfl ?_ ?_
 rotate_left
 ·go_simp
  rfl
 clear c3_8 f3_8
 refine hK.out _ _ ?_
 clear hK K
 refine done_ (done_of HT_.out (by kernel_rfl)) ?_
 obtain ⟨W9, hW9⟩ : ∃ W, w128.setCell ⟨g3, 8, none⟩ (.slice A78 (b.ops.length + 1) c78) = W := ⟨_, rfl⟩
 rw [hW9]
 have n_B3 := Aside0.mk (show W9.heap[g3]? = some (.cells #[.int .i64 b.c.f0, .int .i64 b.c.f1, .int .i64 b.c.f2, .int .i64 b.c.f3, .int .i64 b.c.f4, .slice A1 b.calls.length c1, .slice a6 b.ins.length c6, .slice a7 b.made.length c7, .slice A78 (b.ops.length + 1) c78, .slice a9 b.nodes.length c9] 32 (0, 0)) from by rw [← hW9]; exact blk_put B3.out 8 _ rfl)
 have n_B5 := Aside0.mk (show W9.heap[g5]? = some (.cells #[.int .i64 x.f0, .int .u64 x.f1, .int .u64 x.f2, .int .i64 x.f3] 38 (0, 0)) from by rw [← hW9]; exact cel_far B5.out (Ne.symm HNE5.out) _)
 have n_B6 := Aside0.mk (show W9.heap[g6]? = some (.cells #[.int .i64 0, .int .i64 0, .int .i64 0, .int .i64 0, .int .i64 0, .slice none 0 0, .slice none 0 0, .slice none 0 0, .slice none 0 0, .slice none 0 0] 32 (0, 0)) from by rw [← hW9]; exact cel_far B6.out (Ne.symm HNE.out) _)
 have n_HM := Aside0.mk (show ∃ base, Kd.R (Kd.int .i64) 3 W9 base (fun _ => True) (.slice A1 b.calls.length c1) (b.calls.set i (cc + 1)) from by rw [← hW9]; exact Exists.imp (fun bs hm => Kd.R_set hm B3.out (by decide) 8 _) HM.out)
 have n_HN3 := Aside0.mk (show Kd.R k60 60 W9 w.heap.size (fun k_ => w.heap.size ≤ k_) (.slice A78 (b.ops.length + 1) c78) (b.ops ++ [(⟨op, x⟩ : S60)]) from by rw [← hW9]; exact Kd.R_set HN3.out B3.out (by decide) 8 _)
 have n_HB := Aside0.mk (show Below w.heap.size w W9 from by rw [← hW9]; exact HB.out.setCell (p := ⟨g3, 8, none⟩) HGB3.out _)
 clear hW9 B3 B5 B6 HM HN3 HB
 have B3 := n_B3
 have B5 := n_B5
 have B6 := n_B6
 have HM := n_HM
 have HN3 := n_HN3
 have HB := n_HB
 clear n_B3 n_B5 n_B6 n_HM n_HN3 n_HB
 obtain ⟨c3_0, c3_1, c3_2, c3_3, c3_4, c3_5, c3_6, c3_7, c3_8, c3_9⟩ := blkc10 B3.out
 obtain ⟨c6_0, c6_1, c6_2, c6_3, c6_4, c6_5, c6_6, c6_7, c6_8, c6_9⟩ := blkc10 B6.out
 obtain ⟨f6_0, f6_1, f6_2, f6_3, f6_4, f6_5, f6_6, f6_7, f6_8, f6_9⟩ := blkf10 B6.out
 obtain ⟨f3_0, f3_1, f3_2, f3_3, f3_4, f3_5, f3_6, f3_7, f3_8, f3_9⟩ := blkf10 B3.out
 obtain ⟨c5_0, c5_1, c5_2, c5_3⟩ := blkc4 B5.out
 go_wp2
 obtain ⟨bs, hm⟩ := HM.out
 have hcc := HCC.out
 subst hcc
 refine bodyPost_ret (results_ctt rfl _ _ g6 32 #[.int .i64 b.c.f0, .int .i64 b.c.f1, .int .i64 b.c.f2, .int .i64 b.c.f3, .int .i64 b.c.f4, .slice A1 b.calls.length c1, .slice a6 b.ins.length c6, .slice a7 b.made.length c7, .slice A78 (b.ops.length + 1) c78, .slice a9 b.nodes.length c9] (0, 0) _ rfl (put10 B6.out) Try.underlying32 rfl (by kernel_rfl)) rfl ?_
 refine ⟨⟨A1, a6, a7, A78, a9, c1, c6, c7, c78, c9⟩, ?_, ?_, bel10 HB.out HGB6.out⟩
 ·simp [RB.called, RB.inserted, RB.addOp]
 ·exact ⟨MR.of (R_set10 hm B6.out (by decide)), HR0.out.m6.below (bel10 HB.out HGB6.out), HR0.out.m7.below (bel10 HB.out HGB6.out), MR.of (R_set10 HN3.out B6.out (by decide)), HR0.out.m9.below (bel10 HB.out HGB6.out)⟩
set_option maxHeartbeats 8000000 in
set_option maxRecDepth 100000 in
theorem r_Begin_ins (b : RB) (a5 a6 a7 a8 a9 : Option Addr) (c5 c6 c7 c8 c9 : Nat) (x : S38) (i : Nat) (hi : i < b.calls.length) (hk1 : ¬ x.f0 < 1) (hk4 : ¬ 4 < x.f0) (cc : Int) (hcc : b.calls.getD i 0 = cc) (hc : ¬ cc = b.c.f4) (hb0 : 0 ≤ cc) (hb1 : cc ≤ 1000) (h8 : b.calls.length ≤ 8) (hl6 : b.ins.length = b.calls.length) (ii : Int) (hii : b.ins.getD i 0 = ii) (hk : x.f0 = 1) (hin : ¬ ii = b.c.f2) (hd0 : 0 ≤ ii) (hd1 : ii ≤ 1000) (op : Int) (hop : ∀ W, Calls Try.prog 44 #[.agg #[.int .i64 b.c.f0, .int .i64 b.c.f1, .int .i64 b.c.f2, .int .i64 b.c.f3, .int .i64 b.c.f4], .int .i64 (i : Int), .int .i64 cc] W (fun e w' => e = .returned (.int .i64 op) ∧ Below W.heap.size W w')) (hs : b.ops.length ≤ 1000000) (w : World) (h : RAt w b ⟨a5, a6, a7, a8, a9, c5, c6, c7, c8, c9⟩) :
  Calls Try.prog 37 #[.agg #[.int .i64 b.c.f0, .int .i64 b.c.f1, .int .i64 b.c.f2, .int .i64 b.c.f3, .int .i64 b.c.f4, .slice a5 b.calls.length c5, .slice a6 b.ins.length c6, .slice a7 b.made.length c7, .slice a8 b.ops.length c8, .slice a9 b.nodes.length c9], .int .i64 (i : Int), .agg #[.int .i64 x.f0, .int .u64 x.f1, .int .u64 x.f2, .int .i64 x.f3]] w fun e w' => ∃ r' : RA, e = .returned (.tuple #[.agg #[.int .i64 b.c.f0, .int .i64 b.c.f1, .int .i64 b.c.f2, .int .i64 b.c.f3, .int .i64 b.c.f4, .slice r'.a5 (((b.called i).inserted i).addOp op x).calls.length r'.c5, .slice r'.a6 (((b.called i).inserted i).addOp op x).ins.length r'.c6, .slice r'.a7 (((b.called i).inserted i).addOp op x).made.length r'.c7, .slice r'.a8 (((b.called i).inserted i).addOp op x).ops.length r'.c8, .slice r'.a9 (((b.called i).inserted i).addOp op x).nodes.length r'.c9], .int .i64 op, .int .i64 0]) ∧ RAt w' (((b.called i).inserted i).addOp op x) r' ∧ Below w.heap.size w w' := by
 have HR0 := Aside0.mk h
 have HB := Aside0.mk (Below.refl w.heap.size w)
 have hisb : (decide (0 ≤ (i : Int) ∧ (i : Int) < (b.calls.length : Int))) = true := decide_eq_true (by omega)
 have HI := Aside0.mk hi
 clear hi
 have HIS := Aside0.mk (fun (W : World) (h : RAt W b ⟨a5, a6, a7, a8, a9, c5, c6, c7, c8, c9⟩) => r_is b ⟨a5, a6, a7, a8, a9, c5, c6, c7, c8, c9⟩ i W h)
 rw [hisb] at HIS
 clear hisb h
 have HCC := Aside0.mk hcc
 clear hcc
 have hcb : (cc == b.c.f4) = false := beq_eq_false_iff_ne.2 hc
 have H8 := Aside0.mk h8
 clear hc h8
 have HII := Aside0.mk hii
 have HL6 := Aside0.mk hl6
 have hkb : (x.f0 == 1) = true := beq_iff_eq.2 hk
 clear hk hii hl6
 have hinb : (ii == b.c.f2) = false := beq_eq_false_iff_ne.2 hin
 clear hin
 have HOP := Aside0.mk hop
 have HS := Aside0.mk hs
 clear hop hs
 go_enter Try.func37, Try.ntmps37
 go_upto_region 3 with (first | ((with_reducible refine gate_dst (N := 3) rfl ?_); refine box_event ?hg (N := 3) ?hd (cs := #[.int .i64 b.c.f0, .int .i64 b.c.f1, .int .i64 b.c.f2, .int .i64 b.c.f3, .int .i64 b.c.f4, .slice a5 b.calls.length c5, .slice a6 b.ins.length c6, .slice a7 b.made.length c7, .slice a8 b.ops.length c8, .slice a9 b.nodes.length c9]) (t := 32) ?hr ?_; (case hd => rfl); (case hg => rfl); (case hr => first | (go_simp; done) | (go_simp; rfl)); intro g3 hg w3 hbox hbk; have B3 := Aside0.mk hbox; have HGB3 := Aside0.mk (show w.heap.size ≤ g3 from by rw [hg]; exact HB.out.size); have n_HB := Aside0.mk (below_step HB.out hbk); clear HB; have HB := n_HB; clear n_HB; clear hbk hbox hg) | ((with_reducible refine gate_dst (N := 5) rfl ?_); refine box_event ?hg (N := 5) ?hd (cs := #[.int .i64 x.f0, .int .u64 x.f1, .int .u64 x.f2, .int .i64 x.f3]) (t := 38) ?hr ?_; (case hd => rfl); (case hg => rfl); (case hr => first | (go_simp; done) | (go_simp; rfl)); intro g5 hg w5 hbox hbk; have B5 := Aside0.mk hbox; have HNE5 := Aside0.mk (show g3 ≠ g5 from by rw [hg]; exact Nat.ne_of_lt (blk_lt B3.out)); have HGB5 := Aside0.mk (show w.heap.size ≤ g5 from by rw [hg]; exact HB.out.size); have n_B3 := Aside0.mk (blk_below B3.out hbk); have n_HB := Aside0.mk (below_step HB.out hbk); clear B3 HB; have B3 := n_B3; have HB := n_HB; clear n_B3 n_HB; clear hbk hbox hg) | ((with_reducible refine gate_dst (N := 6) rfl ?_); refine box_event ?hg (N := 6) ?hd (cs := #[.int .i64 0, .int .i64 0, .int .i64 0, .int .i64 0, .int .i64 0, .slice none 0 0, .slice none 0 0, .slice none 0 0, .slice none 0 0, .slice none 0 0]) (t := 32) ?hr ?_; (case hd => rfl); (case hg => rfl); (case hr => first | (go_simp; done) | (go_simp; rfl)); intro g6 hg w6 hbox hbk; have B6 := Aside0.mk hbox; have HNE := Aside0.mk (show g3 ≠ g6 from by rw [hg]; exact Nat.ne_of_lt (blk_lt B3.out)); have HNE56 := Aside0.mk (show g5 ≠ g6 from by rw [hg]; exact Nat.ne_of_lt (blk_lt B5.out)); have HGB6 := Aside0.mk (show w.heap.size ≤ g6 from by rw [hg]; exact HB.out.size); have n_B3 := Aside0.mk (blk_below B3.out hbk); have n_B5 := Aside0.mk (blk_below B5.out hbk); have n_HB := Aside0.mk (below_step HB.out hbk); clear B3 B5 HB; have B3 := n_B3; have B5 := n_B5; have HB := n_HB; clear n_B3 n_B5 n_HB; obtain ⟨c3_0, c3_1, c3_2, c3_3, c3_4, c3_5, c3_6, c3_7, c3_8, c3_9⟩ := blkc10 B3.out; obtain ⟨c6_0, c6_1, c6_2, c6_3, c6_4, c6_5, c6_6, c6_7, c6_8, c6_9⟩ := blkc10 B6.out; obtain ⟨f6_0, f6_1, f6_2, f6_3, f6_4, f6_5, f6_6, f6_7, f6_8, f6_9⟩ := blkf10 B6.out; obtain ⟨f3_0, f3_1, f3_2, f3_3, f3_4, f3_5, f3_6, f3_7, f3_8, f3_9⟩ := blkf10 B3.out; obtain ⟨c5_0, c5_1, c5_2, c5_3⟩ := blkc4 B5.out; clear hbk hbox hg) | (go_at_call 30; (with_reducible refine (HIS.out _ (HR0.out.below HB.out)).mono ?_); rintro e w7 ⟨rfl, hbk⟩; have n_B3 := Aside0.mk (blk_below B3.out hbk); have n_B5 := Aside0.mk (blk_below B5.out hbk); have n_B6 := Aside0.mk (blk_below B6.out hbk); have n_HB := Aside0.mk (below_step HB.out hbk); clear B3 B5 B6 HB; have B3 := n_B3; have B5 := n_B5; have B6 := n_B6; have HB := n_HB; clear n_B3 n_B5 n_B6 n_HB; clear c3_0 c3_1 c3_2 c3_3 c3_4 c3_5 c3_6 c3_7 c3_8 c3_9; clear c6_0 c6_1 c6_2 c6_3 c6_4 c6_5 c6_6 c6_7 c6_8 c6_9; clear f6_0 f6_1 f6_2 f6_3 f6_4 f6_5 f6_6 f6_7 f6_8 f6_9; clear f3_0 f3_1 f3_2 f3_3 f3_4 f3_5 f3_6 f3_7 f3_8 f3_9; clear c5_0 c5_1 c5_2 c5_3; obtain ⟨c3_0, c3_1, c3_2, c3_3, c3_4, c3_5, c3_6, c3_7, c3_8, c3_9⟩ := blkc10 B3.out; obtain ⟨c6_0, c6_1, c6_2, c6_3, c6_4, c6_5, c6_6, c6_7, c6_8, c6_9⟩ := blkc10 B6.out; obtain ⟨f6_0, f6_1, f6_2, f6_3, f6_4, f6_5, f6_6, f6_7, f6_8, f6_9⟩ := blkf10 B6.out; obtain ⟨f3_0, f3_1, f3_2, f3_3, f3_4, f3_5, f3_6, f3_7, f3_8, f3_9⟩ := blkf10 B3.out; obtain ⟨c5_0, c5_1, c5_2, c5_3⟩ := blkc4 B5.out; clear hbk))
 obtain ⟨ad, e5, hx⟩ := int_at (HR0.out.below HB.out).h5 i HI.out HCC.out
 dsimp only at e5
 subst e5
 have hi1 : (i : Int) < (b.calls.length : Int) := by have := HI.out; omega
 go_upto_region 6 with (fail)
 clear hi1 hx
 go_upto_region 7 with (first | (go_at_call 43; (with_reducible refine (r_more (some ad) c5 b.calls i HI.out (by have := H8.out; omega) cc HCC.out (by omega) _ (HR0.out.below HB.out).h5 HR0.out.l5).mono ?_); rintro e w10 ⟨A1, c1, rfl, hM, hbk⟩; have HM := Aside0.mk hM; have n_B3 := Aside0.mk (blk_below B3.out hbk); have n_B5 := Aside0.mk (blk_below B5.out hbk); have n_B6 := Aside0.mk (blk_below B6.out hbk); have n_HB := Aside0.mk (below_step HB.out hbk); clear B3 B5 B6 HB; have B3 := n_B3; have B5 := n_B5; have B6 := n_B6; have HB := n_HB; clear n_B3 n_B5 n_B6 n_HB; clear c3_0 c3_1 c3_2 c3_3 c3_4 c3_5 c3_6 c3_7 c3_8 c3_9; clear c6_0 c6_1 c6_2 c6_3 c6_4 c6_5 c6_6 c6_7 c6_8 c6_9; clear f6_0 f6_1 f6_2 f6_3 f6_4 f6_5 f6_6 f6_7 f6_8 f6_9; clear f3_0 f3_1 f3_2 f3_3 f3_4 f3_5 f3_6 f3_7 f3_8 f3_9; clear c5_0 c5_1 c5_2 c5_3; obtain ⟨c3_0, c3_1, c3_2, c3_3, c3_4, c3_5, c3_6, c3_7, c3_8, c3_9⟩ := blkc10 B3.out; obtain ⟨c6_0, c6_1, c6_2, c6_3, c6_4, c6_5, c6_6, c6_7, c6_8, c6_9⟩ := blkc10 B6.out; obtain ⟨f6_0, f6_1, f6_2, f6_3, f6_4, f6_5, f6_6, f6_7, f6_8, f6_9⟩ := blkf10 B6.out; obtain ⟨f3_0, f3_1, f3_2, f3_3, f3_4, f3_5, f3_6, f3_7, f3_8, f3_9⟩ := blkf10 B3.out; obtain ⟨c5_0, c5_1, c5_2, c5_3⟩ := blkc4 B5.out; clear hbk hM))
 clear c3_0 c3_1 c3_2 c3_3 c3_4 c3_5 c3_6 c3_7 c3_8 c3_9
 clear c6_0 c6_1 c6_2 c6_3 c6_4 c6_5 c6_6 c6_7 c6_8 c6_9
 clear f6_0 f6_1 f6_2 f6_3 f6_4 f6_5 f6_6 f6_7 f6_8 f6_9
 clear f3_0 f3_1 f3_2 f3_3 f3_4 f3_5 f3_6 f3_7 f3_8 f3_9
 clear c5_0 c5_1 c5_2 c5_3
 obtain ⟨W6, hW6⟩ : ∃ W, w10.setCell ⟨g3, 5, none⟩ (.slice A1 b.calls.length c1) = W := ⟨_, rfl⟩
 rw [hW6]
 have n_B3 := Aside0.mk (show W6.heap[g3]? = some (.cells #[.int .i64 b.c.f0, .int .i64 b.c.f1, .int .i64 b.c.f2, .int .i64 b.c.f3, .int .i64 b.c.f4, .slice A1 b.calls.length c1, .slice a6 b.ins.length c6, .slice a7 b.made.length c7, .slice a8 b.ops.length c8, .slice a9 b.nodes.length c9] 32 (0, 0)) from by rw [← hW6]; exact blk_put B3.out 5 _ rfl)
 have n_B5 := Aside0.mk (show W6.heap[g5]? = some (.cells #[.int .i64 x.f0, .int .u64 x.f1, .int .u64 x.f2, .int .i64 x.f3] 38 (0, 0)) from by rw [← hW6]; exact cel_far B5.out (Ne.symm HNE5.out) _)
 have n_B6 := Aside0.mk (show W6.heap[g6]? = some (.cells #[.int .i64 0, .int .i64 0, .int .i64 0, .int .i64 0, .int .i64 0, .slice none 0 0, .slice none 0 0, .slice none 0 0, .slice none 0 0, .slice none 0 0] 32 (0, 0)) from by rw [← hW6]; exact cel_far B6.out (Ne.symm HNE.out) _)
 have n_HM := Aside0.mk (show ∃ base, Kd.R (Kd.int .i64) 3 W6 base (fun _ => True) (.slice A1 b.calls.length c1) (b.calls.set i (cc + 1)) from by rw [← hW6]; exact ⟨_, Kd.R_set HM.out B3.out (by decide) 5 _⟩)
 have n_HB := Aside0.mk (show Below w.heap.size w W6 from by rw [← hW6]; exact HB.out.setCell (p := ⟨g3, 5, none⟩) HGB3.out _)
 clear hW6 B3 B5 B6 HM HB
 have B3 := n_B3
 have B5 := n_B5
 have B6 := n_B6
 have HM := n_HM
 have HB := n_HB
 clear n_B3 n_B5 n_B6 n_HM n_HB
 obtain ⟨ad6, e6, hx6⟩ := int_at (HR0.out.below HB.out).h6 i (by have := HI.out; have := HL6.out; omega) HII.out
 dsimp only at e6
 subst e6
 have HX6 := Aside0.mk hx6
 clear hx6
 have hi6 : (i : Int) < (b.ins.length : Int) := by have := HI.out; have := HL6.out; omega
 have n_B3 := Aside0.mk (blk_drew B3.out)
 have n_B5 := Aside0.mk (blk_drew B5.out)
 have n_B6 := Aside0.mk (blk_drew B6.out)
 have n_HB := Aside0.mk (below_drew1 HB.out)
 have n_HM := Aside0.mk (Exists.imp (fun bs hm => Kd.R_drew hm) HM.out)
 have n_HX6 := Aside0.mk (HX6.out)
 clear B3 B5 B6 HB HM HX6
 have B3 := n_B3
 have B5 := n_B5
 have B6 := n_B6
 have HB := n_HB
 have HM := n_HM
 have HX6 := n_HX6
 clear n_B3 n_B5 n_B6 n_HB n_HM n_HX6
 refine start_ (n := 14) (S := fun w' => w'.cell? ⟨g5, 0, none⟩ = some (.int .i64 x.f0) ∧ w'.cell? ⟨g3, 6, none⟩ = some (.slice (some ad6) b.ins.length c6) ∧ w'.cell? (ad6.add i) = some (.int .i64 ii) ∧ w'.cell? ⟨g3, 2, none⟩ = some (.int .i64 b.c.f2)) (ds := []) #[false, false, false, false, false, false, false, false, false, false, false, false, false, false] (by kernel_rfl) rfl rfl ⟨((blk_cell B5.out 0).trans rfl), ((blk_cell B3.out 6).trans rfl), HX6.out, ((blk_cell B3.out 2).trans rfl)⟩ (fun hHeld => ?_); refine with_tabW r_Begin.tab7 r_Begin.bits7 (fun HT_ HW_ => ?_)
 generalize W6.drew = W1 at B3 B5 B6 HB HM HX6 hHeld ⊢
 refine pure_ (i := 0) (N := some 42) (v := ?_) (a' := ?_) (lb_ 14 1) rfl rfl (any_of HT_.out (by kernel_rfl)) (fun _ _ _ h => h) (Or.inl ⟨by rfl, ?_⟩) ?_ ?_; rotate_left
 ·intro w'; go_simp; with_reducible rfl
 rotate_left
 ·simp only [Act.put, List.setIfInBounds_toArray, List.set_cons_zero, List.set_cons_succ, i64_w, i32_w]; rfl
 refine take_ (i := 1) (N := some 43) (v := ?_) (a' := ?_) (lb_ 14 3) rfl rfl (take_ofW HT_.out HW_.out (by kernel_rfl)) (fun _ _ _ h => h) (Or.inl ⟨by rfl, ?_⟩) hHeld ?_ ?_; rotate_left
 ·rintro w' ⟨s0, s1, s2, s3⟩; go_simp; with_reducible rfl
 rotate_left
 ·simp only [Act.put, List.setIfInBounds_toArray, List.set_cons_zero, List.set_cons_succ, i64_w, i32_w]; rfl
 refine pure_ (i := 2) (N := some 44) (v := ?_) (a' := ?_) (lb_ 14 7) rfl rfl (any_of HT_.out (by kernel_rfl)) (fun _ _ _ h => h) (Or.inl ⟨by rfl, ?_⟩) ?_ ?_; rotate_left
 ·intro w'; go_simp; with_reducible rfl
 rotate_left
 ·simp only [Act.put, List.setIfInBounds_toArray, List.set_cons_zero, List.set_cons_succ, i64_w, i32_w]; rfl
 refine pure_ (i := 3) (N := some 45) (v := ?_) (a' := ?_) (lb_ 14 15) rfl rfl (any_of HT_.out (by kernel_rfl)) (fun _ _ _ h => h) (Or.inl ⟨by rfl, ?_⟩) ?_ ?_; rotate_left
 ·intro w'; go_simp; with_reducible rfl
 rotate_left
 ·simp only [Act.put, List.setIfInBounds_toArray, List.set_cons_zero, List.set_cons_succ, i64_w, i32_w]; rfl
 refine pure_ (i := 4) (N := some 46) (v := ?_) (a' := ?_) (lb_ 14 31) rfl rfl (any_of HT_.out (by kernel_rfl)) (fun _ _ _ h => h) (Or.inl ⟨by rfl, ?_⟩) ?_ ?_; rotate_left
 ·intro w'; go_simp; with_reducible rfl
 rotate_left
 ·simp only [Act.put, List.setIfInBounds_toArray, List.set_cons_zero, List.set_cons_succ, i64_w, i32_w]; rfl
 refine pure_ (i := 6) (N := some 48) (v := ?_) (a' := ?_) (lb_ 14 95) rfl rfl (any_of HT_.out (by kernel_rfl)) (fun _ _ _ h => h) (Or.inl ⟨by rfl, ?_⟩) ?_ ?_; rotate_left
 ·intro w'; go_simp; with_reducible rfl
 rotate_left
 ·simp only [Act.put, List.setIfInBounds_toArray, List.set_cons_zero, List.set_cons_succ, i64_w, i32_w]; rfl
 refine pure_ (i := 9) (N := some 51) (v := ?_) (a' := ?_) (lb_ 14 607) rfl rfl (any_of HT_.out (by kernel_rfl)) (fun _ _ _ h => h) (Or.inl ⟨by rfl, ?_⟩) ?_ ?_; rotate_left
 ·intro w'; go_simp; with_reducible rfl
 rotate_left
 ·simp only [Act.put, List.setIfInBounds_toArray, List.set_cons_zero, List.set_cons_succ, i64_w, i32_w]; rfl
 refine pure_ (i := 10) (N := some 52) (v := ?_) (a' := ?_) (lb_ 14 1631) rfl rfl (any_of HT_.out (by kernel_rfl)) (fun _ _ _ h => h) (Or.inl ⟨by rfl, ?_⟩) ?_ ?_; rotate_left
 ·intro w'; go_simp; with_reducible rfl
 rotate_left
 ·simp only [Act.put, List.setIfInBounds_toArray, List.set_cons_zero, List.set_cons_succ, i64_w, i32_w]; rfl
 refine take_ (i := 5) (N := some 47) (v := ?_) (a' := ?_) (lb_ 14 1663) rfl rfl (take_ofW HT_.out HW_.out (by kernel_rfl)) (fun _ _ _ h => h) (Or.inl ⟨by rfl, ?_⟩) hHeld ?_ ?_; rotate_left
 ·rintro w' ⟨s0, s1, s2, s3⟩; go_simp; with_reducible rfl
 rotate_left
 ·simp only [Act.put, List.setIfInBounds_toArray, List.set_cons_zero, List.set_cons_succ, i64_w, i32_w]; rfl
 refine pure_ (i := 7) (N := some 49) (v := ?_) (a' := ?_) (lb_ 14 1791) rfl rfl (any_of HT_.out (by kernel_rfl)) (fun _ _ _ h => h) (Or.inl ⟨by rfl, ?_⟩) ?_ ?_; rotate_left
 ·intro w'; go_simp; with_reducible rfl
 rotate_left
 ·simp only [Act.put, List.setIfInBounds_toArray, List.set_cons_zero, List.set_cons_succ, i64_w, i32_w]; rfl
 refine take_ (i := 8) (N := some 50) (v := ?_) (a' := ?_) (lb_ 14 2047) rfl rfl (take_ofW HT_.out HW_.out (by kernel_rfl)) (fun _ _ _ h => h) (Or.inl ⟨by rfl, ?_⟩) hHeld ?_ ?_; rotate_left
 ·rintro w' ⟨s0, s1, s2, s3⟩; go_simp; with_reducible rfl
 rotate_left
 ·simp only [Act.put, List.setIfInBounds_toArray, List.set_cons_zero, List.set_cons_succ, i64_w, i32_w]; rfl
 refine take_ (i := 11) (N := some 53) (v := ?_) (a' := ?_) (lb_ 14 4095) rfl rfl (take_ofW HT_.out HW_.out (by kernel_rfl)) (fun _ _ _ h => h) (Or.inl ⟨by rfl, ?_⟩) hHeld ?_ ?_; rotate_left
 ·rintro w' ⟨s0, s1, s2, s3⟩; go_simp; with_reducible rfl
 rotate_left
 ·simp only [Act.put, List.setIfInBounds_toArray, List.set_cons_zero, List.set_cons_succ, i64_w, i32_w]; rfl
 refine pure_ (i := 12) (N := some 54) (v := ?_) (a' := ?_) (lb_ 14 8191) rfl rfl (any_of HT_.out (by kernel_rfl)) (fun _ _ _ h => h) (Or.inl ⟨by rfl, ?_⟩) ?_ ?_; rotate_left
 ·intro w'; go_simp; with_reducible rfl
 rotate_left
 ·simp only [Act.put, List.setIfInBounds_toArray, List.set_cons_zero, List.set_cons_succ, i64_w, i32_w]; rfl
 refine pure_ (i := 13) (N := some 55) (v := ?_) (a' := ?_) (lb_ 14 16383) rfl rfl (any_of HT_.out (by kernel_rfl)) (fun _ _ _ h => h) (Or.inl ⟨by rfl, ?_⟩) ?_ ?_; rotate_left
 ·intro w'; go_simp; with_reducible rfl
 rotate_left
 ·simp only [Act.put, List.setIfInBounds_toArray, List.set_cons_zero, List.set_cons_succ, i64_w, i32_w]; rfl
 refine done_ (done_of HT_.out (by kernel_rfl)) ?_
 clear HX6
 obtain ⟨c3_0, c3_1, c3_2, c3_3, c3_4, c3_5, c3_6, c3_7, c3_8, c3_9⟩ := blkc10 B3.out
 obtain ⟨c6_0, c6_1, c6_2, c6_3, c6_4, c6_5, c6_6, c6_7, c6_8, c6_9⟩ := blkc10 B6.out
 obtain ⟨f6_0, f6_1, f6_2, f6_3, f6_4, f6_5, f6_6, f6_7, f6_8, f6_9⟩ := blkf10 B6.out
 obtain ⟨f3_0, f3_1, f3_2, f3_3, f3_4, f3_5, f3_6, f3_7, f3_8, f3_9⟩ := blkf10 B3.out
 obtain ⟨c5_0, c5_1, c5_2, c5_3⟩ := blkc4 B5.out
 go_upto_region 11 with (first | (go_at_call 43; (with_reducible refine (r_more (some ad6) c6 b.ins i (by have := HI.out; have := HL6.out; omega) (by have := H8.out; have := HL6.out; omega) ii HII.out (by omega) _ (HR0.out.below HB.out).h6 HR0.out.l6).mono ?_); rintro e w11 ⟨A2, c2, rfl, hM, hbk⟩; have HM6 := Aside0.mk hM; have n_B3 := Aside0.mk (blk_below B3.out hbk); have n_B5 := Aside0.mk (blk_below B5.out hbk); have n_B6 := Aside0.mk (blk_below B6.out hbk); have n_HB := Aside0.mk (below_step HB.out hbk); have n_HM := Aside0.mk (Exists.imp (fun bs hm => Kd.R_below hm hbk) HM.out); clear B3 B5 B6 HB HM; have B3 := n_B3; have B5 := n_B5; have B6 := n_B6; have HB := n_HB; have HM := n_HM; clear n_B3 n_B5 n_B6 n_HB n_HM; clear c3_0 c3_1 c3_2 c3_3 c3_4 c3_5 c3_6 c3_7 c3_8 c3_9; clear c6_0 c6_1 c6_2 c6_3 c6_4 c6_5 c6_6 c6_7 c6_8 c6_9; clear f6_0 f6_1 f6_2 f6_3 f6_4 f6_5 f6_6 f6_7 f6_8 f6_9; clear f3_0 f3_1 f3_2 f3_3 f3_4 f3_5 f3_6 f3_7 f3_8 f3_9; clear c5_0 c5_1 c5_2 c5_3; obtain ⟨c3_0, c3_1, c3_2, c3_3, c3_4, c3_5, c3_6, c3_7, c3_8, c3_9⟩ := blkc10 B3.out; obtain ⟨c6_0, c6_1, c6_2, c6_3, c6_4, c6_5, c6_6, c6_7, c6_8, c6_9⟩ := blkc10 B6.out; obtain ⟨f6_0, f6_1, f6_2, f6_3, f6_4, f6_5, f6_6, f6_7, f6_8, f6_9⟩ := blkf10 B6.out; obtain ⟨f3_0, f3_1, f3_2, f3_3, f3_4, f3_5, f3_6, f3_7, f3_8, f3_9⟩ := blkf10 B3.out; obtain ⟨c5_0, c5_1, c5_2, c5_3⟩ := blkc4 B5.out; clear hbk hM))
 clear c3_0 c3_1 c3_2 c3_3 c3_4 c3_5 c3_6 c3_7 c3_8 c3_9
 clear c6_0 c6_1 c6_2 c6_3 c6_4 c6_5 c6_6 c6_7 c6_8 c6_9
 clear f6_0 f6_1 f6_2 f6_3 f6_4 f6_5 f6_6 f6_7 f6_8 f6_9
 clear f3_0 f3_1 f3_2 f3_3 f3_4 f3_5 f3_6 f3_7 f3_8 f3_9
 clear c5_0 c5_1 c5_2 c5_3
 obtain ⟨W10, hW10⟩ : ∃ W, w11.setCell ⟨g3, 6, none⟩ (.slice A2 b.ins.length c2) = W := ⟨_, rfl⟩
 rw [hW10]
 have n_B3 := Aside0.mk (show W10.heap[g3]? = some (.cells #[.int .i64 b.c.f0, .int .i64 b.c.f1, .int .i64 b.c.f2, .int .i64 b.c.f3, .int .i64 b.c.f4, .slice A1 b.calls.length c1, .slice A2 b.ins.length c2, .slice a7 b.made.length c7, .slice a8 b.ops.length c8, .slice a9 b.nodes.length c9] 32 (0, 0)) from by rw [← hW10]; exact blk_put B3.out 6 _ rfl)
 have n_B5 := Aside0.mk (show W10.heap[g5]? = some (.cells #[.int .i64 x.f0, .int .u64 x.f1, .int .u64 x.f2, .int .i64 x.f3] 38 (0, 0)) from by rw [← hW10]; exact cel_far B5.out (Ne.symm HNE5.out) _)
 have n_B6 := Aside0.mk (show W10.heap[g6]? = some (.cells #[.int .i64 0, .int .i64 0, .int .i64 0, .int .i64 0, .int .i64 0, .slice none 0 0, .slice none 0 0, .slice none 0 0, .slice none 0 0, .slice none 0 0] 32 (0, 0)) from by rw [← hW10]; exact cel_far B6.out (Ne.symm HNE.out) _)
 have n_HM := Aside0.mk (show ∃ base, Kd.R (Kd.int .i64) 3 W10 base (fun _ => True) (.slice A1 b.calls.length c1) (b.calls.set i (cc + 1)) from by rw [← hW10]; exact Exists.imp (fun bs hm => Kd.R_set hm B3.out (by decide) 6 _) HM.out)
 have n_HM6 := Aside0.mk (show ∃ base, Kd.R (Kd.int .i64) 3 W10 base (fun _ => True) (.slice A2 b.ins.length c2) (b.ins.set i (ii + 1)) from by rw [← hW10]; exact ⟨_, Kd.R_set HM6.out B3.out (by decide) 6 _⟩)
 have n_HB := Aside0.mk (show Below w.heap.size w W10 from by rw [← hW10]; exact HB.out.setCell (p := ⟨g3, 6, none⟩) HGB3.out _)
 clear hW10 B3 B5 B6 HM HM6 HB
 have B3 := n_B3
 have B5 := n_B5
 have B6 := n_B6
 have HM := n_HM
 have HM6 := n_HM6
 have HB := n_HB
 clear n_B3 n_B5 n_B6 n_HM n_HM6 n_HB
 obtain ⟨c3_0, c3_1, c3_2, c3_3, c3_4, c3_5, c3_6, c3_7, c3_8, c3_9⟩ := blkc10 B3.out
 obtain ⟨c6_0, c6_1, c6_2, c6_3, c6_4, c6_5, c6_6, c6_7, c6_8, c6_9⟩ := blkc10 B6.out
 obtain ⟨f6_0, f6_1, f6_2, f6_3, f6_4, f6_5, f6_6, f6_7, f6_8, f6_9⟩ := blkf10 B6.out
 obtain ⟨f3_0, f3_1, f3_2, f3_3, f3_4, f3_5, f3_6, f3_7, f3_8, f3_9⟩ := blkf10 B3.out
 obtain ⟨c5_0, c5_1, c5_2, c5_3⟩ := blkc4 B5.out
 go_upto_region 12 with (first | (go_at_call 44; (with_reducible refine (HOP.out _).mono ?_); rintro e w12 ⟨rfl, hbk⟩; have n_B3 := Aside0.mk (blk_below B3.out hbk); have n_B5 := Aside0.mk (blk_below B5.out hbk); have n_B6 := Aside0.mk (blk_below B6.out hbk); have n_HB := Aside0.mk (below_step HB.out hbk); have n_HM := Aside0.mk (Exists.imp (fun bs hm => Kd.R_below hm hbk) HM.out); have n_HM6 := Aside0.mk (Exists.imp (fun bs hm => Kd.R_below hm hbk) HM6.out); clear B3 B5 B6 HB HM HM6; have B3 := n_B3; have B5 := n_B5; have B6 := n_B6; have HB := n_HB; have HM := n_HM; have HM6 := n_HM6; clear n_B3 n_B5 n_B6 n_HB n_HM n_HM6; clear c3_0 c3_1 c3_2 c3_3 c3_4 c3_5 c3_6 c3_7 c3_8 c3_9; clear c6_0 c6_1 c6_2 c6_3 c6_4 c6_5 c6_6 c6_7 c6_8 c6_9; clear f6_0 f6_1 f6_2 f6_3 f6_4 f6_5 f6_6 f6_7 f6_8 f6_9; clear f3_0 f3_1 f3_2 f3_3 f3_4 f3_5 f3_6 f3_7 f3_8 f3_9; clear c5_0 c5_1 c5_2 c5_3; obtain ⟨c3_0, c3_1, c3_2, c3_3, c3_4, c3_5, c3_6, c3_7, c3_8, c3_9⟩ := blkc10 B3.out; obtain ⟨c6_0, c6_1, c6_2, c6_3, c6_4, c6_5, c6_6, c6_7, c6_8, c6_9⟩ := blkc10 B6.out; obtain ⟨f6_0, f6_1, f6_2, f6_3, f6_4, f6_5, f6_6, f6_7, f6_8, f6_9⟩ := blkf10 B6.out; obtain ⟨f3_0, f3_1, f3_2, f3_3, f3_4, f3_5, f3_6, f3_7, f3_8, f3_9⟩ := blkf10 B3.out; obtain ⟨c5_0, c5_1, c5_2, c5_3⟩ := blkc4 B5.out; clear hbk))
 clear c3_0 c3_1 c3_2 c3_3 c3_4 c3_5 c3_6 c3_7 c3_8 c3_9
 clear c6_0 c6_1 c6_2 c6_3 c6_4 c6_5 c6_6 c6_7 c6_8 c6_9
 clear f6_0 f6_1 f6_2 f6_3 f6_4 f6_5 f6_6 f6_7 f6_8 f6_9
 clear f3_0 f3_1 f3_2 f3_3 f3_4 f3_5 f3_6 f3_7 f3_8 f3_9
 clear c5_0 c5_1 c5_2 c5_3
 have n_B3 := Aside0.mk (blk_drew B3.out)
 have n_B5 := Aside0.mk (blk_drew B5.out)
 have n_B6 := Aside0.mk (blk_drew B6.out)
 have n_HB := Aside0.mk (below_drew1 HB.out)
 have n_HM := Aside0.mk (Exists.imp (fun bs hm => Kd.R_drew hm) HM.out)
 have n_HM6 := Aside0.mk (Exists.imp (fun bs hm => Kd.R_drew hm) HM6.out)
 clear B3 B5 B6 HB HM HM6
 have B3 := n_B3
 have B5 := n_B5
 have B6 := n_B6
 have HB := n_HB
 have HM := n_HM
 have HM6 := n_HM6
 clear n_B3 n_B5 n_B6 n_HB n_HM n_HM6
 refine start_ (n := 11) (S := fun w' => w'.cell? ⟨g3, 8, none⟩ = some (.slice a8 b.ops.length c8) ∧ w'.cell? ⟨g5, 0, none⟩ = some (.int .i64 x.f0) ∧ w'.cell? ⟨g5, 1, none⟩ = some (.int .u64 x.f1) ∧ w'.cell? ⟨g5, 2, none⟩ = some (.int .u64 x.f2) ∧ w'.cell? ⟨g5, 3, none⟩ = some (.int .i64 x.f3)) (ds := [10]) #[false, false, false, false, false, false, false, false, false, false, false] (by kernel_rfl) rfl rfl ⟨((blk_cell B3.out 8).trans rfl), ((blk_cell B5.out 0).trans rfl), ((blk_cell B5.out 1).trans rfl), ((blk_cell B5.out 2).trans rfl), ((blk_cell B5.out 3).trans rfl)⟩ (fun hHeld => ?_); refine with_tabW r_Begin.tab12 r_Begin.bits12 (fun HT_ HW_ => ?_)
 generalize w12.drew = W1 at B3 B5 B6 HB HM HM6 hHeld ⊢
 refine pure_ (i := 1) (N := some 71) (v := ?_) (a' := ?_) (lb_ 11 2) rfl rfl (any_of HT_.out (by kernel_rfl)) (fun _ _ _ h => h) (Or.inl ⟨by rfl, ?_⟩) ?_ ?_; rotate_left
 ·intro w'; go_simp; with_reducible rfl
 rotate_left
 ·simp only [Act.put, List.setIfInBounds_toArray, List.set_cons_zero, List.set_cons_succ, i64_w, i32_w]; rfl
 refine pure_ (i := 4) (N := some 74) (v := ?_) (a' := ?_) (lb_ 11 18) rfl rfl (any_of HT_.out (by kernel_rfl)) (fun _ _ _ h => h) (Or.inl ⟨by rfl, ?_⟩) ?_ ?_; rotate_left
 ·intro w'; go_simp; with_reducible rfl
 rotate_left
 ·simp only [Act.put, List.setIfInBounds_toArray, List.set_cons_zero, List.set_cons_succ, i64_w, i32_w]; rfl
 refine take_ (i := 2) (N := some 72) (v := ?_) (a' := ?_) (lb_ 11 22) rfl rfl (take_ofW HT_.out HW_.out (by kernel_rfl)) (fun _ _ _ h => h) (Or.inl ⟨by rfl, ?_⟩) hHeld ?_ ?_; rotate_left
 ·rintro w' ⟨s0, s1, s2, s3, s4⟩; go_simp; with_reducible rfl
 rotate_left
 ·simp only [Act.put, List.setIfInBounds_toArray, List.set_cons_zero, List.set_cons_succ, i64_w, i32_w]; rfl
 refine take_ (i := 5) (N := some 75) (v := ?_) (a' := ?_) (lb_ 11 54) rfl rfl (take_ofW HT_.out HW_.out (by kernel_rfl)) (fun _ _ _ h => h) (Or.inl ⟨by rfl, ?_⟩) hHeld ?_ ?_; rotate_left
 ·rintro w' ⟨s0, s1, s2, s3, s4⟩; go_simp; with_reducible rfl
 rotate_left
 ·simp only [Act.put, List.setIfInBounds_toArray, List.set_cons_zero, List.set_cons_succ, i64_w, i32_w]; rfl
 refine pure_ (i := 6) (N := some 76) (v := ?_) (a' := ?_) (lb_ 11 118) rfl rfl (any_of HT_.out (by kernel_rfl)) (fun _ _ _ h => h) (Or.inl ⟨by rfl, ?_⟩) ?_ ?_; rotate_left
 ·intro w'; go_simp; with_reducible rfl
 rotate_left
 ·simp only [Act.put, List.setIfInBounds_toArray, List.set_cons_zero, List.set_cons_succ, i64_w, i32_w]; rfl
 refine join_ (σ := Value × Value × Nat) 3 (lb_ 11 255) (fun s => [(70, s.1), (73, s.2.1), (77, .slice (some ⟨s.2.2, 0, none⟩) 1 1)]) (fun s w' => Aside0 (w'.heap[g3]? = some (.cells #[.int .i64 b.c.f0, .int .i64 b.c.f1, .int .i64 b.c.f2, .int .i64 b.c.f3, .int .i64 b.c.f4, .slice A1 b.calls.length c1, .slice A2 b.ins.length c2, .slice a7 b.made.length c7, .slice a8 b.ops.length c8, .slice a9 b.nodes.length c9] 32 (0, 0))) ∧ Aside0 (w'.heap[g5]? = some (.cells #[.int .i64 x.f0, .int .u64 x.f1, .int .u64 x.f2, .int .i64 x.f3] 38 (0, 0))) ∧ Aside0 (w'.heap[g6]? = some (.cells #[.int .i64 0, .int .i64 0, .int .i64 0, .int .i64 0, .int .i64 0, .slice none 0 0, .slice none 0 0, .slice none 0 0, .slice none 0 0, .slice none 0 0] 32 (0, 0))) ∧ Aside0 (∃ base, Kd.R (Kd.int .i64) 3 w' base (fun _ => True) (.slice A1 b.calls.length c1) (b.calls.set i (cc + 1))) ∧ Aside0 (∃ base, Kd.R (Kd.int .i64) 3 w' base (fun _ => True) (.slice A2 b.ins.length c2) (b.ins.set i (ii + 1))) ∧ Aside0 (Below w.heap.size w w') ∧ Aside0 (Kd.R k60 60 w' w.heap.size (fun k_ => w.heap.size ≤ k_) s.2.1 b.ops) ∧ Aside0 (w'.heap[s.2.2]? = some (.cells #[.int .i64 op, .int .i64 x.f0, .int .u64 x.f1, .int .u64 x.f2, .int .i64 x.f3] 60 (0, 0)))) ?_ ?_
 rotate_left
 ·intro hCont
  refine two_ (i := 0) (j := 7) (Ni := some 70) (Nj := some 77) (lb_ 11 119) (lb_ 11 246) rfl rfl rfl rfl (two_of HT_.out (by kernel_rfl)) (by decide) (by decide) (fun K hK => ?_) (fun K hK => ?_)
  ·skip
   refine Kd.R_lit_step k60 (w0 := w) w.heap.size 60 (by rfl) (N := 70) rfl (xs := ([] : List S60)) (inner := []) (ok := (fun k_ => w.heap.size ≤ k_)) (okp := fun _ => False) (by first | (go_simp; done) | (go_simp; rfl)) (Reps.none _ _) (fun _ hk => hk.elim) HB.out.size HB.out HB.out.size (by simp) ?_
   intro v70 w120 q1 hbb gr _
   have hbk := grown_none gr
   have HN := Aside0.mk q1
   have n_B3 := Aside0.mk ((hbk.block g3 (blk_lt B3.out)).trans B3.out)
   have n_B5 := Aside0.mk ((hbk.block g5 (blk_lt B5.out)).trans B5.out)
   have n_B6 := Aside0.mk ((hbk.block g6 (blk_lt B6.out)).trans B6.out)
   have n_HM := Aside0.mk (show ∃ base, Kd.R (Kd.int .i64) 3 w120 base (fun _ => True) (.slice A1 b.calls.length c1) (b.calls.set i (cc + 1)) from Exists.imp (fun bs hm => Kd.R_below hm hbk) HM.out)
   have n_HM6 := Aside0.mk (show ∃ base, Kd.R (Kd.int .i64) 3 w120 base (fun _ => True) (.slice A2 b.ins.length c2) (b.ins.set i (ii + 1)) from Exists.imp (fun bs hm => Kd.R_below hm hbk) HM6.out)
   have n_HB := Aside0.mk hbb
   clear q1 hbb gr hbk
   clear B3 B5 B6 HM HM6 HB
   have B3 := n_B3
   have B5 := n_B5
   have B6 := n_B6
   have HM := n_HM
   have HM6 := n_HM6
   have HB := n_HB
   clear n_B3 n_B5 n_B6 n_HM n_HM6 n_HB
   refine hK.out _ _ ⟨((blk_cell B3.out 8).trans rfl), ((blk_cell B5.out 0).trans rfl), ((blk_cell B5.out 1).trans rfl), ((blk_cell B5.out 2).trans rfl), ((blk_cell B5.out 3).trans rfl)⟩ (fun hHeld => ?_)
   clear hK K
   refine norm_ (a' := ?_) ?_ ?_
   rotate_left
   ·show Act.put _ (some 70) _ = _
    simp only [Act.put, List.setIfInBounds_toArray, List.set_cons_zero, List.set_cons_succ, i64_w, i32_w]
    rfl
   refine two_ (i := 3) (j := 7) (Ni := some 73) (Nj := some 77) (lb_ 11 127) (lb_ 11 247) rfl rfl rfl rfl (two_of HT_.out (by kernel_rfl)) (by decide) (by decide) (fun K hK => ?_) (fun K hK => ?_)
   ·skip
    refine Kd.R_append_rows_step k60 (w0 := w) w.heap.size (by rfl) (.tmp 70) (.tmp 72) 29 60 (.agg #[.int .i64 0, .int .i64 0, .int .u64 0, .int .u64 0, .int .i64 0]) 40 rfl Try.underlying29 bkinfo60 rfl (by decide) (by decide) v70 [] b.ops a8 b.ops.length c8 (fun k_ => w.heap.size ≤ k_) (fun _ => False) (by rfl) (by rfl) HN.out (show ReadsRow (k60.K w120) k60.sz w120 a8 b.ops.length b.ops from Kd.C_below HR0.out.h8 HB.out) (fun x_ cs_ h_ => k60_KM w120 w.heap.size x_ cs_ h_) (fun _ h_ => h_.elim) (fun k_ hk => Nat.le_trans HB.out.size hk) HB.out HB.out.size (by have := HS.out; simp; omega) ?_
    intro v73 w123 q1 hbb gr _
    have HN2 := Aside0.mk (show Kd.R k60 60 w123 w.heap.size (fun k_ => w.heap.size ≤ k_) v73 b.ops from q1)
    have n_B3 := Aside0.mk ((gr.block g3 (blk_lt B3.out) (Kd.R_ne HN.out B3.out (by decide))).trans B3.out)
    have n_B5 := Aside0.mk ((gr.block g5 (blk_lt B5.out) (Kd.R_ne HN.out B5.out (by decide))).trans B5.out)
    have n_B6 := Aside0.mk ((gr.block g6 (blk_lt B6.out) (Kd.R_ne HN.out B6.out (by decide))).trans B6.out)
    have n_HM := Aside0.mk (show ∃ base, Kd.R (Kd.int .i64) 3 w123 base (fun _ => True) (.slice A1 b.calls.length c1) (b.calls.set i (cc + 1)) from Exists.imp (fun bs hm => Kd.R_mono (Kd.R_grown (Kd.R_apartR hm HN.out (by decide)) gr (fun k hk => hk.2)) (fun _ _ => trivial)) HM.out)
    have n_HM6 := Aside0.mk (show ∃ base, Kd.R (Kd.int .i64) 3 w123 base (fun _ => True) (.slice A2 b.ins.length c2) (b.ins.set i (ii + 1)) from Exists.imp (fun bs hm => Kd.R_mono (Kd.R_grown (Kd.R_apartR hm HN.out (by decide)) gr (fun k hk => hk.2)) (fun _ _ => trivial)) HM6.out)
    have n_HB := Aside0.mk hbb
    clear q1 hbb gr HN
    clear B3 B5 B6 HM HM6 HB
    have B3 := n_B3
    have B5 := n_B5
    have B6 := n_B6
    have HM := n_HM
    have HM6 := n_HM6
    have HB := n_HB
    clear n_B3 n_B5 n_B6 n_HM n_HM6 n_HB
    refine hK.out _ _ ⟨((blk_cell B3.out 8).trans rfl), ((blk_cell B5.out 0).trans rfl), ((blk_cell B5.out 1).trans rfl), ((blk_cell B5.out 2).trans rfl), ((blk_cell B5.out 3).trans rfl)⟩ (fun hHeld => ?_)
    clear hK K
    refine norm_ (a' := ?_) ?_ ?_
    rotate_left
    ·show Act.put _ (some 73) _ = _
     simp only [Act.put, List.setIfInBounds_toArray, List.set_cons_zero, List.set_cons_succ, i64_w, i32_w]
     rfl
    refine one_ (i := 7) (N := some 77) (lb_ 11 255) rfl rfl (one_of HT_.out (by kernel_rfl)) (by decide) (fun K hK => ?_)
    refine value_ (w1 := ?_) (v := ?_) (by rfl) rfl ?_ ?_
    rotate_left 2
    ·go_simp
     constructor
     ·rfl
     ·rfl
    have hbk : Below w123.heap.size w123 (w123.alloc (.cells #[.int .i64 op, .int .i64 x.f0, .int .u64 x.f1, .int .u64 x.f2, .int .i64 x.f3] 60)) := below_alloc (Below.refl _ _) _
    have hbb := below_step HB.out hbk
    have n_B3 := Aside0.mk ((hbk.block g3 (blk_lt B3.out)).trans B3.out)
    have n_B5 := Aside0.mk ((hbk.block g5 (blk_lt B5.out)).trans B5.out)
    have n_B6 := Aside0.mk ((hbk.block g6 (blk_lt B6.out)).trans B6.out)
    have n_HM := Aside0.mk (show ∃ base, Kd.R (Kd.int .i64) 3 (w123.alloc (.cells #[.int .i64 op, .int .i64 x.f0, .int .u64 x.f1, .int .u64 x.f2, .int .i64 x.f3] 60)) base (fun _ => True) (.slice A1 b.calls.length c1) (b.calls.set i (cc + 1)) from Exists.imp (fun bs hm => Kd.R_below hm hbk) HM.out)
    have n_HM6 := Aside0.mk (show ∃ base, Kd.R (Kd.int .i64) 3 (w123.alloc (.cells #[.int .i64 op, .int .i64 x.f0, .int .u64 x.f1, .int .u64 x.f2, .int .i64 x.f3] 60)) base (fun _ => True) (.slice A2 b.ins.length c2) (b.ins.set i (ii + 1)) from Exists.imp (fun bs hm => Kd.R_below hm hbk) HM6.out)
    have n_HB := Aside0.mk hbb
    have B7 := Aside0.mk (blk_new w123 (.cells #[.int .i64 op, .int .i64 x.f0, .int .u64 x.f1, .int .u64 x.f2, .int .i64 x.f3] 60))
    have n_HN2 := Aside0.mk (Kd.R_below HN2.out hbk)
    clear hbk hbb
    clear B3 B5 B6 HM HM6 HB HN2
    have B3 := n_B3
    have B5 := n_B5
    have B6 := n_B6
    have HM := n_HM
    have HM6 := n_HM6
    have HB := n_HB
    have HN2 := n_HN2
    clear n_B3 n_B5 n_B6 n_HM n_HM6 n_HB n_HN2
    generalize w123.alloc (.cells #[.int .i64 op, .int .i64 x.f0, .int .u64 x.f1, .int .u64 x.f2, .int .i64 x.f3] 60) = w127 at B3 B5 B6 HM HM6 HB HN2 B7 ⊢
    generalize w123.heap.size = g77 at B7  ⊢
    refine hK.out _ _ ⟨((blk_cell B3.out 8).trans rfl), ((blk_cell B5.out 0).trans rfl), ((blk_cell B5.out 1).trans rfl), ((blk_cell B5.out 2).trans rfl), ((blk_cell B5.out 3).trans rfl)⟩ (fun hHeld => ?_)
    clear hK K
    refine norm_ (a' := ?_) ?_ ?_
    rotate_left
    ·show Act.put _ (some 77) _ = _
     simp only [Act.put, List.setIfInBounds_toArray, List.set_cons_zero, List.set_cons_succ, i64_w, i32_w]
     rfl
    exact norm_ (by simp only [putAll, Act.put, List.setIfInBounds_toArray, List.set_cons_zero, List.set_cons_succ]) (hCont (v70, v73, g77) _ ⟨B3, B5, B6, HM, HM6, HB, HN2, B7⟩)
   ·skip
    refine value_ (w1 := ?_) (v := ?_) (by rfl) rfl ?_ ?_
    rotate_left 2
    ·go_simp
     constructor
     ·rfl
     ·rfl
    have hbk : Below w120.heap.size w120 (w120.alloc (.cells #[.int .i64 op, .int .i64 x.f0, .int .u64 x.f1, .int .u64 x.f2, .int .i64 x.f3] 60)) := below_alloc (Below.refl _ _) _
    have hbb := below_step HB.out hbk
    have n_B3 := Aside0.mk ((hbk.block g3 (blk_lt B3.out)).trans B3.out)
    have n_B5 := Aside0.mk ((hbk.block g5 (blk_lt B5.out)).trans B5.out)
    have n_B6 := Aside0.mk ((hbk.block g6 (blk_lt B6.out)).trans B6.out)
    have n_HM := Aside0.mk (show ∃ base, Kd.R (Kd.int .i64) 3 (w120.alloc (.cells #[.int .i64 op, .int .i64 x.f0, .int .u64 x.f1, .int .u64 x.f2, .int .i64 x.f3] 60)) base (fun _ => True) (.slice A1 b.calls.length c1) (b.calls.set i (cc + 1)) from Exists.imp (fun bs hm => Kd.R_below hm hbk) HM.out)
    have n_HM6 := Aside0.mk (show ∃ base, Kd.R (Kd.int .i64) 3 (w120.alloc (.cells #[.int .i64 op, .int .i64 x.f0, .int .u64 x.f1, .int .u64 x.f2, .int .i64 x.f3] 60)) base (fun _ => True) (.slice A2 b.ins.length c2) (b.ins.set i (ii + 1)) from Exists.imp (fun bs hm => Kd.R_below hm hbk) HM6.out)
    have n_HB := Aside0.mk hbb
    have B7 := Aside0.mk (blk_new w120 (.cells #[.int .i64 op, .int .i64 x.f0, .int .u64 x.f1, .int .u64 x.f2, .int .i64 x.f3] 60))
    have HN7 := Aside0.mk (show some w120.heap.size ≠ v70.ownBlock from Kd.R_ne_new HN.out 0)
    have n_HN := Aside0.mk (Kd.R_below HN.out hbk)
    clear hbk hbb
    clear B3 B5 B6 HM HM6 HB HN
    have B3 := n_B3
    have B5 := n_B5
    have B6 := n_B6
    have HM := n_HM
    have HM6 := n_HM6
    have HB := n_HB
    have HN := n_HN
    clear n_B3 n_B5 n_B6 n_HM n_HM6 n_HB n_HN
    generalize w120.alloc (.cells #[.int .i64 op, .int .i64 x.f0, .int .u64 x.f1, .int .u64 x.f2, .int .i64 x.f3] 60) = w127 at B3 B5 B6 HM HM6 HB HN B7 ⊢
    generalize w120.heap.size = g77 at B7 HN7 ⊢
    refine hK.out _ _ ⟨((blk_cell B3.out 8).trans rfl), ((blk_cell B5.out 0).trans rfl), ((blk_cell B5.out 1).trans rfl), ((blk_cell B5.out 2).trans rfl), ((blk_cell B5.out 3).trans rfl)⟩ (fun hHeld => ?_)
    clear hK K
    refine norm_ (a' := ?_) ?_ ?_
    rotate_left
    ·show Act.put _ (some 77) _ = _
     simp only [Act.put, List.setIfInBounds_toArray, List.set_cons_zero, List.set_cons_succ, i64_w, i32_w]
     rfl
    refine one_ (i := 3) (N := some 73) (lb_ 11 255) rfl rfl (one_of HT_.out (by kernel_rfl)) (by decide) (fun K hK => ?_)
    refine Kd.R_append_rows_step k60 (w0 := w) w.heap.size (by rfl) (.tmp 70) (.tmp 72) 29 60 (.agg #[.int .i64 0, .int .i64 0, .int .u64 0, .int .u64 0, .int .i64 0]) 40 rfl Try.underlying29 bkinfo60 rfl (by decide) (by decide) v70 [] b.ops a8 b.ops.length c8 (fun k_ => w.heap.size ≤ k_) (fun _ => False) (by rfl) (by rfl) HN.out (show ReadsRow (k60.K w127) k60.sz w127 a8 b.ops.length b.ops from Kd.C_below HR0.out.h8 HB.out) (fun x_ cs_ h_ => k60_KM w127 w.heap.size x_ cs_ h_) (fun _ h_ => h_.elim) (fun k_ hk => Nat.le_trans HB.out.size hk) HB.out HB.out.size (by have := HS.out; simp; omega) ?_
    intro v73 w123 q1 hbb gr _
    have HN2 := Aside0.mk (show Kd.R k60 60 w123 w.heap.size (fun k_ => w.heap.size ≤ k_) v73 b.ops from q1)
    have n_B3 := Aside0.mk ((gr.block g3 (blk_lt B3.out) (Kd.R_ne HN.out B3.out (by decide))).trans B3.out)
    have n_B5 := Aside0.mk ((gr.block g5 (blk_lt B5.out) (Kd.R_ne HN.out B5.out (by decide))).trans B5.out)
    have n_B6 := Aside0.mk ((gr.block g6 (blk_lt B6.out) (Kd.R_ne HN.out B6.out (by decide))).trans B6.out)
    have n_HM := Aside0.mk (show ∃ base, Kd.R (Kd.int .i64) 3 w123 base (fun _ => True) (.slice A1 b.calls.length c1) (b.calls.set i (cc + 1)) from Exists.imp (fun bs hm => Kd.R_mono (Kd.R_grown (Kd.R_apartR hm HN.out (by decide)) gr (fun k hk => hk.2)) (fun _ _ => trivial)) HM.out)
    have n_HM6 := Aside0.mk (show ∃ base, Kd.R (Kd.int .i64) 3 w123 base (fun _ => True) (.slice A2 b.ins.length c2) (b.ins.set i (ii + 1)) from Exists.imp (fun bs hm => Kd.R_mono (Kd.R_grown (Kd.R_apartR hm HN.out (by decide)) gr (fun k hk => hk.2)) (fun _ _ => trivial)) HM6.out)
    have n_HB := Aside0.mk hbb
    have n_B7 := Aside0.mk ((gr.block g77 (blk_lt B7.out) HN7.out).trans B7.out)
    clear q1 hbb gr HN
    clear B3 B5 B6 HM HM6 HB B7
    have B3 := n_B3
    have B5 := n_B5
    have B6 := n_B6
    have HM := n_HM
    have HM6 := n_HM6
    have HB := n_HB
    have B7 := n_B7
    clear n_B3 n_B5 n_B6 n_HM n_HM6 n_HB n_B7
    clear HN7
    refine hK.out _ _ ⟨((blk_cell B3.out 8).trans rfl), ((blk_cell B5.out 0).trans rfl), ((blk_cell B5.out 1).trans rfl), ((blk_cell B5.out 2).trans rfl), ((blk_cell B5.out 3).trans rfl)⟩ (fun hHeld => ?_)
    clear hK K
    refine norm_ (a' := ?_) ?_ ?_
    rotate_left
    ·show Act.put _ (some 73) _ = _
     simp only [Act.put, List.setIfInBounds_toArray, List.set_cons_zero, List.set_cons_succ, i64_w, i32_w]
     rfl
    exact norm_ (by simp only [putAll, Act.put, List.setIfInBounds_toArray, List.set_cons_zero, List.set_cons_succ]) (hCont (v70, v73, g77) _ ⟨B3, B5, B6, HM, HM6, HB, HN2, B7⟩)
  ·skip
   refine value_ (w1 := ?_) (v := ?_) (by rfl) rfl ?_ ?_
   rotate_left 2
   ·go_simp
    constructor
    ·rfl
    ·rfl
   have hbk : Below W1.heap.size W1 (W1.alloc (.cells #[.int .i64 op, .int .i64 x.f0, .int .u64 x.f1, .int .u64 x.f2, .int .i64 x.f3] 60)) := below_alloc (Below.refl _ _) _
   have hbb := below_step HB.out hbk
   have n_B3 := Aside0.mk ((hbk.block g3 (blk_lt B3.out)).trans B3.out)
   have n_B5 := Aside0.mk ((hbk.block g5 (blk_lt B5.out)).trans B5.out)
   have n_B6 := Aside0.mk ((hbk.block g6 (blk_lt B6.out)).trans B6.out)
   have n_HM := Aside0.mk (show ∃ base, Kd.R (Kd.int .i64) 3 (W1.alloc (.cells #[.int .i64 op, .int .i64 x.f0, .int .u64 x.f1, .int .u64 x.f2, .int .i64 x.f3] 60)) base (fun _ => True) (.slice A1 b.calls.length c1) (b.calls.set i (cc + 1)) from Exists.imp (fun bs hm => Kd.R_below hm hbk) HM.out)
   have n_HM6 := Aside0.mk (show ∃ base, Kd.R (Kd.int .i64) 3 (W1.alloc (.cells #[.int .i64 op, .int .i64 x.f0, .int .u64 x.f1, .int .u64 x.f2, .int .i64 x.f3] 60)) base (fun _ => True) (.slice A2 b.ins.length c2) (b.ins.set i (ii + 1)) from Exists.imp (fun bs hm => Kd.R_below hm hbk) HM6.out)
   have n_HB := Aside0.mk hbb
   have B7 := Aside0.mk (blk_new W1 (.cells #[.int .i64 op, .int .i64 x.f0, .int .u64 x.f1, .int .u64 x.f2, .int .i64 x.f3] 60))
   clear hbk hbb
   clear B3 B5 B6 HM HM6 HB
   have B3 := n_B3
   have B5 := n_B5
   have B6 := n_B6
   have HM := n_HM
   have HM6 := n_HM6
   have HB := n_HB
   clear n_B3 n_B5 n_B6 n_HM n_HM6 n_HB
   generalize W1.alloc (.cells #[.int .i64 op, .int .i64 x.f0, .int .u64 x.f1, .int .u64 x.f2, .int .i64 x.f3] 60) = w127 at B3 B5 B6 HM HM6 HB B7 ⊢
   generalize W1.heap.size = g77 at B7  ⊢
   refine hK.out _ _ ⟨((blk_cell B3.out 8).trans rfl), ((blk_cell B5.out 0).trans rfl), ((blk_cell B5.out 1).trans rfl), ((blk_cell B5.out 2).trans rfl), ((blk_cell B5.out 3).trans rfl)⟩ (fun hHeld => ?_)
   clear hK K
   refine norm_ (a' := ?_) ?_ ?_
   rotate_left
   ·show Act.put _ (some 77) _ = _
    simp only [Act.put, List.setIfInBounds_toArray, List.set_cons_zero, List.set_cons_succ, i64_w, i32_w]
    rfl
   refine one_ (i := 0) (N := some 70) (lb_ 11 247) rfl rfl (one_of HT_.out (by kernel_rfl)) (by decide) (fun K hK => ?_)
   refine Kd.R_lit_step k60 (w0 := w) w.heap.size 60 (by rfl) (N := 70) rfl (xs := ([] : List S60)) (inner := []) (ok := (fun k_ => w.heap.size ≤ k_)) (okp := fun _ => False) (by first | (go_simp; done) | (go_simp; rfl)) (Reps.none _ _) (fun _ hk => hk.elim) HB.out.size HB.out HB.out.size (by simp) ?_
   intro v70 w120 q1 hbb gr hnew_
   have hbk := grown_none gr
   have HN := Aside0.mk q1
   have HN7 := Aside0.mk (show some g77 ≠ v70.ownBlock from by obtain ⟨q, hq1, hq2⟩ := hnew_; rw [hq1]; intro e; injection e with e; have := blk_lt B7.out; omega)
   have n_B3 := Aside0.mk ((hbk.block g3 (blk_lt B3.out)).trans B3.out)
   have n_B5 := Aside0.mk ((hbk.block g5 (blk_lt B5.out)).trans B5.out)
   have n_B6 := Aside0.mk ((hbk.block g6 (blk_lt B6.out)).trans B6.out)
   have n_HM := Aside0.mk (show ∃ base, Kd.R (Kd.int .i64) 3 w120 base (fun _ => True) (.slice A1 b.calls.length c1) (b.calls.set i (cc + 1)) from Exists.imp (fun bs hm => Kd.R_below hm hbk) HM.out)
   have n_HM6 := Aside0.mk (show ∃ base, Kd.R (Kd.int .i64) 3 w120 base (fun _ => True) (.slice A2 b.ins.length c2) (b.ins.set i (ii + 1)) from Exists.imp (fun bs hm => Kd.R_below hm hbk) HM6.out)
   have n_HB := Aside0.mk hbb
   have n_B7 := Aside0.mk ((hbk.block g77 (blk_lt B7.out)).trans B7.out)
   clear q1 hbb gr hbk hnew_
   clear B3 B5 B6 HM HM6 HB B7
   have B3 := n_B3
   have B5 := n_B5
   have B6 := n_B6
   have HM := n_HM
   have HM6 := n_HM6
   have HB := n_HB
   have B7 := n_B7
   clear n_B3 n_B5 n_B6 n_HM n_HM6 n_HB n_B7
   refine hK.out _ _ ⟨((blk_cell B3.out 8).trans rfl), ((blk_cell B5.out 0).trans rfl), ((blk_cell B5.out 1).trans rfl), ((blk_cell B5.out 2).trans rfl), ((blk_cell B5.out 3).trans rfl)⟩ (fun hHeld => ?_)
   clear hK K
   refine norm_ (a' := ?_) ?_ ?_
   rotate_left
   ·show Act.put _ (some 70) _ = _
    simp only [Act.put, List.setIfInBounds_toArray, List.set_cons_zero, List.set_cons_succ, i64_w, i32_w]
    rfl
   refine one_ (i := 3) (N := some 73) (lb_ 11 255) rfl rfl (one_of HT_.out (by kernel_rfl)) (by decide) (fun K hK => ?_)
   refine Kd.R_append_rows_step k60 (w0 := w) w.heap.size (by rfl) (.tmp 70) (.tmp 72) 29 60 (.agg #[.int .i64 0, .int .i64 0, .int .u64 0, .int .u64 0, .int .i64 0]) 40 rfl Try.underlying29 bkinfo60 rfl (by decide) (by decide) v70 [] b.ops a8 b.ops.length c8 (fun k_ => w.heap.size ≤ k_) (fun _ => False) (by rfl) (by rfl) HN.out (show ReadsRow (k60.K w120) k60.sz w120 a8 b.ops.length b.ops from Kd.C_below HR0.out.h8 HB.out) (fun x_ cs_ h_ => k60_KM w120 w.heap.size x_ cs_ h_) (fun _ h_ => h_.elim) (fun k_ hk => Nat.le_trans HB.out.size hk) HB.out HB.out.size (by have := HS.out; simp; omega) ?_
   intro v73 w123 q1 hbb gr _
   have HN2 := Aside0.mk (show Kd.R k60 60 w123 w.heap.size (fun k_ => w.heap.size ≤ k_) v73 b.ops from q1)
   have n_B3 := Aside0.mk ((gr.block g3 (blk_lt B3.out) (Kd.R_ne HN.out B3.out (by decide))).trans B3.out)
   have n_B5 := Aside0.mk ((gr.block g5 (blk_lt B5.out) (Kd.R_ne HN.out B5.out (by decide))).trans B5.out)
   have n_B6 := Aside0.mk ((gr.block g6 (blk_lt B6.out) (Kd.R_ne HN.out B6.out (by decide))).trans B6.out)
   have n_HM := Aside0.mk (show ∃ base, Kd.R (Kd.int .i64) 3 w123 base (fun _ => True) (.slice A1 b.calls.length c1) (b.calls.set i (cc + 1)) from Exists.imp (fun bs hm => Kd.R_mono (Kd.R_grown (Kd.R_apartR hm HN.out (by decide)) gr (fun k hk => hk.2)) (fun _ _ => trivial)) HM.out)
   have n_HM6 := Aside0.mk (show ∃ base, Kd.R (Kd.int .i64) 3 w123 base (fun _ => True) (.slice A2 b.ins.length c2) (b.ins.set i (ii + 1)) from Exists.imp (fun bs hm => Kd.R_mono (Kd.R_grown (Kd.R_apartR hm HN.out (by decide)) gr (fun k hk => hk.2)) (fun _ _ => trivial)) HM6.out)
   have n_HB := Aside0.mk hbb
   have n_B7 := Aside0.mk ((gr.block g77 (blk_lt B7.out) HN7.out).trans B7.out)
   clear q1 hbb gr HN
   clear B3 B5 B6 HM HM6 HB B7
   have B3 := n_B3
   have B5 := n_B5
   have B6 := n_B6
   have HM := n_HM
   have HM6 := n_HM6
   have HB := n_HB
   have B7 := n_B7
   clear n_B3 n_B5 n_B6 n_HM n_HM6 n_HB n_B7
   clear HN7
   refine hK.out _ _ ⟨((blk_cell B3.out 8).trans rfl), ((blk_cell B5.out 0).trans rfl), ((blk_cell B5.out 1).trans rfl), ((blk_cell B5.out 2).trans rfl), ((blk_cell B5.out 3).trans rfl)⟩ (fun hHeld => ?_)
   clear hK K
   refine norm_ (a' := ?_) ?_ ?_
   rotate_left
   ·show Act.put _ (some 73) _ = _
    simp only [Act.put, List.setIfInBounds_toArray, List.set_cons_zero, List.set_cons_succ, i64_w, i32_w]
    rfl
   exact norm_ (by simp only [putAll, Act.put, List.setIfInBounds_toArray, List.set_cons_zero, List.set_cons_succ]) (hCont (v70, v73, g77) _ ⟨B3, B5, B6, HM, HM6, HB, HN2, B7⟩)
 clear B3 B5 B6 HM HM6 HB hHeld
 rintro ⟨v70, v73, g77⟩ w126 ⟨B3, B5, B6, HM, HM6, HB, HN2, B7⟩
 have hHeld := (show w126.cell? ⟨g3, 8, none⟩ = some (.slice a8 b.ops.length c8) ∧ w126.cell? ⟨g5, 0, none⟩ = some (.int .i64 x.f0) ∧ w126.cell? ⟨g5, 1, none⟩ = some (.int .u64 x.f1) ∧ w126.cell? ⟨g5, 2, none⟩ = some (.int .u64 x.f2) ∧ w126.cell? ⟨g5, 3, none⟩ = some (.int .i64 x.f3) from ⟨((blk_cell B3.out 8).trans rfl), ((blk_cell B5.out 0).trans rfl), ((blk_cell B5.out 1).trans rfl), ((blk_cell B5.out 2).trans rfl), ((blk_cell B5.out 3).trans rfl)⟩)
 dsimp only at HN2 B7
 refine norm_ (a' := ?_) ?_ ?_
 rotate_left
 ·simp only [putAll, Act.put, List.setIfInBounds_toArray, List.set_cons_zero, List.set_cons_succ]
  rfl
 refine one_ (i := 8) (N := some 78) (lb_ 11 511) rfl rfl (one_of HT_.out (by kernel_rfl)) (by decide) (fun K hK => ?_)
 refine Kd.R_append_rows_step k60 (w0 := w) w.heap.size (by rfl) (.tmp 73) (.tmp 77) 29 60 (.agg #[.int .i64 0, .int .i64 0, .int .u64 0, .int .u64 0, .int .i64 0]) 40 rfl Try.underlying29 bkinfo60 rfl (by decide) (by decide) v73 b.ops [(⟨op, x⟩ : S60)] (some ⟨g77, 0, none⟩) 1 1 (fun k_ => w.heap.size ≤ k_) (fun _ => False) (by rfl) (by rfl) HN2.out (show ReadsRow (k60.K w126) k60.sz w126 (some ⟨g77, 0, none⟩) 1 [(⟨op, x⟩ : S60)] from one60 B7.out) (fun x_ cs_ h_ => k60_KM w126 w.heap.size x_ cs_ h_) (fun _ h_ => h_.elim) (fun k_ hk => Nat.le_trans HB.out.size hk) HB.out HB.out.size (by have := HS.out; omega) ?_
 intro v78 w128 q1 hbb gr _
 obtain ⟨A78, c78, hv78⟩ := Kd.R_slice q1
 rw [show (b.ops ++ [(⟨op, x⟩ : S60)]).length = b.ops.length + 1 from by simp] at hv78
 subst hv78
 have HN3 := Aside0.mk q1
 have n_B3 := Aside0.mk ((gr.block g3 (blk_lt B3.out) (Kd.R_ne HN2.out B3.out (by decide))).trans B3.out)
 have n_B5 := Aside0.mk ((gr.block g5 (blk_lt B5.out) (Kd.R_ne HN2.out B5.out (by decide))).trans B5.out)
 have n_B6 := Aside0.mk ((gr.block g6 (blk_lt B6.out) (Kd.R_ne HN2.out B6.out (by decide))).trans B6.out)
 have n_HM := Aside0.mk (show ∃ base, Kd.R (Kd.int .i64) 3 w128 base (fun _ => True) (.slice A1 b.calls.length c1) (b.calls.set i (cc + 1)) from Exists.imp (fun bs hm => Kd.R_mono (Kd.R_grown (Kd.R_apartR hm HN2.out (by decide)) gr (fun k hk => hk.2)) (fun _ _ => trivial)) HM.out)
 have n_HM6 := Aside0.mk (show ∃ base, Kd.R (Kd.int .i64) 3 w128 base (fun _ => True) (.slice A2 b.ins.length c2) (b.ins.set i (ii + 1)) from Exists.imp (fun bs hm => Kd.R_mono (Kd.R_grown (Kd.R_apartR hm HN2.out (by decide)) gr (fun k hk => hk.2)) (fun _ _ => trivial)) HM6.out)
 have n_HB := Aside0.mk hbb
 clear q1 hbb gr HN2 B7
 clear B3 B5 B6 HM HM6 HB
 have B3 := n_B3
 have B5 := n_B5
 have B6 := n_B6
 have HM := n_HM
 have HM6 := n_HM6
 have HB := n_HB
 clear n_B3 n_B5 n_B6 n_HM n_HM6 n_HB
 refine hK.out _ _ ⟨((blk_cell B3.out 8).trans rfl), ((blk_cell B5.out 0).trans rfl), ((blk_cell B5.out 1).trans rfl), ((blk_cell B5.out 2).trans rfl), ((blk_cell B5.out 3).trans rfl)⟩ (fun hHeld => ?_)
 clear hK K
 refine norm_ (a' := ?_) ?_ ?_
 rotate_left
 ·show Act.put _ (some 78) _ = _
  simp only [Act.put, List.setIfInBounds_toArray, List.set_cons_zero, List.set_cons_succ, i64_w, i32_w]
  rfl
 refine pure_ (i := 9) (N := some 79) (v := ?_) (a' := ?_) (lb_ 11 1023) rfl rfl (any_of HT_.out (by kernel_rfl)) (fun _ _ _ h => h) (Or.inl ⟨by rfl, ?_⟩) ?_ ?_; rotate_left
 ·intro w'; go_simp; with_reducible rfl
 rotate_left
 ·simp only [Act.put, List.setIfInBounds_toArray, List.set_cons_zero, List.set_cons_succ, i64_w, i32_w]; rfl
 refine last_ (i := 10) (N := none) (lb_ 11 2047) rfl rfl (one_of HT_.out (by kernel_rfl)) (by decide) (fun K hK => ?_)
 have c3_8 : w128.cell? ⟨g3, 8, none⟩ = some (.slice a8 b.ops.length c8) := (blk_cell B3.out 8).trans rfl
 have f3_8 : w128.frozen? ⟨g3, 8, none⟩ = false := blk_frozen B3.out 8
 refine skip_ (w1 := ?_) (by rfl) rfl ?_ ?_
 rotate_left
 ·go_simp
  rfl
 clear c3_8 f3_8
 refine hK.out _ _ ?_
 clear hK K
 refine done_ (done_of HT_.out (by kernel_rfl)) ?_
 obtain ⟨W9, hW9⟩ : ∃ W, w128.setCell ⟨g3, 8, none⟩ (.slice A78 (b.ops.length + 1) c78) = W := ⟨_, rfl⟩
 rw [hW9]
 have n_B3 := Aside0.mk (show W9.heap[g3]? = some (.cells #[.int .i64 b.c.f0, .int .i64 b.c.f1, .int .i64 b.c.f2, .int .i64 b.c.f3, .int .i64 b.c.f4, .slice A1 b.calls.length c1, .slice A2 b.ins.length c2, .slice a7 b.made.length c7, .slice A78 (b.ops.length + 1) c78, .slice a9 b.nodes.length c9] 32 (0, 0)) from by rw [← hW9]; exact blk_put B3.out 8 _ rfl)
 have n_B5 := Aside0.mk (show W9.heap[g5]? = some (.cells #[.int .i64 x.f0, .int .u64 x.f1, .int .u64 x.f2, .int .i64 x.f3] 38 (0, 0)) from by rw [← hW9]; exact cel_far B5.out (Ne.symm HNE5.out) _)
 have n_B6 := Aside0.mk (show W9.heap[g6]? = some (.cells #[.int .i64 0, .int .i64 0, .int .i64 0, .int .i64 0, .int .i64 0, .slice none 0 0, .slice none 0 0, .slice none 0 0, .slice none 0 0, .slice none 0 0] 32 (0, 0)) from by rw [← hW9]; exact cel_far B6.out (Ne.symm HNE.out) _)
 have n_HM := Aside0.mk (show ∃ base, Kd.R (Kd.int .i64) 3 W9 base (fun _ => True) (.slice A1 b.calls.length c1) (b.calls.set i (cc + 1)) from by rw [← hW9]; exact Exists.imp (fun bs hm => Kd.R_set hm B3.out (by decide) 8 _) HM.out)
 have n_HM6 := Aside0.mk (show ∃ base, Kd.R (Kd.int .i64) 3 W9 base (fun _ => True) (.slice A2 b.ins.length c2) (b.ins.set i (ii + 1)) from by rw [← hW9]; exact Exists.imp (fun bs hm => Kd.R_set hm B3.out (by decide) 8 _) HM6.out)
 have n_HN3 := Aside0.mk (show Kd.R k60 60 W9 w.heap.size (fun k_ => w.heap.size ≤ k_) (.slice A78 (b.ops.length + 1) c78) (b.ops ++ [(⟨op, x⟩ : S60)]) from by rw [← hW9]; exact Kd.R_set HN3.out B3.out (by decide) 8 _)
 have n_HB := Aside0.mk (show Below w.heap.size w W9 from by rw [← hW9]; exact HB.out.setCell (p := ⟨g3, 8, none⟩) HGB3.out _)
 clear hW9 B3 B5 B6 HM HM6 HN3 HB
 have B3 := n_B3
 have B5 := n_B5
 have B6 := n_B6
 have HM := n_HM
 have HM6 := n_HM6
 have HN3 := n_HN3
 have HB := n_HB
 clear n_B3 n_B5 n_B6 n_HM n_HM6 n_HN3 n_HB
 obtain ⟨c3_0, c3_1, c3_2, c3_3, c3_4, c3_5, c3_6, c3_7, c3_8, c3_9⟩ := blkc10 B3.out
 obtain ⟨c6_0, c6_1, c6_2, c6_3, c6_4, c6_5, c6_6, c6_7, c6_8, c6_9⟩ := blkc10 B6.out
 obtain ⟨f6_0, f6_1, f6_2, f6_3, f6_4, f6_5, f6_6, f6_7, f6_8, f6_9⟩ := blkf10 B6.out
 obtain ⟨f3_0, f3_1, f3_2, f3_3, f3_4, f3_5, f3_6, f3_7, f3_8, f3_9⟩ := blkf10 B3.out
 obtain ⟨c5_0, c5_1, c5_2, c5_3⟩ := blkc4 B5.out
 go_wp2
 obtain ⟨bs, hm⟩ := HM.out
 obtain ⟨bs6, hm6⟩ := HM6.out
 have hcc := HCC.out
 subst hcc
 have hii := HII.out
 subst hii
 refine bodyPost_ret (results_ctt rfl _ _ g6 32 #[.int .i64 b.c.f0, .int .i64 b.c.f1, .int .i64 b.c.f2, .int .i64 b.c.f3, .int .i64 b.c.f4, .slice A1 b.calls.length c1, .slice A2 b.ins.length c2, .slice a7 b.made.length c7, .slice A78 (b.ops.length + 1) c78, .slice a9 b.nodes.length c9] (0, 0) _ rfl (put10 B6.out) Try.underlying32 rfl (by kernel_rfl)) rfl ?_
 refine ⟨⟨A1, A2, a7, A78, a9, c1, c2, c7, c78, c9⟩, ?_, ?_, bel10 HB.out HGB6.out⟩
 ·simp [RB.called, RB.inserted, RB.addOp]
 ·exact ⟨MR.of (R_set10 hm B6.out (by decide)), MR.of (R_set10 hm6 B6.out (by decide)), HR0.out.m7.below (bel10 HB.out HGB6.out), MR.of (R_set10 HN3.out B6.out (by decide)), HR0.out.m9.below (bel10 HB.out HGB6.out)⟩


end Go.Proofs.Ytpcmoclohepdiaf.PBookStays
