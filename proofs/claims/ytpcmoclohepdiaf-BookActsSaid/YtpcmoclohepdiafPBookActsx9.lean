-- Written by a program of this session: a variant of the print that takes proofs by hand (wip/tools/mkprint.py)
import Derived.Test.YtpcmoclohepdiafPBookActsx0
import Derived.Test.YtpcmoclohepdiafPBookActsx4
import Derived.Test.YtpcmoclohepdiafPBookActsx5
import Derived.Test.YtpcmoclohepdiafPBookActsx6
import Derived.Test.YtpcmoclohepdiafPBookActsx7
import Derived.Test.YtpcmoclohepdiafPBookActsx8
namespace Go.Proofs.Ytpcmoclohepdiaf.PBookActs
open Go.RowKit Go.Proofs.YtpcmoclohepdiafW.PrintWords Go.Proofs.YtpcmoclohepdiafW.PrintLast
set_option linter.unusedVariables false
set_option linter.unusedSimpArgs false

/-! ### corrieref07_Do: function 28 (by hand) -/
theorem rop_calls {b : RB} (h : Inv b) (i : Nat) (hi : i < b.calls.length) (cc : Int) (hcc : b.calls.getD i 0 = cc) (hne : ¬ cc = b.c.f4) : ∀ W, Calls Try.prog 44 #[.agg #[.int .i64 b.c.f0, .int .i64 b.c.f1, .int .i64 b.c.f2, .int .i64 b.c.f3, .int .i64 b.c.f4], .int .i64 (i : Int), .int .i64 cc] W (fun e w' => e = .returned (.int .i64 (opNo b.c i cc)) ∧ Below W.heap.size W w') := fun W => by
 have hb := h.hc i hi
 rw [hcc] at hb
 refine corrieref05_Op.calls 1 b.c.f0 b.c.f1 b.c.f2 b.c.f3 b.c.f4 (i : Int) cc (opNo b.c i cc) W ?_
 rw [rop_eq 0, if_pos ⟨h.ok, ⟨by omega, by have := h.lc; omega⟩, hb.1, by omega⟩]
 rfl
theorem rnd_calls {b : RB} (h : Inv b) (i : Nat) (hi : i < b.calls.length) (mm : Int) (hmm : b.made.getD i 0 = mm) (hne : ¬ mm = 2 * b.c.f4) : ∀ W, Calls Try.prog 42 #[.agg #[.int .i64 b.c.f0, .int .i64 b.c.f1, .int .i64 b.c.f2, .int .i64 b.c.f3, .int .i64 b.c.f4], .int .i64 (i : Int), .int .i64 mm] W (fun e w' => e = .returned (.int .i64 (ndNo b.c i mm)) ∧ Below W.heap.size W w') := fun W => by
 have hb := h.hm i hi
 rw [hmm] at hb
 refine corrieref05_Node.calls 1 b.c.f0 b.c.f1 b.c.f2 b.c.f3 b.c.f4 (i : Int) mm (ndNo b.c i mm) W ?_
 rw [rnode_eq 0, if_pos ⟨h.ok, ⟨by omega, by have := h.lc; omega⟩, hb.1, by omega⟩]
 rfl
theorem d_Begin {b : RB} (hI : Inv b) (r : RA) (n : Int) (x : S38) (W : World) (h : RAt W b r) :
  Calls Try.prog 37 #[rv b r, .int .i64 n, .agg #[.int .i64 x.f0, .int .u64 x.f1, .int .u64 x.f2, .int .i64 x.f3]] W fun e w' => ∃ r' : RA, e = .returned (.tuple #[rv (begR b n x).1 r', .int .i64 (begR b n x).2.1, .int .i64 (begR b n x).2.2]) ∧ RAt w' (begR b n x).1 r' ∧ Below W.heap.size W w' := by
 have hs := hI.small
 unfold begR
 by_cases c : 0 ≤ n ∧ n < (b.calls.length : Int) ∧ 1 ≤ x.f0 ∧ x.f0 ≤ 4
 ·rw [if_pos c]
  obtain ⟨n0, n1, k1, k4⟩ := c
  obtain ⟨i, rfl⟩ : ∃ i : Nat, n = (i : Int) := ⟨n.toNat, by omega⟩
  simp only [Int.toNat_natCast]
  have hi : i < b.calls.length := by omega
  have hc := hI.hc i hi
  have hii := hI.hi i hi
  by_cases c1 : b.calls.getD i 0 = b.c.f4
  ·rw [if_pos c1]
   exact r_Begin_ret b r.a5 r.a6 r.a7 r.a8 r.a9 r.c5 r.c6 r.c7 r.c8 r.c9 x i hi (by omega) (by omega) _ rfl c1 W h
  ·rw [if_neg c1]
   have hop := rop_calls hI i hi _ rfl c1
   by_cases c2 : x.f0 = 1
   ·rw [if_pos c2]
    by_cases c3 : b.ins.getD i 0 = b.c.f2
    ·rw [if_pos c3]
     exact r_Begin_full b r.a5 r.a6 r.a7 r.a8 r.a9 r.c5 r.c6 r.c7 r.c8 r.c9 x i hi (by omega) (by omega) _ rfl c1 hc.1 (by omega) hs.1 hI.li _ rfl c2 c3 W h
    ·rw [if_neg c3]
     exact r_Begin_ins b r.a5 r.a6 r.a7 r.a8 r.a9 r.c5 r.c6 r.c7 r.c8 r.c9 x i hi (by omega) (by omega) _ rfl c1 hc.1 (by omega) hs.1 hI.li _ rfl c2 c3 hii.1 (by omega) _ hop (by omega) W h
   ·rw [if_neg c2]
    exact r_Begin_oth b r.a5 r.a6 r.a7 r.a8 r.a9 r.c5 r.c6 r.c7 r.c8 r.c9 x i hi (by omega) (by omega) _ rfl c1 hc.1 (by omega) hs.1 c2 _ hop (by omega) W h
 ·rw [if_neg c]
  by_cases c1 : 0 ≤ n ∧ n < (b.calls.length : Int)
  ·obtain ⟨i, rfl⟩ : ∃ i : Nat, n = (i : Int) := ⟨n.toNat, by omega⟩
   exact r_Begin_bad b r.a5 r.a6 r.a7 r.a8 r.a9 r.c5 r.c6 r.c7 r.c8 r.c9 x i (by omega) (by omega) W h
  ·exact r_Begin_none_is b r.a5 r.a6 r.a7 r.a8 r.a9 r.c5 r.c6 r.c7 r.c8 r.c9 x n (by omega) W h
theorem d_Make {b : RB} (hI : Inv b) (r : RA) (n k : Int) (W : World) (h : RAt W b r) :
  Calls Try.prog 36 #[rv b r, .int .i64 n, .int .i64 k] W fun e w' => ∃ r' : RA, e = .returned (.tuple #[rv (mkR b n k).1 r', .int .i64 (mkR b n k).2.1, .int .i64 (mkR b n k).2.2]) ∧ RAt w' (mkR b n k).1 r' ∧ Below W.heap.size W w' := by
 have hs := hI.small
 unfold mkR
 by_cases c : 0 ≤ n ∧ n < (b.calls.length : Int) ∧ (fOp b.ops k).isSome = true
 ·rw [if_pos c]
  obtain ⟨n0, n1, hf⟩ := c
  obtain ⟨i, rfl⟩ : ∃ i : Nat, n = (i : Int) := ⟨n.toNat, by omega⟩
  simp only [Int.toNat_natCast]
  have hi : i < b.calls.length := by omega
  have hm := hI.hm i hi
  obtain ⟨x, hx⟩ := Option.isSome_iff_exists.1 hf
  by_cases c1 : b.made.getD i 0 = 2 * b.c.f4
  ·rw [if_pos c1]
   exact r_Make_full b r.a5 r.a6 r.a7 r.a8 r.a9 r.c5 r.c6 r.c7 r.c8 r.c9 k i hi hI.lm x hx _ rfl (by omega) (by omega) c1 (by omega) W h
  ·rw [if_neg c1]
   exact r_Make_ok b r.a5 r.a6 r.a7 r.a8 r.a9 r.c5 r.c6 r.c7 r.c8 r.c9 k i hi hI.lm x hx _ rfl (by omega) (by omega) c1 hm.1 (by omega) hs.1 _ (rnd_calls hI i hi _ rfl c1) (by omega) (by omega) W h
 ·rw [if_neg c]
  by_cases c1 : 0 ≤ n ∧ n < (b.calls.length : Int)
  ·obtain ⟨i, rfl⟩ : ∃ i : Nat, n = (i : Int) := ⟨n.toNat, by omega⟩
   have hn : fOp b.ops k = none := by
    cases e : fOp b.ops k with
    | none => rfl
    | some x => exact absurd ⟨c1.1, c1.2, by rw [e]; rfl⟩ c
   exact r_Make_none b r.a5 r.a6 r.a7 r.a8 r.a9 r.c5 r.c6 r.c7 r.c8 r.c9 k i (by omega) hn (by omega) W h
  ·exact r_Make_none_is b r.a5 r.a6 r.a7 r.a8 r.a9 r.c5 r.c6 r.c7 r.c8 r.c9 k n (by omega) (by omega) W h
set_option maxHeartbeats 8000000 in
set_option maxRecDepth 100000 in
theorem d_Do {b : RB} (hI : Inv b) (r : RA) (a : S58) (w : World) (h : RAt w b r) :
  Calls Try.prog 28 #[rv b r, .agg #[.bool a.f0, .int .i64 a.f1, .int .i64 a.f2, .int .i64 a.f3.f0, .int .u64 a.f3.f1, .int .u64 a.f3.f2, .int .i64 a.f3.f3]] w fun e w' => ∃ r' : RA, e = .returned (.tuple #[rv (doR b a).1 r', .int .i64 (doR b a).2.1, .int .i64 (doR b a).2.2]) ∧ RAt w' (doR b a).1 r' ∧ Below w.heap.size w w' := by
 have HR0 := Aside0.mk h
 have HI := Aside0.mk hI
 have HB := Aside0.mk (Below.refl w.heap.size w)
 clear h hI
 unfold rv
 cases hf : a.f0 with
 | true =>
  have e0 : doR b a = mkR b a.f1 a.f2 := by unfold doR; rw [hf]; rfl
  rw [e0]
  clear e0
  go_enter Try.func28, Try.ntmps28
  go_wp2_with (first | ((with_reducible refine gate_dst (N := 2) rfl ?_); refine box_event ?hg (N := 2) ?hd (cs := #[.int .i64 b.c.f0, .int .i64 b.c.f1, .int .i64 b.c.f2, .int .i64 b.c.f3, .int .i64 b.c.f4, .slice r.a5 b.calls.length r.c5, .slice r.a6 b.ins.length r.c6, .slice r.a7 b.made.length r.c7, .slice r.a8 b.ops.length r.c8, .slice r.a9 b.nodes.length r.c9]) (t := 32) ?hr ?_; (case hd => rfl); (case hg => rfl); (case hr => first | (go_simp; done) | (go_simp; rfl)); intro g2 hg w2 hbox hbk; have B2 := Aside0.mk hbox; have HGB2 := Aside0.mk (show w.heap.size ≤ g2 from by rw [hg]; exact HB.out.size); have n_HB := Aside0.mk (below_step HB.out hbk); clear HB; have HB := n_HB; clear n_HB; clear hbk hbox hg) | ((with_reducible refine gate_dst (N := 3) rfl ?_); refine box_event ?hg (N := 3) ?hd (cs := #[.bool a.f0, .int .i64 a.f1, .int .i64 a.f2, .int .i64 a.f3.f0, .int .u64 a.f3.f1, .int .u64 a.f3.f2, .int .i64 a.f3.f3]) (t := 58) ?hr ?_; (case hd => rfl); (case hg => rfl); (case hr => first | (go_simp; done) | (go_simp; rfl)); intro g3 hg w3 hbox hbk; have B3 := Aside0.mk hbox; have HGB3 := Aside0.mk (show w.heap.size ≤ g3 from by rw [hg]; exact HB.out.size); have n_B2 := Aside0.mk (blk_below B2.out hbk); have n_HB := Aside0.mk (below_step HB.out hbk); clear B2 HB; have B2 := n_B2; have HB := n_HB; clear n_B2 n_HB; clear hbk hbox hg) | ((with_reducible refine gate_dst (N := 4) rfl ?_); refine box_event ?hg (N := 4) ?hd (cs := #[.int .i64 0, .int .i64 0, .int .i64 0, .int .i64 0, .int .i64 0, .slice none 0 0, .slice none 0 0, .slice none 0 0, .slice none 0 0, .slice none 0 0]) (t := 32) ?hr ?_; (case hd => rfl); (case hg => rfl); (case hr => first | (go_simp; done) | (go_simp; rfl)); intro g4 hg w4 hbox hbk; have B4 := Aside0.mk hbox; have HGB4 := Aside0.mk (show w.heap.size ≤ g4 from by rw [hg]; exact HB.out.size); have n_B2 := Aside0.mk (blk_below B2.out hbk); have n_B3 := Aside0.mk (blk_below B3.out hbk); have n_HB := Aside0.mk (below_step HB.out hbk); clear B2 B3 HB; have B2 := n_B2; have B3 := n_B3; have HB := n_HB; clear n_B2 n_B3 n_HB; obtain ⟨c2_0, c2_1, c2_2, c2_3, c2_4, c2_5, c2_6, c2_7, c2_8, c2_9⟩ := blkc10 B2.out; obtain ⟨c3_0, c3_1, c3_2, c3_3, c3_4, c3_5, c3_6⟩ := blkc7 B3.out; obtain ⟨c4_0, c4_1, c4_2, c4_3, c4_4, c4_5, c4_6, c4_7, c4_8, c4_9⟩ := blkc10 B4.out; obtain ⟨f4_0, f4_1, f4_2, f4_3, f4_4, f4_5, f4_6, f4_7, f4_8, f4_9⟩ := blkf10 B4.out; clear hbk hbox hg) | (go_at_call 36; have hcon := d_Make HI.out r a.f1 a.f2 _ (HR0.out.below HB.out); unfold rv at hcon; (with_reducible refine hcon.mono ?_); clear hcon; rintro e w5 ⟨r', rfl, hR, hbk⟩; have HR := Aside0.mk hR; have n_B4 := Aside0.mk (blk_below B4.out hbk); have n_HB := Aside0.mk (below_step HB.out hbk); clear B4 HB; have B4 := n_B4; have HB := n_HB; clear n_B4 n_HB; clear c2_0 c2_1 c2_2 c2_3 c2_4 c2_5 c2_6 c2_7 c2_8 c2_9 c3_0 c3_1 c3_2 c3_3 c3_4 c3_5 c3_6 c4_0 c4_1 c4_2 c4_3 c4_4 c4_5 c4_6 c4_7 c4_8 c4_9 f4_0 f4_1 f4_2 f4_3 f4_4 f4_5 f4_6 f4_7 f4_8 f4_9; obtain ⟨c4_0, c4_1, c4_2, c4_3, c4_4, c4_5, c4_6, c4_7, c4_8, c4_9⟩ := blkc10 B4.out; obtain ⟨f4_0, f4_1, f4_2, f4_3, f4_4, f4_5, f4_6, f4_7, f4_8, f4_9⟩ := blkf10 B4.out; clear hR hbk))
  refine bodyPost_ret (results_ctt rfl _ _ g4 32 #[.int .i64 (mkR b a.f1 a.f2).1.c.f0, .int .i64 (mkR b a.f1 a.f2).1.c.f1, .int .i64 (mkR b a.f1 a.f2).1.c.f2, .int .i64 (mkR b a.f1 a.f2).1.c.f3, .int .i64 (mkR b a.f1 a.f2).1.c.f4, .slice r'.a5 (mkR b a.f1 a.f2).1.calls.length r'.c5, .slice r'.a6 (mkR b a.f1 a.f2).1.ins.length r'.c6, .slice r'.a7 (mkR b a.f1 a.f2).1.made.length r'.c7, .slice r'.a8 (mkR b a.f1 a.f2).1.ops.length r'.c8, .slice r'.a9 (mkR b a.f1 a.f2).1.nodes.length r'.c9] (0, 0) _ rfl (put10 B4.out) Try.underlying32 rfl (by kernel_rfl)) rfl ?_
  exact ⟨r', rfl, ⟨MR.set10 HR.out.m5 B4.out (by decide), MR.set10 HR.out.m6 B4.out (by decide), MR.set10 HR.out.m7 B4.out (by decide), MR.set10 HR.out.m8 B4.out (by decide), MR.set10 HR.out.m9 B4.out (by decide)⟩, bel10 HB.out HGB4.out⟩
 | false =>
  have e0 : doR b a = begR b a.f1 a.f3 := by unfold doR; rw [hf]; rfl
  rw [e0]
  clear e0
  go_enter Try.func28, Try.ntmps28
  go_wp2_with (first | ((with_reducible refine gate_dst (N := 2) rfl ?_); refine box_event ?hg (N := 2) ?hd (cs := #[.int .i64 b.c.f0, .int .i64 b.c.f1, .int .i64 b.c.f2, .int .i64 b.c.f3, .int .i64 b.c.f4, .slice r.a5 b.calls.length r.c5, .slice r.a6 b.ins.length r.c6, .slice r.a7 b.made.length r.c7, .slice r.a8 b.ops.length r.c8, .slice r.a9 b.nodes.length r.c9]) (t := 32) ?hr ?_; (case hd => rfl); (case hg => rfl); (case hr => first | (go_simp; done) | (go_simp; rfl)); intro g2 hg w2 hbox hbk; have B2 := Aside0.mk hbox; have HGB2 := Aside0.mk (show w.heap.size ≤ g2 from by rw [hg]; exact HB.out.size); have n_HB := Aside0.mk (below_step HB.out hbk); clear HB; have HB := n_HB; clear n_HB; clear hbk hbox hg) | ((with_reducible refine gate_dst (N := 3) rfl ?_); refine box_event ?hg (N := 3) ?hd (cs := #[.bool a.f0, .int .i64 a.f1, .int .i64 a.f2, .int .i64 a.f3.f0, .int .u64 a.f3.f1, .int .u64 a.f3.f2, .int .i64 a.f3.f3]) (t := 58) ?hr ?_; (case hd => rfl); (case hg => rfl); (case hr => first | (go_simp; done) | (go_simp; rfl)); intro g3 hg w3 hbox hbk; have B3 := Aside0.mk hbox; have HGB3 := Aside0.mk (show w.heap.size ≤ g3 from by rw [hg]; exact HB.out.size); have n_B2 := Aside0.mk (blk_below B2.out hbk); have n_HB := Aside0.mk (below_step HB.out hbk); clear B2 HB; have B2 := n_B2; have HB := n_HB; clear n_B2 n_HB; clear hbk hbox hg) | ((with_reducible refine gate_dst (N := 4) rfl ?_); refine box_event ?hg (N := 4) ?hd (cs := #[.int .i64 0, .int .i64 0, .int .i64 0, .int .i64 0, .int .i64 0, .slice none 0 0, .slice none 0 0, .slice none 0 0, .slice none 0 0, .slice none 0 0]) (t := 32) ?hr ?_; (case hd => rfl); (case hg => rfl); (case hr => first | (go_simp; done) | (go_simp; rfl)); intro g4 hg w4 hbox hbk; have B4 := Aside0.mk hbox; have HGB4 := Aside0.mk (show w.heap.size ≤ g4 from by rw [hg]; exact HB.out.size); have n_B2 := Aside0.mk (blk_below B2.out hbk); have n_B3 := Aside0.mk (blk_below B3.out hbk); have n_HB := Aside0.mk (below_step HB.out hbk); clear B2 B3 HB; have B2 := n_B2; have B3 := n_B3; have HB := n_HB; clear n_B2 n_B3 n_HB; obtain ⟨c2_0, c2_1, c2_2, c2_3, c2_4, c2_5, c2_6, c2_7, c2_8, c2_9⟩ := blkc10 B2.out; obtain ⟨c3_0, c3_1, c3_2, c3_3, c3_4, c3_5, c3_6⟩ := blkc7 B3.out; obtain ⟨c4_0, c4_1, c4_2, c4_3, c4_4, c4_5, c4_6, c4_7, c4_8, c4_9⟩ := blkc10 B4.out; obtain ⟨f4_0, f4_1, f4_2, f4_3, f4_4, f4_5, f4_6, f4_7, f4_8, f4_9⟩ := blkf10 B4.out; clear hbk hbox hg) | (go_at_call 37; have hcon := d_Begin HI.out r a.f1 a.f3 _ (HR0.out.below HB.out); unfold rv at hcon; (with_reducible refine hcon.mono ?_); clear hcon; rintro e w5 ⟨r', rfl, hR, hbk⟩; have HR := Aside0.mk hR; have n_B4 := Aside0.mk (blk_below B4.out hbk); have n_HB := Aside0.mk (below_step HB.out hbk); clear B4 HB; have B4 := n_B4; have HB := n_HB; clear n_B4 n_HB; clear c2_0 c2_1 c2_2 c2_3 c2_4 c2_5 c2_6 c2_7 c2_8 c2_9 c3_0 c3_1 c3_2 c3_3 c3_4 c3_5 c3_6 c4_0 c4_1 c4_2 c4_3 c4_4 c4_5 c4_6 c4_7 c4_8 c4_9 f4_0 f4_1 f4_2 f4_3 f4_4 f4_5 f4_6 f4_7 f4_8 f4_9; obtain ⟨c4_0, c4_1, c4_2, c4_3, c4_4, c4_5, c4_6, c4_7, c4_8, c4_9⟩ := blkc10 B4.out; obtain ⟨f4_0, f4_1, f4_2, f4_3, f4_4, f4_5, f4_6, f4_7, f4_8, f4_9⟩ := blkf10 B4.out; clear hR hbk))
  refine bodyPost_ret (results_ctt rfl _ _ g4 32 #[.int .i64 (begR b a.f1 a.f3).1.c.f0, .int .i64 (begR b a.f1 a.f3).1.c.f1, .int .i64 (begR b a.f1 a.f3).1.c.f2, .int .i64 (begR b a.f1 a.f3).1.c.f3, .int .i64 (begR b a.f1 a.f3).1.c.f4, .slice r'.a5 (begR b a.f1 a.f3).1.calls.length r'.c5, .slice r'.a6 (begR b a.f1 a.f3).1.ins.length r'.c6, .slice r'.a7 (begR b a.f1 a.f3).1.made.length r'.c7, .slice r'.a8 (begR b a.f1 a.f3).1.ops.length r'.c8, .slice r'.a9 (begR b a.f1 a.f3).1.nodes.length r'.c9] (0, 0) _ rfl (put10 B4.out) Try.underlying32 rfl (by kernel_rfl)) rfl ?_
  exact ⟨r', rfl, ⟨MR.set10 HR.out.m5 B4.out (by decide), MR.set10 HR.out.m6 B4.out (by decide), MR.set10 HR.out.m7 B4.out (by decide), MR.set10 HR.out.m8 B4.out (by decide), MR.set10 HR.out.m9 B4.out (by decide)⟩, bel10 HB.out HGB4.out⟩


/-! ### corrielaw07_run: function 10 (by hand) -/
theorem RAt.touch {W W1 : World} {b b' : RB} {r : RA} {p gt go gn : Nat} (h : RAt W b r) (hA : BookAt W p gt go gn b') (ht : Touch (T3 gt go gn) W W1) : RAt W1 b r := by
 have key : ∀ k, T3 gt go gn k → ∀ cells q, W.heap[k]? = some (.cells cells q (0, 0)) → q = 84 := by
  intro k hk cells q hc
  rcases hk with rfl | rfl | rfl
  ·obtain ⟨cs, h1, _⟩ := hA.t
   rw [h1] at hc
   injection hc with hc
   injection hc with _ hc
   exact hc.symm
  ·obtain ⟨es, cl, h1, _⟩ := hA.o
   rw [h1] at hc
   cases hc
  ·obtain ⟨es, cl, h1, _⟩ := hA.n
   rw [h1] at hc
   cases hc
 exact ⟨h.m5.touch ht (fun k hk cells q hc => by rw [key k hk cells q hc]; decide), h.m6.touch ht (fun k hk cells q hc => by rw [key k hk cells q hc]; decide), h.m7.touch ht (fun k hk cells q hc => by rw [key k hk cells q hc]; decide), h.m8.touch ht (fun k hk cells q hc => by rw [key k hk cells q hc]; decide), h.m9.touch ht (fun k hk cells q hc => by rw [key k hk cells q hc]; decide)⟩
theorem RAt.set10 {W : World} {b : RB} {r : RA} {g : Nat} {cells : Array Value} {v0 v1 v2 v3 v4 v5 v6 v7 v8 v9 : Value} (h : RAt W b r) (hb : W.heap[g]? = some (.cells cells 32 (0, 0))) : RAt ((((((((((W.setCell ⟨g, 0, none⟩ (v0)).setCell ⟨g, 1, none⟩ (v1)).setCell ⟨g, 2, none⟩ (v2)).setCell ⟨g, 3, none⟩ (v3)).setCell ⟨g, 4, none⟩ (v4)).setCell ⟨g, 5, none⟩ (v5)).setCell ⟨g, 6, none⟩ (v6)).setCell ⟨g, 7, none⟩ (v7)).setCell ⟨g, 8, none⟩ (v8)).setCell ⟨g, 9, none⟩ (v9)) b r :=
 ⟨MR.set10 h.m5 hb (by decide), MR.set10 h.m6 hb (by decide), MR.set10 h.m7 hb (by decide), MR.set10 h.m8 hb (by decide), MR.set10 h.m9 hb (by decide)⟩
theorem run_tct {P : Program} {fn : Func} {t p u : Tmp} {ty : TypeId} (h : fn.results = #[.tmp t, .cell p ty, .tmp u]) (tmps : Array Value) (w : World) (g : Nat) (t0 : TypeId) (cs : Array Value) (fr : Nat × Nat) (d : TypeDesc)
  (hp : tmps.getD p undef = .pointer (some ⟨g, 0, none⟩)) (hg : w.heap[g]? = some (.cells cs t0 fr))
  (hu : P.underlying ty = some d) (hd : (match d with | .struct _ | .array _ _ => true | _ => false) = true) (hi : (P.info? ty).map (·.size) = some cs.size) :
  (results fn tmps).run P w = .ok (.tuple #[tmps.getD t undef, .agg cs, tmps.getD u undef]) w := by
 have hp' : tmps[p]?.getD undef = .pointer (some ⟨g, 0, none⟩) := by simpa using hp
 simp [results, h, hp', asAddr, run_loadVar_row w g t0 ty cs fr d hg hu hd hi]
def bRun (b : RB) (l : List S58) : RB := l.foldl (fun b a => (doR b a).1) b
theorem Inv.run {b : RB} (h : Inv b) (l : List S58) : Inv (bRun b l) := by
 induction l generalizing b with
 | nil => exact h
 | cons a l ih => exact ih (h.done a)
def brn_lb (n m : Nat) : Array Bool := ((List.range n).map (fun i => m.testBit i)).toArray
def bk_run.T7 : Bool × List (List Nat × List Nat) := (true, [([], []), ([], []), ([], []), ([1, 2], [1, 2]), ([3], [3]), ([0, 4], [0, 4]), ([5], [5]), ([6], [6]), ([6], [6]), ([6], [6]), ([], []), ([10, 7, 5, 0, 1, 2, 3, 4, 5, 6, 7, 10], [7, 10]), ([8, 11, 0, 1, 2, 3, 4, 5, 6, 7, 8, 10, 11], [8]), ([9, 12, 0, 1, 2, 3, 4, 5, 6, 7, 8, 9, 10, 11, 12], [9])])
def bk_run.B7 : List Nat := [0, 0, 0, 6, 14, 31, 63, 127, 127, 127, 0, 1279, 3583, 8191]
theorem bk_run.tab7 : rtab .any (opsOf Try.f10 7) = bk_run.T7 := by kernel_rfl
theorem bk_run.bits7 : waitsOk bk_run.T7.2 bk_run.B7 = true := by kernel_rfl
def bk_run.T11 : Bool × List (List Nat × List Nat) := (true, [([], []), ([], []), ([0, 0], [0]), ([1, 2, 0, 1, 2], [1]), ([3, 0, 1, 2, 3], [])])
def bk_run.B11 : List Nat := [0, 0, 1, 7, 15]
theorem bk_run.tab11 : rtab .any (opsOf Try.f10 11) = bk_run.T11 := by kernel_rfl
theorem bk_run.bits11 : waitsOk bk_run.T11.2 bk_run.B11 = true := by kernel_rfl
set_option maxHeartbeats 8000000 in
set_option maxRecDepth 100000 in
theorem p_run (c : S23) (hO : Ok c.f0 c.f1 c.f2 c.f3 c.f4) (A1 : Option Addr) (c1 : Nat) (l : List S58) (hwf : ∀ a ∈ l, (Lit.int .i64 a.f2).wf = true) (hl : l.length ≤ 30) (W : World) (hr1 : Kd.C k58 W A1 l.length l) :
  Calls Try.prog 10 #[.agg #[.int .i64 c.f0, .int .i64 c.f1, .int .i64 c.f2, .int .i64 c.f3, .int .i64 c.f4], .slice A1 l.length c1] W fun e w' => ∃ (p gt go gn : Nat) (r : RA), e = .returned (.tuple #[.pointer (some ⟨p, 0, none⟩), rv (bRun (newRB c) l) r, .bool true]) ∧ BookAt w' p gt go gn (bRun (newRB c) l) ∧ RAt w' (bRun (newRB c) l) r ∧ (W.heap.size ≤ p ∧ W.heap.size ≤ gt ∧ W.heap.size ≤ go ∧ W.heap.size ≤ gn) ∧ Below W.heap.size W w' := by
 have HR1 := Aside0.mk hr1
 have HL := Aside0.mk hl
 have HW := Aside0.mk hwf
 have HO := Aside0.mk hO
 have HB := Aside0.mk (Below.refl W.heap.size W)
 clear hr1 hl hwf hO
 go_enter Try.func10, Try.ntmps10
 go_wp2_with (first | ((with_reducible refine gate_dst (N := 2) rfl ?_); refine box_event ?hg (N := 2) ?hd (cs := #[.int .i64 c.f0, .int .i64 c.f1, .int .i64 c.f2, .int .i64 c.f3, .int .i64 c.f4]) (t := 23) ?hr ?_; (case hd => rfl); (case hg => rfl); (case hr => first | (go_simp; done) | (go_simp; rfl)); intro g2 hg w2 hbox hbk; have B2 := Aside0.mk hbox; have HGB2 := Aside0.mk (show W.heap.size ≤ g2 from by rw [hg]; exact HB.out.size); have n_HB := Aside0.mk (below_step HB.out hbk); clear HB; have HB := n_HB; clear n_HB; clear hbk hbox hg) | ((with_reducible refine gate_dst (N := 5) rfl ?_); refine box_event ?hg (N := 5) ?hd (cs := #[.int .i64 0, .int .i64 0, .int .i64 0, .int .i64 0, .int .i64 0, .slice none 0 0, .slice none 0 0, .slice none 0 0, .slice none 0 0, .slice none 0 0]) (t := 32) ?hr ?_; (case hd => rfl); (case hg => rfl); (case hr => first | (go_simp; done) | (go_simp; rfl)); intro g5 hg w5 hbox hbk; have B5 := Aside0.mk hbox; have HGB5 := Aside0.mk (show W.heap.size ≤ g5 from by rw [hg]; exact HB.out.size); have n_B2 := Aside0.mk (blk_below B2.out hbk); have n_HB := Aside0.mk (below_step HB.out hbk); clear B2 HB; have B2 := n_B2; have HB := n_HB; clear n_B2 n_HB; obtain ⟨c2_0, c2_1, c2_2, c2_3, c2_4⟩ := blkc5 B2.out; clear hbk hbox hg) | (go_at_call 21; (with_reducible refine (p_New c HO.out _).mono ?_); rintro e w6 ⟨p, gt, go, gn, rfl, hA, hbk, hg1, hg2, hg3, hg4⟩; have HG5 := Aside0.mk (show g5 < w5.heap.size from blk_lt B5.out); have HGP := Aside0.mk (show w5.heap.size ≤ p ∧ w5.heap.size ≤ gt ∧ w5.heap.size ≤ go ∧ w5.heap.size ≤ gn from ⟨hg1, hg2, hg3, hg4⟩); clear c2_0 c2_1 c2_2 c2_3 c2_4; have n_B2 := Aside0.mk (blk_below B2.out hbk); have n_B5 := Aside0.mk (blk_below B5.out hbk); have n_HB := Aside0.mk (below_step HB.out hbk); clear B2 B5 HB; have B2 := n_B2; have B5 := n_B5; have HB := n_HB; clear n_B2 n_B5 n_HB; have HA := Aside0.mk hA; obtain ⟨c2_0, c2_1, c2_2, c2_3, c2_4⟩ := blkc5 B2.out; clear hbk hA hg1 hg2 hg3 hg4) | (go_at_call 22; have hcon := d_New c HO.out w6; unfold rv at hcon; (with_reducible refine hcon.mono ?_); clear hcon; rintro e w7 ⟨r, rfl, hR, hbk⟩; clear c2_0 c2_1 c2_2 c2_3 c2_4; have n_B5 := Aside0.mk (blk_below B5.out hbk); have n_HA := Aside0.mk (HA.out.below hbk); have n_HB := Aside0.mk (below_step HB.out hbk); clear B5 HA HB; have B5 := n_B5; have HA := n_HA; have HB := n_HB; clear n_B5 n_HA n_HB; have HRR := Aside0.mk hR; clear hbk hR) | ((with_reducible refine gate_dst (N := 9) rfl ?_); refine box_event ?hg (N := 9) ?hd (cs := #[.int .i64 0, .int .i64 0, .int .i64 0, .int .i64 0, .int .i64 0, .slice none 0 0, .slice none 0 0, .slice none 0 0, .slice none 0 0, .slice none 0 0]) (t := 32) ?hr ?_; (case hd => rfl); (case hg => rfl); (case hr => first | (go_simp; done) | (go_simp; rfl)); intro g9 hg w9 hbox hbk; have B9 := Aside0.mk hbox; have HD := Aside0.mk (show (p ≠ g9 ∧ gt ≠ g9 ∧ go ≠ g9 ∧ gn ≠ g9) ∧ (p ≠ g5 ∧ gt ≠ g5 ∧ go ≠ g5 ∧ gn ≠ g5) ∧ g5 ≠ g9 from by have := HA.out.lt; have := HGP.out; have := HG5.out; have := blk_lt B5.out; omega); have HGB9 := Aside0.mk (show W.heap.size ≤ g9 from by rw [hg]; exact HB.out.size); have n_B5 := Aside0.mk (blk_below B5.out hbk); have n_HA := Aside0.mk (HA.out.below hbk); have n_HRR := Aside0.mk (HRR.out.below hbk); have n_HB := Aside0.mk (below_step HB.out hbk); clear B5 HA HRR HB; have B5 := n_B5; have HA := n_HA; have HRR := n_HRR; have HB := n_HB; clear n_B5 n_HA n_HRR n_HB; obtain ⟨c9_0, c9_1, c9_2, c9_3, c9_4, c9_5, c9_6, c9_7, c9_8, c9_9⟩ := blkc10 B9.out; obtain ⟨f9_0, f9_1, f9_2, f9_3, f9_4, f9_5, f9_6, f9_7, f9_8, f9_9⟩ := blkf10 B9.out; clear hbk hbox hg))
 have HGN := Aside0.mk (show W.heap.size ≤ p ∧ W.heap.size ≤ gt ∧ W.heap.size ≤ go ∧ W.heap.size ≤ gn from by have := HGP.out; have := HG5.out; have := HGB5.out; omega)
 go_loopg [11] l.length (fun kq v11 wr => ∃ (i : Nat) (b : RB) (r : RA), v11 = .int .i64 i ∧ Aside0 (i ≤ l.length) ∧ Aside0 (l.length - i ≤ kq) ∧ Aside0 (bRun (newRB c) (l.take i) = b) ∧ Aside0 (Inv b) ∧ Aside0 (BookAt wr p gt go gn b) ∧ Aside0 (wr.heap[g9]? = some (.cells #[.int .i64 b.c.f0, .int .i64 b.c.f1, .int .i64 b.c.f2, .int .i64 b.c.f3, .int .i64 b.c.f4, .slice r.a5 b.calls.length r.c5, .slice r.a6 b.ins.length r.c6, .slice r.a7 b.made.length r.c7, .slice r.a8 b.ops.length r.c8, .slice r.a9 b.nodes.length r.c9] 32 (0, 0))) ∧ Aside0 (wr.heap[g5]? = some (.cells #[.int .i64 0, .int .i64 0, .int .i64 0, .int .i64 0, .int .i64 0, .slice none 0 0, .slice none 0 0, .slice none 0 0, .slice none 0 0, .slice none 0 0] 32 (0, 0))) ∧ Aside0 (RAt wr b r) ∧ Aside0 (Below W.heap.size W wr))
 case atStart => exact ⟨0, newRB c, r, rfl, ⟨Nat.zero_le _⟩, ⟨by omega⟩, ⟨rfl⟩, ⟨Inv.new c HO.out⟩, ⟨HA.out.far (grown10 _ _) HD.out.1⟩, ⟨put10 B9.out⟩, ⟨blk_grown B5.out (grown10 _ _) HD.out.2.2⟩, ⟨HRR.out.set10 B9.out⟩, ⟨bel10 HB.out HGB9.out⟩⟩
 case round =>
  clear HB HA B9 B5 HRR
  obtain ⟨i, b, r, rfl, HJ, HK, HRN, HI, HA, B9, B5, HRR, HB⟩ := hrel
  by_cases hlt : i < l.length
  ·have hltb : (i : Int) < (l.length : Int) := by omega
   have HLTI := Aside0.mk hlt
   obtain ⟨ad, e4, hW0, hW1, hW2, hW3, hW4, hW5, hW6⟩ := at_T58 HR1.out (i : Int) (by omega) (by omega)
   cases e4
   have HX := Aside0.mk (show rd_T58 l (i : Int) = l[i] from by unfold rd_T58; simp [List.getD, hlt])
   simp only [Int.toNat_natCast] at hW0 hW1 hW2 hW3 hW4 hW5 hW6
   generalize rd_T58 l (i : Int) = x at hW0 hW1 hW2 hW3 hW4 hW5 hW6 HX
   have HWX := Aside0.mk (show (Lit.int .i64 x.f2).wf = true from by have h := HW.out l[i] (List.getElem_mem hlt); rw [HX.out]; exact h)
   have HFO := Aside0.mk (show bRun (newRB c) (l.take (i + 1)) = (doR b x).1 from by
    have h1 : l.take (i + 1) = l.take i ++ [x] := by rw [List.take_add_one, List.getElem?_eq_getElem hlt, HX.out]; rfl
    have h2 := HRN.out
    unfold bRun at h2 ⊢
    rw [h1, List.foldl_append, h2]
    rfl)
   have HI2 := Aside0.mk (HI.out.done x)
   have hx0 := pw_cell_below HB.out hW0
   have hx1 := pw_cell_below HB.out hW1
   have hx2 := pw_cell_below HB.out hW2
   have hx3 := pw_cell_below HB.out hW3
   have hx4 := pw_cell_below HB.out hW4
   have hx5 := pw_cell_below HB.out hW5
   have hx6 := pw_cell_below HB.out hW6
   go_upto_region 7 with (first | (go_at_call 23; (with_reducible refine (p_do HI.out p gt go gn x HWX.out _ HA.out).mono ?_); rintro e w4 ⟨rfl, hA, hT⟩; have hd := HD.out; have n1_ := Aside0.mk (blk_touch B9.out hT (fun h => h.elim (fun e => hd.1.2.1 e.symm) (fun h => h.elim (fun e => hd.1.2.2.1 e.symm) (fun e => hd.1.2.2.2 e.symm)))); have n2_ := Aside0.mk (blk_touch B5.out hT (fun h => h.elim (fun e => hd.2.1.2.1 e.symm) (fun h => h.elim (fun e => hd.2.1.2.2.1 e.symm) (fun e => hd.2.1.2.2.2 e.symm)))); have n3_ := Aside0.mk (HRR.out.touch HA.out hT); have n4_ := Aside0.mk (HB.out.trans (hT.below HB.out.size (fun k hk => by have := HGN.out; rcases hk with rfl | rfl | rfl <;> omega))); clear HA B9 B5 HRR HB hd; have HA := Aside0.mk hA; have B9 := n1_; have B5 := n2_; have HRR := n3_; have HB := n4_; clear n1_ n2_ n3_ n4_ hA hT hx0 hx1 hx2 hx3 hx4 hx5 hx6))
   have n_HA := Aside0.mk (HA.out.drew)
   have n_B9 := Aside0.mk (blk_drew B9.out)
   have n_B5 := Aside0.mk (blk_drew B5.out)
   have n_HRR := Aside0.mk (HRR.out.drew)
   have n_HB := Aside0.mk (below_drew1 HB.out)
   clear HA B9 B5 HRR HB
   have HA := n_HA
   have B9 := n_B9
   have B5 := n_B5
   have HRR := n_HRR
   have HB := n_HB
   clear n_HA n_B9 n_B5 n_HRR n_HB
   refine start_ (n := 14) (S := fun w' => w'.cell? ⟨g9, 0, none⟩ = some (.int .i64 b.c.f0) ∧ w'.cell? ⟨g9, 1, none⟩ = some (.int .i64 b.c.f1) ∧ w'.cell? ⟨g9, 2, none⟩ = some (.int .i64 b.c.f2) ∧ w'.cell? ⟨g9, 3, none⟩ = some (.int .i64 b.c.f3) ∧ w'.cell? ⟨g9, 4, none⟩ = some (.int .i64 b.c.f4) ∧ w'.cell? ⟨g9, 5, none⟩ = some (.slice r.a5 b.calls.length r.c5) ∧ w'.cell? ⟨g9, 6, none⟩ = some (.slice r.a6 b.ins.length r.c6) ∧ w'.cell? ⟨g9, 7, none⟩ = some (.slice r.a7 b.made.length r.c7) ∧ w'.cell? ⟨g9, 8, none⟩ = some (.slice r.a8 b.ops.length r.c8) ∧ w'.cell? ⟨g9, 9, none⟩ = some (.slice r.a9 b.nodes.length r.c9) ∧ w'.cell? (ad.add (i * 7)) = some (.bool x.f0) ∧ w'.cell? ⟨(ad.add (i * 7)).block, (ad.add (i * 7)).off + 1, none⟩ = some (.int .i64 x.f1) ∧ w'.cell? ⟨(ad.add (i * 7)).block, (ad.add (i * 7)).off + 2, none⟩ = some (.int .i64 x.f2) ∧ w'.cell? ⟨(ad.add (i * 7)).block, (ad.add (i * 7)).off + 3, none⟩ = some (.int .i64 x.f3.f0) ∧ w'.cell? ⟨(ad.add (i * 7)).block, (ad.add (i * 7)).off + 4, none⟩ = some (.int .u64 x.f3.f1) ∧ w'.cell? ⟨(ad.add (i * 7)).block, (ad.add (i * 7)).off + 5, none⟩ = some (.int .u64 x.f3.f2) ∧ w'.cell? ⟨(ad.add (i * 7)).block, (ad.add (i * 7)).off + 6, none⟩ = some (.int .i64 x.f3.f3)) (ds := [11]) #[false, false, false, false, false, false, false, false, false, false, false, false, false, false] (by kernel_rfl) rfl rfl ⟨((blk_cell B9.out 0).trans rfl), ((blk_cell B9.out 1).trans rfl), ((blk_cell B9.out 2).trans rfl), ((blk_cell B9.out 3).trans rfl), ((blk_cell B9.out 4).trans rfl), ((blk_cell B9.out 5).trans rfl), ((blk_cell B9.out 6).trans rfl), ((blk_cell B9.out 7).trans rfl), ((blk_cell B9.out 8).trans rfl), ((blk_cell B9.out 9).trans rfl), (pw_cell_below HB.out hW0), (pw_cell_below HB.out hW1), (pw_cell_below HB.out hW2), (pw_cell_below HB.out hW3), (pw_cell_below HB.out hW4), (pw_cell_below HB.out hW5), (pw_cell_below HB.out hW6)⟩ (fun hHeld => ?_); refine with_tabW bk_run.tab7 bk_run.bits7 (fun HT_ HW_ => ?_)
   generalize w4.drew = W1 at HA B9 B5 HRR HB hHeld ⊢
   refine pure_ (i := 1) (N := some 44) (v := ?_) (a' := ?_) (brn_lb 14 2) rfl rfl (any_of HT_.out (by kernel_rfl)) (fun _ _ _ h => h) (Or.inl ⟨by rfl, ?_⟩) ?_ ?_; rotate_left
   ·intro w'; go_simp; with_reducible rfl
   rotate_left
   ·simp only [Act.put, List.setIfInBounds_toArray, List.set_cons_zero, List.set_cons_succ, i64_w, i32_w]; rfl
   refine pure_ (i := 2) (N := some 45) (v := ?_) (a' := ?_) (brn_lb 14 6) rfl rfl (any_of HT_.out (by kernel_rfl)) (fun _ _ _ h => h) (Or.inl ⟨by rfl, ?_⟩) ?_ ?_; rotate_left
   ·intro w'; go_simp; with_reducible rfl
   rotate_left
   ·simp only [Act.put, List.setIfInBounds_toArray, List.set_cons_zero, List.set_cons_succ, i64_w, i32_w]; rfl
   refine pure_ (i := 3) (N := some 46) (v := ?_) (a' := ?_) (brn_lb 14 14) rfl rfl (any_of HT_.out (by kernel_rfl)) (fun _ _ _ h => h) (Or.inl ⟨by rfl, ?_⟩) ?_ ?_; rotate_left
   ·intro w'; go_simp; with_reducible rfl
   rotate_left
   ·simp only [Act.put, List.setIfInBounds_toArray, List.set_cons_zero, List.set_cons_succ, i64_w, i32_w]; rfl
   refine take_ (i := 0) (N := some 43) (v := ?_) (a' := ?_) (brn_lb 14 15) rfl rfl (take_ofW HT_.out HW_.out (by kernel_rfl)) (fun _ _ _ h => h) (Or.inl ⟨by rfl, ?_⟩) hHeld ?_ ?_; rotate_left
   ·rintro w' ⟨s0, s1, s2, s3, s4, s5, s6, s7, s8, s9, s10, s11, s12, s13, s14, s15, s16⟩; go_simp; with_reducible rfl
   rotate_left
   ·simp only [Act.put, List.setIfInBounds_toArray, List.set_cons_zero, List.set_cons_succ, i64_w, i32_w]; rfl
   refine take_ (i := 4) (N := some 47) (v := ?_) (a' := ?_) (brn_lb 14 31) rfl rfl (take_ofW HT_.out HW_.out (by kernel_rfl)) (fun _ _ _ h => h) (Or.inl ⟨by rfl, ?_⟩) hHeld ?_ ?_; rotate_left
   ·rintro w' ⟨s0, s1, s2, s3, s4, s5, s6, s7, s8, s9, s10, s11, s12, s13, s14, s15, s16⟩; go_simp; with_reducible rfl
   rotate_left
   ·simp only [Act.put, List.setIfInBounds_toArray, List.set_cons_zero, List.set_cons_succ, i64_w, i32_w]; rfl
   refine join_ (σ := RA × Nat) 3 (brn_lb 14 2047) (fun s => [(48, .tuple #[.agg #[.int .i64 (doR b x).1.c.f0, .int .i64 (doR b x).1.c.f1, .int .i64 (doR b x).1.c.f2, .int .i64 (doR b x).1.c.f3, .int .i64 (doR b x).1.c.f4, .slice s.1.a5 (doR b x).1.calls.length s.1.c5, .slice s.1.a6 (doR b x).1.ins.length s.1.c6, .slice s.1.a7 (doR b x).1.made.length s.1.c7, .slice s.1.a8 (doR b x).1.ops.length s.1.c8, .slice s.1.a9 (doR b x).1.nodes.length s.1.c9], .int .i64 (doR b x).2.1, .int .i64 (doR b x).2.2]), (42, .tuple #[.agg #[.int .i64 (doR b x).1.c.f0, .int .i64 (doR b x).1.c.f1, .int .i64 (doR b x).1.c.f2, .int .i64 (doR b x).1.c.f3, .int .i64 (doR b x).1.c.f4, .slice s.1.a5 (doR b x).1.calls.length s.1.c5, .slice s.1.a6 (doR b x).1.ins.length s.1.c6, .slice s.1.a7 (doR b x).1.made.length s.1.c7, .slice s.1.a8 (doR b x).1.ops.length s.1.c8, .slice s.1.a9 (doR b x).1.nodes.length s.1.c9], .int .i64 (doR b x).2.1, .int .i64 (doR b x).2.2]), (49, .agg #[.int .i64 (doR b x).1.c.f0, .int .i64 (doR b x).1.c.f1, .int .i64 (doR b x).1.c.f2, .int .i64 (doR b x).1.c.f3, .int .i64 (doR b x).1.c.f4, .slice s.1.a5 (doR b x).1.calls.length s.1.c5, .slice s.1.a6 (doR b x).1.ins.length s.1.c6, .slice s.1.a7 (doR b x).1.made.length s.1.c7, .slice s.1.a8 (doR b x).1.ops.length s.1.c8, .slice s.1.a9 (doR b x).1.nodes.length s.1.c9]), (50, .int .i64 (doR b x).2.1), (51, .int .i64 (doR b x).2.2), (14, .pointer (some ⟨s.2, 0, none⟩))]) (fun s w' => Aside0 (BookAt w' p gt go gn (doR b x).1) ∧ Aside0 (w'.heap[g9]? = some (.cells #[.int .i64 b.c.f0, .int .i64 b.c.f1, .int .i64 b.c.f2, .int .i64 b.c.f3, .int .i64 b.c.f4, .slice r.a5 b.calls.length r.c5, .slice r.a6 b.ins.length r.c6, .slice r.a7 b.made.length r.c7, .slice r.a8 b.ops.length r.c8, .slice r.a9 b.nodes.length r.c9] 32 (0, 0))) ∧ Aside0 (w'.heap[g5]? = some (.cells #[.int .i64 0, .int .i64 0, .int .i64 0, .int .i64 0, .int .i64 0, .slice none 0 0, .slice none 0 0, .slice none 0 0, .slice none 0 0, .slice none 0 0] 32 (0, 0))) ∧ Aside0 (w'.heap[s.2]? = some (.cells #[.int .i64 0, .int .i64 0, .int .i64 0, .int .i64 0, .int .i64 0, .slice none 0 0, .slice none 0 0, .slice none 0 0, .slice none 0 0, .slice none 0 0] 32 (0, 0))) ∧ Aside0 (RAt w' (doR b x).1 s.1) ∧ Aside0 (W.heap.size ≤ s.2 ∧ (p ≠ s.2 ∧ gt ≠ s.2 ∧ go ≠ s.2 ∧ gn ≠ s.2) ∧ g5 ≠ s.2 ∧ g9 ≠ s.2) ∧ Aside0 (Below W.heap.size W w')) ?_ ?_
   rotate_left
   ·intro hCont
    refine two_ (i := 5) (j := 10) (Ni := some 48) (Nj := some 14) (brn_lb 14 63) (brn_lb 14 1055) rfl rfl rfl rfl (two_of HT_.out (by kernel_rfl)) (by decide) (by decide) (fun K hK => ?_) (fun K hK => ?_)
    ·skip
     refine goes_ Try.func28 (by kernel_rfl) rfl #[.agg #[.int .i64 b.c.f0, .int .i64 b.c.f1, .int .i64 b.c.f2, .int .i64 b.c.f3, .int .i64 b.c.f4, .slice r.a5 b.calls.length r.c5, .slice r.a6 b.ins.length r.c6, .slice r.a7 b.made.length r.c7, .slice r.a8 b.ops.length r.c8, .slice r.a9 b.nodes.length r.c9], .agg #[.bool x.f0, .int .i64 x.f1, .int .i64 x.f2, .int .i64 x.f3.f0, .int .u64 x.f3.f1, .int .u64 x.f3.f2, .int .i64 x.f3.f3]] (by rfl) rfl rfl (by (try simp only [List.map_toArray, List.map_cons, List.map_nil]); first | done | rfl) ?_
     have hcon := d_Do HI.out r x _ HRR.out
     unfold rv at hcon
     with_reducible refine hcon.mono ?_
     clear hcon
     rintro e w5_ ⟨r', rfl, hR1, hbk⟩
     refine ⟨_, rfl, ?_⟩
     have n_HA := Aside0.mk (HA.out.below hbk)
     have n_B9 := Aside0.mk (blk_below B9.out hbk)
     have n_B5 := Aside0.mk (blk_below B5.out hbk)
     have n_HB := Aside0.mk (below_step HB.out hbk)
     clear HA B9 B5 HB HRR hbk
     have HA := n_HA
     have B9 := n_B9
     have B5 := n_B5
     have HB := n_HB
     clear n_HA n_B9 n_B5 n_HB
     have HRR := Aside0.mk hR1
     clear hR1
     refine hK.out _ _ ⟨((blk_cell B9.out 0).trans rfl), ((blk_cell B9.out 1).trans rfl), ((blk_cell B9.out 2).trans rfl), ((blk_cell B9.out 3).trans rfl), ((blk_cell B9.out 4).trans rfl), ((blk_cell B9.out 5).trans rfl), ((blk_cell B9.out 6).trans rfl), ((blk_cell B9.out 7).trans rfl), ((blk_cell B9.out 8).trans rfl), ((blk_cell B9.out 9).trans rfl), (pw_cell_below HB.out hW0), (pw_cell_below HB.out hW1), (pw_cell_below HB.out hW2), (pw_cell_below HB.out hW3), (pw_cell_below HB.out hW4), (pw_cell_below HB.out hW5), (pw_cell_below HB.out hW6)⟩ (fun hHeld => ?_)
     clear hK K
     refine norm_ (a' := ?_) ?_ ?_
     rotate_left
     ·show Act.put _ (some 48) _ = _
      simp only [Act.put, List.setIfInBounds_toArray, List.set_cons_zero, List.set_cons_succ, i64_w, i32_w]
      rfl
     refine pure_ (i := 6) (N := some 42) (v := ?_) (a' := ?_) (brn_lb 14 127) rfl rfl (any_of HT_.out (by kernel_rfl)) (fun _ _ _ h => h) (Or.inl ⟨by rfl, ?_⟩) ?_ ?_; rotate_left
     ·intro w'; go_simp; with_reducible rfl
     rotate_left
     ·simp only [Act.put, List.setIfInBounds_toArray, List.set_cons_zero, List.set_cons_succ, i64_w, i32_w]; rfl
     refine pure_ (i := 7) (N := some 49) (v := ?_) (a' := ?_) (brn_lb 14 255) rfl rfl (any_of HT_.out (by kernel_rfl)) (fun _ _ _ h => h) (Or.inl ⟨by rfl, ?_⟩) ?_ ?_; rotate_left
     ·intro w'; go_simp; with_reducible rfl
     rotate_left
     ·simp only [Act.put, List.setIfInBounds_toArray, List.set_cons_zero, List.set_cons_succ, i64_w, i32_w]; rfl
     refine pure_ (i := 8) (N := some 50) (v := ?_) (a' := ?_) (brn_lb 14 511) rfl rfl (any_of HT_.out (by kernel_rfl)) (fun _ _ _ h => h) (Or.inl ⟨by rfl, ?_⟩) ?_ ?_; rotate_left
     ·intro w'; go_simp; with_reducible rfl
     rotate_left
     ·simp only [Act.put, List.setIfInBounds_toArray, List.set_cons_zero, List.set_cons_succ, i64_w, i32_w]; rfl
     refine pure_ (i := 9) (N := some 51) (v := ?_) (a' := ?_) (brn_lb 14 1023) rfl rfl (any_of HT_.out (by kernel_rfl)) (fun _ _ _ h => h) (Or.inl ⟨by rfl, ?_⟩) ?_ ?_; rotate_left
     ·intro w'; go_simp; with_reducible rfl
     rotate_left
     ·simp only [Act.put, List.setIfInBounds_toArray, List.set_cons_zero, List.set_cons_succ, i64_w, i32_w]; rfl
     refine one_ (i := 10) (N := some 14) (brn_lb 14 2047) rfl rfl (one_of HT_.out (by kernel_rfl)) (by decide) (fun K hK => ?_)
     refine value_ (w1 := ?_) (v := ?_) (by rfl) rfl ?_ ?_
     rotate_left 2
     ·go_simp
      constructor
      ·rfl
      ·rfl
     have hbk := below_alloc (Below.refl w5_.heap.size w5_) (.cells #[.int .i64 0, .int .i64 0, .int .i64 0, .int .i64 0, .int .i64 0, .slice none 0 0, .slice none 0 0, .slice none 0 0, .slice none 0 0, .slice none 0 0] 32)
     have n_HA := Aside0.mk (HA.out.below hbk)
     have n_B9 := Aside0.mk (blk_below B9.out hbk)
     have n_B5 := Aside0.mk (blk_below B5.out hbk)
     have n_HRR := Aside0.mk (HRR.out.below hbk)
     have n_HB := Aside0.mk (below_step HB.out hbk)
     have B14 := Aside0.mk (blk_new w5_ (.cells #[.int .i64 0, .int .i64 0, .int .i64 0, .int .i64 0, .int .i64 0, .slice none 0 0, .slice none 0 0, .slice none 0 0, .slice none 0 0, .slice none 0 0] 32))
     have HG14 := Aside0.mk (show W.heap.size ≤ w5_.heap.size ∧ (p ≠ w5_.heap.size ∧ gt ≠ w5_.heap.size ∧ go ≠ w5_.heap.size ∧ gn ≠ w5_.heap.size) ∧ g5 ≠ w5_.heap.size ∧ g9 ≠ w5_.heap.size from by have := HB.out.size; have := HA.out.lt; have := blk_lt B5.out; have := blk_lt B9.out; omega)
     clear HA B9 B5 HRR HB hbk
     have HA := n_HA
     have B9 := n_B9
     have B5 := n_B5
     have HRR := n_HRR
     have HB := n_HB
     clear n_HA n_B9 n_B5 n_HRR n_HB
     generalize w5_.alloc (.cells #[.int .i64 0, .int .i64 0, .int .i64 0, .int .i64 0, .int .i64 0, .slice none 0 0, .slice none 0 0, .slice none 0 0, .slice none 0 0, .slice none 0 0] 32) = w10 at HA B9 B5 HRR HB B14 ⊢
     generalize w5_.heap.size = g14 at HG14 B14 ⊢
     refine hK.out _ _ ⟨((blk_cell B9.out 0).trans rfl), ((blk_cell B9.out 1).trans rfl), ((blk_cell B9.out 2).trans rfl), ((blk_cell B9.out 3).trans rfl), ((blk_cell B9.out 4).trans rfl), ((blk_cell B9.out 5).trans rfl), ((blk_cell B9.out 6).trans rfl), ((blk_cell B9.out 7).trans rfl), ((blk_cell B9.out 8).trans rfl), ((blk_cell B9.out 9).trans rfl), (pw_cell_below HB.out hW0), (pw_cell_below HB.out hW1), (pw_cell_below HB.out hW2), (pw_cell_below HB.out hW3), (pw_cell_below HB.out hW4), (pw_cell_below HB.out hW5), (pw_cell_below HB.out hW6)⟩ (fun hHeld => ?_)
     clear hK K
     refine norm_ (a' := ?_) ?_ ?_
     rotate_left
     ·show Act.put _ (some 14) _ = _
      simp only [Act.put, List.setIfInBounds_toArray, List.set_cons_zero, List.set_cons_succ, i64_w, i32_w]
      rfl
     exact norm_ (by simp only [putAll, Act.put, List.setIfInBounds_toArray, List.set_cons_zero, List.set_cons_succ]) (hCont (r', g14) _ ⟨HA, B9, B5, B14, HRR, HG14, HB⟩)
    ·skip
     refine value_ (w1 := ?_) (v := ?_) (by rfl) rfl ?_ ?_
     rotate_left 2
     ·go_simp
      constructor
      ·rfl
      ·rfl
     have hbk := below_alloc (Below.refl W1.heap.size W1) (.cells #[.int .i64 0, .int .i64 0, .int .i64 0, .int .i64 0, .int .i64 0, .slice none 0 0, .slice none 0 0, .slice none 0 0, .slice none 0 0, .slice none 0 0] 32)
     have n_HA := Aside0.mk (HA.out.below hbk)
     have n_B9 := Aside0.mk (blk_below B9.out hbk)
     have n_B5 := Aside0.mk (blk_below B5.out hbk)
     have n_HRR := Aside0.mk (HRR.out.below hbk)
     have n_HB := Aside0.mk (below_step HB.out hbk)
     have B14 := Aside0.mk (blk_new W1 (.cells #[.int .i64 0, .int .i64 0, .int .i64 0, .int .i64 0, .int .i64 0, .slice none 0 0, .slice none 0 0, .slice none 0 0, .slice none 0 0, .slice none 0 0] 32))
     have HG14 := Aside0.mk (show W.heap.size ≤ W1.heap.size ∧ (p ≠ W1.heap.size ∧ gt ≠ W1.heap.size ∧ go ≠ W1.heap.size ∧ gn ≠ W1.heap.size) ∧ g5 ≠ W1.heap.size ∧ g9 ≠ W1.heap.size from by have := HB.out.size; have := HA.out.lt; have := blk_lt B5.out; have := blk_lt B9.out; omega)
     clear HA B9 B5 HRR HB hbk
     have HA := n_HA
     have B9 := n_B9
     have B5 := n_B5
     have HRR := n_HRR
     have HB := n_HB
     clear n_HA n_B9 n_B5 n_HRR n_HB
     generalize W1.alloc (.cells #[.int .i64 0, .int .i64 0, .int .i64 0, .int .i64 0, .int .i64 0, .slice none 0 0, .slice none 0 0, .slice none 0 0, .slice none 0 0, .slice none 0 0] 32) = w10 at HA B9 B5 HRR HB B14 ⊢
     generalize W1.heap.size = g14 at HG14 B14 ⊢
     refine hK.out _ _ ⟨((blk_cell B9.out 0).trans rfl), ((blk_cell B9.out 1).trans rfl), ((blk_cell B9.out 2).trans rfl), ((blk_cell B9.out 3).trans rfl), ((blk_cell B9.out 4).trans rfl), ((blk_cell B9.out 5).trans rfl), ((blk_cell B9.out 6).trans rfl), ((blk_cell B9.out 7).trans rfl), ((blk_cell B9.out 8).trans rfl), ((blk_cell B9.out 9).trans rfl), (pw_cell_below HB.out hW0), (pw_cell_below HB.out hW1), (pw_cell_below HB.out hW2), (pw_cell_below HB.out hW3), (pw_cell_below HB.out hW4), (pw_cell_below HB.out hW5), (pw_cell_below HB.out hW6)⟩ (fun hHeld => ?_)
     clear hK K
     refine norm_ (a' := ?_) ?_ ?_
     rotate_left
     ·show Act.put _ (some 14) _ = _
      simp only [Act.put, List.setIfInBounds_toArray, List.set_cons_zero, List.set_cons_succ, i64_w, i32_w]
      rfl
     refine one_ (i := 5) (N := some 48) (brn_lb 14 1087) rfl rfl (one_of HT_.out (by kernel_rfl)) (by decide) (fun K hK => ?_)
     refine goes_ Try.func28 (by kernel_rfl) rfl #[.agg #[.int .i64 b.c.f0, .int .i64 b.c.f1, .int .i64 b.c.f2, .int .i64 b.c.f3, .int .i64 b.c.f4, .slice r.a5 b.calls.length r.c5, .slice r.a6 b.ins.length r.c6, .slice r.a7 b.made.length r.c7, .slice r.a8 b.ops.length r.c8, .slice r.a9 b.nodes.length r.c9], .agg #[.bool x.f0, .int .i64 x.f1, .int .i64 x.f2, .int .i64 x.f3.f0, .int .u64 x.f3.f1, .int .u64 x.f3.f2, .int .i64 x.f3.f3]] (by rfl) rfl rfl (by (try simp only [List.map_toArray, List.map_cons, List.map_nil]); first | done | rfl) ?_
     have hcon := d_Do HI.out r x _ HRR.out
     unfold rv at hcon
     with_reducible refine hcon.mono ?_
     clear hcon
     rintro e w5_ ⟨r', rfl, hR1, hbk⟩
     refine ⟨_, rfl, ?_⟩
     have n_HA := Aside0.mk (HA.out.below hbk)
     have n_B9 := Aside0.mk (blk_below B9.out hbk)
     have n_B5 := Aside0.mk (blk_below B5.out hbk)
     have n_HB := Aside0.mk (below_step HB.out hbk)
     have n_B14 := Aside0.mk (blk_below B14.out hbk)
     clear HA B9 B5 HB B14 HRR hbk
     have HA := n_HA
     have B9 := n_B9
     have B5 := n_B5
     have HB := n_HB
     have B14 := n_B14
     clear n_HA n_B9 n_B5 n_HB n_B14
     have HRR := Aside0.mk hR1
     clear hR1
     refine hK.out _ _ ⟨((blk_cell B9.out 0).trans rfl), ((blk_cell B9.out 1).trans rfl), ((blk_cell B9.out 2).trans rfl), ((blk_cell B9.out 3).trans rfl), ((blk_cell B9.out 4).trans rfl), ((blk_cell B9.out 5).trans rfl), ((blk_cell B9.out 6).trans rfl), ((blk_cell B9.out 7).trans rfl), ((blk_cell B9.out 8).trans rfl), ((blk_cell B9.out 9).trans rfl), (pw_cell_below HB.out hW0), (pw_cell_below HB.out hW1), (pw_cell_below HB.out hW2), (pw_cell_below HB.out hW3), (pw_cell_below HB.out hW4), (pw_cell_below HB.out hW5), (pw_cell_below HB.out hW6)⟩ (fun hHeld => ?_)
     clear hK K
     refine norm_ (a' := ?_) ?_ ?_
     rotate_left
     ·show Act.put _ (some 48) _ = _
      simp only [Act.put, List.setIfInBounds_toArray, List.set_cons_zero, List.set_cons_succ, i64_w, i32_w]
      rfl
     refine pure_ (i := 6) (N := some 42) (v := ?_) (a' := ?_) (brn_lb 14 1151) rfl rfl (any_of HT_.out (by kernel_rfl)) (fun _ _ _ h => h) (Or.inl ⟨by rfl, ?_⟩) ?_ ?_; rotate_left
     ·intro w'; go_simp; with_reducible rfl
     rotate_left
     ·simp only [Act.put, List.setIfInBounds_toArray, List.set_cons_zero, List.set_cons_succ, i64_w, i32_w]; rfl
     refine pure_ (i := 7) (N := some 49) (v := ?_) (a' := ?_) (brn_lb 14 1279) rfl rfl (any_of HT_.out (by kernel_rfl)) (fun _ _ _ h => h) (Or.inl ⟨by rfl, ?_⟩) ?_ ?_; rotate_left
     ·intro w'; go_simp; with_reducible rfl
     rotate_left
     ·simp only [Act.put, List.setIfInBounds_toArray, List.set_cons_zero, List.set_cons_succ, i64_w, i32_w]; rfl
     refine pure_ (i := 8) (N := some 50) (v := ?_) (a' := ?_) (brn_lb 14 1535) rfl rfl (any_of HT_.out (by kernel_rfl)) (fun _ _ _ h => h) (Or.inl ⟨by rfl, ?_⟩) ?_ ?_; rotate_left
     ·intro w'; go_simp; with_reducible rfl
     rotate_left
     ·simp only [Act.put, List.setIfInBounds_toArray, List.set_cons_zero, List.set_cons_succ, i64_w, i32_w]; rfl
     refine pure_ (i := 9) (N := some 51) (v := ?_) (a' := ?_) (brn_lb 14 2047) rfl rfl (any_of HT_.out (by kernel_rfl)) (fun _ _ _ h => h) (Or.inl ⟨by rfl, ?_⟩) ?_ ?_; rotate_left
     ·intro w'; go_simp; with_reducible rfl
     rotate_left
     ·simp only [Act.put, List.setIfInBounds_toArray, List.set_cons_zero, List.set_cons_succ, i64_w, i32_w]; rfl
     exact norm_ (by simp only [putAll, Act.put, List.setIfInBounds_toArray, List.set_cons_zero, List.set_cons_succ]) (hCont (r', g14) _ ⟨HA, B9, B5, B14, HRR, HG14, HB⟩)
   clear HA B9 B5 HRR HB hHeld
   rintro ⟨r', g14⟩ w6_ ⟨HA, B9, B5, B14, HRR, HG14, HB⟩
   have hHeld := (show w6_.cell? ⟨g9, 0, none⟩ = some (.int .i64 b.c.f0) ∧ w6_.cell? ⟨g9, 1, none⟩ = some (.int .i64 b.c.f1) ∧ w6_.cell? ⟨g9, 2, none⟩ = some (.int .i64 b.c.f2) ∧ w6_.cell? ⟨g9, 3, none⟩ = some (.int .i64 b.c.f3) ∧ w6_.cell? ⟨g9, 4, none⟩ = some (.int .i64 b.c.f4) ∧ w6_.cell? ⟨g9, 5, none⟩ = some (.slice r.a5 b.calls.length r.c5) ∧ w6_.cell? ⟨g9, 6, none⟩ = some (.slice r.a6 b.ins.length r.c6) ∧ w6_.cell? ⟨g9, 7, none⟩ = some (.slice r.a7 b.made.length r.c7) ∧ w6_.cell? ⟨g9, 8, none⟩ = some (.slice r.a8 b.ops.length r.c8) ∧ w6_.cell? ⟨g9, 9, none⟩ = some (.slice r.a9 b.nodes.length r.c9) ∧ w6_.cell? (ad.add (i * 7)) = some (.bool x.f0) ∧ w6_.cell? ⟨(ad.add (i * 7)).block, (ad.add (i * 7)).off + 1, none⟩ = some (.int .i64 x.f1) ∧ w6_.cell? ⟨(ad.add (i * 7)).block, (ad.add (i * 7)).off + 2, none⟩ = some (.int .i64 x.f2) ∧ w6_.cell? ⟨(ad.add (i * 7)).block, (ad.add (i * 7)).off + 3, none⟩ = some (.int .i64 x.f3.f0) ∧ w6_.cell? ⟨(ad.add (i * 7)).block, (ad.add (i * 7)).off + 4, none⟩ = some (.int .u64 x.f3.f1) ∧ w6_.cell? ⟨(ad.add (i * 7)).block, (ad.add (i * 7)).off + 5, none⟩ = some (.int .u64 x.f3.f2) ∧ w6_.cell? ⟨(ad.add (i * 7)).block, (ad.add (i * 7)).off + 6, none⟩ = some (.int .i64 x.f3.f3) from ⟨((blk_cell B9.out 0).trans rfl), ((blk_cell B9.out 1).trans rfl), ((blk_cell B9.out 2).trans rfl), ((blk_cell B9.out 3).trans rfl), ((blk_cell B9.out 4).trans rfl), ((blk_cell B9.out 5).trans rfl), ((blk_cell B9.out 6).trans rfl), ((blk_cell B9.out 7).trans rfl), ((blk_cell B9.out 8).trans rfl), ((blk_cell B9.out 9).trans rfl), (pw_cell_below HB.out hW0), (pw_cell_below HB.out hW1), (pw_cell_below HB.out hW2), (pw_cell_below HB.out hW3), (pw_cell_below HB.out hW4), (pw_cell_below HB.out hW5), (pw_cell_below HB.out hW6)⟩)
   refine norm_ (a' := ?_) ?_ ?_
   rotate_left
   ·simp only [putAll, Act.put, List.setIfInBounds_toArray, List.set_cons_zero, List.set_cons_succ]
    rfl
   refine last_ (i := 11) (N := none) (brn_lb 14 4095) rfl rfl (one_of HT_.out (by kernel_rfl)) (by decide) (fun K hK => ?_)
   obtain ⟨c14_0, c14_1, c14_2, c14_3, c14_4, c14_5, c14_6, c14_7, c14_8, c14_9⟩ := blkc10 B14.out
   obtain ⟨f14_0, f14_1, f14_2, f14_3, f14_4, f14_5, f14_6, f14_7, f14_8, f14_9⟩ := blkf10 B14.out
   refine skip_ (w1 := ?_) (by rfl) rfl ?_ ?_
   rotate_left
   ·go_simp
    rfl
   clear c14_0 f14_0 c14_1 f14_1 c14_2 f14_2 c14_3 f14_3 c14_4 f14_4 c14_5 f14_5 c14_6 f14_6 c14_7 f14_7 c14_8 f14_8 c14_9 f14_9
   refine hK.out _ _ ?_
   clear hK K
   refine pure_ (i := 12) (N := some 15) (v := ?_) (a' := ?_) (brn_lb 14 8191) rfl rfl (any_of HT_.out (by kernel_rfl)) (fun _ _ _ h => h) (Or.inl ⟨by rfl, ?_⟩) ?_ ?_; rotate_left
   ·intro w'; go_simp; with_reducible rfl
   rotate_left
   ·simp only [Act.put, List.setIfInBounds_toArray, List.set_cons_zero, List.set_cons_succ, i64_w, i32_w]; rfl
   refine pure_ (i := 13) (N := some 16) (v := ?_) (a' := ?_) (brn_lb 14 16383) rfl rfl (any_of HT_.out (by kernel_rfl)) (fun _ _ _ h => h) (Or.inl ⟨by rfl, ?_⟩) ?_ ?_; rotate_left
   ·intro w'; go_simp; with_reducible rfl
   rotate_left
   ·simp only [Act.put, List.setIfInBounds_toArray, List.set_cons_zero, List.set_cons_succ, i64_w, i32_w]; rfl
   refine done_ (done_of HT_.out (by kernel_rfl)) ?_
   obtain ⟨W7, hW7⟩ : ∃ W, ((((((((((w6_.setCell ⟨g14, 0, none⟩ (.int .i64 (doR b x).1.c.f0)).setCell ⟨g14, 1, none⟩ (.int .i64 (doR b x).1.c.f1)).setCell ⟨g14, 2, none⟩ (.int .i64 (doR b x).1.c.f2)).setCell ⟨g14, 3, none⟩ (.int .i64 (doR b x).1.c.f3)).setCell ⟨g14, 4, none⟩ (.int .i64 (doR b x).1.c.f4)).setCell ⟨g14, 5, none⟩ (.slice r'.a5 (doR b x).1.calls.length r'.c5)).setCell ⟨g14, 6, none⟩ (.slice r'.a6 (doR b x).1.ins.length r'.c6)).setCell ⟨g14, 7, none⟩ (.slice r'.a7 (doR b x).1.made.length r'.c7)).setCell ⟨g14, 8, none⟩ (.slice r'.a8 (doR b x).1.ops.length r'.c8)).setCell ⟨g14, 9, none⟩ (.slice r'.a9 (doR b x).1.nodes.length r'.c9)) = W := ⟨_, rfl⟩
   rw [hW7]
   have n_HA := Aside0.mk (show BookAt W7 p gt go gn ((doR b x).1) from by rw [← hW7]; exact HA.out.far (grown10 _ _) HG14.out.2.1)
   have n_B9 := Aside0.mk (show W7.heap[g9]? = some (.cells #[.int .i64 b.c.f0, .int .i64 b.c.f1, .int .i64 b.c.f2, .int .i64 b.c.f3, .int .i64 b.c.f4, .slice r.a5 b.calls.length r.c5, .slice r.a6 b.ins.length r.c6, .slice r.a7 b.made.length r.c7, .slice r.a8 b.ops.length r.c8, .slice r.a9 b.nodes.length r.c9] 32 (0, 0)) from by rw [← hW7]; exact blk_grown B9.out (grown10 _ _) HG14.out.2.2.2)
   have n_B5 := Aside0.mk (show W7.heap[g5]? = some (.cells #[.int .i64 0, .int .i64 0, .int .i64 0, .int .i64 0, .int .i64 0, .slice none 0 0, .slice none 0 0, .slice none 0 0, .slice none 0 0, .slice none 0 0] 32 (0, 0)) from by rw [← hW7]; exact blk_grown B5.out (grown10 _ _) HG14.out.2.2.1)
   have n_HRR := Aside0.mk (show RAt W7 ((doR b x).1) r' from by rw [← hW7]; exact HRR.out.set10 B14.out)
   have n_HB := Aside0.mk (show Below W.heap.size W W7 from by rw [← hW7]; exact bel10 HB.out HG14.out.1)
   have n_B14 := Aside0.mk (show W7.heap[g14]? = some (.cells #[.int .i64 (doR b x).1.c.f0, .int .i64 (doR b x).1.c.f1, .int .i64 (doR b x).1.c.f2, .int .i64 (doR b x).1.c.f3, .int .i64 (doR b x).1.c.f4, .slice r'.a5 (doR b x).1.calls.length r'.c5, .slice r'.a6 (doR b x).1.ins.length r'.c6, .slice r'.a7 (doR b x).1.made.length r'.c7, .slice r'.a8 (doR b x).1.ops.length r'.c8, .slice r'.a9 (doR b x).1.nodes.length r'.c9] 32 (0, 0)) from by rw [← hW7]; exact put10 B14.out)
   clear hW7 HA B9 B5 HRR HB B14
   have HA := n_HA
   have B9 := n_B9
   have B5 := n_B5
   have HRR := n_HRR
   have HB := n_HB
   have B14 := n_B14
   clear n_HA n_B9 n_B5 n_HRR n_HB n_B14
   obtain ⟨c14_0, c14_1, c14_2, c14_3, c14_4, c14_5, c14_6, c14_7, c14_8, c14_9⟩ := blkc10 B14.out
   obtain ⟨c9_0, c9_1, c9_2, c9_3, c9_4, c9_5, c9_6, c9_7, c9_8, c9_9⟩ := blkc10 B9.out
   obtain ⟨fc9_0, fc9_1, fc9_2, fc9_3, fc9_4, fc9_5, fc9_6, fc9_7, fc9_8, fc9_9⟩ := blkf10 B9.out
   go_wp2
   go_roundg (l.length - (i + 1))
   case measure => have := HLTI.out; have := HK.out; omega
   case rel =>
    have hlt := HLTI.out
    have hle := HL.out
    exact ⟨i + 1, (doR b x).1, r', by rw [show wrap64 ((i : Int) + 1) = ((i + 1 : Nat) : Int) from by unfold wrap64; omega], ⟨by omega⟩, ⟨by omega⟩, HFO, HI2, ⟨HA.out.far (grown10 _ _) HD.out.1⟩, ⟨put10 B9.out⟩, ⟨blk_grown B5.out (grown10 _ _) HD.out.2.2⟩, ⟨HRR.out.set10 B9.out⟩, ⟨bel10 HB.out HGB9.out⟩⟩
  ·have hj : i = l.length := by have := HJ.out; omega
   subst hj
   have hnlt : ¬ ((l.length : Int) < (l.length : Int)) := by omega
   rw [List.take_length] at HRN
   go_upto_region 11 with fail
   have n_HA := Aside0.mk (HA.out.drew)
   have n_B9 := Aside0.mk (blk_drew B9.out)
   have n_B5 := Aside0.mk (blk_drew B5.out)
   have n_HRR := Aside0.mk (HRR.out.drew)
   have n_HB := Aside0.mk (below_drew1 HB.out)
   clear HA B9 B5 HRR HB
   have HA := n_HA
   have B9 := n_B9
   have B5 := n_B5
   have HRR := n_HRR
   have HB := n_HB
   clear n_HA n_B9 n_B5 n_HRR n_HB
   refine start_ (n := 5) (S := fun w' => w'.cell? ⟨g9, 0, none⟩ = some (.int .i64 b.c.f0) ∧ w'.cell? ⟨g9, 1, none⟩ = some (.int .i64 b.c.f1) ∧ w'.cell? ⟨g9, 2, none⟩ = some (.int .i64 b.c.f2) ∧ w'.cell? ⟨g9, 3, none⟩ = some (.int .i64 b.c.f3) ∧ w'.cell? ⟨g9, 4, none⟩ = some (.int .i64 b.c.f4) ∧ w'.cell? ⟨g9, 5, none⟩ = some (.slice r.a5 b.calls.length r.c5) ∧ w'.cell? ⟨g9, 6, none⟩ = some (.slice r.a6 b.ins.length r.c6) ∧ w'.cell? ⟨g9, 7, none⟩ = some (.slice r.a7 b.made.length r.c7) ∧ w'.cell? ⟨g9, 8, none⟩ = some (.slice r.a8 b.ops.length r.c8) ∧ w'.cell? ⟨g9, 9, none⟩ = some (.slice r.a9 b.nodes.length r.c9)) (ds := [3]) #[false, false, false, false, false] (by kernel_rfl) rfl rfl ⟨((blk_cell B9.out 0).trans rfl), ((blk_cell B9.out 1).trans rfl), ((blk_cell B9.out 2).trans rfl), ((blk_cell B9.out 3).trans rfl), ((blk_cell B9.out 4).trans rfl), ((blk_cell B9.out 5).trans rfl), ((blk_cell B9.out 6).trans rfl), ((blk_cell B9.out 7).trans rfl), ((blk_cell B9.out 8).trans rfl), ((blk_cell B9.out 9).trans rfl)⟩ (fun hHeld => ?_); refine with_tabW bk_run.tab11 bk_run.bits11 (fun HT_ HW_ => ?_)
   generalize wr.drew = W1 at HA B9 B5 HRR HB hHeld ⊢
   refine pure_ (i := 0) (N := some 63) (v := ?_) (a' := ?_) (brn_lb 5 1) rfl rfl (any_of HT_.out (by kernel_rfl)) (fun _ _ _ h => h) (Or.inl ⟨by rfl, ?_⟩) ?_ ?_; rotate_left
   ·intro w'; go_simp; with_reducible rfl
   rotate_left
   ·simp only [Act.put, List.setIfInBounds_toArray, List.set_cons_zero, List.set_cons_succ, i64_w, i32_w]; rfl
   refine pure_ (i := 2) (N := some 4) (v := ?_) (a' := ?_) (brn_lb 5 5) rfl rfl (any_of HT_.out (by kernel_rfl)) (fun _ _ _ h => h) (Or.inl ⟨by rfl, ?_⟩) ?_ ?_; rotate_left
   ·intro w'; go_simp; with_reducible rfl
   rotate_left
   ·simp only [Act.put, List.setIfInBounds_toArray, List.set_cons_zero, List.set_cons_succ, i64_w, i32_w]; rfl
   refine take_ (i := 1) (N := some 64) (v := ?_) (a' := ?_) (brn_lb 5 7) rfl rfl (take_ofW HT_.out HW_.out (by kernel_rfl)) (fun _ _ _ h => h) (Or.inl ⟨by rfl, ?_⟩) hHeld ?_ ?_; rotate_left
   ·rintro w' ⟨s0, s1, s2, s3, s4, s5, s6, s7, s8, s9⟩; go_simp; with_reducible rfl
   rotate_left
   ·simp only [Act.put, List.setIfInBounds_toArray, List.set_cons_zero, List.set_cons_succ, i64_w, i32_w]; rfl
   refine last_ (i := 3) (N := none) (brn_lb 5 15) rfl rfl (one_of HT_.out (by kernel_rfl)) (by decide) (fun K hK => ?_)
   obtain ⟨c5_0, c5_1, c5_2, c5_3, c5_4, c5_5, c5_6, c5_7, c5_8, c5_9⟩ := blkc10 B5.out
   obtain ⟨f5_0, f5_1, f5_2, f5_3, f5_4, f5_5, f5_6, f5_7, f5_8, f5_9⟩ := blkf10 B5.out
   refine skip_ (w1 := ?_) (by rfl) rfl ?_ ?_
   rotate_left
   ·go_simp
    rfl
   clear c5_0 f5_0 c5_1 f5_1 c5_2 f5_2 c5_3 f5_3 c5_4 f5_4 c5_5 f5_5 c5_6 f5_6 c5_7 f5_7 c5_8 f5_8 c5_9 f5_9
   refine hK.out _ _ ?_
   clear hK K
   refine pure_ (i := 4) (N := some 6) (v := ?_) (a' := ?_) (brn_lb 5 31) rfl rfl (any_of HT_.out (by kernel_rfl)) (fun _ _ _ h => h) (Or.inl ⟨by rfl, ?_⟩) ?_ ?_; rotate_left
   ·intro w'; go_simp; with_reducible rfl
   rotate_left
   ·simp only [Act.put, List.setIfInBounds_toArray, List.set_cons_zero, List.set_cons_succ, i64_w, i32_w]; rfl
   refine done_ (done_of HT_.out (by kernel_rfl)) ?_
   go_wp2
   refine bodyPost_ret (run_tct rfl _ _ g5 32 #[.int .i64 b.c.f0, .int .i64 b.c.f1, .int .i64 b.c.f2, .int .i64 b.c.f3, .int .i64 b.c.f4, .slice r.a5 b.calls.length r.c5, .slice r.a6 b.ins.length r.c6, .slice r.a7 b.made.length r.c7, .slice r.a8 b.ops.length r.c8, .slice r.a9 b.nodes.length r.c9] (0, 0) _ rfl (put10 B5.out) Try.underlying32 rfl (by kernel_rfl)) rfl ?_
   rw [HRN.out]
   exact ⟨p, gt, go, gn, r, rfl, HA.out.far (grown10 _ _) HD.out.2.1, HRR.out.set10 B5.out, HGN.out, bel10 HB.out HGB5.out⟩
theorem bRun_c {b : RB} (l : List S58) : (bRun b l).c = b.c := by
 have key : ∀ (b : RB) (a : S58), (doR b a).1.c = b.c := by
  intro b a
  unfold doR begR mkR
  repeat' (first | rfl | split)
 unfold bRun
 induction l generalizing b with
 | nil => rfl
 | cons a l ih => rw [List.foldl_cons, ih]; exact key b a


/-! ### corrieref04_Nodes: function 11 -/
def corrieref04_Nodes.f (k : Nat) (a0_0 : Int) (a0_1 : Int) (a0_2 : Int) (a0_3 : Int) (a0_4 : Int) : Option (Int) := (corrieref04_May.f k a0_0 a0_1 a0_2 a0_3 a0_4).bind fun t149 => (if t149 = 0 then (some (wrap64 ((wrap64 (1 + a0_1)) + (wrap64 ((wrap64 (2 * a0_0)) * a0_4))))) else (some 0))
theorem corrieref04_Nodes.mono : ∀ a0 a1 a2 a3 a4 k, LeO (corrieref04_Nodes.f k a0 a1 a2 a3 a4) (corrieref04_Nodes.f (k + 1) a0 a1 a2 a3 a4) := by
 intro a0 a1 a2 a3 a4 k
 unfold corrieref04_Nodes.f
 repeat' first
   | (with_reducible exact corrieref04_May.mono _ _ _ _ _ _)
   | (with_reducible exact LeO.refl _)
   | (with_reducible exact LeO.none _)
   | (with_reducible refine LeO.ite ?_ ?_)
   | (with_reducible refine LeO.bind ?_ (fun _ => ?_))
   | exact corrieref04_May.mono _ _ _ _ _ _
   | exact LeO.none _
   | refine LeO.ite ?_ ?_
   | refine LeO.bind ?_ (fun _ => ?_)
set_option maxHeartbeats 8000000 in
set_option maxRecDepth 100000 in
theorem corrieref04_Nodes.calls (k : Nat) (a0_0 : Int) (a0_1 : Int) (a0_2 : Int) (a0_3 : Int) (a0_4 : Int) (r : Int) (w : World) (h : corrieref04_Nodes.f k a0_0 a0_1 a0_2 a0_3 a0_4 = some r) :
  Calls Try.prog 11 #[.agg #[.int .i64 a0_0, .int .i64 a0_1, .int .i64 a0_2, .int .i64 a0_3, .int .i64 a0_4]] w fun e w' => e = .returned (.int .i64 r) ∧ Below w.heap.size w w' := by
 have hu23 := Try.underlying23
 have HB := Aside0.mk (Below.refl w.heap.size w)
 have H : ((corrieref04_May.f k a0_0 a0_1 a0_2 a0_3 a0_4).bind fun t149 => (if t149 = 0 then (some (wrap64 ((wrap64 (1 + a0_1)) + (wrap64 ((wrap64 (2 * a0_0)) * a0_4))))) else (some 0))) = some r := h
 clear h
 replace H := Option.bind_eq_some_iff.mp H
 obtain ⟨t149, A20, H⟩ := H
 replace H : (if t149 = 0 then (some (wrap64 ((wrap64 (1 + a0_1)) + (wrap64 ((wrap64 (2 * a0_0)) * a0_4))))) else (some 0)) = some r := H
 have A2 := Aside0.mk A20
 clear A20
 by_cases c3 : t149 = 0
 ·rw [if_pos c3] at H
  have c3b0 : (t149 == 0) = true := beq_iff_eq.mpr c3
  have c3b1 : (t149 != 0) = false := bne_eq_false_iff_eq.mpr c3
  clear c3
  obtain rfl := Option.some.inj H
  go_enter Try.func11, Try.ntmps11
  go_wp2_with (first | ((with_reducible refine gate_dst (N := 1) rfl ?_); refine box_event ?hg (N := 1) ?hd (cs := #[.int .i64 a0_0, .int .i64 a0_1, .int .i64 a0_2, .int .i64 a0_3, .int .i64 a0_4]) (t := 23) ?hr ?_; (case hd => rfl); (case hg => rfl); (case hr => first | (go_simp; done) | (go_simp; rfl)); intro gb148 hg w4 hbox hb; have n0_ := Aside0.mk (below_step (by repeat (first | (with_reducible first | exact HB.out | apply below_alloc | apply pw_below_drewN | apply below_drew1) | exact HB.out)) hb); have n1_ := Aside0.mk (hbox); have n2_ := Aside0.mk ((by rw [hg]; exact (below_size (by repeat (first | (with_reducible first | exact HB.out | apply below_alloc | apply pw_below_drewN | apply below_drew1) | exact HB.out))) : w.heap.size ≤ gb148)); have n3_ := Aside0.mk ((by rw [hg]; exact (below_size (by repeat (first | (with_reducible first | exact HB.out | apply below_alloc | apply pw_below_drewN | apply below_drew1) | exact HB.out))) : w.heap.size ≤ gb148)); clear HB; have HB := n0_; have BK148 := n1_; have GW148 := n2_; have GE148 := n3_; clear n0_ n1_ n2_ n3_; clear hb hbox hg; have hcz5_0 : w4.cell? ⟨gb148, 0, none⟩ = some (.int .i64 a0_0) := (blk_cell BK148.out 0).trans rfl; have hcz5_1 : w4.cell? ⟨gb148, 1, none⟩ = some (.int .i64 a0_1) := (blk_cell BK148.out 1).trans rfl; have hcz5_2 : w4.cell? ⟨gb148, 2, none⟩ = some (.int .i64 a0_2) := (blk_cell BK148.out 2).trans rfl; have hcz5_3 : w4.cell? ⟨gb148, 3, none⟩ = some (.int .i64 a0_3) := (blk_cell BK148.out 3).trans rfl; have hcz5_4 : w4.cell? ⟨gb148, 4, none⟩ = some (.int .i64 a0_4) := (blk_cell BK148.out 4).trans rfl; have hfz5_0 := blk_frozen BK148.out 0; have hfz5_1 := blk_frozen BK148.out 1; have hfz5_2 := blk_frozen BK148.out 2; have hfz5_3 := blk_frozen BK148.out 3; have hfz5_4 := blk_frozen BK148.out 4) | ((with_reducible refine gate_callee (f := 27) rfl ?_); refine goesL_ (some 4) rfl rfl Try.func27 (by kernel_rfl) rfl #[.agg #[.int .i64 a0_0, .int .i64 a0_1, .int .i64 a0_2, .int .i64 a0_3, .int .i64 a0_4]] rfl (by (try simp only [List.map_toArray, List.map_cons, List.map_nil]); first | done | rfl | (simp only [List.length_drop, List.length_take]; rfl)) ?_; (with_reducible refine (corrieref04_May.calls k a0_0 a0_1 a0_2 a0_3 a0_4 t149 _ A2.out).mono ?_); rintro e w6 ⟨rfl, hb⟩; refine ⟨_, rfl, ?_⟩; have n0_ := Aside0.mk (blk_below (g := gb148) (o := .cells #[.int .i64 a0_0, .int .i64 a0_1, .int .i64 a0_2, .int .i64 a0_3, .int .i64 a0_4] 23 (0, 0)) (by (with_reducible repeat (first | refine blk_drewN ?_ _ | refine blk_drew ?_ | refine blk_alloc ?_ _)); exact BK148.out) hb); have n1_ := Aside0.mk (below_step (by repeat (first | (with_reducible first | exact HB.out | apply below_alloc | apply pw_below_drewN | apply below_drew1 | refine below_set ?_ GE148.out) | exact HB.out)) hb); clear BK148; clear HB; have BK148 := n0_; have HB := n1_; clear n0_ n1_; (try clear hb); (try clear hb2); (try clear hk); (try clear hi); have hcz7_0 : w6.cell? ⟨gb148, 0, none⟩ = some (.int .i64 a0_0) := (blk_cell BK148.out 0).trans rfl; have hcz7_1 : w6.cell? ⟨gb148, 1, none⟩ = some (.int .i64 a0_1) := (blk_cell BK148.out 1).trans rfl; have hcz7_2 : w6.cell? ⟨gb148, 2, none⟩ = some (.int .i64 a0_2) := (blk_cell BK148.out 2).trans rfl; have hcz7_3 : w6.cell? ⟨gb148, 3, none⟩ = some (.int .i64 a0_3) := (blk_cell BK148.out 3).trans rfl; have hcz7_4 : w6.cell? ⟨gb148, 4, none⟩ = some (.int .i64 a0_4) := (blk_cell BK148.out 4).trans rfl; have hfz7_0 := blk_frozen BK148.out 0; have hfz7_1 := blk_frozen BK148.out 1; have hfz7_2 := blk_frozen BK148.out 2; have hfz7_3 := blk_frozen BK148.out 3; have hfz7_4 := blk_frozen BK148.out 4))
  go_ret
  exact ⟨by first | rfl | (simp [errW_none, errW_some] <;> rfl) | (simp [*, errW_none, errW_some] <;> rfl), by repeat (first | (with_reducible first | exact HB.out | apply below_alloc | apply pw_below_drewN | apply below_drew1 | refine below_set ?_ GE148.out) | exact HB.out)⟩
 ·rw [if_neg c3] at H
  have c3b0 : (t149 == 0) = false := beq_eq_false_iff_ne.mpr c3
  have c3b1 : (t149 != 0) = true := bne_iff_ne.mpr c3
  obtain rfl := Option.some.inj H
  go_enter Try.func11, Try.ntmps11
  go_wp2_with (first | ((with_reducible refine gate_dst (N := 1) rfl ?_); refine box_event ?hg (N := 1) ?hd (cs := #[.int .i64 a0_0, .int .i64 a0_1, .int .i64 a0_2, .int .i64 a0_3, .int .i64 a0_4]) (t := 23) ?hr ?_; (case hd => rfl); (case hg => rfl); (case hr => first | (go_simp; done) | (go_simp; rfl)); intro gb148 hg w8 hbox hb; have n0_ := Aside0.mk (below_step (by repeat (first | (with_reducible first | exact HB.out | apply below_alloc | apply pw_below_drewN | apply below_drew1) | exact HB.out)) hb); have n1_ := Aside0.mk (hbox); have n2_ := Aside0.mk ((by rw [hg]; exact (below_size (by repeat (first | (with_reducible first | exact HB.out | apply below_alloc | apply pw_below_drewN | apply below_drew1) | exact HB.out))) : w.heap.size ≤ gb148)); have n3_ := Aside0.mk ((by rw [hg]; exact (below_size (by repeat (first | (with_reducible first | exact HB.out | apply below_alloc | apply pw_below_drewN | apply below_drew1) | exact HB.out))) : w.heap.size ≤ gb148)); clear HB; have HB := n0_; have BK148 := n1_; have GW148 := n2_; have GE148 := n3_; clear n0_ n1_ n2_ n3_; clear hb hbox hg; have hcz9_0 : w8.cell? ⟨gb148, 0, none⟩ = some (.int .i64 a0_0) := (blk_cell BK148.out 0).trans rfl; have hcz9_1 : w8.cell? ⟨gb148, 1, none⟩ = some (.int .i64 a0_1) := (blk_cell BK148.out 1).trans rfl; have hcz9_2 : w8.cell? ⟨gb148, 2, none⟩ = some (.int .i64 a0_2) := (blk_cell BK148.out 2).trans rfl; have hcz9_3 : w8.cell? ⟨gb148, 3, none⟩ = some (.int .i64 a0_3) := (blk_cell BK148.out 3).trans rfl; have hcz9_4 : w8.cell? ⟨gb148, 4, none⟩ = some (.int .i64 a0_4) := (blk_cell BK148.out 4).trans rfl; have hfz9_0 := blk_frozen BK148.out 0; have hfz9_1 := blk_frozen BK148.out 1; have hfz9_2 := blk_frozen BK148.out 2; have hfz9_3 := blk_frozen BK148.out 3; have hfz9_4 := blk_frozen BK148.out 4) | ((with_reducible refine gate_callee (f := 27) rfl ?_); refine goesL_ (some 4) rfl rfl Try.func27 (by kernel_rfl) rfl #[.agg #[.int .i64 a0_0, .int .i64 a0_1, .int .i64 a0_2, .int .i64 a0_3, .int .i64 a0_4]] rfl (by (try simp only [List.map_toArray, List.map_cons, List.map_nil]); first | done | rfl | (simp only [List.length_drop, List.length_take]; rfl)) ?_; (with_reducible refine (corrieref04_May.calls k a0_0 a0_1 a0_2 a0_3 a0_4 t149 _ A2.out).mono ?_); rintro e w10 ⟨rfl, hb⟩; refine ⟨_, rfl, ?_⟩; have n0_ := Aside0.mk (blk_below (g := gb148) (o := .cells #[.int .i64 a0_0, .int .i64 a0_1, .int .i64 a0_2, .int .i64 a0_3, .int .i64 a0_4] 23 (0, 0)) (by (with_reducible repeat (first | refine blk_drewN ?_ _ | refine blk_drew ?_ | refine blk_alloc ?_ _)); exact BK148.out) hb); have n1_ := Aside0.mk (below_step (by repeat (first | (with_reducible first | exact HB.out | apply below_alloc | apply pw_below_drewN | apply below_drew1 | refine below_set ?_ GE148.out) | exact HB.out)) hb); clear BK148; clear HB; have BK148 := n0_; have HB := n1_; clear n0_ n1_; (try clear hb); (try clear hb2); (try clear hk); (try clear hi)))
  go_ret
  exact ⟨by first | rfl | (simp [errW_none, errW_some] <;> rfl) | (simp [*, errW_none, errW_some] <;> rfl), by repeat (first | (with_reducible first | exact HB.out | apply below_alloc | apply pw_below_drewN | apply below_drew1 | refine below_set ?_ GE148.out) | exact HB.out)⟩

/-! ### corrieref07_Call: function 13 -/
def corrieref07_Call.f (k : Nat) (a0_0 : Int) (a0_1 : Int) (a0_2 : Int) (a0_3 : Int) (a0_4 : Int) (l0_5 : List Int) (l0_6 : List Int) (l0_7 : List Int) (l0_8 : List (S60)) (l0_9 : List (S62)) (a1 : Int) : Option (Int × Int × Int × Int × Int) := (corrieref07_find.f k a0_0 a0_1 a0_2 a0_3 a0_4 l0_5 l0_6 l0_7 l0_8 l0_9 a1).bind fun t152 => (if t152 < 0 then (some (0, 0, 0, 0, 4)) else (if 0 ≤ t152 then (if t152 < (l0_8.length : Int) then (some ((rd_T60 l0_8 t152).f1.f0, (rd_T60 l0_8 t152).f1.f1, (rd_T60 l0_8 t152).f1.f2, (rd_T60 l0_8 t152).f1.f3, 0)) else (none)) else (none)))
theorem corrieref07_Call.mono : ∀ a0 a1 a2 a3 a4 a5 a6 a7 a8 a9 a10 k, LeO (corrieref07_Call.f k a0 a1 a2 a3 a4 a5 a6 a7 a8 a9 a10) (corrieref07_Call.f (k + 1) a0 a1 a2 a3 a4 a5 a6 a7 a8 a9 a10) := by
 intro a0 a1 a2 a3 a4 a5 a6 a7 a8 a9 a10 k
 unfold corrieref07_Call.f
 repeat' first
   | (with_reducible exact corrieref07_find.mono _ _ _ _ _ _ _ _ _ _ _ _)
   | (with_reducible exact LeO.refl _)
   | (with_reducible exact LeO.none _)
   | (with_reducible refine LeO.ite ?_ ?_)
   | (with_reducible refine LeO.bind ?_ (fun _ => ?_))
   | exact corrieref07_find.mono _ _ _ _ _ _ _ _ _ _ _ _
   | exact LeO.none _
   | refine LeO.ite ?_ ?_
   | refine LeO.bind ?_ (fun _ => ?_)
set_option maxHeartbeats 8000000 in
set_option maxRecDepth 100000 in
theorem corrieref07_Call.calls (k : Nat) (a0_0 : Int) (a0_1 : Int) (a0_2 : Int) (a0_3 : Int) (a0_4 : Int) (A0_5 : Option Addr) (c0_5 : Nat) (l0_5 : List Int) (A0_6 : Option Addr) (c0_6 : Nat) (l0_6 : List Int) (A0_7 : Option Addr) (c0_7 : Nat) (l0_7 : List Int) (A0_8 : Option Addr) (c0_8 : Nat) (l0_8 : List (S60)) (A0_9 : Option Addr) (c0_9 : Nat) (l0_9 : List (S62)) (a1 : Int) (r1 : Int) (r2 : Int) (r3 : Int) (r4 : Int) (r5 : Int) (w : World) (hr0_5 : Kd.C (Kd.int .i64) w A0_5 l0_5.length l0_5) (hc0_5 : l0_5.length ≤ c0_5) (hr0_6 : Kd.C (Kd.int .i64) w A0_6 l0_6.length l0_6) (hc0_6 : l0_6.length ≤ c0_6) (hr0_7 : Kd.C (Kd.int .i64) w A0_7 l0_7.length l0_7) (hc0_7 : l0_7.length ≤ c0_7) (hr0_8 : Kd.C k60 w A0_8 l0_8.length l0_8) (hc0_8 : l0_8.length ≤ c0_8) (hr0_9 : Kd.C k62 w A0_9 l0_9.length l0_9) (hc0_9 : l0_9.length ≤ c0_9) (h : corrieref07_Call.f k a0_0 a0_1 a0_2 a0_3 a0_4 l0_5 l0_6 l0_7 l0_8 l0_9 a1 = some (r1, r2, r3, r4, r5)) :
  Calls Try.prog 13 #[.agg #[.int .i64 a0_0, .int .i64 a0_1, .int .i64 a0_2, .int .i64 a0_3, .int .i64 a0_4, .slice A0_5 l0_5.length c0_5, .slice A0_6 l0_6.length c0_6, .slice A0_7 l0_7.length c0_7, .slice A0_8 l0_8.length c0_8, .slice A0_9 l0_9.length c0_9], .int .i64 a1] w fun e w' => e = .returned (.tuple #[.agg #[.int .i64 r1, .int .u64 r2, .int .u64 r3, .int .i64 r4], .int .i64 r5]) ∧ Below w.heap.size w w' := by
 have hu32 := Try.underlying32
 have hu38 := Try.underlying38
 have HR0_5 := Aside0.mk hr0_5
 have HC0_5 := Aside0.mk hc0_5
 clear hr0_5 hc0_5
 have HR0_6 := Aside0.mk hr0_6
 have HC0_6 := Aside0.mk hc0_6
 clear hr0_6 hc0_6
 have HR0_7 := Aside0.mk hr0_7
 have HC0_7 := Aside0.mk hc0_7
 clear hr0_7 hc0_7
 have HR0_8 := Aside0.mk hr0_8
 have HC0_8 := Aside0.mk hc0_8
 clear hr0_8 hc0_8
 have HR0_9 := Aside0.mk hr0_9
 have HC0_9 := Aside0.mk hc0_9
 clear hr0_9 hc0_9
 have HB := Aside0.mk (Below.refl w.heap.size w)
 have H : ((corrieref07_find.f k a0_0 a0_1 a0_2 a0_3 a0_4 l0_5 l0_6 l0_7 l0_8 l0_9 a1).bind fun t152 => (if t152 < 0 then (some (0, 0, 0, 0, 4)) else (if 0 ≤ t152 then (if t152 < (l0_8.length : Int) then (some ((rd_T60 l0_8 t152).f1.f0, (rd_T60 l0_8 t152).f1.f1, (rd_T60 l0_8 t152).f1.f2, (rd_T60 l0_8 t152).f1.f3, 0)) else (none)) else (none)))) = some (r1, r2, r3, r4, r5) := h
 clear h
 replace H := Option.bind_eq_some_iff.mp H
 obtain ⟨t152, A30, H⟩ := H
 replace H : (if t152 < 0 then (some (0, 0, 0, 0, 4)) else (if 0 ≤ t152 then (if t152 < (l0_8.length : Int) then (some ((rd_T60 l0_8 t152).f1.f0, (rd_T60 l0_8 t152).f1.f1, (rd_T60 l0_8 t152).f1.f2, (rd_T60 l0_8 t152).f1.f3, 0)) else (none)) else (none))) = some (r1, r2, r3, r4, r5) := H
 have A3 := Aside0.mk A30
 clear A30
 by_cases c4 : t152 < 0
 ·rw [if_pos c4] at H
  have c4b0 : decide (t152 < 0) = true := decide_eq_true c4
  clear c4
  simp only [Option.some.injEq, Prod.mk.injEq] at H
  obtain ⟨rfl, rfl, rfl, rfl, rfl⟩ := H
  go_enter Try.func13, Try.ntmps13
  go_wp2_with (first | ((with_reducible refine gate_dst (N := 2) rfl ?_); refine box_event ?hg (N := 2) ?hd (cs := #[.int .i64 a0_0, .int .i64 a0_1, .int .i64 a0_2, .int .i64 a0_3, .int .i64 a0_4, .slice A0_5 l0_5.length c0_5, .slice A0_6 l0_6.length c0_6, .slice A0_7 l0_7.length c0_7, .slice A0_8 l0_8.length c0_8, .slice A0_9 l0_9.length c0_9]) (t := 32) ?hr ?_; (case hd => rfl); (case hg => rfl); (case hr => first | (go_simp; done) | (go_simp; rfl)); intro gb150 hg w5 hbox hb; have n0_ := Aside0.mk (below_step (by repeat (first | (with_reducible first | exact HB.out | apply below_alloc | apply pw_below_drewN | apply below_drew1) | exact HB.out)) hb); have n1_ := Aside0.mk (hbox); have n2_ := Aside0.mk ((by rw [hg]; exact (below_size (by repeat (first | (with_reducible first | exact HB.out | apply below_alloc | apply pw_below_drewN | apply below_drew1) | exact HB.out))) : w.heap.size ≤ gb150)); have n3_ := Aside0.mk ((by rw [hg]; exact (below_size (by repeat (first | (with_reducible first | exact HB.out | apply below_alloc | apply pw_below_drewN | apply below_drew1) | exact HB.out))) : w.heap.size ≤ gb150)); clear HB; have HB := n0_; have BK150 := n1_; have GW150 := n2_; have GE150 := n3_; clear n0_ n1_ n2_ n3_; clear hb hbox hg) | ((with_reducible refine gate_dst (N := 4) rfl ?_); refine box_event ?hg (N := 4) ?hd (cs := #[.int .i64 0, .int .u64 0, .int .u64 0, .int .i64 0]) (t := 38) ?hr ?_; (case hd => rfl); (case hg => rfl); (case hr => first | (go_simp; done) | (go_simp; rfl)); intro gb151 hg w6 hbox hb; have n0_ := Aside0.mk (blk_below (g := gb150) (o := .cells #[.int .i64 a0_0, .int .i64 a0_1, .int .i64 a0_2, .int .i64 a0_3, .int .i64 a0_4, .slice A0_5 l0_5.length c0_5, .slice A0_6 l0_6.length c0_6, .slice A0_7 l0_7.length c0_7, .slice A0_8 l0_8.length c0_8, .slice A0_9 l0_9.length c0_9] 32 (0, 0)) (by (with_reducible repeat (first | refine blk_drewN ?_ _ | refine blk_drew ?_ | refine blk_alloc ?_ _)); exact BK150.out) hb); have n1_ := Aside0.mk (below_step (by repeat (first | (with_reducible first | exact HB.out | apply below_alloc | apply pw_below_drewN | apply below_drew1 | refine below_set ?_ GE150.out) | exact HB.out)) hb); have n2_ := Aside0.mk (hbox); have n3_ := Aside0.mk ((by rw [hg]; exact (below_size (by repeat (first | (with_reducible first | exact HB.out | apply below_alloc | apply pw_below_drewN | apply below_drew1 | refine below_set ?_ GE150.out) | exact HB.out))) : w.heap.size ≤ gb151)); have n4_ := Aside0.mk ((by rw [hg]; exact (below_size (by repeat (first | (with_reducible first | exact HB.out | apply below_alloc | apply pw_below_drewN | apply below_drew1 | refine below_set ?_ GE150.out) | exact HB.out))) : w.heap.size ≤ gb151)); have n5_ := Aside0.mk ((by rw [hg]; exact Nat.ne_of_lt (blk_lt (g := gb150) (o := .cells #[.int .i64 a0_0, .int .i64 a0_1, .int .i64 a0_2, .int .i64 a0_3, .int .i64 a0_4, .slice A0_5 l0_5.length c0_5, .slice A0_6 l0_6.length c0_6, .slice A0_7 l0_7.length c0_7, .slice A0_8 l0_8.length c0_8, .slice A0_9 l0_9.length c0_9] 32 (0, 0)) (by (with_reducible repeat (first | refine blk_drewN ?_ _ | refine blk_drew ?_ | refine blk_alloc ?_ _)); exact BK150.out)) : gb150 ≠ gb151)); have n6_ := Aside0.mk ((by rw [hg]; exact Nat.ne_of_gt (blk_lt (g := gb150) (o := .cells #[.int .i64 a0_0, .int .i64 a0_1, .int .i64 a0_2, .int .i64 a0_3, .int .i64 a0_4, .slice A0_5 l0_5.length c0_5, .slice A0_6 l0_6.length c0_6, .slice A0_7 l0_7.length c0_7, .slice A0_8 l0_8.length c0_8, .slice A0_9 l0_9.length c0_9] 32 (0, 0)) (by (with_reducible repeat (first | refine blk_drewN ?_ _ | refine blk_drew ?_ | refine blk_alloc ?_ _)); exact BK150.out)) : gb151 ≠ gb150)); clear BK150; clear HB; have BK150 := n0_; have HB := n1_; have BK151 := n2_; have GW151 := n3_; have GE151 := n4_; have NB150_151 := n5_; have NB151_150 := n6_; clear n0_ n1_ n2_ n3_ n4_ n5_ n6_; clear hb hbox hg; have hnb7 := NB150_151.out; have hnc7 := NB151_150.out; have hcz8_0 : w6.cell? ⟨gb150, 0, none⟩ = some (.int .i64 a0_0) := (blk_cell BK150.out 0).trans rfl; have hcz8_1 : w6.cell? ⟨gb150, 1, none⟩ = some (.int .i64 a0_1) := (blk_cell BK150.out 1).trans rfl; have hcz8_2 : w6.cell? ⟨gb150, 2, none⟩ = some (.int .i64 a0_2) := (blk_cell BK150.out 2).trans rfl; have hcz8_3 : w6.cell? ⟨gb150, 3, none⟩ = some (.int .i64 a0_3) := (blk_cell BK150.out 3).trans rfl; have hcz8_4 : w6.cell? ⟨gb150, 4, none⟩ = some (.int .i64 a0_4) := (blk_cell BK150.out 4).trans rfl; have hcz8_5 : w6.cell? ⟨gb150, 5, none⟩ = some (.slice A0_5 l0_5.length c0_5) := (blk_cell BK150.out 5).trans rfl; have hcz8_6 : w6.cell? ⟨gb150, 6, none⟩ = some (.slice A0_6 l0_6.length c0_6) := (blk_cell BK150.out 6).trans rfl; have hcz8_7 : w6.cell? ⟨gb150, 7, none⟩ = some (.slice A0_7 l0_7.length c0_7) := (blk_cell BK150.out 7).trans rfl; have hcz8_8 : w6.cell? ⟨gb150, 8, none⟩ = some (.slice A0_8 l0_8.length c0_8) := (blk_cell BK150.out 8).trans rfl; have hcz8_9 : w6.cell? ⟨gb150, 9, none⟩ = some (.slice A0_9 l0_9.length c0_9) := (blk_cell BK150.out 9).trans rfl; have hfz8_0 := blk_frozen BK150.out 0; have hfz8_1 := blk_frozen BK150.out 1; have hfz8_2 := blk_frozen BK150.out 2; have hfz8_3 := blk_frozen BK150.out 3; have hfz8_4 := blk_frozen BK150.out 4; have hfz8_5 := blk_frozen BK150.out 5; have hfz8_6 := blk_frozen BK150.out 6; have hfz8_7 := blk_frozen BK150.out 7; have hfz8_8 := blk_frozen BK150.out 8; have hfz8_9 := blk_frozen BK150.out 9) | ((with_reducible refine gate_callee (f := 29) rfl ?_); refine goesL_ (some 9) rfl rfl Try.func29 (by kernel_rfl) rfl #[.agg #[.int .i64 a0_0, .int .i64 a0_1, .int .i64 a0_2, .int .i64 a0_3, .int .i64 a0_4, .slice A0_5 l0_5.length c0_5, .slice A0_6 l0_6.length c0_6, .slice A0_7 l0_7.length c0_7, .slice A0_8 l0_8.length c0_8, .slice A0_9 l0_9.length c0_9], .int .i64 a1] rfl (by (try simp only [List.map_toArray, List.map_cons, List.map_nil]); first | done | rfl | (simp only [List.length_drop, List.length_take]; rfl)) ?_; (with_reducible refine (corrieref07_find.calls k a0_0 a0_1 a0_2 a0_3 a0_4 _ _ l0_5 _ _ l0_6 _ _ l0_7 _ _ l0_8 _ _ l0_9 a1 t152 _ ?side1 ?side2 ?side3 ?side4 ?side5 ?side6 ?side7 ?side8 ?side9 ?side10 A3.out).mono ?_); (case side1 => repeat (first | exact (Kd.C_below HR0_5.out HB.out) | (with_reducible refine Kd.C_alloc ?_ _) | (with_reducible refine Kd.C_drewN ?_ _) | (with_reducible refine Kd.C_drew ?_))); (case side2 => exact HC0_5.out); (case side3 => repeat (first | exact (Kd.C_below HR0_6.out HB.out) | (with_reducible refine Kd.C_alloc ?_ _) | (with_reducible refine Kd.C_drewN ?_ _) | (with_reducible refine Kd.C_drew ?_))); (case side4 => exact HC0_6.out); (case side5 => repeat (first | exact (Kd.C_below HR0_7.out HB.out) | (with_reducible refine Kd.C_alloc ?_ _) | (with_reducible refine Kd.C_drewN ?_ _) | (with_reducible refine Kd.C_drew ?_))); (case side6 => exact HC0_7.out); (case side7 => repeat (first | exact (Kd.C_below HR0_8.out HB.out) | (with_reducible refine Kd.C_alloc ?_ _) | (with_reducible refine Kd.C_drewN ?_ _) | (with_reducible refine Kd.C_drew ?_))); (case side8 => exact HC0_8.out); (case side9 => repeat (first | exact (Kd.C_below HR0_9.out HB.out) | (with_reducible refine Kd.C_alloc ?_ _) | (with_reducible refine Kd.C_drewN ?_ _) | (with_reducible refine Kd.C_drew ?_))); (case side10 => exact HC0_9.out); rintro e w9 ⟨rfl, hb⟩; refine ⟨_, rfl, ?_⟩; have n0_ := Aside0.mk (blk_below (g := gb150) (o := .cells #[.int .i64 a0_0, .int .i64 a0_1, .int .i64 a0_2, .int .i64 a0_3, .int .i64 a0_4, .slice A0_5 l0_5.length c0_5, .slice A0_6 l0_6.length c0_6, .slice A0_7 l0_7.length c0_7, .slice A0_8 l0_8.length c0_8, .slice A0_9 l0_9.length c0_9] 32 (0, 0)) (by (with_reducible repeat (first | refine blk_drewN ?_ _ | refine blk_drew ?_ | refine blk_alloc ?_ _)); exact BK150.out) hb); have n1_ := Aside0.mk (blk_below (g := gb151) (o := .cells #[.int .i64 0, .int .u64 0, .int .u64 0, .int .i64 0] 38 (0, 0)) (by (with_reducible repeat (first | refine blk_drewN ?_ _ | refine blk_drew ?_ | refine blk_alloc ?_ _)); exact BK151.out) hb); have n2_ := Aside0.mk (below_step (by repeat (first | (with_reducible first | exact HB.out | apply below_alloc | apply pw_below_drewN | apply below_drew1 | refine below_set ?_ GE150.out | refine below_set ?_ GE151.out) | exact HB.out)) hb); clear BK150; clear BK151; clear HB; have BK150 := n0_; have BK151 := n1_; have HB := n2_; clear n0_ n1_ n2_; (try clear hb); (try clear hb2); (try clear hk); (try clear hi); have hcz10_0 : w9.cell? ⟨gb151, 0, none⟩ = some (.int .i64 0) := (blk_cell BK151.out 0).trans rfl; have hcz10_1 : w9.cell? ⟨gb151, 1, none⟩ = some (.int .u64 0) := (blk_cell BK151.out 1).trans rfl; have hcz10_2 : w9.cell? ⟨gb151, 2, none⟩ = some (.int .u64 0) := (blk_cell BK151.out 2).trans rfl; have hcz10_3 : w9.cell? ⟨gb151, 3, none⟩ = some (.int .i64 0) := (blk_cell BK151.out 3).trans rfl; have hfz10_0 := blk_frozen BK151.out 0; have hfz10_1 := blk_frozen BK151.out 1; have hfz10_2 := blk_frozen BK151.out 2; have hfz10_3 := blk_frozen BK151.out 3))
  refine bodyPost_ret (results_ct rfl _ _ gb151 38 #[.int .i64 0, .int .u64 0, .int .u64 0, .int .i64 0] (0, 0) _ rfl (by (with_reducible repeat (first | refine blk_drewN ?_ _ | refine blk_drew ?_ | refine blk_alloc ?_ _)); refine blk_put (cs := #[.int .i64 0, .int .u64 0, .int .u64 0, .int .i64 0]) ?_ 3 _ rfl; (with_reducible repeat (first | refine blk_drewN ?_ _ | refine blk_drew ?_ | refine blk_alloc ?_ _)); refine blk_put (cs := #[.int .i64 0, .int .u64 0, .int .u64 0, .int .i64 0]) ?_ 2 _ rfl; (with_reducible repeat (first | refine blk_drewN ?_ _ | refine blk_drew ?_ | refine blk_alloc ?_ _)); refine blk_put (cs := #[.int .i64 0, .int .u64 0, .int .u64 0, .int .i64 0]) ?_ 1 _ rfl; (with_reducible repeat (first | refine blk_drewN ?_ _ | refine blk_drew ?_ | refine blk_alloc ?_ _)); refine blk_put (cs := #[.int .i64 0, .int .u64 0, .int .u64 0, .int .i64 0]) ?_ 0 _ rfl; (with_reducible repeat (first | refine blk_drewN ?_ _ | refine blk_drew ?_ | refine blk_alloc ?_ _)); exact BK151.out) Try.underlying38 rfl (by kernel_rfl)) rfl ?_
  exact ⟨by first | rfl | (simp [errW_none, errW_some] <;> rfl) | (simp [*, errW_none, errW_some] <;> rfl), by repeat (first | (with_reducible first | exact HB.out | apply below_alloc | apply pw_below_drewN | apply below_drew1 | refine below_set ?_ GE150.out | refine below_set ?_ GE151.out) | exact HB.out)⟩
 ·rw [if_neg c4] at H
  have c4b0 : decide (t152 < 0) = false := decide_eq_false c4
  clear c4
  by_cases c11 : 0 ≤ t152
  ·rw [if_pos c11] at H
   have c11b0 : decide (0 ≤ t152) = true := decide_eq_true c11
   clear c11
   by_cases c12 : t152 < (l0_8.length : Int)
   ·rw [if_pos c12] at H
    have c12b0 : decide (t152 < (l0_8.length : Int)) = true := decide_eq_true c12
    clear c12
    simp only [Option.some.injEq, Prod.mk.injEq] at H
    obtain ⟨rfl, rfl, rfl, rfl, rfl⟩ := H
    go_enter Try.func13, Try.ntmps13
    go_wp2_with (first | ((with_reducible refine gate_dst (N := 2) rfl ?_); refine box_event ?hg (N := 2) ?hd (cs := #[.int .i64 a0_0, .int .i64 a0_1, .int .i64 a0_2, .int .i64 a0_3, .int .i64 a0_4, .slice A0_5 l0_5.length c0_5, .slice A0_6 l0_6.length c0_6, .slice A0_7 l0_7.length c0_7, .slice A0_8 l0_8.length c0_8, .slice A0_9 l0_9.length c0_9]) (t := 32) ?hr ?_; (case hd => rfl); (case hg => rfl); (case hr => first | (go_simp; done) | (go_simp; rfl)); intro gb150 hg w13 hbox hb; have n0_ := Aside0.mk (below_step (by repeat (first | (with_reducible first | exact HB.out | apply below_alloc | apply pw_below_drewN | apply below_drew1) | exact HB.out)) hb); have n1_ := Aside0.mk (hbox); have n2_ := Aside0.mk ((by rw [hg]; exact (below_size (by repeat (first | (with_reducible first | exact HB.out | apply below_alloc | apply pw_below_drewN | apply below_drew1) | exact HB.out))) : w.heap.size ≤ gb150)); have n3_ := Aside0.mk ((by rw [hg]; exact (below_size (by repeat (first | (with_reducible first | exact HB.out | apply below_alloc | apply pw_below_drewN | apply below_drew1) | exact HB.out))) : w.heap.size ≤ gb150)); clear HB; have HB := n0_; have BK150 := n1_; have GW150 := n2_; have GE150 := n3_; clear n0_ n1_ n2_ n3_; clear hb hbox hg) | ((with_reducible refine gate_dst (N := 4) rfl ?_); refine box_event ?hg (N := 4) ?hd (cs := #[.int .i64 0, .int .u64 0, .int .u64 0, .int .i64 0]) (t := 38) ?hr ?_; (case hd => rfl); (case hg => rfl); (case hr => first | (go_simp; done) | (go_simp; rfl)); intro gb151 hg w14 hbox hb; have n0_ := Aside0.mk (blk_below (g := gb150) (o := .cells #[.int .i64 a0_0, .int .i64 a0_1, .int .i64 a0_2, .int .i64 a0_3, .int .i64 a0_4, .slice A0_5 l0_5.length c0_5, .slice A0_6 l0_6.length c0_6, .slice A0_7 l0_7.length c0_7, .slice A0_8 l0_8.length c0_8, .slice A0_9 l0_9.length c0_9] 32 (0, 0)) (by (with_reducible repeat (first | refine blk_drewN ?_ _ | refine blk_drew ?_ | refine blk_alloc ?_ _)); exact BK150.out) hb); have n1_ := Aside0.mk (below_step (by repeat (first | (with_reducible first | exact HB.out | apply below_alloc | apply pw_below_drewN | apply below_drew1 | refine below_set ?_ GE150.out) | exact HB.out)) hb); have n2_ := Aside0.mk (hbox); have n3_ := Aside0.mk ((by rw [hg]; exact (below_size (by repeat (first | (with_reducible first | exact HB.out | apply below_alloc | apply pw_below_drewN | apply below_drew1 | refine below_set ?_ GE150.out) | exact HB.out))) : w.heap.size ≤ gb151)); have n4_ := Aside0.mk ((by rw [hg]; exact (below_size (by repeat (first | (with_reducible first | exact HB.out | apply below_alloc | apply pw_below_drewN | apply below_drew1 | refine below_set ?_ GE150.out) | exact HB.out))) : w.heap.size ≤ gb151)); have n5_ := Aside0.mk ((by rw [hg]; exact Nat.ne_of_lt (blk_lt (g := gb150) (o := .cells #[.int .i64 a0_0, .int .i64 a0_1, .int .i64 a0_2, .int .i64 a0_3, .int .i64 a0_4, .slice A0_5 l0_5.length c0_5, .slice A0_6 l0_6.length c0_6, .slice A0_7 l0_7.length c0_7, .slice A0_8 l0_8.length c0_8, .slice A0_9 l0_9.length c0_9] 32 (0, 0)) (by (with_reducible repeat (first | refine blk_drewN ?_ _ | refine blk_drew ?_ | refine blk_alloc ?_ _)); exact BK150.out)) : gb150 ≠ gb151)); have n6_ := Aside0.mk ((by rw [hg]; exact Nat.ne_of_gt (blk_lt (g := gb150) (o := .cells #[.int .i64 a0_0, .int .i64 a0_1, .int .i64 a0_2, .int .i64 a0_3, .int .i64 a0_4, .slice A0_5 l0_5.length c0_5, .slice A0_6 l0_6.length c0_6, .slice A0_7 l0_7.length c0_7, .slice A0_8 l0_8.length c0_8, .slice A0_9 l0_9.length c0_9] 32 (0, 0)) (by (with_reducible repeat (first | refine blk_drewN ?_ _ | refine blk_drew ?_ | refine blk_alloc ?_ _)); exact BK150.out)) : gb151 ≠ gb150)); clear BK150; clear HB; have BK150 := n0_; have HB := n1_; have BK151 := n2_; have GW151 := n3_; have GE151 := n4_; have NB150_151 := n5_; have NB151_150 := n6_; clear n0_ n1_ n2_ n3_ n4_ n5_ n6_; clear hb hbox hg; have hnb15 := NB150_151.out; have hnc15 := NB151_150.out; have hcz16_0 : w14.cell? ⟨gb150, 0, none⟩ = some (.int .i64 a0_0) := (blk_cell BK150.out 0).trans rfl; have hcz16_1 : w14.cell? ⟨gb150, 1, none⟩ = some (.int .i64 a0_1) := (blk_cell BK150.out 1).trans rfl; have hcz16_2 : w14.cell? ⟨gb150, 2, none⟩ = some (.int .i64 a0_2) := (blk_cell BK150.out 2).trans rfl; have hcz16_3 : w14.cell? ⟨gb150, 3, none⟩ = some (.int .i64 a0_3) := (blk_cell BK150.out 3).trans rfl; have hcz16_4 : w14.cell? ⟨gb150, 4, none⟩ = some (.int .i64 a0_4) := (blk_cell BK150.out 4).trans rfl; have hcz16_5 : w14.cell? ⟨gb150, 5, none⟩ = some (.slice A0_5 l0_5.length c0_5) := (blk_cell BK150.out 5).trans rfl; have hcz16_6 : w14.cell? ⟨gb150, 6, none⟩ = some (.slice A0_6 l0_6.length c0_6) := (blk_cell BK150.out 6).trans rfl; have hcz16_7 : w14.cell? ⟨gb150, 7, none⟩ = some (.slice A0_7 l0_7.length c0_7) := (blk_cell BK150.out 7).trans rfl; have hcz16_8 : w14.cell? ⟨gb150, 8, none⟩ = some (.slice A0_8 l0_8.length c0_8) := (blk_cell BK150.out 8).trans rfl; have hcz16_9 : w14.cell? ⟨gb150, 9, none⟩ = some (.slice A0_9 l0_9.length c0_9) := (blk_cell BK150.out 9).trans rfl; have hfz16_0 := blk_frozen BK150.out 0; have hfz16_1 := blk_frozen BK150.out 1; have hfz16_2 := blk_frozen BK150.out 2; have hfz16_3 := blk_frozen BK150.out 3; have hfz16_4 := blk_frozen BK150.out 4; have hfz16_5 := blk_frozen BK150.out 5; have hfz16_6 := blk_frozen BK150.out 6; have hfz16_7 := blk_frozen BK150.out 7; have hfz16_8 := blk_frozen BK150.out 8; have hfz16_9 := blk_frozen BK150.out 9) | ((with_reducible refine gate_callee (f := 29) rfl ?_); refine goesL_ (some 9) rfl rfl Try.func29 (by kernel_rfl) rfl #[.agg #[.int .i64 a0_0, .int .i64 a0_1, .int .i64 a0_2, .int .i64 a0_3, .int .i64 a0_4, .slice A0_5 l0_5.length c0_5, .slice A0_6 l0_6.length c0_6, .slice A0_7 l0_7.length c0_7, .slice A0_8 l0_8.length c0_8, .slice A0_9 l0_9.length c0_9], .int .i64 a1] rfl (by (try simp only [List.map_toArray, List.map_cons, List.map_nil]); first | done | rfl | (simp only [List.length_drop, List.length_take]; rfl)) ?_; (with_reducible refine (corrieref07_find.calls k a0_0 a0_1 a0_2 a0_3 a0_4 _ _ l0_5 _ _ l0_6 _ _ l0_7 _ _ l0_8 _ _ l0_9 a1 t152 _ ?side1 ?side2 ?side3 ?side4 ?side5 ?side6 ?side7 ?side8 ?side9 ?side10 A3.out).mono ?_); (case side1 => repeat (first | exact (Kd.C_below HR0_5.out HB.out) | (with_reducible refine Kd.C_alloc ?_ _) | (with_reducible refine Kd.C_drewN ?_ _) | (with_reducible refine Kd.C_drew ?_))); (case side2 => exact HC0_5.out); (case side3 => repeat (first | exact (Kd.C_below HR0_6.out HB.out) | (with_reducible refine Kd.C_alloc ?_ _) | (with_reducible refine Kd.C_drewN ?_ _) | (with_reducible refine Kd.C_drew ?_))); (case side4 => exact HC0_6.out); (case side5 => repeat (first | exact (Kd.C_below HR0_7.out HB.out) | (with_reducible refine Kd.C_alloc ?_ _) | (with_reducible refine Kd.C_drewN ?_ _) | (with_reducible refine Kd.C_drew ?_))); (case side6 => exact HC0_7.out); (case side7 => repeat (first | exact (Kd.C_below HR0_8.out HB.out) | (with_reducible refine Kd.C_alloc ?_ _) | (with_reducible refine Kd.C_drewN ?_ _) | (with_reducible refine Kd.C_drew ?_))); (case side8 => exact HC0_8.out); (case side9 => repeat (first | exact (Kd.C_below HR0_9.out HB.out) | (with_reducible refine Kd.C_alloc ?_ _) | (with_reducible refine Kd.C_drewN ?_ _) | (with_reducible refine Kd.C_drew ?_))); (case side10 => exact HC0_9.out); rintro e w17 ⟨rfl, hb⟩; refine ⟨_, rfl, ?_⟩; have n0_ := Aside0.mk (blk_below (g := gb150) (o := .cells #[.int .i64 a0_0, .int .i64 a0_1, .int .i64 a0_2, .int .i64 a0_3, .int .i64 a0_4, .slice A0_5 l0_5.length c0_5, .slice A0_6 l0_6.length c0_6, .slice A0_7 l0_7.length c0_7, .slice A0_8 l0_8.length c0_8, .slice A0_9 l0_9.length c0_9] 32 (0, 0)) (by (with_reducible repeat (first | refine blk_drewN ?_ _ | refine blk_drew ?_ | refine blk_alloc ?_ _)); exact BK150.out) hb); have n1_ := Aside0.mk (blk_below (g := gb151) (o := .cells #[.int .i64 0, .int .u64 0, .int .u64 0, .int .i64 0] 38 (0, 0)) (by (with_reducible repeat (first | refine blk_drewN ?_ _ | refine blk_drew ?_ | refine blk_alloc ?_ _)); exact BK151.out) hb); have n2_ := Aside0.mk (below_step (by repeat (first | (with_reducible first | exact HB.out | apply below_alloc | apply pw_below_drewN | apply below_drew1 | refine below_set ?_ GE150.out | refine below_set ?_ GE151.out) | exact HB.out)) hb); clear BK150; clear BK151; clear HB; have BK150 := n0_; have BK151 := n1_; have HB := n2_; clear n0_ n1_ n2_; (try clear hb); (try clear hb2); (try clear hk); (try clear hi); have hcz18_0 : w17.cell? ⟨gb150, 0, none⟩ = some (.int .i64 a0_0) := (blk_cell BK150.out 0).trans rfl; have hcz18_1 : w17.cell? ⟨gb150, 1, none⟩ = some (.int .i64 a0_1) := (blk_cell BK150.out 1).trans rfl; have hcz18_2 : w17.cell? ⟨gb150, 2, none⟩ = some (.int .i64 a0_2) := (blk_cell BK150.out 2).trans rfl; have hcz18_3 : w17.cell? ⟨gb150, 3, none⟩ = some (.int .i64 a0_3) := (blk_cell BK150.out 3).trans rfl; have hcz18_4 : w17.cell? ⟨gb150, 4, none⟩ = some (.int .i64 a0_4) := (blk_cell BK150.out 4).trans rfl; have hcz18_5 : w17.cell? ⟨gb150, 5, none⟩ = some (.slice A0_5 l0_5.length c0_5) := (blk_cell BK150.out 5).trans rfl; have hcz18_6 : w17.cell? ⟨gb150, 6, none⟩ = some (.slice A0_6 l0_6.length c0_6) := (blk_cell BK150.out 6).trans rfl; have hcz18_7 : w17.cell? ⟨gb150, 7, none⟩ = some (.slice A0_7 l0_7.length c0_7) := (blk_cell BK150.out 7).trans rfl; have hcz18_8 : w17.cell? ⟨gb150, 8, none⟩ = some (.slice A0_8 l0_8.length c0_8) := (blk_cell BK150.out 8).trans rfl; have hcz18_9 : w17.cell? ⟨gb150, 9, none⟩ = some (.slice A0_9 l0_9.length c0_9) := (blk_cell BK150.out 9).trans rfl; have hfz18_0 := blk_frozen BK150.out 0; have hfz18_1 := blk_frozen BK150.out 1; have hfz18_2 := blk_frozen BK150.out 2; have hfz18_3 := blk_frozen BK150.out 3; have hfz18_4 := blk_frozen BK150.out 4; have hfz18_5 := blk_frozen BK150.out 5; have hfz18_6 := blk_frozen BK150.out 6; have hfz18_7 := blk_frozen BK150.out 7; have hfz18_8 := blk_frozen BK150.out 8; have hfz18_9 := blk_frozen BK150.out 9; have p153 : 0 ≤ (t152 : Int) := of_decide_eq_true (by first | (with_reducible assumption) | assumption); have q153 : t152 < (l0_8.length : Int) := of_decide_eq_true (by first | (with_reducible assumption) | assumption); obtain ⟨ad153, e153, hx153_0, hx153_1, hx153_2, hx153_3, hx153_4⟩ := at_T60 HR0_8.out t152 p153 q153; cases e153; replace hx153_0 := (HB.out.cell (World.block_lt_of_cell? w _ hx153_0)).trans hx153_0; replace hx153_1 := (HB.out.cell (World.block_lt_of_cell? w _ hx153_1)).trans hx153_1; replace hx153_2 := (HB.out.cell (World.block_lt_of_cell? w _ hx153_2)).trans hx153_2; replace hx153_3 := (HB.out.cell (World.block_lt_of_cell? w _ hx153_3)).trans hx153_3; replace hx153_4 := (HB.out.cell (World.block_lt_of_cell? w _ hx153_4)).trans hx153_4; replace p153 := eq_true p153; replace q153 := eq_true q153; have hcz19_0 : w17.cell? ⟨gb151, 0, none⟩ = some (.int .i64 0) := (blk_cell BK151.out 0).trans rfl; have hcz19_1 : w17.cell? ⟨gb151, 1, none⟩ = some (.int .u64 0) := (blk_cell BK151.out 1).trans rfl; have hcz19_2 : w17.cell? ⟨gb151, 2, none⟩ = some (.int .u64 0) := (blk_cell BK151.out 2).trans rfl; have hcz19_3 : w17.cell? ⟨gb151, 3, none⟩ = some (.int .i64 0) := (blk_cell BK151.out 3).trans rfl; have hfz19_0 := blk_frozen BK151.out 0; have hfz19_1 := blk_frozen BK151.out 1; have hfz19_2 := blk_frozen BK151.out 2; have hfz19_3 := blk_frozen BK151.out 3))
    refine bodyPost_ret (results_ct rfl _ _ gb151 38 #[.int .i64 ((rd_T60 l0_8 t152).f1.f0), .int .u64 ((rd_T60 l0_8 t152).f1.f1), .int .u64 ((rd_T60 l0_8 t152).f1.f2), .int .i64 ((rd_T60 l0_8 t152).f1.f3)] (0, 0) _ rfl (by (with_reducible repeat (first | refine blk_drewN ?_ _ | refine blk_drew ?_ | refine blk_alloc ?_ _)); refine blk_put (cs := #[.int .i64 ((rd_T60 l0_8 t152).f1.f0), .int .u64 ((rd_T60 l0_8 t152).f1.f1), .int .u64 ((rd_T60 l0_8 t152).f1.f2), .int .i64 0]) ?_ 3 _ rfl; (with_reducible repeat (first | refine blk_drewN ?_ _ | refine blk_drew ?_ | refine blk_alloc ?_ _)); refine blk_put (cs := #[.int .i64 ((rd_T60 l0_8 t152).f1.f0), .int .u64 ((rd_T60 l0_8 t152).f1.f1), .int .u64 0, .int .i64 0]) ?_ 2 _ rfl; (with_reducible repeat (first | refine blk_drewN ?_ _ | refine blk_drew ?_ | refine blk_alloc ?_ _)); refine blk_put (cs := #[.int .i64 ((rd_T60 l0_8 t152).f1.f0), .int .u64 0, .int .u64 0, .int .i64 0]) ?_ 1 _ rfl; (with_reducible repeat (first | refine blk_drewN ?_ _ | refine blk_drew ?_ | refine blk_alloc ?_ _)); refine blk_put (cs := #[.int .i64 0, .int .u64 0, .int .u64 0, .int .i64 0]) ?_ 0 _ rfl; (with_reducible repeat (first | refine blk_drewN ?_ _ | refine blk_drew ?_ | refine blk_alloc ?_ _)); exact BK151.out) Try.underlying38 rfl (by kernel_rfl)) rfl ?_
    exact ⟨by first | rfl | (simp [errW_none, errW_some] <;> rfl) | (simp [*, errW_none, errW_some] <;> rfl), by repeat (first | (with_reducible first | exact HB.out | apply below_alloc | apply pw_below_drewN | apply below_drew1 | refine below_set ?_ GE150.out | refine below_set ?_ GE151.out) | exact HB.out)⟩
   ·rw [if_neg c12] at H
    exact absurd H (by simp)
  ·rw [if_neg c11] at H
   exact absurd H (by simp)

/-! ### corrieref07_Counts: function 14 -/
def corrieref07_Counts.f (a0_0 : Int) (a0_1 : Int) (a0_2 : Int) (a0_3 : Int) (a0_4 : Int) (l0_5 : List Int) (l0_6 : List Int) (l0_7 : List Int) (l0_8 : List (S60)) (l0_9 : List (S62)) (a1 : Int) : Option (Int × Int) := (corrieref07_is.f a0_0 a0_1 a0_2 a0_3 a0_4 l0_5 l0_6 l0_7 l0_8 l0_9 a1).bind fun t155 => (if t155 = true then (if 0 ≤ a1 then (if a1 < (l0_5.length : Int) then (if a1 < (l0_7.length : Int) then (some (rd l0_5 a1, rd l0_7 a1)) else (none)) else (none)) else (none)) else (some (0, 0)))
set_option maxHeartbeats 8000000 in
set_option maxRecDepth 100000 in
theorem corrieref07_Counts.calls (a0_0 : Int) (a0_1 : Int) (a0_2 : Int) (a0_3 : Int) (a0_4 : Int) (A0_5 : Option Addr) (c0_5 : Nat) (l0_5 : List Int) (A0_6 : Option Addr) (c0_6 : Nat) (l0_6 : List Int) (A0_7 : Option Addr) (c0_7 : Nat) (l0_7 : List Int) (A0_8 : Option Addr) (c0_8 : Nat) (l0_8 : List (S60)) (A0_9 : Option Addr) (c0_9 : Nat) (l0_9 : List (S62)) (a1 : Int) (r1 : Int) (r2 : Int) (w : World) (hr0_5 : Kd.C (Kd.int .i64) w A0_5 l0_5.length l0_5) (hc0_5 : l0_5.length ≤ c0_5) (hr0_6 : Kd.C (Kd.int .i64) w A0_6 l0_6.length l0_6) (hc0_6 : l0_6.length ≤ c0_6) (hr0_7 : Kd.C (Kd.int .i64) w A0_7 l0_7.length l0_7) (hc0_7 : l0_7.length ≤ c0_7) (hr0_8 : Kd.C k60 w A0_8 l0_8.length l0_8) (hc0_8 : l0_8.length ≤ c0_8) (hr0_9 : Kd.C k62 w A0_9 l0_9.length l0_9) (hc0_9 : l0_9.length ≤ c0_9) (h : corrieref07_Counts.f a0_0 a0_1 a0_2 a0_3 a0_4 l0_5 l0_6 l0_7 l0_8 l0_9 a1 = some (r1, r2)) :
  Calls Try.prog 14 #[.agg #[.int .i64 a0_0, .int .i64 a0_1, .int .i64 a0_2, .int .i64 a0_3, .int .i64 a0_4, .slice A0_5 l0_5.length c0_5, .slice A0_6 l0_6.length c0_6, .slice A0_7 l0_7.length c0_7, .slice A0_8 l0_8.length c0_8, .slice A0_9 l0_9.length c0_9], .int .i64 a1] w fun e w' => e = .returned (.tuple #[.int .i64 r1, .int .i64 r2]) ∧ Below w.heap.size w w' := by
 have hu32 := Try.underlying32
 have HR0_5 := Aside0.mk hr0_5
 have HC0_5 := Aside0.mk hc0_5
 clear hr0_5 hc0_5
 have HR0_6 := Aside0.mk hr0_6
 have HC0_6 := Aside0.mk hc0_6
 clear hr0_6 hc0_6
 have HR0_7 := Aside0.mk hr0_7
 have HC0_7 := Aside0.mk hc0_7
 clear hr0_7 hc0_7
 have HR0_8 := Aside0.mk hr0_8
 have HC0_8 := Aside0.mk hc0_8
 clear hr0_8 hc0_8
 have HR0_9 := Aside0.mk hr0_9
 have HC0_9 := Aside0.mk hc0_9
 clear hr0_9 hc0_9
 have HB := Aside0.mk (Below.refl w.heap.size w)
 have H : ((corrieref07_is.f a0_0 a0_1 a0_2 a0_3 a0_4 l0_5 l0_6 l0_7 l0_8 l0_9 a1).bind fun t155 => (if t155 = true then (if 0 ≤ a1 then (if a1 < (l0_5.length : Int) then (if a1 < (l0_7.length : Int) then (some (rd l0_5 a1, rd l0_7 a1)) else (none)) else (none)) else (none)) else (some (0, 0)))) = some (r1, r2) := h
 clear h
 replace H := Option.bind_eq_some_iff.mp H
 obtain ⟨t155, A30, H⟩ := H
 replace H : (if t155 = true then (if 0 ≤ a1 then (if a1 < (l0_5.length : Int) then (if a1 < (l0_7.length : Int) then (some (rd l0_5 a1, rd l0_7 a1)) else (none)) else (none)) else (none)) else (some (0, 0))) = some (r1, r2) := H
 have A3 := Aside0.mk A30
 clear A30
 by_cases c4 : t155 = true
 ·subst c4
  have H1 : (if 0 ≤ a1 then (if a1 < (l0_5.length : Int) then (if a1 < (l0_7.length : Int) then (some (rd l0_5 a1, rd l0_7 a1)) else (none)) else (none)) else (none)) = some (r1, r2) := by rw [if_pos rfl] at H; exact H
  clear H
  have H := H1
  clear H1
  by_cases c5 : 0 ≤ a1
  ·rw [if_pos c5] at H
   have c5b0 : decide (0 ≤ a1) = true := decide_eq_true c5
   clear c5
   by_cases c6 : a1 < (l0_5.length : Int)
   ·rw [if_pos c6] at H
    have c6b0 : decide (a1 < (l0_5.length : Int)) = true := decide_eq_true c6
    clear c6
    by_cases c7 : a1 < (l0_7.length : Int)
    ·rw [if_pos c7] at H
     have c7b0 : decide (a1 < (l0_7.length : Int)) = true := decide_eq_true c7
     clear c7
     simp only [Option.some.injEq, Prod.mk.injEq] at H
     obtain ⟨rfl, rfl⟩ := H
     go_enter Try.func14, Try.ntmps14
     go_wp2_with (first | ((with_reducible refine gate_dst (N := 2) rfl ?_); refine box_event ?hg (N := 2) ?hd (cs := #[.int .i64 a0_0, .int .i64 a0_1, .int .i64 a0_2, .int .i64 a0_3, .int .i64 a0_4, .slice A0_5 l0_5.length c0_5, .slice A0_6 l0_6.length c0_6, .slice A0_7 l0_7.length c0_7, .slice A0_8 l0_8.length c0_8, .slice A0_9 l0_9.length c0_9]) (t := 32) ?hr ?_; (case hd => rfl); (case hg => rfl); (case hr => first | (go_simp; done) | (go_simp; rfl)); intro gb154 hg w8 hbox hb; have n0_ := Aside0.mk (below_step (by repeat (first | (with_reducible first | exact HB.out | apply below_alloc | apply pw_below_drewN | apply below_drew1) | exact HB.out)) hb); have n1_ := Aside0.mk (hbox); have n2_ := Aside0.mk ((by rw [hg]; exact (below_size (by repeat (first | (with_reducible first | exact HB.out | apply below_alloc | apply pw_below_drewN | apply below_drew1) | exact HB.out))) : w.heap.size ≤ gb154)); have n3_ := Aside0.mk ((by rw [hg]; exact (below_size (by repeat (first | (with_reducible first | exact HB.out | apply below_alloc | apply pw_below_drewN | apply below_drew1) | exact HB.out))) : w.heap.size ≤ gb154)); clear HB; have HB := n0_; have BK154 := n1_; have GW154 := n2_; have GE154 := n3_; clear n0_ n1_ n2_ n3_; clear hb hbox hg; have hcz9_0 : w8.cell? ⟨gb154, 0, none⟩ = some (.int .i64 a0_0) := (blk_cell BK154.out 0).trans rfl; have hcz9_1 : w8.cell? ⟨gb154, 1, none⟩ = some (.int .i64 a0_1) := (blk_cell BK154.out 1).trans rfl; have hcz9_2 : w8.cell? ⟨gb154, 2, none⟩ = some (.int .i64 a0_2) := (blk_cell BK154.out 2).trans rfl; have hcz9_3 : w8.cell? ⟨gb154, 3, none⟩ = some (.int .i64 a0_3) := (blk_cell BK154.out 3).trans rfl; have hcz9_4 : w8.cell? ⟨gb154, 4, none⟩ = some (.int .i64 a0_4) := (blk_cell BK154.out 4).trans rfl; have hcz9_5 : w8.cell? ⟨gb154, 5, none⟩ = some (.slice A0_5 l0_5.length c0_5) := (blk_cell BK154.out 5).trans rfl; have hcz9_6 : w8.cell? ⟨gb154, 6, none⟩ = some (.slice A0_6 l0_6.length c0_6) := (blk_cell BK154.out 6).trans rfl; have hcz9_7 : w8.cell? ⟨gb154, 7, none⟩ = some (.slice A0_7 l0_7.length c0_7) := (blk_cell BK154.out 7).trans rfl; have hcz9_8 : w8.cell? ⟨gb154, 8, none⟩ = some (.slice A0_8 l0_8.length c0_8) := (blk_cell BK154.out 8).trans rfl; have hcz9_9 : w8.cell? ⟨gb154, 9, none⟩ = some (.slice A0_9 l0_9.length c0_9) := (blk_cell BK154.out 9).trans rfl; have hfz9_0 := blk_frozen BK154.out 0; have hfz9_1 := blk_frozen BK154.out 1; have hfz9_2 := blk_frozen BK154.out 2; have hfz9_3 := blk_frozen BK154.out 3; have hfz9_4 := blk_frozen BK154.out 4; have hfz9_5 := blk_frozen BK154.out 5; have hfz9_6 := blk_frozen BK154.out 6; have hfz9_7 := blk_frozen BK154.out 7; have hfz9_8 := blk_frozen BK154.out 8; have hfz9_9 := blk_frozen BK154.out 9) | (go_at_call 30; (with_reducible refine (corrieref07_is.calls a0_0 a0_1 a0_2 a0_3 a0_4 _ _ l0_5 _ _ l0_6 _ _ l0_7 _ _ l0_8 _ _ l0_9 a1 true _ ?side1 ?side2 ?side3 ?side4 ?side5 ?side6 ?side7 ?side8 ?side9 ?side10 A3.out).mono ?_); (case side1 => repeat (first | exact (Kd.C_below HR0_5.out HB.out) | (with_reducible refine Kd.C_alloc ?_ _) | (with_reducible refine Kd.C_drewN ?_ _) | (with_reducible refine Kd.C_drew ?_))); (case side2 => exact HC0_5.out); (case side3 => repeat (first | exact (Kd.C_below HR0_6.out HB.out) | (with_reducible refine Kd.C_alloc ?_ _) | (with_reducible refine Kd.C_drewN ?_ _) | (with_reducible refine Kd.C_drew ?_))); (case side4 => exact HC0_6.out); (case side5 => repeat (first | exact (Kd.C_below HR0_7.out HB.out) | (with_reducible refine Kd.C_alloc ?_ _) | (with_reducible refine Kd.C_drewN ?_ _) | (with_reducible refine Kd.C_drew ?_))); (case side6 => exact HC0_7.out); (case side7 => repeat (first | exact (Kd.C_below HR0_8.out HB.out) | (with_reducible refine Kd.C_alloc ?_ _) | (with_reducible refine Kd.C_drewN ?_ _) | (with_reducible refine Kd.C_drew ?_))); (case side8 => exact HC0_8.out); (case side9 => repeat (first | exact (Kd.C_below HR0_9.out HB.out) | (with_reducible refine Kd.C_alloc ?_ _) | (with_reducible refine Kd.C_drewN ?_ _) | (with_reducible refine Kd.C_drew ?_))); (case side10 => exact HC0_9.out); rintro e w10 ⟨rfl, hb⟩; have n0_ := Aside0.mk (blk_below (g := gb154) (o := .cells #[.int .i64 a0_0, .int .i64 a0_1, .int .i64 a0_2, .int .i64 a0_3, .int .i64 a0_4, .slice A0_5 l0_5.length c0_5, .slice A0_6 l0_6.length c0_6, .slice A0_7 l0_7.length c0_7, .slice A0_8 l0_8.length c0_8, .slice A0_9 l0_9.length c0_9] 32 (0, 0)) (by (with_reducible repeat (first | refine blk_drewN ?_ _ | refine blk_drew ?_ | refine blk_alloc ?_ _)); exact BK154.out) hb); have n1_ := Aside0.mk (below_step (by repeat (first | (with_reducible first | exact HB.out | apply below_alloc | apply pw_below_drewN | apply below_drew1 | refine below_set ?_ GE154.out) | exact HB.out)) hb); clear BK154; clear HB; have BK154 := n0_; have HB := n1_; clear n0_ n1_; (try clear hb); (try clear hb2); (try clear hk); (try clear hi); have hcz11_0 : w10.cell? ⟨gb154, 0, none⟩ = some (.int .i64 a0_0) := (blk_cell BK154.out 0).trans rfl; have hcz11_1 : w10.cell? ⟨gb154, 1, none⟩ = some (.int .i64 a0_1) := (blk_cell BK154.out 1).trans rfl; have hcz11_2 : w10.cell? ⟨gb154, 2, none⟩ = some (.int .i64 a0_2) := (blk_cell BK154.out 2).trans rfl; have hcz11_3 : w10.cell? ⟨gb154, 3, none⟩ = some (.int .i64 a0_3) := (blk_cell BK154.out 3).trans rfl; have hcz11_4 : w10.cell? ⟨gb154, 4, none⟩ = some (.int .i64 a0_4) := (blk_cell BK154.out 4).trans rfl; have hcz11_5 : w10.cell? ⟨gb154, 5, none⟩ = some (.slice A0_5 l0_5.length c0_5) := (blk_cell BK154.out 5).trans rfl; have hcz11_6 : w10.cell? ⟨gb154, 6, none⟩ = some (.slice A0_6 l0_6.length c0_6) := (blk_cell BK154.out 6).trans rfl; have hcz11_7 : w10.cell? ⟨gb154, 7, none⟩ = some (.slice A0_7 l0_7.length c0_7) := (blk_cell BK154.out 7).trans rfl; have hcz11_8 : w10.cell? ⟨gb154, 8, none⟩ = some (.slice A0_8 l0_8.length c0_8) := (blk_cell BK154.out 8).trans rfl; have hcz11_9 : w10.cell? ⟨gb154, 9, none⟩ = some (.slice A0_9 l0_9.length c0_9) := (blk_cell BK154.out 9).trans rfl; have hfz11_0 := blk_frozen BK154.out 0; have hfz11_1 := blk_frozen BK154.out 1; have hfz11_2 := blk_frozen BK154.out 2; have hfz11_3 := blk_frozen BK154.out 3; have hfz11_4 := blk_frozen BK154.out 4; have hfz11_5 := blk_frozen BK154.out 5; have hfz11_6 := blk_frozen BK154.out 6; have hfz11_7 := blk_frozen BK154.out 7; have hfz11_8 := blk_frozen BK154.out 8; have hfz11_9 := blk_frozen BK154.out 9; have p156 : 0 ≤ (a1 : Int) := of_decide_eq_true (by first | (with_reducible assumption) | assumption); have q156 : a1 < (l0_5.length : Int) := of_decide_eq_true (by first | (with_reducible assumption) | assumption); obtain ⟨ad156, e156, hx156_0⟩ := Kd.at_int HR0_5.out a1 p156 q156; cases e156; replace hx156_0 := (HB.out.cell (World.block_lt_of_cell? w _ hx156_0)).trans hx156_0; replace p156 := eq_true p156; replace q156 := eq_true q156; have p157 : 0 ≤ (a1 : Int) := of_decide_eq_true (by first | (with_reducible assumption) | assumption); have q157 : a1 < (l0_7.length : Int) := of_decide_eq_true (by first | (with_reducible assumption) | assumption); obtain ⟨ad157, e157, hx157_0⟩ := Kd.at_int HR0_7.out a1 p157 q157; cases e157; replace hx157_0 := (HB.out.cell (World.block_lt_of_cell? w _ hx157_0)).trans hx157_0; replace p157 := eq_true p157; replace q157 := eq_true q157))
     repeat (go_quiet (first | ((with_reducible refine gate_dst (N := 2) rfl ?_); refine box_event ?hg (N := 2) ?hd (cs := #[.int .i64 a0_0, .int .i64 a0_1, .int .i64 a0_2, .int .i64 a0_3, .int .i64 a0_4, .slice A0_5 l0_5.length c0_5, .slice A0_6 l0_6.length c0_6, .slice A0_7 l0_7.length c0_7, .slice A0_8 l0_8.length c0_8, .slice A0_9 l0_9.length c0_9]) (t := 32) ?hr ?_; (case hd => rfl); (case hg => rfl); (case hr => first | (go_simp; done) | (go_simp; rfl)); intro gb154 hg w8 hbox hb; have n0_ := Aside0.mk (below_step (by repeat (first | (with_reducible first | exact HB.out | apply below_alloc | apply pw_below_drewN | apply below_drew1) | exact HB.out)) hb); have n1_ := Aside0.mk (hbox); have n2_ := Aside0.mk ((by rw [hg]; exact (below_size (by repeat (first | (with_reducible first | exact HB.out | apply below_alloc | apply pw_below_drewN | apply below_drew1) | exact HB.out))) : w.heap.size ≤ gb154)); have n3_ := Aside0.mk ((by rw [hg]; exact (below_size (by repeat (first | (with_reducible first | exact HB.out | apply below_alloc | apply pw_below_drewN | apply below_drew1) | exact HB.out))) : w.heap.size ≤ gb154)); clear HB; have HB := n0_; have BK154 := n1_; have GW154 := n2_; have GE154 := n3_; clear n0_ n1_ n2_ n3_; clear hb hbox hg; have hcz9_0 : w8.cell? ⟨gb154, 0, none⟩ = some (.int .i64 a0_0) := (blk_cell BK154.out 0).trans rfl; have hcz9_1 : w8.cell? ⟨gb154, 1, none⟩ = some (.int .i64 a0_1) := (blk_cell BK154.out 1).trans rfl; have hcz9_2 : w8.cell? ⟨gb154, 2, none⟩ = some (.int .i64 a0_2) := (blk_cell BK154.out 2).trans rfl; have hcz9_3 : w8.cell? ⟨gb154, 3, none⟩ = some (.int .i64 a0_3) := (blk_cell BK154.out 3).trans rfl; have hcz9_4 : w8.cell? ⟨gb154, 4, none⟩ = some (.int .i64 a0_4) := (blk_cell BK154.out 4).trans rfl; have hcz9_5 : w8.cell? ⟨gb154, 5, none⟩ = some (.slice A0_5 l0_5.length c0_5) := (blk_cell BK154.out 5).trans rfl; have hcz9_6 : w8.cell? ⟨gb154, 6, none⟩ = some (.slice A0_6 l0_6.length c0_6) := (blk_cell BK154.out 6).trans rfl; have hcz9_7 : w8.cell? ⟨gb154, 7, none⟩ = some (.slice A0_7 l0_7.length c0_7) := (blk_cell BK154.out 7).trans rfl; have hcz9_8 : w8.cell? ⟨gb154, 8, none⟩ = some (.slice A0_8 l0_8.length c0_8) := (blk_cell BK154.out 8).trans rfl; have hcz9_9 : w8.cell? ⟨gb154, 9, none⟩ = some (.slice A0_9 l0_9.length c0_9) := (blk_cell BK154.out 9).trans rfl; have hfz9_0 := blk_frozen BK154.out 0; have hfz9_1 := blk_frozen BK154.out 1; have hfz9_2 := blk_frozen BK154.out 2; have hfz9_3 := blk_frozen BK154.out 3; have hfz9_4 := blk_frozen BK154.out 4; have hfz9_5 := blk_frozen BK154.out 5; have hfz9_6 := blk_frozen BK154.out 6; have hfz9_7 := blk_frozen BK154.out 7; have hfz9_8 := blk_frozen BK154.out 8; have hfz9_9 := blk_frozen BK154.out 9) | (go_at_call 30; (with_reducible refine (corrieref07_is.calls a0_0 a0_1 a0_2 a0_3 a0_4 _ _ l0_5 _ _ l0_6 _ _ l0_7 _ _ l0_8 _ _ l0_9 a1 true _ ?side1 ?side2 ?side3 ?side4 ?side5 ?side6 ?side7 ?side8 ?side9 ?side10 A3.out).mono ?_); (case side1 => repeat (first | exact (Kd.C_below HR0_5.out HB.out) | (with_reducible refine Kd.C_alloc ?_ _) | (with_reducible refine Kd.C_drewN ?_ _) | (with_reducible refine Kd.C_drew ?_))); (case side2 => exact HC0_5.out); (case side3 => repeat (first | exact (Kd.C_below HR0_6.out HB.out) | (with_reducible refine Kd.C_alloc ?_ _) | (with_reducible refine Kd.C_drewN ?_ _) | (with_reducible refine Kd.C_drew ?_))); (case side4 => exact HC0_6.out); (case side5 => repeat (first | exact (Kd.C_below HR0_7.out HB.out) | (with_reducible refine Kd.C_alloc ?_ _) | (with_reducible refine Kd.C_drewN ?_ _) | (with_reducible refine Kd.C_drew ?_))); (case side6 => exact HC0_7.out); (case side7 => repeat (first | exact (Kd.C_below HR0_8.out HB.out) | (with_reducible refine Kd.C_alloc ?_ _) | (with_reducible refine Kd.C_drewN ?_ _) | (with_reducible refine Kd.C_drew ?_))); (case side8 => exact HC0_8.out); (case side9 => repeat (first | exact (Kd.C_below HR0_9.out HB.out) | (with_reducible refine Kd.C_alloc ?_ _) | (with_reducible refine Kd.C_drewN ?_ _) | (with_reducible refine Kd.C_drew ?_))); (case side10 => exact HC0_9.out); rintro e w10 ⟨rfl, hb⟩; have n0_ := Aside0.mk (blk_below (g := gb154) (o := .cells #[.int .i64 a0_0, .int .i64 a0_1, .int .i64 a0_2, .int .i64 a0_3, .int .i64 a0_4, .slice A0_5 l0_5.length c0_5, .slice A0_6 l0_6.length c0_6, .slice A0_7 l0_7.length c0_7, .slice A0_8 l0_8.length c0_8, .slice A0_9 l0_9.length c0_9] 32 (0, 0)) (by (with_reducible repeat (first | refine blk_drewN ?_ _ | refine blk_drew ?_ | refine blk_alloc ?_ _)); exact BK154.out) hb); have n1_ := Aside0.mk (below_step (by repeat (first | (with_reducible first | exact HB.out | apply below_alloc | apply pw_below_drewN | apply below_drew1 | refine below_set ?_ GE154.out) | exact HB.out)) hb); clear BK154; clear HB; have BK154 := n0_; have HB := n1_; clear n0_ n1_; (try clear hb); (try clear hb2); (try clear hk); (try clear hi); have hcz11_0 : w10.cell? ⟨gb154, 0, none⟩ = some (.int .i64 a0_0) := (blk_cell BK154.out 0).trans rfl; have hcz11_1 : w10.cell? ⟨gb154, 1, none⟩ = some (.int .i64 a0_1) := (blk_cell BK154.out 1).trans rfl; have hcz11_2 : w10.cell? ⟨gb154, 2, none⟩ = some (.int .i64 a0_2) := (blk_cell BK154.out 2).trans rfl; have hcz11_3 : w10.cell? ⟨gb154, 3, none⟩ = some (.int .i64 a0_3) := (blk_cell BK154.out 3).trans rfl; have hcz11_4 : w10.cell? ⟨gb154, 4, none⟩ = some (.int .i64 a0_4) := (blk_cell BK154.out 4).trans rfl; have hcz11_5 : w10.cell? ⟨gb154, 5, none⟩ = some (.slice A0_5 l0_5.length c0_5) := (blk_cell BK154.out 5).trans rfl; have hcz11_6 : w10.cell? ⟨gb154, 6, none⟩ = some (.slice A0_6 l0_6.length c0_6) := (blk_cell BK154.out 6).trans rfl; have hcz11_7 : w10.cell? ⟨gb154, 7, none⟩ = some (.slice A0_7 l0_7.length c0_7) := (blk_cell BK154.out 7).trans rfl; have hcz11_8 : w10.cell? ⟨gb154, 8, none⟩ = some (.slice A0_8 l0_8.length c0_8) := (blk_cell BK154.out 8).trans rfl; have hcz11_9 : w10.cell? ⟨gb154, 9, none⟩ = some (.slice A0_9 l0_9.length c0_9) := (blk_cell BK154.out 9).trans rfl; have hfz11_0 := blk_frozen BK154.out 0; have hfz11_1 := blk_frozen BK154.out 1; have hfz11_2 := blk_frozen BK154.out 2; have hfz11_3 := blk_frozen BK154.out 3; have hfz11_4 := blk_frozen BK154.out 4; have hfz11_5 := blk_frozen BK154.out 5; have hfz11_6 := blk_frozen BK154.out 6; have hfz11_7 := blk_frozen BK154.out 7; have hfz11_8 := blk_frozen BK154.out 8; have hfz11_9 := blk_frozen BK154.out 9; have p156 : 0 ≤ (a1 : Int) := of_decide_eq_true (by first | (with_reducible assumption) | assumption); have q156 : a1 < (l0_5.length : Int) := of_decide_eq_true (by first | (with_reducible assumption) | assumption); obtain ⟨ad156, e156, hx156_0⟩ := Kd.at_int HR0_5.out a1 p156 q156; cases e156; replace hx156_0 := (HB.out.cell (World.block_lt_of_cell? w _ hx156_0)).trans hx156_0; replace p156 := eq_true p156; replace q156 := eq_true q156; have p157 : 0 ≤ (a1 : Int) := of_decide_eq_true (by first | (with_reducible assumption) | assumption); have q157 : a1 < (l0_7.length : Int) := of_decide_eq_true (by first | (with_reducible assumption) | assumption); obtain ⟨ad157, e157, hx157_0⟩ := Kd.at_int HR0_7.out a1 p157 q157; cases e157; replace hx157_0 := (HB.out.cell (World.block_lt_of_cell? w _ hx157_0)).trans hx157_0; replace p157 := eq_true p157; replace q157 := eq_true q157)); try go_wp2_with (first | ((with_reducible refine gate_dst (N := 2) rfl ?_); refine box_event ?hg (N := 2) ?hd (cs := #[.int .i64 a0_0, .int .i64 a0_1, .int .i64 a0_2, .int .i64 a0_3, .int .i64 a0_4, .slice A0_5 l0_5.length c0_5, .slice A0_6 l0_6.length c0_6, .slice A0_7 l0_7.length c0_7, .slice A0_8 l0_8.length c0_8, .slice A0_9 l0_9.length c0_9]) (t := 32) ?hr ?_; (case hd => rfl); (case hg => rfl); (case hr => first | (go_simp; done) | (go_simp; rfl)); intro gb154 hg w8 hbox hb; have n0_ := Aside0.mk (below_step (by repeat (first | (with_reducible first | exact HB.out | apply below_alloc | apply pw_below_drewN | apply below_drew1) | exact HB.out)) hb); have n1_ := Aside0.mk (hbox); have n2_ := Aside0.mk ((by rw [hg]; exact (below_size (by repeat (first | (with_reducible first | exact HB.out | apply below_alloc | apply pw_below_drewN | apply below_drew1) | exact HB.out))) : w.heap.size ≤ gb154)); have n3_ := Aside0.mk ((by rw [hg]; exact (below_size (by repeat (first | (with_reducible first | exact HB.out | apply below_alloc | apply pw_below_drewN | apply below_drew1) | exact HB.out))) : w.heap.size ≤ gb154)); clear HB; have HB := n0_; have BK154 := n1_; have GW154 := n2_; have GE154 := n3_; clear n0_ n1_ n2_ n3_; clear hb hbox hg; have hcz9_0 : w8.cell? ⟨gb154, 0, none⟩ = some (.int .i64 a0_0) := (blk_cell BK154.out 0).trans rfl; have hcz9_1 : w8.cell? ⟨gb154, 1, none⟩ = some (.int .i64 a0_1) := (blk_cell BK154.out 1).trans rfl; have hcz9_2 : w8.cell? ⟨gb154, 2, none⟩ = some (.int .i64 a0_2) := (blk_cell BK154.out 2).trans rfl; have hcz9_3 : w8.cell? ⟨gb154, 3, none⟩ = some (.int .i64 a0_3) := (blk_cell BK154.out 3).trans rfl; have hcz9_4 : w8.cell? ⟨gb154, 4, none⟩ = some (.int .i64 a0_4) := (blk_cell BK154.out 4).trans rfl; have hcz9_5 : w8.cell? ⟨gb154, 5, none⟩ = some (.slice A0_5 l0_5.length c0_5) := (blk_cell BK154.out 5).trans rfl; have hcz9_6 : w8.cell? ⟨gb154, 6, none⟩ = some (.slice A0_6 l0_6.length c0_6) := (blk_cell BK154.out 6).trans rfl; have hcz9_7 : w8.cell? ⟨gb154, 7, none⟩ = some (.slice A0_7 l0_7.length c0_7) := (blk_cell BK154.out 7).trans rfl; have hcz9_8 : w8.cell? ⟨gb154, 8, none⟩ = some (.slice A0_8 l0_8.length c0_8) := (blk_cell BK154.out 8).trans rfl; have hcz9_9 : w8.cell? ⟨gb154, 9, none⟩ = some (.slice A0_9 l0_9.length c0_9) := (blk_cell BK154.out 9).trans rfl; have hfz9_0 := blk_frozen BK154.out 0; have hfz9_1 := blk_frozen BK154.out 1; have hfz9_2 := blk_frozen BK154.out 2; have hfz9_3 := blk_frozen BK154.out 3; have hfz9_4 := blk_frozen BK154.out 4; have hfz9_5 := blk_frozen BK154.out 5; have hfz9_6 := blk_frozen BK154.out 6; have hfz9_7 := blk_frozen BK154.out 7; have hfz9_8 := blk_frozen BK154.out 8; have hfz9_9 := blk_frozen BK154.out 9) | (go_at_call 30; (with_reducible refine (corrieref07_is.calls a0_0 a0_1 a0_2 a0_3 a0_4 _ _ l0_5 _ _ l0_6 _ _ l0_7 _ _ l0_8 _ _ l0_9 a1 true _ ?side1 ?side2 ?side3 ?side4 ?side5 ?side6 ?side7 ?side8 ?side9 ?side10 A3.out).mono ?_); (case side1 => repeat (first | exact (Kd.C_below HR0_5.out HB.out) | (with_reducible refine Kd.C_alloc ?_ _) | (with_reducible refine Kd.C_drewN ?_ _) | (with_reducible refine Kd.C_drew ?_))); (case side2 => exact HC0_5.out); (case side3 => repeat (first | exact (Kd.C_below HR0_6.out HB.out) | (with_reducible refine Kd.C_alloc ?_ _) | (with_reducible refine Kd.C_drewN ?_ _) | (with_reducible refine Kd.C_drew ?_))); (case side4 => exact HC0_6.out); (case side5 => repeat (first | exact (Kd.C_below HR0_7.out HB.out) | (with_reducible refine Kd.C_alloc ?_ _) | (with_reducible refine Kd.C_drewN ?_ _) | (with_reducible refine Kd.C_drew ?_))); (case side6 => exact HC0_7.out); (case side7 => repeat (first | exact (Kd.C_below HR0_8.out HB.out) | (with_reducible refine Kd.C_alloc ?_ _) | (with_reducible refine Kd.C_drewN ?_ _) | (with_reducible refine Kd.C_drew ?_))); (case side8 => exact HC0_8.out); (case side9 => repeat (first | exact (Kd.C_below HR0_9.out HB.out) | (with_reducible refine Kd.C_alloc ?_ _) | (with_reducible refine Kd.C_drewN ?_ _) | (with_reducible refine Kd.C_drew ?_))); (case side10 => exact HC0_9.out); rintro e w10 ⟨rfl, hb⟩; have n0_ := Aside0.mk (blk_below (g := gb154) (o := .cells #[.int .i64 a0_0, .int .i64 a0_1, .int .i64 a0_2, .int .i64 a0_3, .int .i64 a0_4, .slice A0_5 l0_5.length c0_5, .slice A0_6 l0_6.length c0_6, .slice A0_7 l0_7.length c0_7, .slice A0_8 l0_8.length c0_8, .slice A0_9 l0_9.length c0_9] 32 (0, 0)) (by (with_reducible repeat (first | refine blk_drewN ?_ _ | refine blk_drew ?_ | refine blk_alloc ?_ _)); exact BK154.out) hb); have n1_ := Aside0.mk (below_step (by repeat (first | (with_reducible first | exact HB.out | apply below_alloc | apply pw_below_drewN | apply below_drew1 | refine below_set ?_ GE154.out) | exact HB.out)) hb); clear BK154; clear HB; have BK154 := n0_; have HB := n1_; clear n0_ n1_; (try clear hb); (try clear hb2); (try clear hk); (try clear hi); have hcz11_0 : w10.cell? ⟨gb154, 0, none⟩ = some (.int .i64 a0_0) := (blk_cell BK154.out 0).trans rfl; have hcz11_1 : w10.cell? ⟨gb154, 1, none⟩ = some (.int .i64 a0_1) := (blk_cell BK154.out 1).trans rfl; have hcz11_2 : w10.cell? ⟨gb154, 2, none⟩ = some (.int .i64 a0_2) := (blk_cell BK154.out 2).trans rfl; have hcz11_3 : w10.cell? ⟨gb154, 3, none⟩ = some (.int .i64 a0_3) := (blk_cell BK154.out 3).trans rfl; have hcz11_4 : w10.cell? ⟨gb154, 4, none⟩ = some (.int .i64 a0_4) := (blk_cell BK154.out 4).trans rfl; have hcz11_5 : w10.cell? ⟨gb154, 5, none⟩ = some (.slice A0_5 l0_5.length c0_5) := (blk_cell BK154.out 5).trans rfl; have hcz11_6 : w10.cell? ⟨gb154, 6, none⟩ = some (.slice A0_6 l0_6.length c0_6) := (blk_cell BK154.out 6).trans rfl; have hcz11_7 : w10.cell? ⟨gb154, 7, none⟩ = some (.slice A0_7 l0_7.length c0_7) := (blk_cell BK154.out 7).trans rfl; have hcz11_8 : w10.cell? ⟨gb154, 8, none⟩ = some (.slice A0_8 l0_8.length c0_8) := (blk_cell BK154.out 8).trans rfl; have hcz11_9 : w10.cell? ⟨gb154, 9, none⟩ = some (.slice A0_9 l0_9.length c0_9) := (blk_cell BK154.out 9).trans rfl; have hfz11_0 := blk_frozen BK154.out 0; have hfz11_1 := blk_frozen BK154.out 1; have hfz11_2 := blk_frozen BK154.out 2; have hfz11_3 := blk_frozen BK154.out 3; have hfz11_4 := blk_frozen BK154.out 4; have hfz11_5 := blk_frozen BK154.out 5; have hfz11_6 := blk_frozen BK154.out 6; have hfz11_7 := blk_frozen BK154.out 7; have hfz11_8 := blk_frozen BK154.out 8; have hfz11_9 := blk_frozen BK154.out 9; have p156 : 0 ≤ (a1 : Int) := of_decide_eq_true (by first | (with_reducible assumption) | assumption); have q156 : a1 < (l0_5.length : Int) := of_decide_eq_true (by first | (with_reducible assumption) | assumption); obtain ⟨ad156, e156, hx156_0⟩ := Kd.at_int HR0_5.out a1 p156 q156; cases e156; replace hx156_0 := (HB.out.cell (World.block_lt_of_cell? w _ hx156_0)).trans hx156_0; replace p156 := eq_true p156; replace q156 := eq_true q156; have p157 : 0 ≤ (a1 : Int) := of_decide_eq_true (by first | (with_reducible assumption) | assumption); have q157 : a1 < (l0_7.length : Int) := of_decide_eq_true (by first | (with_reducible assumption) | assumption); obtain ⟨ad157, e157, hx157_0⟩ := Kd.at_int HR0_7.out a1 p157 q157; cases e157; replace hx157_0 := (HB.out.cell (World.block_lt_of_cell? w _ hx157_0)).trans hx157_0; replace p157 := eq_true p157; replace q157 := eq_true q157)))
     go_ret2
     exact ⟨by first | rfl | (simp [errW_none, errW_some] <;> rfl) | (simp [*, errW_none, errW_some] <;> rfl), by repeat (first | (with_reducible first | exact HB.out | apply below_alloc | apply pw_below_drewN | apply below_drew1 | refine below_set ?_ GE154.out) | exact HB.out)⟩
    ·rw [if_neg c7] at H
     exact absurd H (by simp)
   ·rw [if_neg c6] at H
    exact absurd H (by simp)
  ·rw [if_neg c5] at H
   exact absurd H (by simp)
 ·replace c4 := Bool.eq_false_iff.mpr c4
  subst c4
  have H1 : (some (0, 0)) = some (r1, r2) := by rw [if_neg (show ¬ (false = true) by decide)] at H; exact H
  clear H
  have H := H1
  clear H1
  simp only [Option.some.injEq, Prod.mk.injEq] at H
  obtain ⟨rfl, rfl⟩ := H
  go_enter Try.func14, Try.ntmps14
  go_wp2_with (first | ((with_reducible refine gate_dst (N := 2) rfl ?_); refine box_event ?hg (N := 2) ?hd (cs := #[.int .i64 a0_0, .int .i64 a0_1, .int .i64 a0_2, .int .i64 a0_3, .int .i64 a0_4, .slice A0_5 l0_5.length c0_5, .slice A0_6 l0_6.length c0_6, .slice A0_7 l0_7.length c0_7, .slice A0_8 l0_8.length c0_8, .slice A0_9 l0_9.length c0_9]) (t := 32) ?hr ?_; (case hd => rfl); (case hg => rfl); (case hr => first | (go_simp; done) | (go_simp; rfl)); intro gb154 hg w12 hbox hb; have n0_ := Aside0.mk (below_step (by repeat (first | (with_reducible first | exact HB.out | apply below_alloc | apply pw_below_drewN | apply below_drew1) | exact HB.out)) hb); have n1_ := Aside0.mk (hbox); have n2_ := Aside0.mk ((by rw [hg]; exact (below_size (by repeat (first | (with_reducible first | exact HB.out | apply below_alloc | apply pw_below_drewN | apply below_drew1) | exact HB.out))) : w.heap.size ≤ gb154)); have n3_ := Aside0.mk ((by rw [hg]; exact (below_size (by repeat (first | (with_reducible first | exact HB.out | apply below_alloc | apply pw_below_drewN | apply below_drew1) | exact HB.out))) : w.heap.size ≤ gb154)); clear HB; have HB := n0_; have BK154 := n1_; have GW154 := n2_; have GE154 := n3_; clear n0_ n1_ n2_ n3_; clear hb hbox hg; have hcz13_0 : w12.cell? ⟨gb154, 0, none⟩ = some (.int .i64 a0_0) := (blk_cell BK154.out 0).trans rfl; have hcz13_1 : w12.cell? ⟨gb154, 1, none⟩ = some (.int .i64 a0_1) := (blk_cell BK154.out 1).trans rfl; have hcz13_2 : w12.cell? ⟨gb154, 2, none⟩ = some (.int .i64 a0_2) := (blk_cell BK154.out 2).trans rfl; have hcz13_3 : w12.cell? ⟨gb154, 3, none⟩ = some (.int .i64 a0_3) := (blk_cell BK154.out 3).trans rfl; have hcz13_4 : w12.cell? ⟨gb154, 4, none⟩ = some (.int .i64 a0_4) := (blk_cell BK154.out 4).trans rfl; have hcz13_5 : w12.cell? ⟨gb154, 5, none⟩ = some (.slice A0_5 l0_5.length c0_5) := (blk_cell BK154.out 5).trans rfl; have hcz13_6 : w12.cell? ⟨gb154, 6, none⟩ = some (.slice A0_6 l0_6.length c0_6) := (blk_cell BK154.out 6).trans rfl; have hcz13_7 : w12.cell? ⟨gb154, 7, none⟩ = some (.slice A0_7 l0_7.length c0_7) := (blk_cell BK154.out 7).trans rfl; have hcz13_8 : w12.cell? ⟨gb154, 8, none⟩ = some (.slice A0_8 l0_8.length c0_8) := (blk_cell BK154.out 8).trans rfl; have hcz13_9 : w12.cell? ⟨gb154, 9, none⟩ = some (.slice A0_9 l0_9.length c0_9) := (blk_cell BK154.out 9).trans rfl; have hfz13_0 := blk_frozen BK154.out 0; have hfz13_1 := blk_frozen BK154.out 1; have hfz13_2 := blk_frozen BK154.out 2; have hfz13_3 := blk_frozen BK154.out 3; have hfz13_4 := blk_frozen BK154.out 4; have hfz13_5 := blk_frozen BK154.out 5; have hfz13_6 := blk_frozen BK154.out 6; have hfz13_7 := blk_frozen BK154.out 7; have hfz13_8 := blk_frozen BK154.out 8; have hfz13_9 := blk_frozen BK154.out 9) | (go_at_call 30; (with_reducible refine (corrieref07_is.calls a0_0 a0_1 a0_2 a0_3 a0_4 _ _ l0_5 _ _ l0_6 _ _ l0_7 _ _ l0_8 _ _ l0_9 a1 false _ ?side1 ?side2 ?side3 ?side4 ?side5 ?side6 ?side7 ?side8 ?side9 ?side10 A3.out).mono ?_); (case side1 => repeat (first | exact (Kd.C_below HR0_5.out HB.out) | (with_reducible refine Kd.C_alloc ?_ _) | (with_reducible refine Kd.C_drewN ?_ _) | (with_reducible refine Kd.C_drew ?_))); (case side2 => exact HC0_5.out); (case side3 => repeat (first | exact (Kd.C_below HR0_6.out HB.out) | (with_reducible refine Kd.C_alloc ?_ _) | (with_reducible refine Kd.C_drewN ?_ _) | (with_reducible refine Kd.C_drew ?_))); (case side4 => exact HC0_6.out); (case side5 => repeat (first | exact (Kd.C_below HR0_7.out HB.out) | (with_reducible refine Kd.C_alloc ?_ _) | (with_reducible refine Kd.C_drewN ?_ _) | (with_reducible refine Kd.C_drew ?_))); (case side6 => exact HC0_7.out); (case side7 => repeat (first | exact (Kd.C_below HR0_8.out HB.out) | (with_reducible refine Kd.C_alloc ?_ _) | (with_reducible refine Kd.C_drewN ?_ _) | (with_reducible refine Kd.C_drew ?_))); (case side8 => exact HC0_8.out); (case side9 => repeat (first | exact (Kd.C_below HR0_9.out HB.out) | (with_reducible refine Kd.C_alloc ?_ _) | (with_reducible refine Kd.C_drewN ?_ _) | (with_reducible refine Kd.C_drew ?_))); (case side10 => exact HC0_9.out); rintro e w14 ⟨rfl, hb⟩; have n0_ := Aside0.mk (blk_below (g := gb154) (o := .cells #[.int .i64 a0_0, .int .i64 a0_1, .int .i64 a0_2, .int .i64 a0_3, .int .i64 a0_4, .slice A0_5 l0_5.length c0_5, .slice A0_6 l0_6.length c0_6, .slice A0_7 l0_7.length c0_7, .slice A0_8 l0_8.length c0_8, .slice A0_9 l0_9.length c0_9] 32 (0, 0)) (by (with_reducible repeat (first | refine blk_drewN ?_ _ | refine blk_drew ?_ | refine blk_alloc ?_ _)); exact BK154.out) hb); have n1_ := Aside0.mk (below_step (by repeat (first | (with_reducible first | exact HB.out | apply below_alloc | apply pw_below_drewN | apply below_drew1 | refine below_set ?_ GE154.out) | exact HB.out)) hb); clear BK154; clear HB; have BK154 := n0_; have HB := n1_; clear n0_ n1_; (try clear hb); (try clear hb2); (try clear hk); (try clear hi)))
  repeat (go_quiet (first | ((with_reducible refine gate_dst (N := 2) rfl ?_); refine box_event ?hg (N := 2) ?hd (cs := #[.int .i64 a0_0, .int .i64 a0_1, .int .i64 a0_2, .int .i64 a0_3, .int .i64 a0_4, .slice A0_5 l0_5.length c0_5, .slice A0_6 l0_6.length c0_6, .slice A0_7 l0_7.length c0_7, .slice A0_8 l0_8.length c0_8, .slice A0_9 l0_9.length c0_9]) (t := 32) ?hr ?_; (case hd => rfl); (case hg => rfl); (case hr => first | (go_simp; done) | (go_simp; rfl)); intro gb154 hg w12 hbox hb; have n0_ := Aside0.mk (below_step (by repeat (first | (with_reducible first | exact HB.out | apply below_alloc | apply pw_below_drewN | apply below_drew1) | exact HB.out)) hb); have n1_ := Aside0.mk (hbox); have n2_ := Aside0.mk ((by rw [hg]; exact (below_size (by repeat (first | (with_reducible first | exact HB.out | apply below_alloc | apply pw_below_drewN | apply below_drew1) | exact HB.out))) : w.heap.size ≤ gb154)); have n3_ := Aside0.mk ((by rw [hg]; exact (below_size (by repeat (first | (with_reducible first | exact HB.out | apply below_alloc | apply pw_below_drewN | apply below_drew1) | exact HB.out))) : w.heap.size ≤ gb154)); clear HB; have HB := n0_; have BK154 := n1_; have GW154 := n2_; have GE154 := n3_; clear n0_ n1_ n2_ n3_; clear hb hbox hg; have hcz13_0 : w12.cell? ⟨gb154, 0, none⟩ = some (.int .i64 a0_0) := (blk_cell BK154.out 0).trans rfl; have hcz13_1 : w12.cell? ⟨gb154, 1, none⟩ = some (.int .i64 a0_1) := (blk_cell BK154.out 1).trans rfl; have hcz13_2 : w12.cell? ⟨gb154, 2, none⟩ = some (.int .i64 a0_2) := (blk_cell BK154.out 2).trans rfl; have hcz13_3 : w12.cell? ⟨gb154, 3, none⟩ = some (.int .i64 a0_3) := (blk_cell BK154.out 3).trans rfl; have hcz13_4 : w12.cell? ⟨gb154, 4, none⟩ = some (.int .i64 a0_4) := (blk_cell BK154.out 4).trans rfl; have hcz13_5 : w12.cell? ⟨gb154, 5, none⟩ = some (.slice A0_5 l0_5.length c0_5) := (blk_cell BK154.out 5).trans rfl; have hcz13_6 : w12.cell? ⟨gb154, 6, none⟩ = some (.slice A0_6 l0_6.length c0_6) := (blk_cell BK154.out 6).trans rfl; have hcz13_7 : w12.cell? ⟨gb154, 7, none⟩ = some (.slice A0_7 l0_7.length c0_7) := (blk_cell BK154.out 7).trans rfl; have hcz13_8 : w12.cell? ⟨gb154, 8, none⟩ = some (.slice A0_8 l0_8.length c0_8) := (blk_cell BK154.out 8).trans rfl; have hcz13_9 : w12.cell? ⟨gb154, 9, none⟩ = some (.slice A0_9 l0_9.length c0_9) := (blk_cell BK154.out 9).trans rfl; have hfz13_0 := blk_frozen BK154.out 0; have hfz13_1 := blk_frozen BK154.out 1; have hfz13_2 := blk_frozen BK154.out 2; have hfz13_3 := blk_frozen BK154.out 3; have hfz13_4 := blk_frozen BK154.out 4; have hfz13_5 := blk_frozen BK154.out 5; have hfz13_6 := blk_frozen BK154.out 6; have hfz13_7 := blk_frozen BK154.out 7; have hfz13_8 := blk_frozen BK154.out 8; have hfz13_9 := blk_frozen BK154.out 9) | (go_at_call 30; (with_reducible refine (corrieref07_is.calls a0_0 a0_1 a0_2 a0_3 a0_4 _ _ l0_5 _ _ l0_6 _ _ l0_7 _ _ l0_8 _ _ l0_9 a1 false _ ?side1 ?side2 ?side3 ?side4 ?side5 ?side6 ?side7 ?side8 ?side9 ?side10 A3.out).mono ?_); (case side1 => repeat (first | exact (Kd.C_below HR0_5.out HB.out) | (with_reducible refine Kd.C_alloc ?_ _) | (with_reducible refine Kd.C_drewN ?_ _) | (with_reducible refine Kd.C_drew ?_))); (case side2 => exact HC0_5.out); (case side3 => repeat (first | exact (Kd.C_below HR0_6.out HB.out) | (with_reducible refine Kd.C_alloc ?_ _) | (with_reducible refine Kd.C_drewN ?_ _) | (with_reducible refine Kd.C_drew ?_))); (case side4 => exact HC0_6.out); (case side5 => repeat (first | exact (Kd.C_below HR0_7.out HB.out) | (with_reducible refine Kd.C_alloc ?_ _) | (with_reducible refine Kd.C_drewN ?_ _) | (with_reducible refine Kd.C_drew ?_))); (case side6 => exact HC0_7.out); (case side7 => repeat (first | exact (Kd.C_below HR0_8.out HB.out) | (with_reducible refine Kd.C_alloc ?_ _) | (with_reducible refine Kd.C_drewN ?_ _) | (with_reducible refine Kd.C_drew ?_))); (case side8 => exact HC0_8.out); (case side9 => repeat (first | exact (Kd.C_below HR0_9.out HB.out) | (with_reducible refine Kd.C_alloc ?_ _) | (with_reducible refine Kd.C_drewN ?_ _) | (with_reducible refine Kd.C_drew ?_))); (case side10 => exact HC0_9.out); rintro e w14 ⟨rfl, hb⟩; have n0_ := Aside0.mk (blk_below (g := gb154) (o := .cells #[.int .i64 a0_0, .int .i64 a0_1, .int .i64 a0_2, .int .i64 a0_3, .int .i64 a0_4, .slice A0_5 l0_5.length c0_5, .slice A0_6 l0_6.length c0_6, .slice A0_7 l0_7.length c0_7, .slice A0_8 l0_8.length c0_8, .slice A0_9 l0_9.length c0_9] 32 (0, 0)) (by (with_reducible repeat (first | refine blk_drewN ?_ _ | refine blk_drew ?_ | refine blk_alloc ?_ _)); exact BK154.out) hb); have n1_ := Aside0.mk (below_step (by repeat (first | (with_reducible first | exact HB.out | apply below_alloc | apply pw_below_drewN | apply below_drew1 | refine below_set ?_ GE154.out) | exact HB.out)) hb); clear BK154; clear HB; have BK154 := n0_; have HB := n1_; clear n0_ n1_; (try clear hb); (try clear hb2); (try clear hk); (try clear hi))); try go_wp2_with (first | ((with_reducible refine gate_dst (N := 2) rfl ?_); refine box_event ?hg (N := 2) ?hd (cs := #[.int .i64 a0_0, .int .i64 a0_1, .int .i64 a0_2, .int .i64 a0_3, .int .i64 a0_4, .slice A0_5 l0_5.length c0_5, .slice A0_6 l0_6.length c0_6, .slice A0_7 l0_7.length c0_7, .slice A0_8 l0_8.length c0_8, .slice A0_9 l0_9.length c0_9]) (t := 32) ?hr ?_; (case hd => rfl); (case hg => rfl); (case hr => first | (go_simp; done) | (go_simp; rfl)); intro gb154 hg w12 hbox hb; have n0_ := Aside0.mk (below_step (by repeat (first | (with_reducible first | exact HB.out | apply below_alloc | apply pw_below_drewN | apply below_drew1) | exact HB.out)) hb); have n1_ := Aside0.mk (hbox); have n2_ := Aside0.mk ((by rw [hg]; exact (below_size (by repeat (first | (with_reducible first | exact HB.out | apply below_alloc | apply pw_below_drewN | apply below_drew1) | exact HB.out))) : w.heap.size ≤ gb154)); have n3_ := Aside0.mk ((by rw [hg]; exact (below_size (by repeat (first | (with_reducible first | exact HB.out | apply below_alloc | apply pw_below_drewN | apply below_drew1) | exact HB.out))) : w.heap.size ≤ gb154)); clear HB; have HB := n0_; have BK154 := n1_; have GW154 := n2_; have GE154 := n3_; clear n0_ n1_ n2_ n3_; clear hb hbox hg; have hcz13_0 : w12.cell? ⟨gb154, 0, none⟩ = some (.int .i64 a0_0) := (blk_cell BK154.out 0).trans rfl; have hcz13_1 : w12.cell? ⟨gb154, 1, none⟩ = some (.int .i64 a0_1) := (blk_cell BK154.out 1).trans rfl; have hcz13_2 : w12.cell? ⟨gb154, 2, none⟩ = some (.int .i64 a0_2) := (blk_cell BK154.out 2).trans rfl; have hcz13_3 : w12.cell? ⟨gb154, 3, none⟩ = some (.int .i64 a0_3) := (blk_cell BK154.out 3).trans rfl; have hcz13_4 : w12.cell? ⟨gb154, 4, none⟩ = some (.int .i64 a0_4) := (blk_cell BK154.out 4).trans rfl; have hcz13_5 : w12.cell? ⟨gb154, 5, none⟩ = some (.slice A0_5 l0_5.length c0_5) := (blk_cell BK154.out 5).trans rfl; have hcz13_6 : w12.cell? ⟨gb154, 6, none⟩ = some (.slice A0_6 l0_6.length c0_6) := (blk_cell BK154.out 6).trans rfl; have hcz13_7 : w12.cell? ⟨gb154, 7, none⟩ = some (.slice A0_7 l0_7.length c0_7) := (blk_cell BK154.out 7).trans rfl; have hcz13_8 : w12.cell? ⟨gb154, 8, none⟩ = some (.slice A0_8 l0_8.length c0_8) := (blk_cell BK154.out 8).trans rfl; have hcz13_9 : w12.cell? ⟨gb154, 9, none⟩ = some (.slice A0_9 l0_9.length c0_9) := (blk_cell BK154.out 9).trans rfl; have hfz13_0 := blk_frozen BK154.out 0; have hfz13_1 := blk_frozen BK154.out 1; have hfz13_2 := blk_frozen BK154.out 2; have hfz13_3 := blk_frozen BK154.out 3; have hfz13_4 := blk_frozen BK154.out 4; have hfz13_5 := blk_frozen BK154.out 5; have hfz13_6 := blk_frozen BK154.out 6; have hfz13_7 := blk_frozen BK154.out 7; have hfz13_8 := blk_frozen BK154.out 8; have hfz13_9 := blk_frozen BK154.out 9) | (go_at_call 30; (with_reducible refine (corrieref07_is.calls a0_0 a0_1 a0_2 a0_3 a0_4 _ _ l0_5 _ _ l0_6 _ _ l0_7 _ _ l0_8 _ _ l0_9 a1 false _ ?side1 ?side2 ?side3 ?side4 ?side5 ?side6 ?side7 ?side8 ?side9 ?side10 A3.out).mono ?_); (case side1 => repeat (first | exact (Kd.C_below HR0_5.out HB.out) | (with_reducible refine Kd.C_alloc ?_ _) | (with_reducible refine Kd.C_drewN ?_ _) | (with_reducible refine Kd.C_drew ?_))); (case side2 => exact HC0_5.out); (case side3 => repeat (first | exact (Kd.C_below HR0_6.out HB.out) | (with_reducible refine Kd.C_alloc ?_ _) | (with_reducible refine Kd.C_drewN ?_ _) | (with_reducible refine Kd.C_drew ?_))); (case side4 => exact HC0_6.out); (case side5 => repeat (first | exact (Kd.C_below HR0_7.out HB.out) | (with_reducible refine Kd.C_alloc ?_ _) | (with_reducible refine Kd.C_drewN ?_ _) | (with_reducible refine Kd.C_drew ?_))); (case side6 => exact HC0_7.out); (case side7 => repeat (first | exact (Kd.C_below HR0_8.out HB.out) | (with_reducible refine Kd.C_alloc ?_ _) | (with_reducible refine Kd.C_drewN ?_ _) | (with_reducible refine Kd.C_drew ?_))); (case side8 => exact HC0_8.out); (case side9 => repeat (first | exact (Kd.C_below HR0_9.out HB.out) | (with_reducible refine Kd.C_alloc ?_ _) | (with_reducible refine Kd.C_drewN ?_ _) | (with_reducible refine Kd.C_drew ?_))); (case side10 => exact HC0_9.out); rintro e w14 ⟨rfl, hb⟩; have n0_ := Aside0.mk (blk_below (g := gb154) (o := .cells #[.int .i64 a0_0, .int .i64 a0_1, .int .i64 a0_2, .int .i64 a0_3, .int .i64 a0_4, .slice A0_5 l0_5.length c0_5, .slice A0_6 l0_6.length c0_6, .slice A0_7 l0_7.length c0_7, .slice A0_8 l0_8.length c0_8, .slice A0_9 l0_9.length c0_9] 32 (0, 0)) (by (with_reducible repeat (first | refine blk_drewN ?_ _ | refine blk_drew ?_ | refine blk_alloc ?_ _)); exact BK154.out) hb); have n1_ := Aside0.mk (below_step (by repeat (first | (with_reducible first | exact HB.out | apply below_alloc | apply pw_below_drewN | apply below_drew1 | refine below_set ?_ GE154.out) | exact HB.out)) hb); clear BK154; clear HB; have BK154 := n0_; have HB := n1_; clear n0_ n1_; (try clear hb); (try clear hb2); (try clear hk); (try clear hi))))
  go_ret2
  exact ⟨by first | rfl | (simp [errW_none, errW_some] <;> rfl) | (simp [*, errW_none, errW_some] <;> rfl), by repeat (first | (with_reducible first | exact HB.out | apply below_alloc | apply pw_below_drewN | apply below_drew1 | refine below_set ?_ GE154.out) | exact HB.out)⟩

/-! ### corrieref07_Carried: function 16 -/
def corrieref07_Carried.l0 : Nat → Int → Int → Int → Int → Int → Int → Int → List Int → List Int → List Int → List (S60) → List (S62) → Option (Int)
 | 0, _, _, _, _, _, _, _, _, _, _, _, _ => none
 | k + 1, x1, x5, x159000, x159001, x159002, x159003, x159004, x159005, x159006, x159007, x159008, x159009 => if x5 < (x159009.length : Int) then (if 0 ≤ x5 then (if ((rd_T62 x159009 x5).f0) = x1 then (some ((rd_T62 x159009 x5).f1)) else (corrieref07_Carried.l0 k x1 (wrap64 (x5 + 1)) x159000 x159001 x159002 x159003 x159004 x159005 x159006 x159007 x159008 x159009)) else (none)) else (some (-1))
def corrieref07_Carried.f (k : Nat) (a0_0 : Int) (a0_1 : Int) (a0_2 : Int) (a0_3 : Int) (a0_4 : Int) (l0_5 : List Int) (l0_6 : List Int) (l0_7 : List Int) (l0_8 : List (S60)) (l0_9 : List (S62)) (a1 : Int) : Option (Int) := corrieref07_Carried.l0 k a1 0 a0_0 a0_1 a0_2 a0_3 a0_4 l0_5 l0_6 l0_7 l0_8 l0_9
theorem corrieref07_Carried.mono_l : ∀ k, (∀ y0 y1 y2 y3 y4 y5 y6 y7 y8 y9 y10 y11, LeO (corrieref07_Carried.l0 k y0 y1 y2 y3 y4 y5 y6 y7 y8 y9 y10 y11) (corrieref07_Carried.l0 (k + 1) y0 y1 y2 y3 y4 y5 y6 y7 y8 y9 y10 y11))
 | 0 => fun _ _ _ _ _ _ _ _ _ _ _ _ r h => by simp [corrieref07_Carried.l0] at h
 | k + 1 => by
  have ih0 := corrieref07_Carried.mono_l k
  ·intro y0 y1 y2 y3 y4 y5 y6 y7 y8 y9 y10 y11
   unfold corrieref07_Carried.l0
   repeat' first
   | (with_reducible exact ih0 _ _ _ _ _ _ _ _ _ _ _ _)
   | (with_reducible exact LeO.refl _)
   | (with_reducible exact LeO.none _)
   | (with_reducible refine LeO.ite ?_ ?_)
   | (with_reducible refine LeO.bind ?_ (fun _ => ?_))
   | exact ih0 _ _ _ _ _ _ _ _ _ _ _ _
   | exact LeO.none _
   | refine LeO.ite ?_ ?_
   | refine LeO.bind ?_ (fun _ => ?_)
theorem corrieref07_Carried.mono : ∀ a0 a1 a2 a3 a4 a5 a6 a7 a8 a9 a10 k, LeO (corrieref07_Carried.f k a0 a1 a2 a3 a4 a5 a6 a7 a8 a9 a10) (corrieref07_Carried.f (k + 1) a0 a1 a2 a3 a4 a5 a6 a7 a8 a9 a10) := by
 intro a0 a1 a2 a3 a4 a5 a6 a7 a8 a9 a10 k
 have ih0 := corrieref07_Carried.mono_l k
 unfold corrieref07_Carried.f
 repeat' first
   | (with_reducible exact ih0 _ _ _ _ _ _ _ _ _ _ _ _)
   | (with_reducible exact LeO.refl _)
   | (with_reducible exact LeO.none _)
   | (with_reducible refine LeO.ite ?_ ?_)
   | (with_reducible refine LeO.bind ?_ (fun _ => ?_))
   | exact ih0 _ _ _ _ _ _ _ _ _ _ _ _
   | exact LeO.none _
   | refine LeO.ite ?_ ?_
   | refine LeO.bind ?_ (fun _ => ?_)
set_option maxHeartbeats 8000000 in
set_option maxRecDepth 100000 in
theorem corrieref07_Carried.calls (k : Nat) (a0_0 : Int) (a0_1 : Int) (a0_2 : Int) (a0_3 : Int) (a0_4 : Int) (A0_5 : Option Addr) (c0_5 : Nat) (l0_5 : List Int) (A0_6 : Option Addr) (c0_6 : Nat) (l0_6 : List Int) (A0_7 : Option Addr) (c0_7 : Nat) (l0_7 : List Int) (A0_8 : Option Addr) (c0_8 : Nat) (l0_8 : List (S60)) (A0_9 : Option Addr) (c0_9 : Nat) (l0_9 : List (S62)) (a1 : Int) (r : Int) (w : World) (hr0_5 : Kd.C (Kd.int .i64) w A0_5 l0_5.length l0_5) (hc0_5 : l0_5.length ≤ c0_5) (hr0_6 : Kd.C (Kd.int .i64) w A0_6 l0_6.length l0_6) (hc0_6 : l0_6.length ≤ c0_6) (hr0_7 : Kd.C (Kd.int .i64) w A0_7 l0_7.length l0_7) (hc0_7 : l0_7.length ≤ c0_7) (hr0_8 : Kd.C k60 w A0_8 l0_8.length l0_8) (hc0_8 : l0_8.length ≤ c0_8) (hr0_9 : Kd.C k62 w A0_9 l0_9.length l0_9) (hc0_9 : l0_9.length ≤ c0_9) (h : corrieref07_Carried.f k a0_0 a0_1 a0_2 a0_3 a0_4 l0_5 l0_6 l0_7 l0_8 l0_9 a1 = some r) :
  Calls Try.prog 16 #[.agg #[.int .i64 a0_0, .int .i64 a0_1, .int .i64 a0_2, .int .i64 a0_3, .int .i64 a0_4, .slice A0_5 l0_5.length c0_5, .slice A0_6 l0_6.length c0_6, .slice A0_7 l0_7.length c0_7, .slice A0_8 l0_8.length c0_8, .slice A0_9 l0_9.length c0_9], .int .i64 a1] w fun e w' => e = .returned (.int .i64 r) ∧ Below w.heap.size w w' := by
 have hu32 := Try.underlying32
 have HR0_5 := Aside0.mk hr0_5
 have HC0_5 := Aside0.mk hc0_5
 clear hr0_5 hc0_5
 have HR0_6 := Aside0.mk hr0_6
 have HC0_6 := Aside0.mk hc0_6
 clear hr0_6 hc0_6
 have HR0_7 := Aside0.mk hr0_7
 have HC0_7 := Aside0.mk hc0_7
 clear hr0_7 hc0_7
 have HR0_8 := Aside0.mk hr0_8
 have HC0_8 := Aside0.mk hc0_8
 clear hr0_8 hc0_8
 have HR0_9 := Aside0.mk hr0_9
 have HC0_9 := Aside0.mk hc0_9
 clear hr0_9 hc0_9
 have HB := Aside0.mk (Below.refl w.heap.size w)
 have H : (corrieref07_Carried.l0 k a1 0 a0_0 a0_1 a0_2 a0_3 a0_4 l0_5 l0_6 l0_7 l0_8 l0_9) = some r := h
 clear h
 have H' := Aside0.mk H
 clear H
 go_enter Try.func16, Try.ntmps16
 go_wp2_with (first | ((with_reducible refine gate_dst (N := 2) rfl ?_); refine box_event ?hg (N := 2) ?hd (cs := #[.int .i64 a0_0, .int .i64 a0_1, .int .i64 a0_2, .int .i64 a0_3, .int .i64 a0_4, .slice A0_5 l0_5.length c0_5, .slice A0_6 l0_6.length c0_6, .slice A0_7 l0_7.length c0_7, .slice A0_8 l0_8.length c0_8, .slice A0_9 l0_9.length c0_9]) (t := 32) ?hr ?_; (case hd => rfl); (case hg => rfl); (case hr => first | (go_simp; done) | (go_simp; rfl)); intro gb158 hg w3 hbox hb; have n0_ := Aside0.mk (below_step (by repeat (first | (with_reducible first | exact HB.out | apply below_alloc | apply pw_below_drewN | apply below_drew1) | exact HB.out)) hb); have n1_ := Aside0.mk (hbox); have n2_ := Aside0.mk ((by rw [hg]; exact (below_size (by repeat (first | (with_reducible first | exact HB.out | apply below_alloc | apply pw_below_drewN | apply below_drew1) | exact HB.out))) : w.heap.size ≤ gb158)); have n3_ := Aside0.mk ((by rw [hg]; exact (below_size (by repeat (first | (with_reducible first | exact HB.out | apply below_alloc | apply pw_below_drewN | apply below_drew1) | exact HB.out))) : w.heap.size ≤ gb158)); clear HB; have HB := n0_; have BK158 := n1_; have GW158 := n2_; have GE158 := n3_; clear n0_ n1_ n2_ n3_; clear hb hbox hg))
 go_loopg [5] k (fun kq v5 w' => ∃ (x5_1 : Int), v5 = .int .i64 x5_1 ∧ Aside0 (corrieref07_Carried.l0 kq a1 x5_1 a0_0 a0_1 a0_2 a0_3 a0_4 l0_5 l0_6 l0_7 l0_8 l0_9 = some r) ∧ Aside0 (kq ≤ k) ∧ Aside0 (w'.heap[gb158]? = some (.cells #[.int .i64 a0_0, .int .i64 a0_1, .int .i64 a0_2, .int .i64 a0_3, .int .i64 a0_4, (.slice A0_5 l0_5.length c0_5), (.slice A0_6 l0_6.length c0_6), (.slice A0_7 l0_7.length c0_7), (.slice A0_8 l0_8.length c0_8), (.slice A0_9 l0_9.length c0_9)] 32 (0, 0))) ∧ Aside0 (Below w.heap.size w w'))
 case atStart => exact ⟨(0), (by first | rfl | (simp; done) | (simp [*]; done)), H', ⟨Nat.le_refl _⟩, ⟨by (with_reducible repeat (first | refine blk_drewN ?_ _ | refine blk_drew ?_ | refine blk_alloc ?_ _)); exact BK158.out⟩, ⟨by repeat (first | (with_reducible first | exact HB.out | apply below_alloc | apply pw_below_drewN | apply below_drew1 | refine below_set ?_ GE158.out) | exact HB.out)⟩⟩
 case round =>
  clear H'
  try clear c1
  try clear p2
  obtain ⟨x5_1, rfl, HA, HK1, BK158, HB⟩ := hrel
  cases gk with
  | zero => exact absurd HA.out (by simp [corrieref07_Carried.l0])
  | succ k1 =>
   have H := HA.out
   clear HA
   simp only [corrieref07_Carried.l0] at H
   by_cases c4 : x5_1 < (l0_9.length : Int)
   ·rw [if_pos c4] at H
    have c4b0 : decide (x5_1 < (l0_9.length : Int)) = true := decide_eq_true c4
    clear c4
    by_cases c5 : 0 ≤ x5_1
    ·rw [if_pos c5] at H
     have c5b0 : decide (0 ≤ x5_1) = true := decide_eq_true c5
     clear c5
     by_cases c6 : ((rd_T62 l0_9 x5_1).f0) = a1
     ·rw [if_pos c6] at H
      have c6b0 : (((rd_T62 l0_9 x5_1).f0) == a1) = true := beq_iff_eq.mpr c6
      have c6b1 : (((rd_T62 l0_9 x5_1).f0) != a1) = false := bne_eq_false_iff_eq.mpr c6
      clear c6
      obtain rfl := Option.some.inj H
      have hcz7_0 : wr.cell? ⟨gb158, 0, none⟩ = some (.int .i64 a0_0) := (blk_cell BK158.out 0).trans rfl
      have hcz7_1 : wr.cell? ⟨gb158, 1, none⟩ = some (.int .i64 a0_1) := (blk_cell BK158.out 1).trans rfl
      have hcz7_2 : wr.cell? ⟨gb158, 2, none⟩ = some (.int .i64 a0_2) := (blk_cell BK158.out 2).trans rfl
      have hcz7_3 : wr.cell? ⟨gb158, 3, none⟩ = some (.int .i64 a0_3) := (blk_cell BK158.out 3).trans rfl
      have hcz7_4 : wr.cell? ⟨gb158, 4, none⟩ = some (.int .i64 a0_4) := (blk_cell BK158.out 4).trans rfl
      have hcz7_5 : wr.cell? ⟨gb158, 5, none⟩ = some (.slice A0_5 l0_5.length c0_5) := (blk_cell BK158.out 5).trans rfl
      have hcz7_6 : wr.cell? ⟨gb158, 6, none⟩ = some (.slice A0_6 l0_6.length c0_6) := (blk_cell BK158.out 6).trans rfl
      have hcz7_7 : wr.cell? ⟨gb158, 7, none⟩ = some (.slice A0_7 l0_7.length c0_7) := (blk_cell BK158.out 7).trans rfl
      have hcz7_8 : wr.cell? ⟨gb158, 8, none⟩ = some (.slice A0_8 l0_8.length c0_8) := (blk_cell BK158.out 8).trans rfl
      have hcz7_9 : wr.cell? ⟨gb158, 9, none⟩ = some (.slice A0_9 l0_9.length c0_9) := (blk_cell BK158.out 9).trans rfl
      have hfz7_0 := blk_frozen BK158.out 0
      have hfz7_1 := blk_frozen BK158.out 1
      have hfz7_2 := blk_frozen BK158.out 2
      have hfz7_3 := blk_frozen BK158.out 3
      have hfz7_4 := blk_frozen BK158.out 4
      have hfz7_5 := blk_frozen BK158.out 5
      have hfz7_6 := blk_frozen BK158.out 6
      have hfz7_7 := blk_frozen BK158.out 7
      have hfz7_8 := blk_frozen BK158.out 8
      have hfz7_9 := blk_frozen BK158.out 9
      have p159 : 0 ≤ (x5_1 : Int) := of_decide_eq_true (by first | (with_reducible assumption) | assumption)
      have q159 : x5_1 < (l0_9.length : Int) := of_decide_eq_true (by first | (with_reducible assumption) | assumption)
      obtain ⟨ad159, e159, hx159_0, hx159_1⟩ := at_T62 HR0_9.out x5_1 p159 q159
      cases e159
      replace hx159_0 := (HB.out.cell (World.block_lt_of_cell? w _ hx159_0)).trans hx159_0
      replace hx159_1 := (HB.out.cell (World.block_lt_of_cell? w _ hx159_1)).trans hx159_1
      replace p159 := eq_true p159
      replace q159 := eq_true q159
      have p160 : 0 ≤ (x5_1 : Int) := of_decide_eq_true (by first | (with_reducible assumption) | assumption)
      have q160 : x5_1 < (l0_9.length : Int) := of_decide_eq_true (by first | (with_reducible assumption) | assumption)
      obtain ⟨ad160, e160, hx160_0, hx160_1⟩ := at_T62 HR0_9.out x5_1 p160 q160
      obtain rfl : ad159 = ad160 := (by injection e160)
      replace hx160_0 := (HB.out.cell (World.block_lt_of_cell? w _ hx160_0)).trans hx160_0
      replace hx160_1 := (HB.out.cell (World.block_lt_of_cell? w _ hx160_1)).trans hx160_1
      replace p160 := eq_true p160
      replace q160 := eq_true q160
      go_wp2
      go_ret
      exact ⟨by first | rfl | (simp [errW_none, errW_some] <;> rfl) | (simp [*, errW_none, errW_some] <;> rfl), by repeat (first | (with_reducible first | exact HB.out | apply below_alloc | apply pw_below_drewN | apply below_drew1 | refine below_set ?_ GE158.out) | exact HB.out)⟩
     ·rw [if_neg c6] at H
      have c6b0 : (((rd_T62 l0_9 x5_1).f0) == a1) = false := beq_eq_false_iff_ne.mpr c6
      have c6b1 : (((rd_T62 l0_9 x5_1).f0) != a1) = true := bne_iff_ne.mpr c6
      have H' := Aside0.mk H
      clear H
      have hcz8_0 : wr.cell? ⟨gb158, 0, none⟩ = some (.int .i64 a0_0) := (blk_cell BK158.out 0).trans rfl
      have hcz8_1 : wr.cell? ⟨gb158, 1, none⟩ = some (.int .i64 a0_1) := (blk_cell BK158.out 1).trans rfl
      have hcz8_2 : wr.cell? ⟨gb158, 2, none⟩ = some (.int .i64 a0_2) := (blk_cell BK158.out 2).trans rfl
      have hcz8_3 : wr.cell? ⟨gb158, 3, none⟩ = some (.int .i64 a0_3) := (blk_cell BK158.out 3).trans rfl
      have hcz8_4 : wr.cell? ⟨gb158, 4, none⟩ = some (.int .i64 a0_4) := (blk_cell BK158.out 4).trans rfl
      have hcz8_5 : wr.cell? ⟨gb158, 5, none⟩ = some (.slice A0_5 l0_5.length c0_5) := (blk_cell BK158.out 5).trans rfl
      have hcz8_6 : wr.cell? ⟨gb158, 6, none⟩ = some (.slice A0_6 l0_6.length c0_6) := (blk_cell BK158.out 6).trans rfl
      have hcz8_7 : wr.cell? ⟨gb158, 7, none⟩ = some (.slice A0_7 l0_7.length c0_7) := (blk_cell BK158.out 7).trans rfl
      have hcz8_8 : wr.cell? ⟨gb158, 8, none⟩ = some (.slice A0_8 l0_8.length c0_8) := (blk_cell BK158.out 8).trans rfl
      have hcz8_9 : wr.cell? ⟨gb158, 9, none⟩ = some (.slice A0_9 l0_9.length c0_9) := (blk_cell BK158.out 9).trans rfl
      have hfz8_0 := blk_frozen BK158.out 0
      have hfz8_1 := blk_frozen BK158.out 1
      have hfz8_2 := blk_frozen BK158.out 2
      have hfz8_3 := blk_frozen BK158.out 3
      have hfz8_4 := blk_frozen BK158.out 4
      have hfz8_5 := blk_frozen BK158.out 5
      have hfz8_6 := blk_frozen BK158.out 6
      have hfz8_7 := blk_frozen BK158.out 7
      have hfz8_8 := blk_frozen BK158.out 8
      have hfz8_9 := blk_frozen BK158.out 9
      have p159 : 0 ≤ (x5_1 : Int) := of_decide_eq_true (by first | (with_reducible assumption) | assumption)
      have q159 : x5_1 < (l0_9.length : Int) := of_decide_eq_true (by first | (with_reducible assumption) | assumption)
      obtain ⟨ad159, e159, hx159_0, hx159_1⟩ := at_T62 HR0_9.out x5_1 p159 q159
      cases e159
      replace hx159_0 := (HB.out.cell (World.block_lt_of_cell? w _ hx159_0)).trans hx159_0
      replace hx159_1 := (HB.out.cell (World.block_lt_of_cell? w _ hx159_1)).trans hx159_1
      replace p159 := eq_true p159
      replace q159 := eq_true q159
      go_wp2
      go_roundg k1
      case measure => have := HK1.out; omega
      case rel => exact ⟨(wrap64 (x5_1 + 1)), (by first | rfl | (simp; done) | (simp [*]; done)), H', ⟨by have := HK1.out; omega⟩, ⟨by (with_reducible repeat (first | refine blk_drewN ?_ _ | refine blk_drew ?_ | refine blk_alloc ?_ _)); exact BK158.out⟩, ⟨by repeat (first | (with_reducible first | exact HB.out | apply below_alloc | apply pw_below_drewN | apply below_drew1 | refine below_set ?_ GE158.out) | exact HB.out)⟩⟩
    ·rw [if_neg c5] at H
     exact absurd H (by simp)
   ·rw [if_neg c4] at H
    have c4b0 : decide (x5_1 < (l0_9.length : Int)) = false := decide_eq_false c4
    clear c4
    obtain rfl := Option.some.inj H
    have hcz9_0 : wr.cell? ⟨gb158, 0, none⟩ = some (.int .i64 a0_0) := (blk_cell BK158.out 0).trans rfl
    have hcz9_1 : wr.cell? ⟨gb158, 1, none⟩ = some (.int .i64 a0_1) := (blk_cell BK158.out 1).trans rfl
    have hcz9_2 : wr.cell? ⟨gb158, 2, none⟩ = some (.int .i64 a0_2) := (blk_cell BK158.out 2).trans rfl
    have hcz9_3 : wr.cell? ⟨gb158, 3, none⟩ = some (.int .i64 a0_3) := (blk_cell BK158.out 3).trans rfl
    have hcz9_4 : wr.cell? ⟨gb158, 4, none⟩ = some (.int .i64 a0_4) := (blk_cell BK158.out 4).trans rfl
    have hcz9_5 : wr.cell? ⟨gb158, 5, none⟩ = some (.slice A0_5 l0_5.length c0_5) := (blk_cell BK158.out 5).trans rfl
    have hcz9_6 : wr.cell? ⟨gb158, 6, none⟩ = some (.slice A0_6 l0_6.length c0_6) := (blk_cell BK158.out 6).trans rfl
    have hcz9_7 : wr.cell? ⟨gb158, 7, none⟩ = some (.slice A0_7 l0_7.length c0_7) := (blk_cell BK158.out 7).trans rfl
    have hcz9_8 : wr.cell? ⟨gb158, 8, none⟩ = some (.slice A0_8 l0_8.length c0_8) := (blk_cell BK158.out 8).trans rfl
    have hcz9_9 : wr.cell? ⟨gb158, 9, none⟩ = some (.slice A0_9 l0_9.length c0_9) := (blk_cell BK158.out 9).trans rfl
    have hfz9_0 := blk_frozen BK158.out 0
    have hfz9_1 := blk_frozen BK158.out 1
    have hfz9_2 := blk_frozen BK158.out 2
    have hfz9_3 := blk_frozen BK158.out 3
    have hfz9_4 := blk_frozen BK158.out 4
    have hfz9_5 := blk_frozen BK158.out 5
    have hfz9_6 := blk_frozen BK158.out 6
    have hfz9_7 := blk_frozen BK158.out 7
    have hfz9_8 := blk_frozen BK158.out 8
    have hfz9_9 := blk_frozen BK158.out 9
    go_wp2
    go_ret
    exact ⟨by first | rfl | (simp [errW_none, errW_some] <;> rfl) | (simp [*, errW_none, errW_some] <;> rfl), by repeat (first | (with_reducible first | exact HB.out | apply below_alloc | apply pw_below_drewN | apply below_drew1 | refine below_set ?_ GE158.out) | exact HB.out)⟩

end Go.Proofs.Ytpcmoclohepdiaf.PBookActs
