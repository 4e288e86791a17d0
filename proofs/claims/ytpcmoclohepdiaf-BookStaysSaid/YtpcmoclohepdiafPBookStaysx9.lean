-- Written by a program of this session: a variant of the print that takes proofs by hand (wip/tools/mkprint.py)
import Derived.Test.YtpcmoclohepdiafPBookStaysx0
import Derived.Test.YtpcmoclohepdiafPBookStaysx4
import Derived.Test.YtpcmoclohepdiafPBookStaysx5
import Derived.Test.YtpcmoclohepdiafPBookStaysx6
import Derived.Test.YtpcmoclohepdiafPBookStaysx7
import Derived.Test.YtpcmoclohepdiafPBookStaysx8
namespace Go.Proofs.Ytpcmoclohepdiaf.PBookStays
open Go.RowKit Go.Proofs.YtpcmoclohepdiafW.PrintWords Go.Proofs.YtpcmoclohepdiafW.PrintLast
set_option linter.unusedVariables false
set_option linter.unusedSimpArgs false

/-! ### corrieref07_Do: function 28 (by hand) -/
theorem rop_calls {b : RB} (h : Inv b) (i : Nat) (hi : i < b.calls.length) (cc : Int) (hcc : b.calls.getD i 0 = cc) (hne : ¬ cc = b.c.f4) : ∀ W, Calls Try.prog 44 #[.agg #[.int .i64 b.c.f0, .int .i64 b.c.f1, .int .i64 b.c.f2, .int .i64 b.c.f3, .int .i64 b.c.f4], .int .i64 (i : Int), .int .i64 cc] W (fun e w' => e = .returned (.int .i64 (opNo b.c i cc)) ∧ Below W.heap.size W w') := fun W => by
 have hb := h.hc i hi
 rw [hcc] at hb
 refine corrieref05_Op.calls 1 b.c.f0 b.c.f1 b.c.f2 b.c.f3 b.c.f4 (i : Int) cc (opNo b.c i cc) W ?_
 rw [rop_eq 0, if_pos ⟨h.ok, ⟨by omega, by have := h.lc; omega⟩, hb.1, by omega⟩]
 rfl
theorem rnd_calls {b : RB} (h : Inv b) (i : Nat) (hi : i < b.calls.length) (mm : Int) (hmm : b.made.getD i 0 = mm) (hne : ¬ mm = 2 * b.c.f4) : ∀ W, Calls Try.prog 42 #[.agg #[.int .i64 b.c.f0, .int .i64 b.c.f1, .int .i64 b.c.f2, .int .i64 b.c.f3, .int .i64 b.c.f4], .int .i64 (i : Int), .int .i64 mm] W (fun e w' => e = .returned (.int .i64 (ndNo b.c i mm)) ∧ Below W.heap.size W w') := fun W => by
 have hb := h.hm i hi
 rw [hmm] at hb
 refine corrieref05_Node.calls 1 b.c.f0 b.c.f1 b.c.f2 b.c.f3 b.c.f4 (i : Int) mm (ndNo b.c i mm) W ?_
 rw [rnode_eq 0, if_pos ⟨h.ok, ⟨by omega, by have := h.lc; omega⟩, hb.1, by omega⟩]
 rfl
theorem d_Begin {b : RB} (hI : Inv b) (r : RA) (n : Int) (x : S38) (W : World) (h : RAt W b r) :
  Calls Try.prog 37 #[rv b r, .int .i64 n, .agg #[.int .i64 x.f0, .int .u64 x.f1, .int .u64 x.f2, .int .i64 x.f3]] W fun e w' => ∃ r' : RA, e = .returned (.tuple #[rv (begR b n x).1 r', .int .i64 (begR b n x).2.1, .int .i64 (begR b n x).2.2]) ∧ RAt w' (begR b n x).1 r' ∧ Below W.heap.size W w' := by
 have hs := hI.small
 unfold begR
 by_cases c : 0 ≤ n ∧ n < (b.calls.length : Int) ∧ 1 ≤ x.f0 ∧ x.f0 ≤ 4
 ·rw [if_pos c]
  obtain ⟨n0, n1, k1, k4⟩ := c
  obtain ⟨i, rfl⟩ : ∃ i : Nat, n = (i : Int) := ⟨n.toNat, by omega⟩
  simp only [Int.toNat_natCast]
  have hi : i < b.calls.length := by omega
  have hc := hI.hc i hi
  have hii := hI.hi i hi
  by_cases c1 : b.calls.getD i 0 = b.c.f4
  ·rw [if_pos c1]
   exact r_Begin_ret b r.a5 r.a6 r.a7 r.a8 r.a9 r.c5 r.c6 r.c7 r.c8 r.c9 x i hi (by omega) (by omega) _ rfl c1 W h
  ·rw [if_neg c1]
   have hop := rop_calls hI i hi _ rfl c1
   by_cases c2 : x.f0 = 1
   ·rw [if_pos c2]
    by_cases c3 : b.ins.getD i 0 = b.c.f2
    ·rw [if_pos c3]
     exact r_Begin_full b r.a5 r.a6 r.a7 r.a8 r.a9 r.c5 r.c6 r.c7 r.c8 r.c9 x i hi (by omega) (by omega) _ rfl c1 hc.1 (by omega) hs.1 hI.li _ rfl c2 c3 W h
    ·rw [if_neg c3]
     exact r_Begin_ins b r.a5 r.a6 r.a7 r.a8 r.a9 r.c5 r.c6 r.c7 r.c8 r.c9 x i hi (by omega) (by omega) _ rfl c1 hc.1 (by omega) hs.1 hI.li _ rfl c2 c3 hii.1 (by omega) _ hop (by omega) W h
   ·rw [if_neg c2]
    exact r_Begin_oth b r.a5 r.a6 r.a7 r.a8 r.a9 r.c5 r.c6 r.c7 r.c8 r.c9 x i hi (by omega) (by omega) _ rfl c1 hc.1 (by omega) hs.1 c2 _ hop (by omega) W h
 ·rw [if_neg c]
  by_cases c1 : 0 ≤ n ∧ n < (b.calls.length : Int)
  ·obtain ⟨i, rfl⟩ : ∃ i : Nat, n = (i : Int) := ⟨n.toNat, by omega⟩
   exact r_Begin_bad b r.a5 r.a6 r.a7 r.a8 r.a9 r.c5 r.c6 r.c7 r.c8 r.c9 x i (by omega) (by omega) W h
  ·exact r_Begin_none_is b r.a5 r.a6 r.a7 r.a8 r.a9 r.c5 r.c6 r.c7 r.c8 r.c9 x n (by omega) W h
theorem d_Make {b : RB} (hI : Inv b) (r : RA) (n k : Int) (W : World) (h : RAt W b r) :
  Calls Try.prog 36 #[rv b r, .int .i64 n, .int .i64 k] W fun e w' => ∃ r' : RA, e = .returned (.tuple #[rv (mkR b n k).1 r', .int .i64 (mkR b n k).2.1, .int .i64 (mkR b n k).2.2]) ∧ RAt w' (mkR b n k).1 r' ∧ Below W.heap.size W w' := by
 have hs := hI.small
 unfold mkR
 by_cases c : 0 ≤ n ∧ n < (b.calls.length : Int) ∧ (fOp b.ops k).isSome = true
 ·rw [if_pos c]
  obtain ⟨n0, n1, hf⟩ := c
  obtain ⟨i, rfl⟩ : ∃ i : Nat, n = (i : Int) := ⟨n.toNat, by omega⟩
  simp only [Int.toNat_natCast]
  have hi : i < b.calls.length := by omega
  have hm := hI.hm i hi
  obtain ⟨x, hx⟩ := Option.isSome_iff_exists.1 hf
  by_cases c1 : b.made.getD i 0 = 2 * b.c.f4
  ·rw [if_pos c1]
   exact r_Make_full b r.a5 r.a6 r.a7 r.a8 r.a9 r.c5 r.c6 r.c7 r.c8 r.c9 k i hi hI.lm x hx _ rfl (by omega) (by omega) c1 (by omega) W h
  ·rw [if_neg c1]
   exact r_Make_ok b r.a5 r.a6 r.a7 r.a8 r.a9 r.c5 r.c6 r.c7 r.c8 r.c9 k i hi hI.lm x hx _ rfl (by omega) (by omega) c1 hm.1 (by omega) hs.1 _ (rnd_calls hI i hi _ rfl c1) (by omega) (by omega) W h
 ·rw [if_neg c]
  by_cases c1 : 0 ≤ n ∧ n < (b.calls.length : Int)
  ·obtain ⟨i, rfl⟩ : ∃ i : Nat, n = (i : Int) := ⟨n.toNat, by omega⟩
   have hn : fOp b.ops k = none := by
    cases e : fOp b.ops k with
    | none => rfl
    | some x => exact absurd ⟨c1.1, c1.2, by rw [e]; rfl⟩ c
   exact r_Make_none b r.a5 r.a6 r.a7 r.a8 r.a9 r.c5 r.c6 r.c7 r.c8 r.c9 k i (by omega) hn (by omega) W h
  ·exact r_Make_none_is b r.a5 r.a6 r.a7 r.a8 r.a9 r.c5 r.c6 r.c7 r.c8 r.c9 k n (by omega) (by omega) W h
set_option maxHeartbeats 8000000 in
set_option maxRecDepth 100000 in
theorem d_Do {b : RB} (hI : Inv b) (r : RA) (a : S58) (w : World) (h : RAt w b r) :
  Calls Try.prog 28 #[rv b r, .agg #[.bool a.f0, .int .i64 a.f1, .int .i64 a.f2, .int .i64 a.f3.f0, .int .u64 a.f3.f1, .int .u64 a.f3.f2, .int .i64 a.f3.f3]] w fun e w' => ∃ r' : RA, e = .returned (.tuple #[rv (doR b a).1 r', .int .i64 (doR b a).2.1, .int .i64 (doR b a).2.2]) ∧ RAt w' (doR b a).1 r' ∧ Below w.heap.size w w' := by
 have HR0 := Aside0.mk h
 have HI := Aside0.mk hI
 have HB := Aside0.mk (Below.refl w.heap.size w)
 clear h hI
 unfold rv
 cases hf : a.f0 with
 | true =>
  have e0 : doR b a = mkR b a.f1 a.f2 := by unfold doR; rw [hf]; rfl
  rw [e0]
  clear e0
  go_enter Try.func28, Try.ntmps28
  go_wp2_with (first | ((with_reducible refine gate_dst (N := 2) rfl ?_); refine box_event ?hg (N := 2) ?hd (cs := #[.int .i64 b.c.f0, .int .i64 b.c.f1, .int .i64 b.c.f2, .int .i64 b.c.f3, .int .i64 b.c.f4, .slice r.a5 b.calls.length r.c5, .slice r.a6 b.ins.length r.c6, .slice r.a7 b.made.length r.c7, .slice r.a8 b.ops.length r.c8, .slice r.a9 b.nodes.length r.c9]) (t := 32) ?hr ?_; (case hd => rfl); (case hg => rfl); (case hr => first | (go_simp; done) | (go_simp; rfl)); intro g2 hg w2 hbox hbk; have B2 := Aside0.mk hbox; have HGB2 := Aside0.mk (show w.heap.size ≤ g2 from by rw [hg]; exact HB.out.size); have n_HB := Aside0.mk (below_step HB.out hbk); clear HB; have HB := n_HB; clear n_HB; clear hbk hbox hg) | ((with_reducible refine gate_dst (N := 3) rfl ?_); refine box_event ?hg (N := 3) ?hd (cs := #[.bool a.f0, .int .i64 a.f1, .int .i64 a.f2, .int .i64 a.f3.f0, .int .u64 a.f3.f1, .int .u64 a.f3.f2, .int .i64 a.f3.f3]) (t := 58) ?hr ?_; (case hd => rfl); (case hg => rfl); (case hr => first | (go_simp; done) | (go_simp; rfl)); intro g3 hg w3 hbox hbk; have B3 := Aside0.mk hbox; have HGB3 := Aside0.mk (show w.heap.size ≤ g3 from by rw [hg]; exact HB.out.size); have n_B2 := Aside0.mk (blk_below B2.out hbk); have n_HB := Aside0.mk (below_step HB.out hbk); clear B2 HB; have B2 := n_B2; have HB := n_HB; clear n_B2 n_HB; clear hbk hbox hg) | ((with_reducible refine gate_dst (N := 4) rfl ?_); refine box_event ?hg (N := 4) ?hd (cs := #[.int .i64 0, .int .i64 0, .int .i64 0, .int .i64 0, .int .i64 0, .slice none 0 0, .slice none 0 0, .slice none 0 0, .slice none 0 0, .slice none 0 0]) (t := 32) ?hr ?_; (case hd => rfl); (case hg => rfl); (case hr => first | (go_simp; done) | (go_simp; rfl)); intro g4 hg w4 hbox hbk; have B4 := Aside0.mk hbox; have HGB4 := Aside0.mk (show w.heap.size ≤ g4 from by rw [hg]; exact HB.out.size); have n_B2 := Aside0.mk (blk_below B2.out hbk); have n_B3 := Aside0.mk (blk_below B3.out hbk); have n_HB := Aside0.mk (below_step HB.out hbk); clear B2 B3 HB; have B2 := n_B2; have B3 := n_B3; have HB := n_HB; clear n_B2 n_B3 n_HB; obtain ⟨c2_0, c2_1, c2_2, c2_3, c2_4, c2_5, c2_6, c2_7, c2_8, c2_9⟩ := blkc10 B2.out; obtain ⟨c3_0, c3_1, c3_2, c3_3, c3_4, c3_5, c3_6⟩ := blkc7 B3.out; obtain ⟨c4_0, c4_1, c4_2, c4_3, c4_4, c4_5, c4_6, c4_7, c4_8, c4_9⟩ := blkc10 B4.out; obtain ⟨f4_0, f4_1, f4_2, f4_3, f4_4, f4_5, f4_6, f4_7, f4_8, f4_9⟩ := blkf10 B4.out; clear hbk hbox hg) | (go_at_call 36; have hcon := d_Make HI.out r a.f1 a.f2 _ (HR0.out.below HB.out); unfold rv at hcon; (with_reducible refine hcon.mono ?_); clear hcon; rintro e w5 ⟨r', rfl, hR, hbk⟩; have HR := Aside0.mk hR; have n_B4 := Aside0.mk (blk_below B4.out hbk); have n_HB := Aside0.mk (below_step HB.out hbk); clear B4 HB; have B4 := n_B4; have HB := n_HB; clear n_B4 n_HB; clear c2_0 c2_1 c2_2 c2_3 c2_4 c2_5 c2_6 c2_7 c2_8 c2_9 c3_0 c3_1 c3_2 c3_3 c3_4 c3_5 c3_6 c4_0 c4_1 c4_2 c4_3 c4_4 c4_5 c4_6 c4_7 c4_8 c4_9 f4_0 f4_1 f4_2 f4_3 f4_4 f4_5 f4_6 f4_7 f4_8 f4_9; obtain ⟨c4_0, c4_1, c4_2, c4_3, c4_4, c4_5, c4_6, c4_7, c4_8, c4_9⟩ := blkc10 B4.out; obtain ⟨f4_0, f4_1, f4_2, f4_3, f4_4, f4_5, f4_6, f4_7, f4_8, f4_9⟩ := blkf10 B4.out; clear hR hbk))
  refine bodyPost_ret (results_ctt rfl _ _ g4 32 #[.int .i64 (mkR b a.f1 a.f2).1.c.f0, .int .i64 (mkR b a.f1 a.f2).1.c.f1, .int .i64 (mkR b a.f1 a.f2).1.c.f2, .int .i64 (mkR b a.f1 a.f2).1.c.f3, .int .i64 (mkR b a.f1 a.f2).1.c.f4, .slice r'.a5 (mkR b a.f1 a.f2).1.calls.length r'.c5, .slice r'.a6 (mkR b a.f1 a.f2).1.ins.length r'.c6, .slice r'.a7 (mkR b a.f1 a.f2).1.made.length r'.c7, .slice r'.a8 (mkR b a.f1 a.f2).1.ops.length r'.c8, .slice r'.a9 (mkR b a.f1 a.f2).1.nodes.length r'.c9] (0, 0) _ rfl (put10 B4.out) Try.underlying32 rfl (by kernel_rfl)) rfl ?_
  exact ⟨r', rfl, ⟨MR.set10 HR.out.m5 B4.out (by decide), MR.set10 HR.out.m6 B4.out (by decide), MR.set10 HR.out.m7 B4.out (by decide), MR.set10 HR.out.m8 B4.out (by decide), MR.set10 HR.out.m9 B4.out (by decide)⟩, bel10 HB.out HGB4.out⟩
 | false =>
  have e0 : doR b a = begR b a.f1 a.f3 := by unfold doR; rw [hf]; rfl
  rw [e0]
  clear e0
  go_enter Try.func28, Try.ntmps28
  go_wp2_with (first | ((with_reducible refine gate_dst (N := 2) rfl ?_); refine box_event ?hg (N := 2) ?hd (cs := #[.int .i64 b.c.f0, .int .i64 b.c.f1, .int .i64 b.c.f2, .int .i64 b.c.f3, .int .i64 b.c.f4, .slice r.a5 b.calls.length r.c5, .slice r.a6 b.ins.length r.c6, .slice r.a7 b.made.length r.c7, .slice r.a8 b.ops.length r.c8, .slice r.a9 b.nodes.length r.c9]) (t := 32) ?hr ?_; (case hd => rfl); (case hg => rfl); (case hr => first | (go_simp; done) | (go_simp; rfl)); intro g2 hg w2 hbox hbk; have B2 := Aside0.mk hbox; have HGB2 := Aside0.mk (show w.heap.size ≤ g2 from by rw [hg]; exact HB.out.size); have n_HB := Aside0.mk (below_step HB.out hbk); clear HB; have HB := n_HB; clear n_HB; clear hbk hbox hg) | ((with_reducible refine gate_dst (N := 3) rfl ?_); refine box_event ?hg (N := 3) ?hd (cs := #[.bool a.f0, .int .i64 a.f1, .int .i64 a.f2, .int .i64 a.f3.f0, .int .u64 a.f3.f1, .int .u64 a.f3.f2, .int .i64 a.f3.f3]) (t := 58) ?hr ?_; (case hd => rfl); (case hg => rfl); (case hr => first | (go_simp; done) | (go_simp; rfl)); intro g3 hg w3 hbox hbk; have B3 := Aside0.mk hbox; have HGB3 := Aside0.mk (show w.heap.size ≤ g3 from by rw [hg]; exact HB.out.size); have n_B2 := Aside0.mk (blk_below B2.out hbk); have n_HB := Aside0.mk (below_step HB.out hbk); clear B2 HB; have B2 := n_B2; have HB := n_HB; clear n_B2 n_HB; clear hbk hbox hg) | ((with_reducible refine gate_dst (N := 4) rfl ?_); refine box_event ?hg (N := 4) ?hd (cs := #[.int .i64 0, .int .i64 0, .int .i64 0, .int .i64 0, .int .i64 0, .slice none 0 0, .slice none 0 0, .slice none 0 0, .slice none 0 0, .slice none 0 0]) (t := 32) ?hr ?_; (case hd => rfl); (case hg => rfl); (case hr => first | (go_simp; done) | (go_simp; rfl)); intro g4 hg w4 hbox hbk; have B4 := Aside0.mk hbox; have HGB4 := Aside0.mk (show w.heap.size ≤ g4 from by rw [hg]; exact HB.out.size); have n_B2 := Aside0.mk (blk_below B2.out hbk); have n_B3 := Aside0.mk (blk_below B3.out hbk); have n_HB := Aside0.mk (below_step HB.out hbk); clear B2 B3 HB; have B2 := n_B2; have B3 := n_B3; have HB := n_HB; clear n_B2 n_B3 n_HB; obtain ⟨c2_0, c2_1, c2_2, c2_3, c2_4, c2_5, c2_6, c2_7, c2_8, c2_9⟩ := blkc10 B2.out; obtain ⟨c3_0, c3_1, c3_2, c3_3, c3_4, c3_5, c3_6⟩ := blkc7 B3.out; obtain ⟨c4_0, c4_1, c4_2, c4_3, c4_4, c4_5, c4_6, c4_7, c4_8, c4_9⟩ := blkc10 B4.out; obtain ⟨f4_0, f4_1, f4_2, f4_3, f4_4, f4_5, f4_6, f4_7, f4_8, f4_9⟩ := blkf10 B4.out; clear hbk hbox hg) | (go_at_call 37; have hcon := d_Begin HI.out r a.f1 a.f3 _ (HR0.out.below HB.out); unfold rv at hcon; (with_reducible refine hcon.mono ?_); clear hcon; rintro e w5 ⟨r', rfl, hR, hbk⟩; have HR := Aside0.mk hR; have n_B4 := Aside0.mk (blk_below B4.out hbk); have n_HB := Aside0.mk (below_step HB.out hbk); clear B4 HB; have B4 := n_B4; have HB := n_HB; clear n_B4 n_HB; clear c2_0 c2_1 c2_2 c2_3 c2_4 c2_5 c2_6 c2_7 c2_8 c2_9 c3_0 c3_1 c3_2 c3_3 c3_4 c3_5 c3_6 c4_0 c4_1 c4_2 c4_3 c4_4 c4_5 c4_6 c4_7 c4_8 c4_9 f4_0 f4_1 f4_2 f4_3 f4_4 f4_5 f4_6 f4_7 f4_8 f4_9; obtain ⟨c4_0, c4_1, c4_2, c4_3, c4_4, c4_5, c4_6, c4_7, c4_8, c4_9⟩ := blkc10 B4.out; obtain ⟨f4_0, f4_1, f4_2, f4_3, f4_4, f4_5, f4_6, f4_7, f4_8, f4_9⟩ := blkf10 B4.out; clear hR hbk))
  refine bodyPost_ret (results_ctt rfl _ _ g4 32 #[.int .i64 (begR b a.f1 a.f3).1.c.f0, .int .i64 (begR b a.f1 a.f3).1.c.f1, .int .i64 (begR b a.f1 a.f3).1.c.f2, .int .i64 (begR b a.f1 a.f3).1.c.f3, .int .i64 (begR b a.f1 a.f3).1.c.f4, .slice r'.a5 (begR b a.f1 a.f3).1.calls.length r'.c5, .slice r'.a6 (begR b a.f1 a.f3).1.ins.length r'.c6, .slice r'.a7 (begR b a.f1 a.f3).1.made.length r'.c7, .slice r'.a8 (begR b a.f1 a.f3).1.ops.length r'.c8, .slice r'.a9 (begR b a.f1 a.f3).1.nodes.length r'.c9] (0, 0) _ rfl (put10 B4.out) Try.underlying32 rfl (by kernel_rfl)) rfl ?_
  exact ⟨r', rfl, ⟨MR.set10 HR.out.m5 B4.out (by decide), MR.set10 HR.out.m6 B4.out (by decide), MR.set10 HR.out.m7 B4.out (by decide), MR.set10 HR.out.m8 B4.out (by decide), MR.set10 HR.out.m9 B4.out (by decide)⟩, bel10 HB.out HGB4.out⟩


/-! ### corrielaw07_run: function 10 (by hand) -/
theorem RAt.touch {W W1 : World} {b b' : RB} {r : RA} {p gt go gn : Nat} (h : RAt W b r) (hA : BookAt W p gt go gn b') (ht : Touch (T3 gt go gn) W W1) : RAt W1 b r := by
 have key : ∀ k, T3 gt go gn k → ∀ cells q, W.heap[k]? = some (.cells cells q (0, 0)) → q = 84 := by
  intro k hk cells q hc
  rcases hk with rfl | rfl | rfl
  ·obtain ⟨cs, h1, _⟩ := hA.t
   rw [h1] at hc
   injection hc with hc
   injection hc with _ hc
   exact hc.symm
  ·obtain ⟨es, cl, h1, _⟩ := hA.o
   rw [h1] at hc
   cases hc
  ·obtain ⟨es, cl, h1, _⟩ := hA.n
   rw [h1] at hc
   cases hc
 exact ⟨h.m5.touch ht (fun k hk cells q hc => by rw [key k hk cells q hc]; decide), h.m6.touch ht (fun k hk cells q hc => by rw [key k hk cells q hc]; decide), h.m7.touch ht (fun k hk cells q hc => by rw [key k hk cells q hc]; decide), h.m8.touch ht (fun k hk cells q hc => by rw [key k hk cells q hc]; decide), h.m9.touch ht (fun k hk cells q hc => by rw [key k hk cells q hc]; decide)⟩
theorem RAt.set10 {W : World} {b : RB} {r : RA} {g : Nat} {cells : Array Value} {v0 v1 v2 v3 v4 v5 v6 v7 v8 v9 : Value} (h : RAt W b r) (hb : W.heap[g]? = some (.cells cells 32 (0, 0))) : RAt ((((((((((W.setCell ⟨g, 0, none⟩ (v0)).setCell ⟨g, 1, none⟩ (v1)).setCell ⟨g, 2, none⟩ (v2)).setCell ⟨g, 3, none⟩ (v3)).setCell ⟨g, 4, none⟩ (v4)).setCell ⟨g, 5, none⟩ (v5)).setCell ⟨g, 6, none⟩ (v6)).setCell ⟨g, 7, none⟩ (v7)).setCell ⟨g, 8, none⟩ (v8)).setCell ⟨g, 9, none⟩ (v9)) b r :=
 ⟨MR.set10 h.m5 hb (by decide), MR.set10 h.m6 hb (by decide), MR.set10 h.m7 hb (by decide), MR.set10 h.m8 hb (by decide), MR.set10 h.m9 hb (by decide)⟩
theorem run_tct {P : Program} {fn : Func} {t p u : Tmp} {ty : TypeId} (h : fn.results = #[.tmp t, .cell p ty, .tmp u]) (tmps : Array Value) (w : World) (g : Nat) (t0 : TypeId) (cs : Array Value) (fr : Nat × Nat) (d : TypeDesc)
  (hp : tmps.getD p undef = .pointer (some ⟨g, 0, none⟩)) (hg : w.heap[g]? = some (.cells cs t0 fr))
  (hu : P.underlying ty = some d) (hd : (match d with | .struct _ | .array _ _ => true | _ => false) = true) (hi : (P.info? ty).map (·.size) = some cs.size) :
  (results fn tmps).run P w = .ok (.tuple #[tmps.getD t undef, .agg cs, tmps.getD u undef]) w := by
 have hp' : tmps[p]?.getD undef = .pointer (some ⟨g, 0, none⟩) := by simpa using hp
 simp [results, h, hp', asAddr, run_loadVar_row w g t0 ty cs fr d hg hu hd hi]
def bRun (b : RB) (l : List S58) : RB := l.foldl (fun b a => (doR b a).1) b
theorem Inv.run {b : RB} (h : Inv b) (l : List S58) : Inv (bRun b l) := by
 induction l generalizing b with
 | nil => exact h
 | cons a l ih => exact ih (h.done a)
def brn_lb (n m : Nat) : Array Bool := ((List.range n).map (fun i => m.testBit i)).toArray
def bk_run.T7 : Bool × List (List Nat × List Nat) := (true, [([], []), ([], []), ([], []), ([1, 2], [1, 2]), ([3], [3]), ([0, 4], [0, 4]), ([5], [5]), ([6], [6]), ([6], [6]), ([6], [6]), ([], []), ([10, 7, 5, 0, 1, 2, 3, 4, 5, 6, 7, 10], [7, 10]), ([8, 11, 0, 1, 2, 3, 4, 5, 6, 7, 8, 10, 11], [8]), ([9, 12, 0, 1, 2, 3, 4, 5, 6, 7, 8, 9, 10, 11, 12], [9])])
def bk_run.B7 : List Nat := [0, 0, 0, 6, 14, 31, 63, 127, 127, 127, 0, 1279, 3583, 8191]
theorem bk_run.tab7 : rtab .any (opsOf Try.f10 7) = bk_run.T7 := by kernel_rfl
theorem bk_run.bits7 : waitsOk bk_run.T7.2 bk_run.B7 = true := by kernel_rfl
def bk_run.T11 : Bool × List (List Nat × List Nat) := (true, [([], []), ([], []), ([0, 0], [0]), ([1, 2, 0, 1, 2], [1]), ([3, 0, 1, 2, 3], [])])
def bk_run.B11 : List Nat := [0, 0, 1, 7, 15]
theorem bk_run.tab11 : rtab .any (opsOf Try.f10 11) = bk_run.T11 := by kernel_rfl
theorem bk_run.bits11 : waitsOk bk_run.T11.2 bk_run.B11 = true := by kernel_rfl
set_option maxHeartbeats 8000000 in
set_option maxRecDepth 100000 in
theorem p_run (c : S23) (hO : Ok c.f0 c.f1 c.f2 c.f3 c.f4) (A1 : Option Addr) (c1 : Nat) (l : List S58) (hwf : ∀ a ∈ l, (Lit.int .i64 a.f2).wf = true) (hl : l.length ≤ 30) (W : World) (hr1 : Kd.C k58 W A1 l.length l) :
  Calls Try.prog 10 #[.agg #[.int .i64 c.f0, .int .i64 c.f1, .int .i64 c.f2, .int .i64 c.f3, .int .i64 c.f4], .slice A1 l.length c1] W fun e w' => ∃ (p gt go gn : Nat) (r : RA), e = .returned (.tuple #[.pointer (some ⟨p, 0, none⟩), rv (bRun (newRB c) l) r, .bool true]) ∧ BookAt w' p gt go gn (bRun (newRB c) l) ∧ RAt w' (bRun (newRB c) l) r ∧ (W.heap.size ≤ p ∧ W.heap.size ≤ gt ∧ W.heap.size ≤ go ∧ W.heap.size ≤ gn) ∧ Below W.heap.size W w' := by
 have HR1 := Aside0.mk hr1
 have HL := Aside0.mk hl
 have HW := Aside0.mk hwf
 have HO := Aside0.mk hO
 have HB := Aside0.mk (Below.refl W.heap.size W)
 clear hr1 hl hwf hO
 go_enter Try.func10, Try.ntmps10
 go_wp2_with (first | ((with_reducible refine gate_dst (N := 2) rfl ?_); refine box_event ?hg (N := 2) ?hd (cs := #[.int .i64 c.f0, .int .i64 c.f1, .int .i64 c.f2, .int .i64 c.f3, .int .i64 c.f4]) (t := 23) ?hr ?_; (case hd => rfl); (case hg => rfl); (case hr => first | (go_simp; done) | (go_simp; rfl)); intro g2 hg w2 hbox hbk; have B2 := Aside0.mk hbox; have HGB2 := Aside0.mk (show W.heap.size ≤ g2 from by rw [hg]; exact HB.out.size); have n_HB := Aside0.mk (below_step HB.out hbk); clear HB; have HB := n_HB; clear n_HB; clear hbk hbox hg) | ((with_reducible refine gate_dst (N := 5) rfl ?_); refine box_event ?hg (N := 5) ?hd (cs := #[.int .i64 0, .int .i64 0, .int .i64 0, .int .i64 0, .int .i64 0, .slice none 0 0, .slice none 0 0, .slice none 0 0, .slice none 0 0, .slice none 0 0]) (t := 32) ?hr ?_; (case hd => rfl); (case hg => rfl); (case hr => first | (go_simp; done) | (go_simp; rfl)); intro g5 hg w5 hbox hbk; have B5 := Aside0.mk hbox; have HGB5 := Aside0.mk (show W.heap.size ≤ g5 from by rw [hg]; exact HB.out.size); have n_B2 := Aside0.mk (blk_below B2.out hbk); have n_HB := Aside0.mk (below_step HB.out hbk); clear B2 HB; have B2 := n_B2; have HB := n_HB; clear n_B2 n_HB; obtain ⟨c2_0, c2_1, c2_2, c2_3, c2_4⟩ := blkc5 B2.out; clear hbk hbox hg) | (go_at_call 21; (with_reducible refine (p_New c HO.out _).mono ?_); rintro e w6 ⟨p, gt, go, gn, rfl, hA, hbk, hg1, hg2, hg3, hg4⟩; have HG5 := Aside0.mk (show g5 < w5.heap.size from blk_lt B5.out); have HGP := Aside0.mk (show w5.heap.size ≤ p ∧ w5.heap.size ≤ gt ∧ w5.heap.size ≤ go ∧ w5.heap.size ≤ gn from ⟨hg1, hg2, hg3, hg4⟩); clear c2_0 c2_1 c2_2 c2_3 c2_4; have n_B2 := Aside0.mk (blk_below B2.out hbk); have n_B5 := Aside0.mk (blk_below B5.out hbk); have n_HB := Aside0.mk (below_step HB.out hbk); clear B2 B5 HB; have B2 := n_B2; have B5 := n_B5; have HB := n_HB; clear n_B2 n_B5 n_HB; have HA := Aside0.mk hA; obtain ⟨c2_0, c2_1, c2_2, c2_3, c2_4⟩ := blkc5 B2.out; clear hbk hA hg1 hg2 hg3 hg4) | (go_at_call 22; have hcon := d_New c HO.out w6; unfold rv at hcon; (with_reducible refine hcon.mono ?_); clear hcon; rintro e w7 ⟨r, rfl, hR, hbk⟩; clear c2_0 c2_1 c2_2 c2_3 c2_4; have n_B5 := Aside0.mk (blk_below B5.out hbk); have n_HA := Aside0.mk (HA.out.below hbk); have n_HB := Aside0.mk (below_step HB.out hbk); clear B5 HA HB; have B5 := n_B5; have HA := n_HA; have HB := n_HB; clear n_B5 n_HA n_HB; have HRR := Aside0.mk hR; clear hbk hR) | ((with_reducible refine gate_dst (N := 9) rfl ?_); refine box_event ?hg (N := 9) ?hd (cs := #[.int .i64 0, .int .i64 0, .int .i64 0, .int .i64 0, .int .i64 0, .slice none 0 0, .slice none 0 0, .slice none 0 0, .slice none 0 0, .slice none 0 0]) (t := 32) ?hr ?_; (case hd => rfl); (case hg => rfl); (case hr => first | (go_simp; done) | (go_simp; rfl)); intro g9 hg w9 hbox hbk; have B9 := Aside0.mk hbox; have HD := Aside0.mk (show (p ≠ g9 ∧ gt ≠ g9 ∧ go ≠ g9 ∧ gn ≠ g9) ∧ (p ≠ g5 ∧ gt ≠ g5 ∧ go ≠ g5 ∧ gn ≠ g5) ∧ g5 ≠ g9 from by have := HA.out.lt; have := HGP.out; have := HG5.out; have := blk_lt B5.out; omega); have HGB9 := Aside0.mk (show W.heap.size ≤ g9 from by rw [hg]; exact HB.out.size); have n_B5 := Aside0.mk (blk_below B5.out hbk); have n_HA := Aside0.mk (HA.out.below hbk); have n_HRR := Aside0.mk (HRR.out.below hbk); have n_HB := Aside0.mk (below_step HB.out hbk); clear B5 HA HRR HB; have B5 := n_B5; have HA := n_HA; have HRR := n_HRR; have HB := n_HB; clear n_B5 n_HA n_HRR n_HB; obtain ⟨c9_0, c9_1, c9_2, c9_3, c9_4, c9_5, c9_6, c9_7, c9_8, c9_9⟩ := blkc10 B9.out; obtain ⟨f9_0, f9_1, f9_2, f9_3, f9_4, f9_5, f9_6, f9_7, f9_8, f9_9⟩ := blkf10 B9.out; clear hbk hbox hg))
 have HGN := Aside0.mk (show W.heap.size ≤ p ∧ W.heap.size ≤ gt ∧ W.heap.size ≤ go ∧ W.heap.size ≤ gn from by have := HGP.out; have := HG5.out; have := HGB5.out; omega)
 go_loopg [11] l.length (fun kq v11 wr => ∃ (i : Nat) (b : RB) (r : RA), v11 = .int .i64 i ∧ Aside0 (i ≤ l.length) ∧ Aside0 (l.length - i ≤ kq) ∧ Aside0 (bRun (newRB c) (l.take i) = b) ∧ Aside0 (Inv b) ∧ Aside0 (BookAt wr p gt go gn b) ∧ Aside0 (wr.heap[g9]? = some (.cells #[.int .i64 b.c.f0, .int .i64 b.c.f1, .int .i64 b.c.f2, .int .i64 b.c.f3, .int .i64 b.c.f4, .slice r.a5 b.calls.length r.c5, .slice r.a6 b.ins.length r.c6, .slice r.a7 b.made.length r.c7, .slice r.a8 b.ops.length r.c8, .slice r.a9 b.nodes.length r.c9] 32 (0, 0))) ∧ Aside0 (wr.heap[g5]? = some (.cells #[.int .i64 0, .int .i64 0, .int .i64 0, .int .i64 0, .int .i64 0, .slice none 0 0, .slice none 0 0, .slice none 0 0, .slice none 0 0, .slice none 0 0] 32 (0, 0))) ∧ Aside0 (RAt wr b r) ∧ Aside0 (Below W.heap.size W wr))
 case atStart => exact ⟨0, newRB c, r, rfl, ⟨Nat.zero_le _⟩, ⟨by omega⟩, ⟨rfl⟩, ⟨Inv.new c HO.out⟩, ⟨HA.out.far (grown10 _ _) HD.out.1⟩, ⟨put10 B9.out⟩, ⟨blk_grown B5.out (grown10 _ _) HD.out.2.2⟩, ⟨HRR.out.set10 B9.out⟩, ⟨bel10 HB.out HGB9.out⟩⟩
 case round =>
  clear HB HA B9 B5 HRR
  obtain ⟨i, b, r, rfl, HJ, HK, HRN, HI, HA, B9, B5, HRR, HB⟩ := hrel
  by_cases hlt : i < l.length
  ·have hltb : (i : Int) < (l.length : Int) := by omega
   have HLTI := Aside0.mk hlt
   obtain ⟨ad, e4, hW0, hW1, hW2, hW3, hW4, hW5, hW6⟩ := at_T58 HR1.out (i : Int) (by omega) (by omega)
   cases e4
   have HX := Aside0.mk (show rd_T58 l (i : Int) = l[i] from by unfold rd_T58; simp [List.getD, hlt])
   simp only [Int.toNat_natCast] at hW0 hW1 hW2 hW3 hW4 hW5 hW6
   generalize rd_T58 l (i : Int) = x at hW0 hW1 hW2 hW3 hW4 hW5 hW6 HX
   have HWX := Aside0.mk (show (Lit.int .i64 x.f2).wf = true from by have h := HW.out l[i] (List.getElem_mem hlt); rw [HX.out]; exact h)
   have HFO := Aside0.mk (show bRun (newRB c) (l.take (i + 1)) = (doR b x).1 from by
    have h1 : l.take (i + 1) = l.take i ++ [x] := by rw [List.take_add_one, List.getElem?_eq_getElem hlt, HX.out]; rfl
    have h2 := HRN.out
    unfold bRun at h2 ⊢
    rw [h1, List.foldl_append, h2]
    rfl)
   have HI2 := Aside0.mk (HI.out.done x)
   have hx0 := pw_cell_below HB.out hW0
   have hx1 := pw_cell_below HB.out hW1
   have hx2 := pw_cell_below HB.out hW2
   have hx3 := pw_cell_below HB.out hW3
   have hx4 := pw_cell_below HB.out hW4
   have hx5 := pw_cell_below HB.out hW5
   have hx6 := pw_cell_below HB.out hW6
   go_upto_region 7 with (first | (go_at_call 23; (with_reducible refine (p_do HI.out p gt go gn x HWX.out _ HA.out).mono ?_); rintro e w4 ⟨rfl, hA, hT⟩; have hd := HD.out; have n1_ := Aside0.mk (blk_touch B9.out hT (fun h => h.elim (fun e => hd.1.2.1 e.symm) (fun h => h.elim (fun e => hd.1.2.2.1 e.symm) (fun e => hd.1.2.2.2 e.symm)))); have n2_ := Aside0.mk (blk_touch B5.out hT (fun h => h.elim (fun e => hd.2.1.2.1 e.symm) (fun h => h.elim (fun e => hd.2.1.2.2.1 e.symm) (fun e => hd.2.1.2.2.2 e.symm)))); have n3_ := Aside0.mk (HRR.out.touch HA.out hT); have n4_ := Aside0.mk (HB.out.trans (hT.below HB.out.size (fun k hk => by have := HGN.out; rcases hk with rfl | rfl | rfl <;> omega))); clear HA B9 B5 HRR HB hd; have HA := Aside0.mk hA; have B9 := n1_; have B5 := n2_; have HRR := n3_; have HB := n4_; clear n1_ n2_ n3_ n4_ hA hT hx0 hx1 hx2 hx3 hx4 hx5 hx6))
   have n_HA := Aside0.mk (HA.out.drew)
   have n_B9 := Aside0.mk (blk_drew B9.out)
   have n_B5 := Aside0.mk (blk_drew B5.out)
   have n_HRR := Aside0.mk (HRR.out.drew)
   have n_HB := Aside0.mk (below_drew1 HB.out)
   clear HA B9 B5 HRR HB
   have HA := n_HA
   have B9 := n_B9
   have B5 := n_B5
   have HRR := n_HRR
   have HB := n_HB
   clear n_HA n_B9 n_B5 n_HRR n_HB
   refine start_ (n := 14) (S := fun w' => w'.cell? ⟨g9, 0, none⟩ = some (.int .i64 b.c.f0) ∧ w'.cell? ⟨g9, 1, none⟩ = some (.int .i64 b.c.f1) ∧ w'.cell? ⟨g9, 2, none⟩ = some (.int .i64 b.c.f2) ∧ w'.cell? ⟨g9, 3, none⟩ = some (.int .i64 b.c.f3) ∧ w'.cell? ⟨g9, 4, none⟩ = some (.int .i64 b.c.f4) ∧ w'.cell? ⟨g9, 5, none⟩ = some (.slice r.a5 b.calls.length r.c5) ∧ w'.cell? ⟨g9, 6, none⟩ = some (.slice r.a6 b.ins.length r.c6) ∧ w'.cell? ⟨g9, 7, none⟩ = some (.slice r.a7 b.made.length r.c7) ∧ w'.cell? ⟨g9, 8, none⟩ = some (.slice r.a8 b.ops.length r.c8) ∧ w'.cell? ⟨g9, 9, none⟩ = some (.slice r.a9 b.nodes.length r.c9) ∧ w'.cell? (ad.add (i * 7)) = some (.bool x.f0) ∧ w'.cell? ⟨(ad.add (i * 7)).block, (ad.add (i * 7)).off + 1, none⟩ = some (.int .i64 x.f1) ∧ w'.cell? ⟨(ad.add (i * 7)).block, (ad.add (i * 7)).off + 2, none⟩ = some (.int .i64 x.f2) ∧ w'.cell? ⟨(ad.add (i * 7)).block, (ad.add (i * 7)).off + 3, none⟩ = some (.int .i64 x.f3.f0) ∧ w'.cell? ⟨(ad.add (i * 7)).block, (ad.add (i * 7)).off + 4, none⟩ = some (.int .u64 x.f3.f1) ∧ w'.cell? ⟨(ad.add (i * 7)).block, (ad.add (i * 7)).off + 5, none⟩ = some (.int .u64 x.f3.f2) ∧ w'.cell? ⟨(ad.add (i * 7)).block, (ad.add (i * 7)).off + 6, none⟩ = some (.int .i64 x.f3.f3)) (ds := [11]) #[false, false, false, false, false, false, false, false, false, false, false, false, false, false] (by kernel_rfl) rfl rfl ⟨((blk_cell B9.out 0).trans rfl), ((blk_cell B9.out 1).trans rfl), ((blk_cell B9.out 2).trans rfl), ((blk_cell B9.out 3).trans rfl), ((blk_cell B9.out 4).trans rfl), ((blk_cell B9.out 5).trans rfl), ((blk_cell B9.out 6).trans rfl), ((blk_cell B9.out 7).trans rfl), ((blk_cell B9.out 8).trans rfl), ((blk_cell B9.out 9).trans rfl), (pw_cell_below HB.out hW0), (pw_cell_below HB.out hW1), (pw_cell_below HB.out hW2), (pw_cell_below HB.out hW3), (pw_cell_below HB.out hW4), (pw_cell_below HB.out hW5), (pw_cell_below HB.out hW6)⟩ (fun hHeld => ?_); refine with_tabW bk_run.tab7 bk_run.bits7 (fun HT_ HW_ => ?_)
   generalize w4.drew = W1 at HA B9 B5 HRR HB hHeld ⊢
   refine pure_ (i := 1) (N := some 44) (v := ?_) (a' := ?_) (brn_lb 14 2) rfl rfl (any_of HT_.out (by kernel_rfl)) (fun _ _ _ h => h) (Or.inl ⟨by rfl, ?_⟩) ?_ ?_; rotate_left
   ·intro w'; go_simp; with_reducible rfl
   rotate_left
   ·simp only [Act.put, List.setIfInBounds_toArray, List.set_cons_zero, List.set_cons_succ, i64_w, i32_w]; rfl
   refine pure_ (i := 2) (N := some 45) (v := ?_) (a' := ?_) (brn_lb 14 6) rfl rfl (any_of HT_.out (by kernel_rfl)) (fun _ _ _ h => h) (Or.inl ⟨by rfl, ?_⟩) ?_ ?_; rotate_left
   ·intro w'; go_simp; with_reducible rfl
   rotate_left
   ·simp only [Act.put, List.setIfInBounds_toArray, List.set_cons_zero, List.set_cons_succ, i64_w, i32_w]; rfl
   refine pure_ (i := 3) (N := some 46) (v := ?_) (a' := ?_) (brn_lb 14 14) rfl rfl (any_of HT_.out (by kernel_rfl)) (fun _ _ _ h => h) (Or.inl ⟨by rfl, ?_⟩) ?_ ?_; rotate_left
   ·intro w'; go_simp; with_reducible rfl
   rotate_left
   ·simp only [Act.put, List.setIfInBounds_toArray, List.set_cons_zero, List.set_cons_succ, i64_w, i32_w]; rfl
   refine take_ (i := 0) (N := some 43) (v := ?_) (a' := ?_) (brn_lb 14 15) rfl rfl (take_ofW HT_.out HW_.out (by kernel_rfl)) (fun _ _ _ h => h) (Or.inl ⟨by rfl, ?_⟩) hHeld ?_ ?_; rotate_left
   ·rintro w' ⟨s0, s1, s2, s3, s4, s5, s6, s7, s8, s9, s10, s11, s12, s13, s14, s15, s16⟩; go_simp; with_reducible rfl
   rotate_left
   ·simp only [Act.put, List.setIfInBounds_toArray, List.set_cons_zero, List.set_cons_succ, i64_w, i32_w]; rfl
   refine take_ (i := 4) (N := some 47) (v := ?_) (a' := ?_) (brn_lb 14 31) rfl rfl (take_ofW HT_.out HW_.out (by kernel_rfl)) (fun _ _ _ h => h) (Or.inl ⟨by rfl, ?_⟩) hHeld ?_ ?_; rotate_left
   ·rintro w' ⟨s0, s1, s2, s3, s4, s5, s6, s7, s8, s9, s10, s11, s12, s13, s14, s15, s16⟩; go_simp; with_reducible rfl
   rotate_left
   ·simp only [Act.put, List.setIfInBounds_toArray, List.set_cons_zero, List.set_cons_succ, i64_w, i32_w]; rfl
   refine join_ (σ := RA × Nat) 3 (brn_lb 14 2047) (fun s => [(48, .tuple #[.agg #[.int .i64 (doR b x).1.c.f0, .int .i64 (doR b x).1.c.f1, .int .i64 (doR b x).1.c.f2, .int .i64 (doR b x).1.c.f3, .int .i64 (doR b x).1.c.f4, .slice s.1.a5 (doR b x).1.calls.length s.1.c5, .slice s.1.a6 (doR b x).1.ins.length s.1.c6, .slice s.1.a7 (doR b x).1.made.length s.1.c7, .slice s.1.a8 (doR b x).1.ops.length s.1.c8, .slice s.1.a9 (doR b x).1.nodes.length s.1.c9], .int .i64 (doR b x).2.1, .int .i64 (doR b x).2.2]), (42, .tuple #[.agg #[.int .i64 (doR b x).1.c.f0, .int .i64 (doR b x).1.c.f1, .int .i64 (doR b x).1.c.f2, .int .i64 (doR b x).1.c.f3, .int .i64 (doR b x).1.c.f4, .slice s.1.a5 (doR b x).1.calls.length s.1.c5, .slice s.1.a6 (doR b x).1.ins.length s.1.c6, .slice s.1.a7 (doR b x).1.made.length s.1.c7, .slice s.1.a8 (doR b x).1.ops.length s.1.c8, .slice s.1.a9 (doR b x).1.nodes.length s.1.c9], .int .i64 (doR b x).2.1, .int .i64 (doR b x).2.2]), (49, .agg #[.int .i64 (doR b x).1.c.f0, .int .i64 (doR b x).1.c.f1, .int .i64 (doR b x).1.c.f2, .int .i64 (doR b x).1.c.f3, .int .i64 (doR b x).1.c.f4, .slice s.1.a5 (doR b x).1.calls.length s.1.c5, .slice s.1.a6 (doR b x).1.ins.length s.1.c6, .slice s.1.a7 (doR b x).1.made.length s.1.c7, .slice s.1.a8 (doR b x).1.ops.length s.1.c8, .slice s.1.a9 (doR b x).1.nodes.length s.1.c9]), (50, .int .i64 (doR b x).2.1), (51, .int .i64 (doR b x).2.2), (14, .pointer (some ⟨s.2, 0, none⟩))]) (fun s w' => Aside0 (BookAt w' p gt go gn (doR b x).1) ∧ Aside0 (w'.heap[g9]? = some (.cells #[.int .i64 b.c.f0, .int .i64 b.c.f1, .int .i64 b.c.f2, .int .i64 b.c.f3, .int .i64 b.c.f4, .slice r.a5 b.calls.length r.c5, .slice r.a6 b.ins.length r.c6, .slice r.a7 b.made.length r.c7, .slice r.a8 b.ops.length r.c8, .slice r.a9 b.nodes.length r.c9] 32 (0, 0))) ∧ Aside0 (w'.heap[g5]? = some (.cells #[.int .i64 0, .int .i64 0, .int .i64 0, .int .i64 0, .int .i64 0, .slice none 0 0, .slice none 0 0, .slice none 0 0, .slice none 0 0, .slice none 0 0] 32 (0, 0))) ∧ Aside0 (w'.heap[s.2]? = some (.cells #[.int .i64 0, .int .i64 0, .int .i64 0, .int .i64 0, .int .i64 0, .slice none 0 0, .slice none 0 0, .slice none 0 0, .slice none 0 0, .slice none 0 0] 32 (0, 0))) ∧ Aside0 (RAt w' (doR b x).1 s.1) ∧ Aside0 (W.heap.size ≤ s.2 ∧ (p ≠ s.2 ∧ gt ≠ s.2 ∧ go ≠ s.2 ∧ gn ≠ s.2) ∧ g5 ≠ s.2 ∧ g9 ≠ s.2) ∧ Aside0 (Below W.heap.size W w')) ?_ ?_
   rotate_left
   ·intro hCont
    refine two_ (i := 5) (j := 10) (Ni := some 48) (Nj := some 14) (brn_lb 14 63) (brn_lb 14 1055) rfl rfl rfl rfl (two_of HT_.out (by kernel_rfl)) (by decide) (by decide) (fun K hK => ?_) (fun K hK => ?_)
    ·skip
     refine goes_ Try.func28 (by kernel_rfl) rfl #[.agg #[.int .i64 b.c.f0, .int .i64 b.c.f1, .int .i64 b.c.f2, .int .i64 b.c.f3, .int .i64 b.c.f4, .slice r.a5 b.calls.length r.c5, .slice r.a6 b.ins.length r.c6, .slice r.a7 b.made.length r.c7, .slice r.a8 b.ops.length r.c8, .slice r.a9 b.nodes.length r.c9], .agg #[.bool x.f0, .int .i64 x.f1, .int .i64 x.f2, .int .i64 x.f3.f0, .int .u64 x.f3.f1, .int .u64 x.f3.f2, .int .i64 x.f3.f3]] (by rfl) rfl rfl (by (try simp only [List.map_toArray, List.map_cons, List.map_nil]); first | done | rfl) ?_
     have hcon := d_Do HI.out r x _ HRR.out
     unfold rv at hcon
     with_reducible refine hcon.mono ?_
     clear hcon
     rintro e w5_ ⟨r', rfl, hR1, hbk⟩
     refine ⟨_, rfl, ?_⟩
     have n_HA := Aside0.mk (HA.out.below hbk)
     have n_B9 := Aside0.mk (blk_below B9.out hbk)
     have n_B5 := Aside0.mk (blk_below B5.out hbk)
     have n_HB := Aside0.mk (below_step HB.out hbk)
     clear HA B9 B5 HB HRR hbk
     have HA := n_HA
     have B9 := n_B9
     have B5 := n_B5
     have HB := n_HB
     clear n_HA n_B9 n_B5 n_HB
     have HRR := Aside0.mk hR1
     clear hR1
     refine hK.out _ _ ⟨((blk_cell B9.out 0).trans rfl), ((blk_cell B9.out 1).trans rfl), ((blk_cell B9.out 2).trans rfl), ((blk_cell B9.out 3).trans rfl), ((blk_cell B9.out 4).trans rfl), ((blk_cell B9.out 5).trans rfl), ((blk_cell B9.out 6).trans rfl), ((blk_cell B9.out 7).trans rfl), ((blk_cell B9.out 8).trans rfl), ((blk_cell B9.out 9).trans rfl), (pw_cell_below HB.out hW0), (pw_cell_below HB.out hW1), (pw_cell_below HB.out hW2), (pw_cell_below HB.out hW3), (pw_cell_below HB.out hW4), (pw_cell_below HB.out hW5), (pw_cell_below HB.out hW6)⟩ (fun hHeld => ?_)
     clear hK K
     refine norm_ (a' := ?_) ?_ ?_
     rotate_left
     ·show Act.put _ (some 48) _ = _
      simp only [Act.put, List.setIfInBounds_toArray, List.set_cons_zero, List.set_cons_succ, i64_w, i32_w]
      rfl
     refine pure_ (i := 6) (N := some 42) (v := ?_) (a' := ?_) (brn_lb 14 127) rfl rfl (any_of HT_.out (by kernel_rfl)) (fun _ _ _ h => h) (Or.inl ⟨by rfl, ?_⟩) ?_ ?_; rotate_left
     ·intro w'; go_simp; with_reducible rfl
     rotate_left
     ·simp only [Act.put, List.setIfInBounds_toArray, List.set_cons_zero, List.set_cons_succ, i64_w, i32_w]; rfl
     refine pure_ (i := 7) (N := some 49) (v := ?_) (a' := ?_) (brn_lb 14 255) rfl rfl (any_of HT_.out (by kernel_rfl)) (fun _ _ _ h => h) (Or.inl ⟨by rfl, ?_⟩) ?_ ?_; rotate_left
     ·intro w'; go_simp; with_reducible rfl
     rotate_left
     ·simp only [Act.put, List.setIfInBounds_toArray, List.set_cons_zero, List.set_cons_succ, i64_w, i32_w]; rfl
     refine pure_ (i := 8) (N := some 50) (v := ?_) (a' := ?_) (brn_lb 14 511) rfl rfl (any_of HT_.out (by kernel_rfl)) (fun _ _ _ h => h) (Or.inl ⟨by rfl, ?_⟩) ?_ ?_; rotate_left
     ·intro w'; go_simp; with_reducible rfl
     rotate_left
     ·simp only [Act.put, List.setIfInBounds_toArray, List.set_cons_zero, List.set_cons_succ, i64_w, i32_w]; rfl
     refine pure_ (i := 9) (N := some 51) (v := ?_) (a' := ?_) (brn_lb 14 1023) rfl rfl (any_of HT_.out (by kernel_rfl)) (fun _ _ _ h => h) (Or.inl ⟨by rfl, ?_⟩) ?_ ?_; rotate_left
     ·intro w'; go_simp; with_reducible rfl
     rotate_left
     ·simp only [Act.put, List.setIfInBounds_toArray, List.set_cons_zero, List.set_cons_succ, i64_w, i32_w]; rfl
     refine one_ (i := 10) (N := some 14) (brn_lb 14 2047) rfl rfl (one_of HT_.out (by kernel_rfl)) (by decide) (fun K hK => ?_)
     refine value_ (w1 := ?_) (v := ?_) (by rfl) rfl ?_ ?_
     rotate_left 2
     ·go_simp
      constructor
      ·rfl
      ·rfl
     have hbk := below_alloc (Below.refl w5_.heap.size w5_) (.cells #[.int .i64 0, .int .i64 0, .int .i64 0, .int .i64 0, .int .i64 0, .slice none 0 0, .slice none 0 0, .slice none 0 0, .slice none 0 0, .slice none 0 0] 32)
     have n_HA := Aside0.mk (HA.out.below hbk)
     have n_B9 := Aside0.mk (blk_below B9.out hbk)
     have n_B5 := Aside0.mk (blk_below B5.out hbk)
     have n_HRR := Aside0.mk (HRR.out.below hbk)
     have n_HB := Aside0.mk (below_step HB.out hbk)
     have B14 := Aside0.mk (blk_new w5_ (.cells #[.int .i64 0, .int .i64 0, .int .i64 0, .int .i64 0, .int .i64 0, .slice none 0 0, .slice none 0 0, .slice none 0 0, .slice none 0 0, .slice none 0 0] 32))
     have HG14 := Aside0.mk (show W.heap.size ≤ w5_.heap.size ∧ (p ≠ w5_.heap.size ∧ gt ≠ w5_.heap.size ∧ go ≠ w5_.heap.size ∧ gn ≠ w5_.heap.size) ∧ g5 ≠ w5_.heap.size ∧ g9 ≠ w5_.heap.size from by have := HB.out.size; have := HA.out.lt; have := blk_lt B5.out; have := blk_lt B9.out; omega)
     clear HA B9 B5 HRR HB hbk
     have HA := n_HA
     have B9 := n_B9
     have B5 := n_B5
     have HRR := n_HRR
     have HB := n_HB
     clear n_HA n_B9 n_B5 n_HRR n_HB
     generalize w5_.alloc (.cells #[.int .i64 0, .int .i64 0, .int .i64 0, .int .i64 0, .int .i64 0, .slice none 0 0, .slice none 0 0, .slice none 0 0, .slice none 0 0, .slice none 0 0] 32) = w10 at HA B9 B5 HRR HB B14 ⊢
     generalize w5_.heap.size = g14 at HG14 B14 ⊢
     refine hK.out _ _ ⟨((blk_cell B9.out 0).trans rfl), ((blk_cell B9.out 1).trans rfl), ((blk_cell B9.out 2).trans rfl), ((blk_cell B9.out 3).trans rfl), ((blk_cell B9.out 4).trans rfl), ((blk_cell B9.out 5).trans rfl), ((blk_cell B9.out 6).trans rfl), ((blk_cell B9.out 7).trans rfl), ((blk_cell B9.out 8).trans rfl), ((blk_cell B9.out 9).trans rfl), (pw_cell_below HB.out hW0), (pw_cell_below HB.out hW1), (pw_cell_below HB.out hW2), (pw_cell_below HB.out hW3), (pw_cell_below HB.out hW4), (pw_cell_below HB.out hW5), (pw_cell_below HB.out hW6)⟩ (fun hHeld => ?_)
     clear hK K
     refine norm_ (a' := ?_) ?_ ?_
     rotate_left
     ·show Act.put _ (some 14) _ = _
      simp only [Act.put, List.setIfInBounds_toArray, List.set_cons_zero, List.set_cons_succ, i64_w, i32_w]
      rfl
     exact norm_ (by simp only [putAll, Act.put, List.setIfInBounds_toArray, List.set_cons_zero, List.set_cons_succ]) (hCont (r', g14) _ ⟨HA, B9, B5, B14, HRR, HG14, HB⟩)
    ·skip
     refine value_ (w1 := ?_) (v := ?_) (by rfl) rfl ?_ ?_
     rotate_left 2
     ·go_simp
      constructor
      ·rfl
      ·rfl
     have hbk := below_alloc (Below.refl W1.heap.size W1) (.cells #[.int .i64 0, .int .i64 0, .int .i64 0, .int .i64 0, .int .i64 0, .slice none 0 0, .slice none 0 0, .slice none 0 0, .slice none 0 0, .slice none 0 0] 32)
     have n_HA := Aside0.mk (HA.out.below hbk)
     have n_B9 := Aside0.mk (blk_below B9.out hbk)
     have n_B5 := Aside0.mk (blk_below B5.out hbk)
     have n_HRR := Aside0.mk (HRR.out.below hbk)
     have n_HB := Aside0.mk (below_step HB.out hbk)
     have B14 := Aside0.mk (blk_new W1 (.cells #[.int .i64 0, .int .i64 0, .int .i64 0, .int .i64 0, .int .i64 0, .slice none 0 0, .slice none 0 0, .slice none 0 0, .slice none 0 0, .slice none 0 0] 32))
     have HG14 := Aside0.mk (show W.heap.size ≤ W1.heap.size ∧ (p ≠ W1.heap.size ∧ gt ≠ W1.heap.size ∧ go ≠ W1.heap.size ∧ gn ≠ W1.heap.size) ∧ g5 ≠ W1.heap.size ∧ g9 ≠ W1.heap.size from by have := HB.out.size; have := HA.out.lt; have := blk_lt B5.out; have := blk_lt B9.out; omega)
     clear HA B9 B5 HRR HB hbk
     have HA := n_HA
     have B9 := n_B9
     have B5 := n_B5
     have HRR := n_HRR
     have HB := n_HB
     clear n_HA n_B9 n_B5 n_HRR n_HB
     generalize W1.alloc (.cells #[.int .i64 0, .int .i64 0, .int .i64 0, .int .i64 0, .int .i64 0, .slice none 0 0, .slice none 0 0, .slice none 0 0, .slice none 0 0, .slice none 0 0] 32) = w10 at HA B9 B5 HRR HB B14 ⊢
     generalize W1.heap.size = g14 at HG14 B14 ⊢
     refine hK.out _ _ ⟨((blk_cell B9.out 0).trans rfl), ((blk_cell B9.out 1).trans rfl), ((blk_cell B9.out 2).trans rfl), ((blk_cell B9.out 3).trans rfl), ((blk_cell B9.out 4).trans rfl), ((blk_cell B9.out 5).trans rfl), ((blk_cell B9.out 6).trans rfl), ((blk_cell B9.out 7).trans rfl), ((blk_cell B9.out 8).trans rfl), ((blk_cell B9.out 9).trans rfl), (pw_cell_below HB.out hW0), (pw_cell_below HB.out hW1), (pw_cell_below HB.out hW2), (pw_cell_below HB.out hW3), (pw_cell_below HB.out hW4), (pw_cell_below HB.out hW5), (pw_cell_below HB.out hW6)⟩ (fun hHeld => ?_)
     clear hK K
     refine norm_ (a' := ?_) ?_ ?_
     rotate_left
     ·show Act.put _ (some 14) _ = _
      simp only [Act.put, List.setIfInBounds_toArray, List.set_cons_zero, List.set_cons_succ, i64_w, i32_w]
      rfl
     refine one_ (i := 5) (N := some 48) (brn_lb 14 1087) rfl rfl (one_of HT_.out (by kernel_rfl)) (by decide) (fun K hK => ?_)
     refine goes_ Try.func28 (by kernel_rfl) rfl #[.agg #[.int .i64 b.c.f0, .int .i64 b.c.f1, .int .i64 b.c.f2, .int .i64 b.c.f3, .int .i64 b.c.f4, .slice r.a5 b.calls.length r.c5, .slice r.a6 b.ins.length r.c6, .slice r.a7 b.made.length r.c7, .slice r.a8 b.ops.length r.c8, .slice r.a9 b.nodes.length r.c9], .agg #[.bool x.f0, .int .i64 x.f1, .int .i64 x.f2, .int .i64 x.f3.f0, .int .u64 x.f3.f1, .int .u64 x.f3.f2, .int .i64 x.f3.f3]] (by rfl) rfl rfl (by (try simp only [List.map_toArray, List.map_cons, List.map_nil]); first | done | rfl) ?_
     have hcon := d_Do HI.out r x _ HRR.out
     unfold rv at hcon
     with_reducible refine hcon.mono ?_
     clear hcon
     rintro e w5_ ⟨r', rfl, hR1, hbk⟩
     refine ⟨_, rfl, ?_⟩
     have n_HA := Aside0.mk (HA.out.below hbk)
     have n_B9 := Aside0.mk (blk_below B9.out hbk)
     have n_B5 := Aside0.mk (blk_below B5.out hbk)
     have n_HB := Aside0.mk (below_step HB.out hbk)
     have n_B14 := Aside0.mk (blk_below B14.out hbk)
     clear HA B9 B5 HB B14 HRR hbk
     have HA := n_HA
     have B9 := n_B9
     have B5 := n_B5
     have HB := n_HB
     have B14 := n_B14
     clear n_HA n_B9 n_B5 n_HB n_B14
     have HRR := Aside0.mk hR1
     clear hR1
     refine hK.out _ _ ⟨((blk_cell B9.out 0).trans rfl), ((blk_cell B9.out 1).trans rfl), ((blk_cell B9.out 2).trans rfl), ((blk_cell B9.out 3).trans rfl), ((blk_cell B9.out 4).trans rfl), ((blk_cell B9.out 5).trans rfl), ((blk_cell B9.out 6).trans rfl), ((blk_cell B9.out 7).trans rfl), ((blk_cell B9.out 8).trans rfl), ((blk_cell B9.out 9).trans rfl), (pw_cell_below HB.out hW0), (pw_cell_below HB.out hW1), (pw_cell_below HB.out hW2), (pw_cell_below HB.out hW3), (pw_cell_below HB.out hW4), (pw_cell_below HB.out hW5), (pw_cell_below HB.out hW6)⟩ (fun hHeld => ?_)
     clear hK K
     refine norm_ (a' := ?_) ?_ ?_
     rotate_left
     ·show Act.put _ (some 48) _ = _
      simp only [Act.put, List.setIfInBounds_toArray, List.set_cons_zero, List.set_cons_succ, i64_w, i32_w]
      rfl
     refine pure_ (i := 6) (N := some 42) (v := ?_) (a' := ?_) (brn_lb 14 1151) rfl rfl (any_of HT_.out (by kernel_rfl)) (fun _ _ _ h => h) (Or.inl ⟨by rfl, ?_⟩) ?_ ?_; rotate_left
     ·intro w'; go_simp; with_reducible rfl
     rotate_left
     ·simp only [Act.put, List.setIfInBounds_toArray, List.set_cons_zero, List.set_cons_succ, i64_w, i32_w]; rfl
     refine pure_ (i := 7) (N := some 49) (v := ?_) (a' := ?_) (brn_lb 14 1279) rfl rfl (any_of HT_.out (by kernel_rfl)) (fun _ _ _ h => h) (Or.inl ⟨by rfl, ?_⟩) ?_ ?_; rotate_left
     ·intro w'; go_simp; with_reducible rfl
     rotate_left
     ·simp only [Act.put, List.setIfInBounds_toArray, List.set_cons_zero, List.set_cons_succ, i64_w, i32_w]; rfl
     refine pure_ (i := 8) (N := some 50) (v := ?_) (a' := ?_) (brn_lb 14 1535) rfl rfl (any_of HT_.out (by kernel_rfl)) (fun _ _ _ h => h) (Or.inl ⟨by rfl, ?_⟩) ?_ ?_; rotate_left
     ·intro w'; go_simp; with_reducible rfl
     rotate_left
     ·simp only [Act.put, List.setIfInBounds_toArray, List.set_cons_zero, List.set_cons_succ, i64_w, i32_w]; rfl
     refine pure_ (i := 9) (N := some 51) (v := ?_) (a' := ?_) (brn_lb 14 2047) rfl rfl (any_of HT_.out (by kernel_rfl)) (fun _ _ _ h => h) (Or.inl ⟨by rfl, ?_⟩) ?_ ?_; rotate_left
     ·intro w'; go_simp; with_reducible rfl
     rotate_left
     ·simp only [Act.put, List.setIfInBounds_toArray, List.set_cons_zero, List.set_cons_succ, i64_w, i32_w]; rfl
     exact norm_ (by simp only [putAll, Act.put, List.setIfInBounds_toArray, List.set_cons_zero, List.set_cons_succ]) (hCont (r', g14) _ ⟨HA, B9, B5, B14, HRR, HG14, HB⟩)
   clear HA B9 B5 HRR HB hHeld
   rintro ⟨r', g14⟩ w6_ ⟨HA, B9, B5, B14, HRR, HG14, HB⟩
   have hHeld := (show w6_.cell? ⟨g9, 0, none⟩ = some (.int .i64 b.c.f0) ∧ w6_.cell? ⟨g9, 1, none⟩ = some (.int .i64 b.c.f1) ∧ w6_.cell? ⟨g9, 2, none⟩ = some (.int .i64 b.c.f2) ∧ w6_.cell? ⟨g9, 3, none⟩ = some (.int .i64 b.c.f3) ∧ w6_.cell? ⟨g9, 4, none⟩ = some (.int .i64 b.c.f4) ∧ w6_.cell? ⟨g9, 5, none⟩ = some (.slice r.a5 b.calls.length r.c5) ∧ w6_.cell? ⟨g9, 6, none⟩ = some (.slice r.a6 b.ins.length r.c6) ∧ w6_.cell? ⟨g9, 7, none⟩ = some (.slice r.a7 b.made.length r.c7) ∧ w6_.cell? ⟨g9, 8, none⟩ = some (.slice r.a8 b.ops.length r.c8) ∧ w6_.cell? ⟨g9, 9, none⟩ = some (.slice r.a9 b.nodes.length r.c9) ∧ w6_.cell? (ad.add (i * 7)) = some (.bool x.f0) ∧ w6_.cell? ⟨(ad.add (i * 7)).block, (ad.add (i * 7)).off + 1, none⟩ = some (.int .i64 x.f1) ∧ w6_.cell? ⟨(ad.add (i * 7)).block, (ad.add (i * 7)).off + 2, none⟩ = some (.int .i64 x.f2) ∧ w6_.cell? ⟨(ad.add (i * 7)).block, (ad.add (i * 7)).off + 3, none⟩ = some (.int .i64 x.f3.f0) ∧ w6_.cell? ⟨(ad.add (i * 7)).block, (ad.add (i * 7)).off + 4, none⟩ = some (.int .u64 x.f3.f1) ∧ w6_.cell? ⟨(ad.add (i * 7)).block, (ad.add (i * 7)).off + 5, none⟩ = some (.int .u64 x.f3.f2) ∧ w6_.cell? ⟨(ad.add (i * 7)).block, (ad.add (i * 7)).off + 6, none⟩ = some (.int .i64 x.f3.f3) from ⟨((blk_cell B9.out 0).trans rfl), ((blk_cell B9.out 1).trans rfl), ((blk_cell B9.out 2).trans rfl), ((blk_cell B9.out 3).trans rfl), ((blk_cell B9.out 4).trans rfl), ((blk_cell B9.out 5).trans rfl), ((blk_cell B9.out 6).trans rfl), ((blk_cell B9.out 7).trans rfl), ((blk_cell B9.out 8).trans rfl), ((blk_cell B9.out 9).trans rfl), (pw_cell_below HB.out hW0), (pw_cell_below HB.out hW1), (pw_cell_below HB.out hW2), (pw_cell_below HB.out hW3), (pw_cell_below HB.out hW4), (pw_cell_below HB.out hW5), (pw_cell_below HB.out hW6)⟩)
   refine norm_ (a' := ?_) ?_ ?_
   rotate_left
   ·simp only [putAll, Act.put, List.setIfInBounds_toArray, List.set_cons_zero, List.set_cons_succ]
    rfl
   refine last_ (i := 11) (N := none) (brn_lb 14 4095) rfl rfl (one_of HT_.out (by kernel_rfl)) (by decide) (fun K hK => ?_)
   obtain ⟨c14_0, c14_1, c14_2, c14_3, c14_4, c14_5, c14_6, c14_7, c14_8, c14_9⟩ := blkc10 B14.out
   obtain ⟨f14_0, f14_1, f14_2, f14_3, f14_4, f14_5, f14_6, f14_7, f14_8, f14_9⟩ := blkf10 B14.out
   refine skip_ (w1 := ?_) (by rfl) rfl ?_ ?_
   rotate_left
   ·go_simp
    rfl
   clear c14_0 f14_0 c14_1 f14_1 c14_2 f14_2 c14_3 f14_3 c14_4 f14_4 c14_5 f14_5 c14_6 f14_6 c14_7 f14_7 c14_8 f14_8 c14_9 f14_9
   refine hK.out _ _ ?_
   clear hK K
   refine pure_ (i := 12) (N := some 15) (v := ?_) (a' := ?_) (brn_lb 14 8191) rfl rfl (any_of HT_.out (by kernel_rfl)) (fun _ _ _ h => h) (Or.inl ⟨by rfl, ?_⟩) ?_ ?_; rotate_left
   ·intro w'; go_simp; with_reducible rfl
   rotate_left
   ·simp only [Act.put, List.setIfInBounds_toArray, List.set_cons_zero, List.set_cons_succ, i64_w, i32_w]; rfl
   refine pure_ (i := 13) (N := some 16) (v := ?_) (a' := ?_) (brn_lb 14 16383) rfl rfl (any_of HT_.out (by kernel_rfl)) (fun _ _ _ h => h) (Or.inl ⟨by rfl, ?_⟩) ?_ ?_; rotate_left
   ·intro w'; go_simp; with_reducible rfl
   rotate_left
   ·simp only [Act.put, List.setIfInBounds_toArray, List.set_cons_zero, List.set_cons_succ, i64_w, i32_w]; rfl
   refine done_ (done_of HT_.out (by kernel_rfl)) ?_
   obtain ⟨W7, hW7⟩ : ∃ W, ((((((((((w6_.setCell ⟨g14, 0, none⟩ (.int .i64 (doR b x).1.c.f0)).setCell ⟨g14, 1, none⟩ (.int .i64 (doR b x).1.c.f1)).setCell ⟨g14, 2, none⟩ (.int .i64 (doR b x).1.c.f2)).setCell ⟨g14, 3, none⟩ (.int .i64 (doR b x).1.c.f3)).setCell ⟨g14, 4, none⟩ (.int .i64 (doR b x).1.c.f4)).setCell ⟨g14, 5, none⟩ (.slice r'.a5 (doR b x).1.calls.length r'.c5)).setCell ⟨g14, 6, none⟩ (.slice r'.a6 (doR b x).1.ins.length r'.c6)).setCell ⟨g14, 7, none⟩ (.slice r'.a7 (doR b x).1.made.length r'.c7)).setCell ⟨g14, 8, none⟩ (.slice r'.a8 (doR b x).1.ops.length r'.c8)).setCell ⟨g14, 9, none⟩ (.slice r'.a9 (doR b x).1.nodes.length r'.c9)) = W := ⟨_, rfl⟩
   rw [hW7]
   have n_HA := Aside0.mk (show BookAt W7 p gt go gn ((doR b x).1) from by rw [← hW7]; exact HA.out.far (grown10 _ _) HG14.out.2.1)
   have n_B9 := Aside0.mk (show W7.heap[g9]? = some (.cells #[.int .i64 b.c.f0, .int .i64 b.c.f1, .int .i64 b.c.f2, .int .i64 b.c.f3, .int .i64 b.c.f4, .slice r.a5 b.calls.length r.c5, .slice r.a6 b.ins.length r.c6, .slice r.a7 b.made.length r.c7, .slice r.a8 b.ops.length r.c8, .slice r.a9 b.nodes.length r.c9] 32 (0, 0)) from by rw [← hW7]; exact blk_grown B9.out (grown10 _ _) HG14.out.2.2.2)
   have n_B5 := Aside0.mk (show W7.heap[g5]? = some (.cells #[.int .i64 0, .int .i64 0, .int .i64 0, .int .i64 0, .int .i64 0, .slice none 0 0, .slice none 0 0, .slice none 0 0, .slice none 0 0, .slice none 0 0] 32 (0, 0)) from by rw [← hW7]; exact blk_grown B5.out (grown10 _ _) HG14.out.2.2.1)
   have n_HRR := Aside0.mk (show RAt W7 ((doR b x).1) r' from by rw [← hW7]; exact HRR.out.set10 B14.out)
   have n_HB := Aside0.mk (show Below W.heap.size W W7 from by rw [← hW7]; exact bel10 HB.out HG14.out.1)
   have n_B14 := Aside0.mk (show W7.heap[g14]? = some (.cells #[.int .i64 (doR b x).1.c.f0, .int .i64 (doR b x).1.c.f1, .int .i64 (doR b x).1.c.f2, .int .i64 (doR b x).1.c.f3, .int .i64 (doR b x).1.c.f4, .slice r'.a5 (doR b x).1.calls.length r'.c5, .slice r'.a6 (doR b x).1.ins.length r'.c6, .slice r'.a7 (doR b x).1.made.length r'.c7, .slice r'.a8 (doR b x).1.ops.length r'.c8, .slice r'.a9 (doR b x).1.nodes.length r'.c9] 32 (0, 0)) from by rw [← hW7]; exact put10 B14.out)
   clear hW7 HA B9 B5 HRR HB B14
   have HA := n_HA
   have B9 := n_B9
   have B5 := n_B5
   have HRR := n_HRR
   have HB := n_HB
   have B14 := n_B14
   clear n_HA n_B9 n_B5 n_HRR n_HB n_B14
   obtain ⟨c14_0, c14_1, c14_2, c14_3, c14_4, c14_5, c14_6, c14_7, c14_8, c14_9⟩ := blkc10 B14.out
   obtain ⟨c9_0, c9_1, c9_2, c9_3, c9_4, c9_5, c9_6, c9_7, c9_8, c9_9⟩ := blkc10 B9.out
   obtain ⟨fc9_0, fc9_1, fc9_2, fc9_3, fc9_4, fc9_5, fc9_6, fc9_7, fc9_8, fc9_9⟩ := blkf10 B9.out
   go_wp2
   go_roundg (l.length - (i + 1))
   case measure => have := HLTI.out; have := HK.out; omega
   case rel =>
    have hlt := HLTI.out
    have hle := HL.out
    exact ⟨i + 1, (doR b x).1, r', by rw [show wrap64 ((i : Int) + 1) = ((i + 1 : Nat) : Int) from by unfold wrap64; omega], ⟨by omega⟩, ⟨by omega⟩, HFO, HI2, ⟨HA.out.far (grown10 _ _) HD.out.1⟩, ⟨put10 B9.out⟩, ⟨blk_grown B5.out (grown10 _ _) HD.out.2.2⟩, ⟨HRR.out.set10 B9.out⟩, ⟨bel10 HB.out HGB9.out⟩⟩
  ·have hj : i = l.length := by have := HJ.out; omega
   subst hj
   have hnlt : ¬ ((l.length : Int) < (l.length : Int)) := by omega
   rw [List.take_length] at HRN
   go_upto_region 11 with fail
   have n_HA := Aside0.mk (HA.out.drew)
   have n_B9 := Aside0.mk (blk_drew B9.out)
   have n_B5 := Aside0.mk (blk_drew B5.out)
   have n_HRR := Aside0.mk (HRR.out.drew)
   have n_HB := Aside0.mk (below_drew1 HB.out)
   clear HA B9 B5 HRR HB
   have HA := n_HA
   have B9 := n_B9
   have B5 := n_B5
   have HRR := n_HRR
   have HB := n_HB
   clear n_HA n_B9 n_B5 n_HRR n_HB
   refine start_ (n := 5) (S := fun w' => w'.cell? ⟨g9, 0, none⟩ = some (.int .i64 b.c.f0) ∧ w'.cell? ⟨g9, 1, none⟩ = some (.int .i64 b.c.f1) ∧ w'.cell? ⟨g9, 2, none⟩ = some (.int .i64 b.c.f2) ∧ w'.cell? ⟨g9, 3, none⟩ = some (.int .i64 b.c.f3) ∧ w'.cell? ⟨g9, 4, none⟩ = some (.int .i64 b.c.f4) ∧ w'.cell? ⟨g9, 5, none⟩ = some (.slice r.a5 b.calls.length r.c5) ∧ w'.cell? ⟨g9, 6, none⟩ = some (.slice r.a6 b.ins.length r.c6) ∧ w'.cell? ⟨g9, 7, none⟩ = some (.slice r.a7 b.made.length r.c7) ∧ w'.cell? ⟨g9, 8, none⟩ = some (.slice r.a8 b.ops.length r.c8) ∧ w'.cell? ⟨g9, 9, none⟩ = some (.slice r.a9 b.nodes.length r.c9)) (ds := [3]) #[false, false, false, false, false] (by kernel_rfl) rfl rfl ⟨((blk_cell B9.out 0).trans rfl), ((blk_cell B9.out 1).trans rfl), ((blk_cell B9.out 2).trans rfl), ((blk_cell B9.out 3).trans rfl), ((blk_cell B9.out 4).trans rfl), ((blk_cell B9.out 5).trans rfl), ((blk_cell B9.out 6).trans rfl), ((blk_cell B9.out 7).trans rfl), ((blk_cell B9.out 8).trans rfl), ((blk_cell B9.out 9).trans rfl)⟩ (fun hHeld => ?_); refine with_tabW bk_run.tab11 bk_run.bits11 (fun HT_ HW_ => ?_)
   generalize wr.drew = W1 at HA B9 B5 HRR HB hHeld ⊢
   refine pure_ (i := 0) (N := some 63) (v := ?_) (a' := ?_) (brn_lb 5 1) rfl rfl (any_of HT_.out (by kernel_rfl)) (fun _ _ _ h => h) (Or.inl ⟨by rfl, ?_⟩) ?_ ?_; rotate_left
   ·intro w'; go_simp; with_reducible rfl
   rotate_left
   ·simp only [Act.put, List.setIfInBounds_toArray, List.set_cons_zero, List.set_cons_succ, i64_w, i32_w]; rfl
   refine pure_ (i := 2) (N := some 4) (v := ?_) (a' := ?_) (brn_lb 5 5) rfl rfl (any_of HT_.out (by kernel_rfl)) (fun _ _ _ h => h) (Or.inl ⟨by rfl, ?_⟩) ?_ ?_; rotate_left
   ·intro w'; go_simp; with_reducible rfl
   rotate_left
   ·simp only [Act.put, List.setIfInBounds_toArray, List.set_cons_zero, List.set_cons_succ, i64_w, i32_w]; rfl
   refine take_ (i := 1) (N := some 64) (v := ?_) (a' := ?_) (brn_lb 5 7) rfl rfl (take_ofW HT_.out HW_.out (by kernel_rfl)) (fun _ _ _ h => h) (Or.inl ⟨by rfl, ?_⟩) hHeld ?_ ?_; rotate_left
   ·rintro w' ⟨s0, s1, s2, s3, s4, s5, s6, s7, s8, s9⟩; go_simp; with_reducible rfl
   rotate_left
   ·simp only [Act.put, List.setIfInBounds_toArray, List.set_cons_zero, List.set_cons_succ, i64_w, i32_w]; rfl
   refine last_ (i := 3) (N := none) (brn_lb 5 15) rfl rfl (one_of HT_.out (by kernel_rfl)) (by decide) (fun K hK => ?_)
   obtain ⟨c5_0, c5_1, c5_2, c5_3, c5_4, c5_5, c5_6, c5_7, c5_8, c5_9⟩ := blkc10 B5.out
   obtain ⟨f5_0, f5_1, f5_2, f5_3, f5_4, f5_5, f5_6, f5_7, f5_8, f5_9⟩ := blkf10 B5.out
   refine skip_ (w1 := ?_) (by rfl) rfl ?_ ?_
   rotate_left
   ·go_simp
    rfl
   clear c5_0 f5_0 c5_1 f5_1 c5_2 f5_2 c5_3 f5_3 c5_4 f5_4 c5_5 f5_5 c5_6 f5_6 c5_7 f5_7 c5_8 f5_8 c5_9 f5_9
   refine hK.out _ _ ?_
   clear hK K
   refine pure_ (i := 4) (N := some 6) (v := ?_) (a' := ?_) (brn_lb 5 31) rfl rfl (any_of HT_.out (by kernel_rfl)) (fun _ _ _ h => h) (Or.inl ⟨by rfl, ?_⟩) ?_ ?_; rotate_left
   ·intro w'; go_simp; with_reducible rfl
   rotate_left
   ·simp only [Act.put, List.setIfInBounds_toArray, List.set_cons_zero, List.set_cons_succ, i64_w, i32_w]; rfl
   refine done_ (done_of HT_.out (by kernel_rfl)) ?_
   go_wp2
   refine bodyPost_ret (run_tct rfl _ _ g5 32 #[.int .i64 b.c.f0, .int .i64 b.c.f1, .int .i64 b.c.f2, .int .i64 b.c.f3, .int .i64 b.c.f4, .slice r.a5 b.calls.length r.c5, .slice r.a6 b.ins.length r.c6, .slice r.a7 b.made.length r.c7, .slice r.a8 b.ops.length r.c8, .slice r.a9 b.nodes.length r.c9] (0, 0) _ rfl (put10 B5.out) Try.underlying32 rfl (by kernel_rfl)) rfl ?_
   rw [HRN.out]
   exact ⟨p, gt, go, gn, r, rfl, HA.out.far (grown10 _ _) HD.out.2.1, HRR.out.set10 B5.out, HGN.out, bel10 HB.out HGB5.out⟩
theorem bRun_c {b : RB} (l : List S58) : (bRun b l).c = b.c := by
 have key : ∀ (b : RB) (a : S58), (doR b a).1.c = b.c := by
  intro b a
  unfold doR begR mkR
  repeat' (first | rfl | split)
 unfold bRun
 induction l generalizing b with
 | nil => rfl
 | cons a l ih => rw [List.foldl_cons, ih]; exact key b a


/-! ### corrielaw07_BookStays: function 5 (by hand) -/
theorem find_nodup {α : Type} (f : α → Int) : ∀ (l : List α), (l.map f).Nodup → ∀ y ∈ l, l.find? (fun x => f x == f y) = some y := by
 intro l
 induction l with
 | nil => intro _ y hy; cases hy
 | cons a l ih =>
  intro hn y hy
  rw [List.map_cons, List.nodup_cons] at hn
  rw [List.find?_cons]
  by_cases e : f a = f y
  ·rw [show (f a == f y) = true from beq_iff_eq.mpr e]
   rcases List.mem_cons.mp hy with rfl | hy
   ·rfl
   ·exact absurd (by rw [e]; exact List.mem_map.mpr ⟨y, hy, rfl⟩) hn.1
  ·rw [show (f a == f y) = false from beq_eq_false_iff_ne.mpr e]
   rcases List.mem_cons.mp hy with rfl | hy
   ·exact absurd rfl e
   ·exact ih hn.2 y hy
theorem Inv.opAt {b : RB} (h : Inv b) {y : S60} (hy : y ∈ b.ops) : fOp b.ops y.f0 = some y.f1 := by
 unfold fOp
 rw [find_nodup (fun x => x.f0) b.ops h.od y hy]
 rfl
theorem Inv.ndAt {b : RB} (h : Inv b) {y : S62} (hy : y ∈ b.nodes) : fNd b.nodes y.f0 = some y.f1 := by
 unfold fNd
 rw [find_nodup (fun x => x.f0) b.nodes h.nd y hy]
 rfl
theorem Inv.opWf {b : RB} (h : Inv b) {y : S60} (hy : y ∈ b.ops) : (Lit.int .i64 y.f0).wf = true := by
 obtain ⟨n, i, hn, h0, h1, h2⟩ := h.ou y hy
 have hb := opNo_bnd h hn h0 (Int.lt_of_lt_of_le h1 (h.hc n hn).2)
 rw [h2]
 exact wf_i64 (by omega) (by omega)
theorem Inv.ndWf {b : RB} (h : Inv b) {y : S62} (hy : y ∈ b.nodes) : (Lit.int .i64 y.f0).wf = true := by
 obtain ⟨n, i, hn, h0, h1, h2⟩ := h.nu y hy
 have hb := ndNo_bnd h hn h0 (Int.lt_of_lt_of_le h1 (h.hm n hn).2)
 rw [h2]
 exact wf_i64 (by omega) (by omega)
theorem doR_grows (b : RB) (a : S58) : (∀ y, y ∈ b.ops → y ∈ (doR b a).1.ops) ∧ (∀ y, y ∈ b.nodes → y ∈ (doR b a).1.nodes) := by
 unfold doR begR mkR
 repeat' (first | exact ⟨fun _ h => h, fun _ h => h⟩ | exact ⟨fun _ h => List.mem_append_left _ h, fun _ h => h⟩ | exact ⟨fun _ h => h, fun _ h => List.mem_append_left _ h⟩ | split)
theorem bRun_grows (b : RB) (l : List S58) : (∀ y, y ∈ b.ops → y ∈ (bRun b l).ops) ∧ (∀ y, y ∈ b.nodes → y ∈ (bRun b l).nodes) := by
 unfold bRun
 induction l generalizing b with
 | nil => exact ⟨fun _ h => h, fun _ h => h⟩
 | cons a l ih => exact ⟨fun y h => (ih (doR b a).1).1 y ((doR_grows b a).1 y h), fun y h => (ih (doR b a).1).2 y ((doR_grows b a).2 y h)⟩
def bst_lb (n m : Nat) : Array Bool := ((List.range n).map (fun i => m.testBit i)).toArray
def corrielaw07_BookStays.T13 : Bool × List (List Nat × List Nat) := (true, [([], []), ([], []), ([1], [1]), ([], []), ([2, 3], [2, 3]), ([4], [4]), ([5], [5]), ([0, 6], [0, 6]), ([7], [7]), ([8], [8]), ([9, 8], [8, 9]), ([8, 10], [8, 10])])
def corrielaw07_BookStays.B13 : List Nat := [0, 0, 2, 0, 14, 30, 62, 127, 255, 511, 1023, 2047]
theorem corrielaw07_BookStays.tab13 : rtab .any (opsOf Try.f5 13) = corrielaw07_BookStays.T13 := by kernel_rfl
theorem corrielaw07_BookStays.bits13 : waitsOk corrielaw07_BookStays.T13.2 corrielaw07_BookStays.B13 = true := by kernel_rfl
def corrielaw07_BookStays.T18 : Bool × List (List Nat × List Nat) := (true, [([], []), ([], []), ([1], [1]), ([], []), ([2, 3], [2, 3]), ([4], [4]), ([5], [5]), ([0, 6], [0, 6]), ([], []), ([8], [8]), ([], []), ([9, 10], [9, 10]), ([11], [11]), ([12], [12]), ([7, 13], [7, 13])])
def corrielaw07_BookStays.B18 : List Nat := [0, 0, 2, 0, 14, 30, 62, 127, 0, 256, 0, 1792, 3840, 7936, 16383]
theorem corrielaw07_BookStays.tab18 : rtab .any (opsOf Try.f5 18) = corrielaw07_BookStays.T18 := by kernel_rfl
theorem corrielaw07_BookStays.bits18 : waitsOk corrielaw07_BookStays.T18.2 corrielaw07_BookStays.B18 = true := by kernel_rfl
def corrielaw07_BookStays.f (a0_0 a0_1 a0_2 a0_3 a0_4 : Int) (l1 l2 : List S58) : Option Bool := if l1.all (fun a => (Lit.int .i64 a.f2).wf) = true ∧ l2.all (fun a => (Lit.int .i64 a.f2).wf) = true then some true else none
attribute [local go_sem high] eqA38
set_option maxHeartbeats 8000000 in
set_option maxRecDepth 100000 in
theorem corrielaw07_BookStays.calls (a0_0 a0_1 a0_2 a0_3 a0_4 : Int) (A1 : Option Addr) (c1 : Nat) (l1 : List S58) (A2 : Option Addr) (c2 : Nat) (l2 : List S58) (r : Bool) (w : World) (hr1 : Kd.C k58 w A1 l1.length l1) (hc1 : l1.length ≤ c1) (hr2 : Kd.C k58 w A2 l2.length l2) (hc2 : l2.length ≤ c2) (h : corrielaw07_BookStays.f a0_0 a0_1 a0_2 a0_3 a0_4 l1 l2 = some r) :
  Calls Try.prog 5 #[.agg #[.int .i64 a0_0, .int .i64 a0_1, .int .i64 a0_2, .int .i64 a0_3, .int .i64 a0_4], .slice A1 l1.length c1, .slice A2 l2.length c2] w fun e w' => e = .returned (.bool r) ∧ Below w.heap.size w w' := by
 have HR1 := Aside0.mk hr1
 have HR2 := Aside0.mk hr2
 clear hr1 hc1 hr2 hc2
 have HB := Aside0.mk (Below.refl w.heap.size w)
 unfold corrielaw07_BookStays.f at h
 by_cases hwf : l1.all (fun a => (Lit.int .i64 a.f2).wf) = true ∧ l2.all (fun a => (Lit.int .i64 a.f2).wf) = true
 rotate_left
 ·rw [if_neg hwf] at h
  cases h
 rw [if_pos hwf] at h
 obtain rfl := Option.some.inj h
 clear h
 have HW := Aside0.mk (show ∀ a ∈ l1, (Lit.int .i64 a.f2).wf = true from by simpa [List.all_eq_true] using hwf.1)
 have HW2 := Aside0.mk (show ∀ a ∈ l2, (Lit.int .i64 a.f2).wf = true from by simpa [List.all_eq_true] using hwf.2)
 clear hwf
 by_cases hF : FewP a0_0 a0_1 a0_2 a0_3 a0_4
 rotate_left
 ·have HF := Aside0.mk (show ∀ W : World, Calls Try.prog 9 #[.agg #[.int .i64 a0_0, .int .i64 a0_1, .int .i64 a0_2, .int .i64 a0_3, .int .i64 a0_4]] W (fun e w' => e = .returned (.bool false) ∧ Below W.heap.size W w') from fun W => few_calls a0_0 a0_1 a0_2 a0_3 a0_4 false (decide_eq_false hF) W)
  clear hF
  go_enter Try.func5, Try.ntmps5
  go_wp2_with (first | ((with_reducible refine gate_dst (N := 3) rfl ?_); refine box_event ?hg (N := 3) ?hd (cs := #[.int .i64 a0_0, .int .i64 a0_1, .int .i64 a0_2, .int .i64 a0_3, .int .i64 a0_4]) (t := 23) ?hr ?_; (case hd => rfl); (case hg => rfl); (case hr => first | (go_simp; done) | (go_simp; rfl)); intro g3 hg w1 hbox hbk; have B3 := Aside0.mk hbox; have HGB3 := Aside0.mk (show w.heap.size ≤ g3 from by rw [hg]; exact HB.out.size); have n_HB := Aside0.mk (below_step HB.out hbk); clear HB; have HB := n_HB; clear n_HB; clear hbk hbox hg) | (go_at_call 8; (with_reducible refine (corrielaw07_awake.calls true _ rfl).mono ?_); rintro e w0 ⟨rfl, hbk⟩; have n_B3 := Aside0.mk (blk_below B3.out hbk); have n_HB := Aside0.mk (below_step HB.out hbk); clear B3 HB; have B3 := n_B3; have HB := n_HB; clear n_B3 n_HB; obtain ⟨c3_0, c3_1, c3_2, c3_3, c3_4⟩ := blkc5 B3.out; clear hbk) | (go_at_call 9; (with_reducible refine (HF.out _).mono ?_); rintro e wf ⟨rfl, hbk⟩; clear c3_0 c3_1 c3_2 c3_3 c3_4; have n_B3 := Aside0.mk (blk_below B3.out hbk); have n_HB := Aside0.mk (below_step HB.out hbk); clear B3 HB; have B3 := n_B3; have HB := n_HB; clear n_B3 n_HB; obtain ⟨c3_0, c3_1, c3_2, c3_3, c3_4⟩ := blkc5 B3.out; clear hbk))
  go_ret
  exact ⟨by first | rfl | (simp [*]; done), HB.out⟩
 by_cases hl : (30 : Int) < (l1.length : Int)
 ·have HF := Aside0.mk (show ∀ W : World, Calls Try.prog 9 #[.agg #[.int .i64 a0_0, .int .i64 a0_1, .int .i64 a0_2, .int .i64 a0_3, .int .i64 a0_4]] W (fun e w' => e = .returned (.bool true) ∧ Below W.heap.size W w') from fun W => few_calls a0_0 a0_1 a0_2 a0_3 a0_4 true (decide_eq_true hF) W)
  clear hF
  go_enter Try.func5, Try.ntmps5
  go_wp2_with (first | ((with_reducible refine gate_dst (N := 3) rfl ?_); refine box_event ?hg (N := 3) ?hd (cs := #[.int .i64 a0_0, .int .i64 a0_1, .int .i64 a0_2, .int .i64 a0_3, .int .i64 a0_4]) (t := 23) ?hr ?_; (case hd => rfl); (case hg => rfl); (case hr => first | (go_simp; done) | (go_simp; rfl)); intro g3 hg w1 hbox hbk; have B3 := Aside0.mk hbox; have HGB3 := Aside0.mk (show w.heap.size ≤ g3 from by rw [hg]; exact HB.out.size); have n_HB := Aside0.mk (below_step HB.out hbk); clear HB; have HB := n_HB; clear n_HB; clear hbk hbox hg) | (go_at_call 8; (with_reducible refine (corrielaw07_awake.calls true _ rfl).mono ?_); rintro e w0 ⟨rfl, hbk⟩; have n_B3 := Aside0.mk (blk_below B3.out hbk); have n_HB := Aside0.mk (below_step HB.out hbk); clear B3 HB; have B3 := n_B3; have HB := n_HB; clear n_B3 n_HB; obtain ⟨c3_0, c3_1, c3_2, c3_3, c3_4⟩ := blkc5 B3.out; clear hbk) | (go_at_call 9; (with_reducible refine (HF.out _).mono ?_); rintro e wf ⟨rfl, hbk⟩; clear c3_0 c3_1 c3_2 c3_3 c3_4; have n_B3 := Aside0.mk (blk_below B3.out hbk); have n_HB := Aside0.mk (below_step HB.out hbk); clear B3 HB; have B3 := n_B3; have HB := n_HB; clear n_B3 n_HB; obtain ⟨c3_0, c3_1, c3_2, c3_3, c3_4⟩ := blkc5 B3.out; clear hbk))
  go_ret
  exact ⟨by first | rfl | (simp [*]; done), HB.out⟩
 by_cases hl2 : (30 : Int) < (l2.length : Int)
 ·have HF := Aside0.mk (show ∀ W : World, Calls Try.prog 9 #[.agg #[.int .i64 a0_0, .int .i64 a0_1, .int .i64 a0_2, .int .i64 a0_3, .int .i64 a0_4]] W (fun e w' => e = .returned (.bool true) ∧ Below W.heap.size W w') from fun W => few_calls a0_0 a0_1 a0_2 a0_3 a0_4 true (decide_eq_true hF) W)
  clear hF
  go_enter Try.func5, Try.ntmps5
  go_wp2_with (first | ((with_reducible refine gate_dst (N := 3) rfl ?_); refine box_event ?hg (N := 3) ?hd (cs := #[.int .i64 a0_0, .int .i64 a0_1, .int .i64 a0_2, .int .i64 a0_3, .int .i64 a0_4]) (t := 23) ?hr ?_; (case hd => rfl); (case hg => rfl); (case hr => first | (go_simp; done) | (go_simp; rfl)); intro g3 hg w1 hbox hbk; have B3 := Aside0.mk hbox; have HGB3 := Aside0.mk (show w.heap.size ≤ g3 from by rw [hg]; exact HB.out.size); have n_HB := Aside0.mk (below_step HB.out hbk); clear HB; have HB := n_HB; clear n_HB; clear hbk hbox hg) | (go_at_call 8; (with_reducible refine (corrielaw07_awake.calls true _ rfl).mono ?_); rintro e w0 ⟨rfl, hbk⟩; have n_B3 := Aside0.mk (blk_below B3.out hbk); have n_HB := Aside0.mk (below_step HB.out hbk); clear B3 HB; have B3 := n_B3; have HB := n_HB; clear n_B3 n_HB; obtain ⟨c3_0, c3_1, c3_2, c3_3, c3_4⟩ := blkc5 B3.out; clear hbk) | (go_at_call 9; (with_reducible refine (HF.out _).mono ?_); rintro e wf ⟨rfl, hbk⟩; clear c3_0 c3_1 c3_2 c3_3 c3_4; have n_B3 := Aside0.mk (blk_below B3.out hbk); have n_HB := Aside0.mk (below_step HB.out hbk); clear B3 HB; have B3 := n_B3; have HB := n_HB; clear n_B3 n_HB; obtain ⟨c3_0, c3_1, c3_2, c3_3, c3_4⟩ := blkc5 B3.out; clear hbk))
  go_ret
  exact ⟨by first | rfl | (simp [*]; done), HB.out⟩
 have HF := Aside0.mk (show ∀ W : World, Calls Try.prog 9 #[.agg #[.int .i64 a0_0, .int .i64 a0_1, .int .i64 a0_2, .int .i64 a0_3, .int .i64 a0_4]] W (fun e w' => e = .returned (.bool true) ∧ Below W.heap.size W w') from fun W => few_calls a0_0 a0_1 a0_2 a0_3 a0_4 true (decide_eq_true hF) W)
 have HL := Aside0.mk (show l1.length ≤ 30 from by omega)
 have HL2 := Aside0.mk (show l2.length ≤ 30 from by omega)
 have hO := hF.1
 clear hF
 obtain ⟨b, hb⟩ : ∃ b, bRun (newRB ⟨a0_0, a0_1, a0_2, a0_3, a0_4⟩) l1 = b := ⟨_, rfl⟩
 have HI := Aside0.mk (show Inv b from by rw [← hb]; exact (Inv.new ⟨a0_0, a0_1, a0_2, a0_3, a0_4⟩ hO).run l1)
 have HRun := Aside0.mk (show ∀ W : World, Kd.C k58 W A1 l1.length l1 → Calls Try.prog 10 #[.agg #[.int .i64 a0_0, .int .i64 a0_1, .int .i64 a0_2, .int .i64 a0_3, .int .i64 a0_4], .slice A1 l1.length c1] W (fun e w' => ∃ (p gt go gn : Nat) (r : RA), e = .returned (.tuple #[.pointer (some ⟨p, 0, none⟩), rv b r, .bool true]) ∧ BookAt w' p gt go gn b ∧ RAt w' b r ∧ (W.heap.size ≤ p ∧ W.heap.size ≤ gt ∧ W.heap.size ≤ go ∧ W.heap.size ≤ gn) ∧ Below W.heap.size W w') from fun W hk => by rw [← hb]; exact p_run ⟨a0_0, a0_1, a0_2, a0_3, a0_4⟩ hO A1 c1 l1 HW.out HL.out W hk)
 unfold rv at HRun
 clear hb hO
 go_enter Try.func5, Try.ntmps5
 go_wp2_with (first | ((with_reducible refine gate_dst (N := 3) rfl ?_); refine box_event ?hg (N := 3) ?hd (cs := #[.int .i64 a0_0, .int .i64 a0_1, .int .i64 a0_2, .int .i64 a0_3, .int .i64 a0_4]) (t := 23) ?hr ?_; (case hd => rfl); (case hg => rfl); (case hr => first | (go_simp; done) | (go_simp; rfl)); intro g3 hg w1 hbox hbk; have B3 := Aside0.mk hbox; have HGB3 := Aside0.mk (show w.heap.size ≤ g3 from by rw [hg]; exact HB.out.size); have n_HB := Aside0.mk (below_step HB.out hbk); clear HB; have HB := n_HB; clear n_HB; clear hbk hbox hg) | (go_at_call 8; (with_reducible refine (corrielaw07_awake.calls true _ rfl).mono ?_); rintro e w0 ⟨rfl, hbk⟩; have n_B3 := Aside0.mk (blk_below B3.out hbk); have n_HB := Aside0.mk (below_step HB.out hbk); clear B3 HB; have B3 := n_B3; have HB := n_HB; clear n_B3 n_HB; obtain ⟨c3_0, c3_1, c3_2, c3_3, c3_4⟩ := blkc5 B3.out; clear hbk) | (go_at_call 9; (with_reducible refine (HF.out _).mono ?_); rintro e wf ⟨rfl, hbk⟩; clear c3_0 c3_1 c3_2 c3_3 c3_4; have n_B3 := Aside0.mk (blk_below B3.out hbk); have n_HB := Aside0.mk (below_step HB.out hbk); clear B3 HB; have B3 := n_B3; have HB := n_HB; clear n_B3 n_HB; obtain ⟨c3_0, c3_1, c3_2, c3_3, c3_4⟩ := blkc5 B3.out; clear hbk) | (go_at_call 10; (with_reducible refine (HRun.out _ (Kd.C_below HR1.out HB.out)).mono ?_); rintro e w4 ⟨p, gt, go, gn, r, rfl, hA, hR, hg, hbk⟩; have HGN := Aside0.mk (show w.heap.size ≤ p ∧ w.heap.size ≤ gt ∧ w.heap.size ≤ go ∧ w.heap.size ≤ gn from by have := HB.out.size; omega); clear c3_0 c3_1 c3_2 c3_3 c3_4; have n_HB := Aside0.mk (below_step HB.out hbk); clear HB; have HB := n_HB; clear n_HB; have HA := Aside0.mk hA; have HRR := Aside0.mk hR; clear hbk hA hR hg) | ((with_reducible refine gate_dst (N := 9) rfl ?_); refine box_event ?hg (N := 9) ?hd (cs := #[.int .i64 0, .int .i64 0, .int .i64 0, .int .i64 0, .int .i64 0, .slice none 0 0, .slice none 0 0, .slice none 0 0, .slice none 0 0, .slice none 0 0]) (t := 32) ?hr ?_; (case hd => rfl); (case hg => rfl); (case hr => first | (go_simp; done) | (go_simp; rfl)); intro g9 hg w7 hbox hbk; have B9 := Aside0.mk hbox; have HD := Aside0.mk (show (p ≠ g9 ∧ gt ≠ g9 ∧ go ≠ g9 ∧ gn ≠ g9) from by have := HA.out.lt; omega); have HGB9 := Aside0.mk (show w.heap.size ≤ g9 from by rw [hg]; exact HB.out.size); have n_HA := Aside0.mk (HA.out.below hbk); have n_HRR := Aside0.mk (HRR.out.below hbk); have n_HB := Aside0.mk (below_step HB.out hbk); clear HA HRR HB; have HA := n_HA; have HRR := n_HRR; have HB := n_HB; clear n_HA n_HRR n_HB; obtain ⟨c9_0, c9_1, c9_2, c9_3, c9_4, c9_5, c9_6, c9_7, c9_8, c9_9⟩ := blkc10 B9.out; obtain ⟨fc9_0, fc9_1, fc9_2, fc9_3, fc9_4, fc9_5, fc9_6, fc9_7, fc9_8, fc9_9⟩ := blkf10 B9.out; clear hbk hbox hg))
 go_loopg [11] l2.length (fun kq v11 wr => ∃ (i : Nat) (b2 : RB), v11 = .int .i64 i ∧ Aside0 (i ≤ l2.length) ∧ Aside0 (l2.length - i ≤ kq) ∧ Aside0 (bRun b (l2.take i) = b2) ∧ Aside0 (Inv b2) ∧ Aside0 (BookAt wr p gt go gn b2) ∧ Aside0 (RAt wr b r) ∧ Aside0 (wr.heap[g9]? = some (.cells #[.int .i64 b.c.f0, .int .i64 b.c.f1, .int .i64 b.c.f2, .int .i64 b.c.f3, .int .i64 b.c.f4, .slice r.a5 b.calls.length r.c5, .slice r.a6 b.ins.length r.c6, .slice r.a7 b.made.length r.c7, .slice r.a8 b.ops.length r.c8, .slice r.a9 b.nodes.length r.c9] 32 (0, 0))) ∧ Aside0 (Below w.heap.size w wr))
 case atStart => exact ⟨0, b, rfl, ⟨Nat.zero_le _⟩, ⟨by omega⟩, ⟨rfl⟩, HI, ⟨HA.out.far (grown10 _ _) HD.out⟩, ⟨HRR.out.set10 B9.out⟩, ⟨put10 B9.out⟩, ⟨bel10 HB.out HGB9.out⟩⟩
 case round =>
  clear HB HA B9 HRR
  obtain ⟨i, b2, rfl, HJ, HK, HRN, HI2, HA, HRR, B9, HB⟩ := hrel
  by_cases hlt : i < l2.length
  ·have hltb : (i : Int) < (l2.length : Int) := by omega
   have HLTI := Aside0.mk hlt
   obtain ⟨ad, e4, hW0, hW1, hW2, hW3, hW4, hW5, hW6⟩ := at_T58 HR2.out (i : Int) (by omega) (by omega)
   cases e4
   have HX := Aside0.mk (show rd_T58 l2 (i : Int) = l2[i] from by unfold rd_T58; simp [List.getD, hlt])
   simp only [Int.toNat_natCast] at hW0 hW1 hW2 hW3 hW4 hW5 hW6
   generalize rd_T58 l2 (i : Int) = x at hW0 hW1 hW2 hW3 hW4 hW5 hW6 HX
   have HWX := Aside0.mk (show (Lit.int .i64 x.f2).wf = true from by have h := HW2.out l2[i] (List.getElem_mem hlt); rw [HX.out]; exact h)
   have HFO := Aside0.mk (show bRun b (l2.take (i + 1)) = (doR b2 x).1 from by
    have h1 : l2.take (i + 1) = l2.take i ++ [x] := by rw [List.take_add_one, List.getElem?_eq_getElem hlt, HX.out]; rfl
    have h2 := HRN.out
    unfold bRun at h2 ⊢
    rw [h1, List.foldl_append, h2]
    rfl)
   have HI3 := Aside0.mk (HI2.out.done x)
   have hx0 := pw_cell_below HB.out hW0
   have hx1 := pw_cell_below HB.out hW1
   have hx2 := pw_cell_below HB.out hW2
   have hx3 := pw_cell_below HB.out hW3
   have hx4 := pw_cell_below HB.out hW4
   have hx5 := pw_cell_below HB.out hW5
   have hx6 := pw_cell_below HB.out hW6
   go_wp2_with (first | (go_at_call 23; (with_reducible refine (p_do HI2.out p gt go gn x HWX.out _ HA.out).mono ?_); rintro e w8 ⟨rfl, hA, hT⟩; have hd := HD.out; have n1_ := Aside0.mk (blk_touch B9.out hT (fun h => h.elim (fun e => hd.2.1 e.symm) (fun h => h.elim (fun e => hd.2.2.1 e.symm) (fun e => hd.2.2.2 e.symm)))); have n3_ := Aside0.mk (HRR.out.touch HA.out hT); have n4_ := Aside0.mk (HB.out.trans (hT.below HB.out.size (fun k hk => by have := HGN.out; rcases hk with rfl | rfl | rfl <;> omega))); clear HA B9 HRR HB hd; have HA := Aside0.mk hA; have B9 := n1_; have HRR := n3_; have HB := n4_; clear n1_ n3_ n4_ hA hT hx0 hx1 hx2 hx3 hx4 hx5 hx6))
   go_roundg (l2.length - (i + 1))
   case measure => have := HLTI.out; have := HK.out; omega
   case rel =>
    have hlt := HLTI.out
    have hle := HL2.out
    exact ⟨i + 1, (doR b2 x).1, by first | rw [show wrap64 ((i : Int) + 1) = ((i + 1 : Nat) : Int) from by unfold wrap64; omega] | rfl | (congr 1; omega), ⟨by omega⟩, ⟨by omega⟩, HFO, HI3, HA, HRR, B9, HB⟩
  ·have hj : i = l2.length := by have := HJ.out; omega
   subst hj
   have hnlt : ¬ ((l2.length : Int) < (l2.length : Int)) := by omega
   rw [List.take_length] at HRN
   have HGO := Aside0.mk (show (∀ y, y ∈ b.ops → y ∈ b2.ops) ∧ (∀ y, y ∈ b.nodes → y ∈ b2.nodes) from by rw [← HRN.out]; exact bRun_grows b l2)
   have HSM := Aside0.mk HI.out.small
   clear HRN HJ HK
   go_wp2
   go_loopg [12] b.ops.length (fun kq v12 wr => ∃ (i : Nat), v12 = .int .i64 i ∧ Aside0 (i ≤ b.ops.length) ∧ Aside0 (b.ops.length - i ≤ kq) ∧ Aside0 (BookAt wr p gt go gn b2) ∧ Aside0 (RAt wr b r) ∧ Aside0 (wr.heap[g9]? = some (.cells #[.int .i64 b.c.f0, .int .i64 b.c.f1, .int .i64 b.c.f2, .int .i64 b.c.f3, .int .i64 b.c.f4, .slice r.a5 b.calls.length r.c5, .slice r.a6 b.ins.length r.c6, .slice r.a7 b.made.length r.c7, .slice r.a8 b.ops.length r.c8, .slice r.a9 b.nodes.length r.c9] 32 (0, 0))) ∧ Aside0 (Below w.heap.size w wr))
   case atStart => exact ⟨0, rfl, ⟨Nat.zero_le _⟩, ⟨by omega⟩, HA, HRR, B9, HB⟩
   case round =>
    clear HB HA B9 HRR
    obtain ⟨i, rfl, HJ, HK, HA, HRR, B9, HB⟩ := hrel
    by_cases hlt : i < b.ops.length
    ·have hltb : (i : Int) < (b.ops.length : Int) := by omega
     have HLTI := Aside0.mk hlt
     obtain ⟨ad, e4, hW0, hW1, hW2, hW3, hW4⟩ := at_T60 HRR.out.h8 (i : Int) (by omega) (by omega)
     have HY := Aside0.mk (show rd_T60 b.ops (i : Int) ∈ b.ops from by unfold rd_T60; simp [List.getD, hlt])
     simp only [Int.toNat_natCast] at hW0 hW1 hW2 hW3 hW4
     generalize hyy : rd_T60 b.ops (i : Int) = y at hW0 hW1 hW2 hW3 hW4 HY
     have HYY := Aside0.mk hyy
     have HAD := Aside0.mk e4
     clear hyy hW1 hW2 hW3 hW4
     have F1 := Aside0.mk (show ∀ W : World, BookAt W p gt go gn b2 → Calls Try.prog 12 #[.pointer (some ⟨p, 0, none⟩), .int .i64 y.f0] W (fun e w' => e = .returned (.tuple #[.agg #[.int .i64 y.f1.f0, .int .u64 y.f1.f1, .int .u64 y.f1.f2, .int .i64 y.f1.f3], .int .i64 0]) ∧ Below W.heap.size W w') from fun W h => by
      have h2 := bk_Call p gt go gn b2 y.f0 (HI.out.opWf HY.out) W h
      rw [opOf_f HI2.out, HI2.out.opAt (HGO.out.1 y HY.out)] at h2
      exact h2)
     clear e4
     have c9_8 : wr.cell? ⟨g9, 8, none⟩ = some (.slice (some ad) b.ops.length r.c8) := by rw [← HAD.out]; exact (blk_cell B9.out 8).trans rfl
     go_upto_region 13 with (first | (go_at_call 12; (with_reducible refine (F1.out _ HA.out).mono ?_); rintro e w9 ⟨rfl, hbk⟩; clear c9_8 hW0; have n_HA := Aside0.mk (HA.out.below hbk); have n_HRR := Aside0.mk (HRR.out.below hbk); have n_B9 := Aside0.mk (blk_below B9.out hbk); have n_HB := Aside0.mk (below_step HB.out hbk); clear HA HRR B9 HB; have HA := n_HA; have HRR := n_HRR; have B9 := n_B9; have HB := n_HB; clear n_HA n_HRR n_B9 n_HB; clear hbk) | ((with_reducible refine gate_dst (N := 13) rfl ?_); refine box_event ?hg (N := 13) ?hd (cs := #[.int .i64 0, .int .u64 0, .int .u64 0, .int .i64 0]) (t := 38) ?hr ?_; (case hd => rfl); (case hg => rfl); (case hr => first | (go_simp; done) | (go_simp; rfl)); intro g13 hg w10 hbox hbk; have B13 := Aside0.mk hbox; have HD13 := Aside0.mk (show (p ≠ g13 ∧ gt ≠ g13 ∧ go ≠ g13 ∧ gn ≠ g13) ∧ g9 ≠ g13 from by have := HA.out.lt; have := blk_lt B9.out; omega); have HGB13 := Aside0.mk (show w.heap.size ≤ g13 from by rw [hg]; exact HB.out.size); have n_HA := Aside0.mk (HA.out.below hbk); have n_HRR := Aside0.mk (HRR.out.below hbk); have n_B9 := Aside0.mk (blk_below B9.out hbk); have n_HB := Aside0.mk (below_step HB.out hbk); clear HA HRR B9 HB; have HA := n_HA; have HRR := n_HRR; have B9 := n_B9; have HB := n_HB; clear n_HA n_HRR n_B9 n_HB; obtain ⟨c13_0, c13_1, c13_2, c13_3⟩ := blkc4 B13.out; obtain ⟨fc13_0, fc13_1, fc13_2, fc13_3⟩ := blkf4 B13.out; clear hbk hbox hg))
     obtain ⟨W9, hW9⟩ : ∃ W, ((((w10.setCell ⟨g13, 0, none⟩ (.int .i64 y.f1.f0)).setCell ⟨g13, 1, none⟩ (.int .u64 y.f1.f1)).setCell ⟨g13, 2, none⟩ (.int .u64 y.f1.f2)).setCell ⟨g13, 3, none⟩ (.int .i64 y.f1.f3)) = W := ⟨_, rfl⟩
     rw [hW9]
     have n_HA := Aside0.mk (show BookAt W9 p gt go gn b2 from by rw [← hW9]; exact HA.out.far (grown4 _ _) HD13.out.1)
     have n_HRR := Aside0.mk (show RAt W9 b r from by rw [← hW9]; exact ⟨MR.set4 HRR.out.m5 B13.out (by decide), MR.set4 HRR.out.m6 B13.out (by decide), MR.set4 HRR.out.m7 B13.out (by decide), MR.set4 HRR.out.m8 B13.out (by decide), MR.set4 HRR.out.m9 B13.out (by decide)⟩)
     have n_B9 := Aside0.mk (show W9.heap[g9]? = some (.cells #[.int .i64 b.c.f0, .int .i64 b.c.f1, .int .i64 b.c.f2, .int .i64 b.c.f3, .int .i64 b.c.f4, .slice r.a5 b.calls.length r.c5, .slice r.a6 b.ins.length r.c6, .slice r.a7 b.made.length r.c7, .slice r.a8 b.ops.length r.c8, .slice r.a9 b.nodes.length r.c9] 32 (0, 0)) from by rw [← hW9]; exact blk_grown B9.out (grown4 _ _) HD13.out.2)
     have n_B13 := Aside0.mk (show W9.heap[g13]? = some (.cells #[.int .i64 y.f1.f0, .int .u64 y.f1.f1, .int .u64 y.f1.f2, .int .i64 y.f1.f3] 38 (0, 0)) from by rw [← hW9]; exact put4 B13.out)
     have n_HB := Aside0.mk (show Below w.heap.size w W9 from by rw [← hW9]; exact ((((HB.out.setCell (p := ⟨g13, 0, none⟩) HGB13.out _).setCell (p := ⟨g13, 1, none⟩) HGB13.out _).setCell (p := ⟨g13, 2, none⟩) HGB13.out _).setCell (p := ⟨g13, 3, none⟩) HGB13.out _))
     clear hW9 HA HRR B9 B13 HB
     have HA := n_HA
     have HRR := n_HRR
     have B9 := n_B9
     have B13 := n_B13
     have HB := n_HB
     clear n_HA n_HRR n_B9 n_B13 n_HB
     clear c13_0 c13_1 c13_2 c13_3 fc13_0 fc13_1 fc13_2 fc13_3
     obtain ⟨ad2, e5, hV0, hV1, hV2, hV3, hV4⟩ := at_T60 HRR.out.h8 (i : Int) (by omega) (by have := HLTI.out; omega)
     obtain rfl : ad = ad2 := by rw [HAD.out] at e5; injection e5
     simp only [Int.toNat_natCast] at hV0 hV1 hV2 hV3 hV4
     rw [HYY.out] at hV0 hV1 hV2 hV3 hV4
     have hltb : (i : Int) < (b.ops.length : Int) := by have := HLTI.out; omega
     have n_HA := Aside0.mk (HA.out.drew)
     have n_HRR := Aside0.mk (HRR.out.drew)
     have n_B9 := Aside0.mk (blk_drew B9.out)
     have n_HB := Aside0.mk (below_drew1 HB.out)
     have n_B13 := Aside0.mk (blk_drew B13.out)
     clear HA HRR B9 HB B13
     have HA := n_HA
     have HRR := n_HRR
     have B9 := n_B9
     have HB := n_HB
     have B13 := n_B13
     clear n_HA n_HRR n_B9 n_HB n_B13
     refine start_ (n := 12) (S := fun w' => w'.cell? ⟨g13, 0, none⟩ = some (.int .i64 y.f1.f0) ∧ w'.cell? ⟨g13, 1, none⟩ = some (.int .u64 y.f1.f1) ∧ w'.cell? ⟨g13, 2, none⟩ = some (.int .u64 y.f1.f2) ∧ w'.cell? ⟨g13, 3, none⟩ = some (.int .i64 y.f1.f3) ∧ w'.cell? ⟨g9, 8, none⟩ = some (.slice (some ad) b.ops.length r.c8) ∧ w'.cell? ⟨(ad.add (i * 5)).block, (ad.add (i * 5)).off + 1, none⟩ = some (.int .i64 y.f1.f0) ∧ w'.cell? ⟨(ad.add (i * 5)).block, (ad.add (i * 5)).off + 2, none⟩ = some (.int .u64 y.f1.f1) ∧ w'.cell? ⟨(ad.add (i * 5)).block, (ad.add (i * 5)).off + 3, none⟩ = some (.int .u64 y.f1.f2) ∧ w'.cell? ⟨(ad.add (i * 5)).block, (ad.add (i * 5)).off + 4, none⟩ = some (.int .i64 y.f1.f3)) (ds := []) #[false, false, false, false, false, false, false, false, false, false, false, false] (by kernel_rfl) rfl rfl ⟨((blk_cell B13.out 0).trans rfl), ((blk_cell B13.out 1).trans rfl), ((blk_cell B13.out 2).trans rfl), ((blk_cell B13.out 3).trans rfl), (by rw [← HAD.out]; exact (blk_cell B9.out 8).trans rfl), hV1, hV2, hV3, hV4⟩ (fun hHeld => ?_); refine with_tabW corrielaw07_BookStays.tab13 corrielaw07_BookStays.bits13 (fun HT_ HW_ => ?_)
     generalize W9.drew = W1 at HA HRR B9 HB B13 hHeld ⊢
     refine pure_ (i := 1) (N := some 69) (v := ?_) (a' := ?_) (bst_lb 12 2) rfl rfl (any_of HT_.out (by kernel_rfl)) (fun _ _ _ h => h) (Or.inl ⟨by rfl, ?_⟩) ?_ ?_; rotate_left
     ·intro w'; go_simp; with_reducible rfl
     rotate_left
     ·simp only [Act.put, List.setIfInBounds_toArray, List.set_cons_zero, List.set_cons_succ, i64_w, i32_w]; rfl
     refine pure_ (i := 3) (N := some 71) (v := ?_) (a' := ?_) (bst_lb 12 10) rfl rfl (any_of HT_.out (by kernel_rfl)) (fun _ _ _ h => h) (Or.inl ⟨by rfl, ?_⟩) ?_ ?_; rotate_left
     ·intro w'; go_simp; with_reducible rfl
     rotate_left
     ·simp only [Act.put, List.setIfInBounds_toArray, List.set_cons_zero, List.set_cons_succ, i64_w, i32_w]; rfl
     refine take_ (i := 0) (N := some 68) (v := ?_) (a' := ?_) (bst_lb 12 11) rfl rfl (take_ofW HT_.out HW_.out (by kernel_rfl)) (fun _ _ _ h => h) (Or.inl ⟨by rfl, ?_⟩) hHeld ?_ ?_; rotate_left
     ·rintro w' ⟨s0, s1, s2, s3, s4, s5, s6, s7, s8⟩; go_simp; with_reducible rfl
     rotate_left
     ·simp only [Act.put, List.setIfInBounds_toArray, List.set_cons_zero, List.set_cons_succ, i64_w, i32_w]; rfl
     refine take_ (i := 2) (N := some 70) (v := ?_) (a' := ?_) (bst_lb 12 15) rfl rfl (take_ofW HT_.out HW_.out (by kernel_rfl)) (fun _ _ _ h => h) (Or.inl ⟨by rfl, ?_⟩) hHeld ?_ ?_; rotate_left
     ·rintro w' ⟨s0, s1, s2, s3, s4, s5, s6, s7, s8⟩; go_simp; with_reducible rfl
     rotate_left
     ·simp only [Act.put, List.setIfInBounds_toArray, List.set_cons_zero, List.set_cons_succ, i64_w, i32_w]; rfl
     refine pure_ (i := 4) (N := some 72) (v := ?_) (a' := ?_) (bst_lb 12 31) rfl rfl (any_of HT_.out (by kernel_rfl)) (fun _ _ _ h => h) (Or.inl ⟨by rfl, ?_⟩) ?_ ?_; rotate_left
     ·intro w'; go_simp; with_reducible rfl
     rotate_left
     ·simp only [Act.put, List.setIfInBounds_toArray, List.set_cons_zero, List.set_cons_succ, i64_w, i32_w]; rfl
     refine pure_ (i := 5) (N := some 73) (v := ?_) (a' := ?_) (bst_lb 12 63) rfl rfl (any_of HT_.out (by kernel_rfl)) (fun _ _ _ h => h) (Or.inl ⟨by rfl, ?_⟩) ?_ ?_; rotate_left
     ·intro w'; go_simp; with_reducible rfl
     rotate_left
     ·simp only [Act.put, List.setIfInBounds_toArray, List.set_cons_zero, List.set_cons_succ, i64_w, i32_w]; rfl
     refine take_ (i := 6) (N := some 74) (v := ?_) (a' := ?_) (bst_lb 12 127) rfl rfl (take_ofW HT_.out HW_.out (by kernel_rfl)) (fun _ _ _ h => h) (Or.inl ⟨by rfl, ?_⟩) hHeld ?_ ?_; rotate_left
     ·rintro w' ⟨s0, s1, s2, s3, s4, s5, s6, s7, s8⟩; go_simp; with_reducible rfl
     rotate_left
     ·simp only [Act.put, List.setIfInBounds_toArray, List.set_cons_zero, List.set_cons_succ, i64_w, i32_w]; rfl
     refine pure_ (i := 7) (N := some 75) (v := ?_) (a' := ?_) (bst_lb 12 255) rfl rfl (any_of HT_.out (by kernel_rfl)) (fun _ _ _ h => h) (Or.inl ⟨by rfl, ?_⟩) ?_ ?_; rotate_left
     ·intro w'; go_simp; with_reducible rfl
     rotate_left
     ·simp only [Act.put, List.setIfInBounds_toArray, List.set_cons_zero, List.set_cons_succ, i64_w, i32_w]; rfl
     refine pure_ (i := 8) (N := some 76) (v := ?_) (a' := ?_) (bst_lb 12 511) rfl rfl (any_of HT_.out (by kernel_rfl)) (fun _ _ _ h => h) (Or.inl ⟨by rfl, ?_⟩) ?_ ?_; rotate_left
     ·intro w'; go_simp; with_reducible rfl
     rotate_left
     ·simp only [Act.put, List.setIfInBounds_toArray, List.set_cons_zero, List.set_cons_succ, i64_w, i32_w]; rfl
     refine pure_ (i := 9) (N := some 77) (v := ?_) (a' := ?_) (bst_lb 12 1023) rfl rfl (any_of HT_.out (by kernel_rfl)) (fun _ _ _ h => h) (Or.inl ⟨by rfl, ?_⟩) ?_ ?_; rotate_left
     ·intro w'; go_simp; with_reducible rfl
     rotate_left
     ·simp only [Act.put, List.setIfInBounds_toArray, List.set_cons_zero, List.set_cons_succ, i64_w, i32_w]; rfl
     refine pure_ (i := 10) (N := some 78) (v := ?_) (a' := ?_) (bst_lb 12 2047) rfl rfl (any_of HT_.out (by kernel_rfl)) (fun _ _ _ h => h) (Or.inl ⟨by rfl, ?_⟩) ?_ ?_; rotate_left
     ·intro w'; go_simp; with_reducible rfl
     rotate_left
     ·simp only [Act.put, List.setIfInBounds_toArray, List.set_cons_zero, List.set_cons_succ, i64_w, i32_w]; rfl
     refine pure_ (i := 11) (N := some 79) (v := ?_) (a' := ?_) (bst_lb 12 4095) rfl rfl (any_of HT_.out (by kernel_rfl)) (fun _ _ _ h => h) (Or.inl ⟨by rfl, ?_⟩) ?_ ?_; rotate_left
     ·intro w'; go_simp; with_reducible rfl
     rotate_left
     ·simp only [Act.put, List.setIfInBounds_toArray, List.set_cons_zero, List.set_cons_succ, i64_w, i32_w]; rfl
     refine done_ (done_of HT_.out (by kernel_rfl)) ?_
     go_wp2
     go_roundg (b.ops.length - (i + 1))
     case measure => have := HLTI.out; have := HK.out; omega
     case rel =>
      have hlt := HLTI.out
      have hle := HSM.out
      exact ⟨i + 1, by first | rw [show wrap64 ((i : Int) + 1) = ((i + 1 : Nat) : Int) from by unfold wrap64; omega] | rfl | (congr 1; omega), ⟨by omega⟩, ⟨by omega⟩, HA, HRR, B9, HB⟩
    ·have hj : i = b.ops.length := by have := HJ.out; omega
     subst hj
     have hnlt : ¬ ((b.ops.length : Int) < (b.ops.length : Int)) := by omega
     have c9_8 : wr.cell? ⟨g9, 8, none⟩ = some (.slice r.a8 b.ops.length r.c8) := (blk_cell B9.out 8).trans rfl
     go_wp2
     clear c9_8
     go_loopg [15] b.nodes.length (fun kq v15 wr => ∃ (i : Nat), v15 = .int .i64 i ∧ Aside0 (i ≤ b.nodes.length) ∧ Aside0 (b.nodes.length - i ≤ kq) ∧ Aside0 (BookAt wr p gt go gn b2) ∧ Aside0 (RAt wr b r) ∧ Aside0 (wr.heap[g9]? = some (.cells #[.int .i64 b.c.f0, .int .i64 b.c.f1, .int .i64 b.c.f2, .int .i64 b.c.f3, .int .i64 b.c.f4, .slice r.a5 b.calls.length r.c5, .slice r.a6 b.ins.length r.c6, .slice r.a7 b.made.length r.c7, .slice r.a8 b.ops.length r.c8, .slice r.a9 b.nodes.length r.c9] 32 (0, 0))) ∧ Aside0 (Below w.heap.size w wr))
     case atStart => exact ⟨0, rfl, ⟨Nat.zero_le _⟩, ⟨by omega⟩, HA, HRR, B9, HB⟩
     case round =>
      clear HB HA B9 HRR HJ HK
      obtain ⟨i, rfl, HJ, HK, HA, HRR, B9, HB⟩ := hrel
      by_cases hlt : i < b.nodes.length
      ·have hltb : (i : Int) < (b.nodes.length : Int) := by omega
       have HLTI := Aside0.mk hlt
       obtain ⟨ad, e4, hW0, hW1⟩ := at_T62 HRR.out.h9 (i : Int) (by omega) (by omega)
       have HY := Aside0.mk (show rd_T62 b.nodes (i : Int) ∈ b.nodes from by unfold rd_T62; simp [List.getD, hlt])
       simp only [Int.toNat_natCast] at hW0 hW1
       generalize hyy : rd_T62 b.nodes (i : Int) = y at hW0 hW1 HY
       clear hyy
       have HAD := Aside0.mk e4
       clear e4
       have F1 := Aside0.mk (show ∀ W : World, BookAt W p gt go gn b2 → Calls Try.prog 15 #[.pointer (some ⟨p, 0, none⟩), .int .i64 y.f0] W (fun e w' => e = .returned (.int .i64 y.f1) ∧ Below W.heap.size W w') from fun W h => by
        have h2 := bk_Carried p gt go gn b2 y.f0 (HI.out.ndWf HY.out) W h
        rw [ndOf_f HI2.out, HI2.out.ndAt (HGO.out.2 y HY.out)] at h2
        exact h2.mono (fun e w' h => wkB h))
       have c9_9 : wr.cell? ⟨g9, 9, none⟩ = some (.slice (some ad) b.nodes.length r.c9) := by rw [← HAD.out]; exact (blk_cell B9.out 9).trans rfl
       go_upto_region 18 with fail
       clear c9_9
       have n_HA := Aside0.mk (HA.out.drew)
       have n_HRR := Aside0.mk (HRR.out.drew)
       have n_B9 := Aside0.mk (blk_drew B9.out)
       have n_HB := Aside0.mk (below_drew1 HB.out)
       clear HA HRR B9 HB
       have HA := n_HA
       have HRR := n_HRR
       have B9 := n_B9
       have HB := n_HB
       clear n_HA n_HRR n_B9 n_HB
       refine start_ (n := 15) (S := fun w' => w'.cell? ⟨g9, 9, none⟩ = some (.slice (some ad) b.nodes.length r.c9) ∧ w'.cell? (ad.add (i * 2)) = some (.int .i64 y.f0) ∧ w'.cell? ⟨(ad.add (i * 2)).block, (ad.add (i * 2)).off + 1, none⟩ = some (.int .i64 y.f1)) (ds := []) #[false, false, false, false, false, false, false, false, false, false, false, false, false, false, false] (by kernel_rfl) rfl rfl ⟨(by rw [← HAD.out]; exact (blk_cell B9.out 9).trans rfl), hW0, hW1⟩ (fun hHeld => ?_); refine with_tabW corrielaw07_BookStays.tab18 corrielaw07_BookStays.bits18 (fun HT_ HW_ => ?_)
       generalize wr.drew = W1 at HA HRR B9 HB hHeld ⊢
       refine pure_ (i := 0) (N := some 87) (v := ?_) (a' := ?_) (bst_lb 15 1) rfl rfl (any_of HT_.out (by kernel_rfl)) (fun _ _ _ h => h) (Or.inl ⟨by rfl, ?_⟩) ?_ ?_; rotate_left
       ·intro w'; go_simp; with_reducible rfl
       rotate_left
       ·simp only [Act.put, List.setIfInBounds_toArray, List.set_cons_zero, List.set_cons_succ, i64_w, i32_w]; rfl
       refine pure_ (i := 1) (N := some 88) (v := ?_) (a' := ?_) (bst_lb 15 3) rfl rfl (any_of HT_.out (by kernel_rfl)) (fun _ _ _ h => h) (Or.inl ⟨by rfl, ?_⟩) ?_ ?_; rotate_left
       ·intro w'; go_simp; with_reducible rfl
       rotate_left
       ·simp only [Act.put, List.setIfInBounds_toArray, List.set_cons_zero, List.set_cons_succ, i64_w, i32_w]; rfl
       refine pure_ (i := 3) (N := some 90) (v := ?_) (a' := ?_) (bst_lb 15 11) rfl rfl (any_of HT_.out (by kernel_rfl)) (fun _ _ _ h => h) (Or.inl ⟨by rfl, ?_⟩) ?_ ?_; rotate_left
       ·intro w'; go_simp; with_reducible rfl
       rotate_left
       ·simp only [Act.put, List.setIfInBounds_toArray, List.set_cons_zero, List.set_cons_succ, i64_w, i32_w]; rfl
       refine pure_ (i := 8) (N := some 95) (v := ?_) (a' := ?_) (bst_lb 15 267) rfl rfl (any_of HT_.out (by kernel_rfl)) (fun _ _ _ h => h) (Or.inl ⟨by rfl, ?_⟩) ?_ ?_; rotate_left
       ·intro w'; go_simp; with_reducible rfl
       rotate_left
       ·simp only [Act.put, List.setIfInBounds_toArray, List.set_cons_zero, List.set_cons_succ, i64_w, i32_w]; rfl
       refine pure_ (i := 10) (N := some 97) (v := ?_) (a' := ?_) (bst_lb 15 1291) rfl rfl (any_of HT_.out (by kernel_rfl)) (fun _ _ _ h => h) (Or.inl ⟨by rfl, ?_⟩) ?_ ?_; rotate_left
       ·intro w'; go_simp; with_reducible rfl
       rotate_left
       ·simp only [Act.put, List.setIfInBounds_toArray, List.set_cons_zero, List.set_cons_succ, i64_w, i32_w]; rfl
       refine take_ (i := 2) (N := some 89) (v := ?_) (a' := ?_) (bst_lb 15 1295) rfl rfl (take_ofW HT_.out HW_.out (by kernel_rfl)) (fun _ _ _ h => h) (Or.inl ⟨by rfl, ?_⟩) hHeld ?_ ?_; rotate_left
       ·rintro w' ⟨s0, s1, s2⟩; go_simp; with_reducible rfl
       rotate_left
       ·simp only [Act.put, List.setIfInBounds_toArray, List.set_cons_zero, List.set_cons_succ, i64_w, i32_w]; rfl
       refine pure_ (i := 4) (N := some 91) (v := ?_) (a' := ?_) (bst_lb 15 1311) rfl rfl (any_of HT_.out (by kernel_rfl)) (fun _ _ _ h => h) (Or.inl ⟨by rfl, ?_⟩) ?_ ?_; rotate_left
       ·intro w'; go_simp; with_reducible rfl
       rotate_left
       ·simp only [Act.put, List.setIfInBounds_toArray, List.set_cons_zero, List.set_cons_succ, i64_w, i32_w]; rfl
       refine pure_ (i := 5) (N := some 92) (v := ?_) (a' := ?_) (bst_lb 15 1343) rfl rfl (any_of HT_.out (by kernel_rfl)) (fun _ _ _ h => h) (Or.inl ⟨by rfl, ?_⟩) ?_ ?_; rotate_left
       ·intro w'; go_simp; with_reducible rfl
       rotate_left
       ·simp only [Act.put, List.setIfInBounds_toArray, List.set_cons_zero, List.set_cons_succ, i64_w, i32_w]; rfl
       refine take_ (i := 6) (N := some 93) (v := ?_) (a' := ?_) (bst_lb 15 1407) rfl rfl (take_ofW HT_.out HW_.out (by kernel_rfl)) (fun _ _ _ h => h) (Or.inl ⟨by rfl, ?_⟩) hHeld ?_ ?_; rotate_left
       ·rintro w' ⟨s0, s1, s2⟩; go_simp; with_reducible rfl
       rotate_left
       ·simp only [Act.put, List.setIfInBounds_toArray, List.set_cons_zero, List.set_cons_succ, i64_w, i32_w]; rfl
       refine take_ (i := 9) (N := some 96) (v := ?_) (a' := ?_) (bst_lb 15 1919) rfl rfl (take_ofW HT_.out HW_.out (by kernel_rfl)) (fun _ _ _ h => h) (Or.inl ⟨by rfl, ?_⟩) hHeld ?_ ?_; rotate_left
       ·rintro w' ⟨s0, s1, s2⟩; go_simp; with_reducible rfl
       rotate_left
       ·simp only [Act.put, List.setIfInBounds_toArray, List.set_cons_zero, List.set_cons_succ, i64_w, i32_w]; rfl
       refine pure_ (i := 11) (N := some 98) (v := ?_) (a' := ?_) (bst_lb 15 3967) rfl rfl (any_of HT_.out (by kernel_rfl)) (fun _ _ _ h => h) (Or.inl ⟨by rfl, ?_⟩) ?_ ?_; rotate_left
       ·intro w'; go_simp; with_reducible rfl
       rotate_left
       ·simp only [Act.put, List.setIfInBounds_toArray, List.set_cons_zero, List.set_cons_succ, i64_w, i32_w]; rfl
       refine pure_ (i := 12) (N := some 99) (v := ?_) (a' := ?_) (bst_lb 15 8063) rfl rfl (any_of HT_.out (by kernel_rfl)) (fun _ _ _ h => h) (Or.inl ⟨by rfl, ?_⟩) ?_ ?_; rotate_left
       ·intro w'; go_simp; with_reducible rfl
       rotate_left
       ·simp only [Act.put, List.setIfInBounds_toArray, List.set_cons_zero, List.set_cons_succ, i64_w, i32_w]; rfl
       refine take_ (i := 13) (N := some 100) (v := ?_) (a' := ?_) (bst_lb 15 16255) rfl rfl (take_ofW HT_.out HW_.out (by kernel_rfl)) (fun _ _ _ h => h) (Or.inl ⟨by rfl, ?_⟩) hHeld ?_ ?_; rotate_left
       ·rintro w' ⟨s0, s1, s2⟩; go_simp; with_reducible rfl
       rotate_left
       ·simp only [Act.put, List.setIfInBounds_toArray, List.set_cons_zero, List.set_cons_succ, i64_w, i32_w]; rfl
       refine one_ (i := 7) (N := some 94) (bst_lb 15 16383) rfl rfl (one_of HT_.out (by kernel_rfl)) (by decide) (fun K hK => ?_)
       refine goes_ Try.func15 (by kernel_rfl) rfl #[.pointer (some ⟨p, 0, none⟩), .int .i64 y.f0] (by rfl) rfl rfl (by (try simp only [List.map_toArray, List.map_cons, List.map_nil]); first | done | rfl) ?_
       with_reducible refine (F1.out _ HA.out).mono ?_
       rintro e u1 ⟨rfl, hbk⟩
       refine ⟨_, rfl, ?_⟩
       have n1_ := pw_cell_below hbk hHeld.2.1
       have n2_ := pw_cell_below hbk hHeld.2.2
       have n_HA := Aside0.mk (HA.out.below hbk)
       have n_HRR := Aside0.mk (HRR.out.below hbk)
       have n_B9 := Aside0.mk (blk_below B9.out hbk)
       have n_HB := Aside0.mk (below_step HB.out hbk)
       clear HA HRR B9 HB hbk
       have HA := n_HA
       have HRR := n_HRR
       have B9 := n_B9
       have HB := n_HB
       clear n_HA n_HRR n_B9 n_HB
       refine hK.out _ _ ⟨(by rw [← HAD.out]; exact (blk_cell B9.out 9).trans rfl), n1_, n2_⟩ (fun hHeld => ?_)
       clear hK K
       refine norm_ (a' := ?_) ?_ ?_
       rotate_left
       ·show Act.put _ (some 94) _ = _
        simp only [Act.put, List.setIfInBounds_toArray, List.set_cons_zero, List.set_cons_succ, i64_w, i32_w]
        rfl
       refine pure_ (i := 14) (N := some 101) (v := ?_) (a' := ?_) (bst_lb 15 32767) rfl rfl (any_of HT_.out (by kernel_rfl)) (fun _ _ _ h => h) (Or.inl ⟨by rfl, ?_⟩) ?_ ?_; rotate_left
       ·intro w'; go_simp; with_reducible rfl
       rotate_left
       ·simp only [Act.put, List.setIfInBounds_toArray, List.set_cons_zero, List.set_cons_succ, i64_w, i32_w]; rfl
       refine done_ (done_of HT_.out (by kernel_rfl)) ?_
       go_wp2
       go_roundg (b.nodes.length - (i + 1))
       case measure => have := HLTI.out; have := HK.out; omega
       case rel =>
        have hlt := HLTI.out
        have hle := HSM.out
        exact ⟨i + 1, by first | rw [show wrap64 ((i : Int) + 1) = ((i + 1 : Nat) : Int) from by unfold wrap64; omega] | rfl | (congr 1; omega), ⟨by omega⟩, ⟨by omega⟩, HA, HRR, B9, HB⟩
      ·have hj : i = b.nodes.length := by have := HJ.out; omega
       subst hj
       have hnlt : ¬ ((b.nodes.length : Int) < (b.nodes.length : Int)) := by omega
       have c9_9 : wr.cell? ⟨g9, 9, none⟩ = some (.slice r.a9 b.nodes.length r.c9) := (blk_cell B9.out 9).trans rfl
       go_wp2
       go_ret
       exact ⟨by first | rfl | (simp [*]; done), HB.out⟩


end Go.Proofs.Ytpcmoclohepdiaf.PBookStays
