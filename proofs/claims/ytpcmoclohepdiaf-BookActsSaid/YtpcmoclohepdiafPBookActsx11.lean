-- Written by a program of this session: a variant of the print that takes proofs by hand (wip/tools/mkprint.py)
import Derived.Test.YtpcmoclohepdiafPBookActsx0
import Derived.Test.YtpcmoclohepdiafPBookActsx4
import Derived.Test.YtpcmoclohepdiafPBookActsx5
import Derived.Test.YtpcmoclohepdiafPBookActsx6
import Derived.Test.YtpcmoclohepdiafPBookActsx7
import Derived.Test.YtpcmoclohepdiafPBookActsx9
import Derived.Test.YtpcmoclohepdiafPBookActsx10
namespace Go.Proofs.Ytpcmoclohepdiaf.PBookActs
open Go.RowKit Go.Proofs.YtpcmoclohepdiafW.PrintWords Go.Proofs.YtpcmoclohepdiafW.PrintLast
set_option linter.unusedVariables false
set_option linter.unusedSimpArgs false

/-! ### corrielaw07_BookActs: function 3 (by hand) -/
theorem rnodes_eq (k : Nat) (t b i f c : Int) : corrieref04_Nodes.f (k + 1) t b i f c = some (if Ok t b i f c then 1 + b + 2 * (t * c) else 0) := by
 unfold corrieref04_Nodes.f
 rw [rmay_eq]
 simp only [Option.bind_some]
 by_cases h : Ok t b i f c
 ·simp only [if_pos h]
  have hm := mul_le h.1.1 h.1.2 h.2.2.2.2.1 h.2.2.2.2.2
  have hb := isPow_le h.2.1
  have e : 2 * t * c = 2 * (t * c) := Int.mul_assoc 2 t c
  have ht := h.1
  rw [if_pos trivial, wrap64_eq (n := 1 + b) (by omega) (by omega), wrap64_eq (n := 2 * t) (by omega) (by omega), e, wrap64_eq (n := 2 * (t * c)) (by omega) (by omega), wrap64_eq (by omega) (by omega)]
 ·simp only [if_neg h]
  rw [if_neg (by decide)]
theorem carried_ev (c : S23) (l5 l6 l7 : List Int) (l8 : List S60) (l : List S62) (n : Int) (hl : l.length ≤ 1000000) : ∀ (d i k : Nat), l.length - i = d → i ≤ l.length → d < k →
  corrieref07_Carried.l0 k n (i : Int) c.f0 c.f1 c.f2 c.f3 c.f4 l5 l6 l7 l8 l = some (ndR (fNd (l.drop i) n)) := by
 intro d
 induction d with
 | zero =>
  intro i k hd hi hk
  obtain ⟨k, rfl⟩ : ∃ q, k = q + 1 := ⟨k - 1, by omega⟩
  simp only [corrieref07_Carried.l0]
  rw [if_neg (by omega), List.drop_eq_nil_of_le (by omega)]
  rfl
 | succ d ih =>
  intro i k hd hi hk
  obtain ⟨k, rfl⟩ : ∃ q, k = q + 1 := ⟨k - 1, by omega⟩
  simp only [corrieref07_Carried.l0]
  rw [if_pos (by omega), if_pos (by omega), rdN l i (by omega), cast1 i (by omega), List.drop_eq_getElem_cons (show i < l.length by omega)]
  by_cases e : (l[i]'(by omega)).f0 = n
  ·rw [if_pos e]
   unfold fNd
   rw [List.find?_cons, show ((l[i]'(by omega)).f0 == n) = true from beq_iff_eq.2 e]
   rfl
  ·rw [if_neg e, ih (i + 1) k (by omega) (by omega) (by omega)]
   unfold fNd
   rw [List.find?_cons, show ((l[i]'(by omega)).f0 == n) = false from beq_eq_false_iff_ne.2 e]
theorem r_Call (b : RB) (r : RA) (n : Int) (hl : b.ops.length ≤ 1000000) (W : World) (h : RAt W b r) :
  Calls Try.prog 13 #[.agg #[.int .i64 b.c.f0, .int .i64 b.c.f1, .int .i64 b.c.f2, .int .i64 b.c.f3, .int .i64 b.c.f4, .slice r.a5 b.calls.length r.c5, .slice r.a6 b.ins.length r.c6, .slice r.a7 b.made.length r.c7, .slice r.a8 b.ops.length r.c8, .slice r.a9 b.nodes.length r.c9], .int .i64 n] W fun e w' => e = .returned (.tuple #[vC (opC (fOp b.ops n)), .int .i64 (opE (fOp b.ops n))]) ∧ Below W.heap.size W w' := by
 obtain ⟨j, h1, h2⟩ := find_f b.c b.calls b.ins b.made b.ops b.nodes n hl
 refine corrieref07_Call.calls (b.ops.length + 1) b.c.f0 b.c.f1 b.c.f2 b.c.f3 b.c.f4 r.a5 r.c5 b.calls r.a6 r.c6 b.ins r.a7 r.c7 b.made r.a8 r.c8 b.ops r.a9 r.c9 b.nodes n (opC (fOp b.ops n)).f0 (opC (fOp b.ops n)).f1 (opC (fOp b.ops n)).f2 (opC (fOp b.ops n)).f3 (opE (fOp b.ops n)) W h.h5 h.l5 h.h6 h.l6 h.h7 h.l7 h.h8 h.l8 h.h9 h.l9 ?_
 unfold corrieref07_Call.f
 rw [h1, Option.bind_some]
 rcases h2 with ⟨rfl, h3⟩ | ⟨q, hq, rfl, h3⟩
 ·rw [if_pos (by decide), h3]
  rfl
 ·rw [if_neg (by omega), if_pos (by omega), if_pos (by omega), h3, rdO _ q hq]
  rfl
theorem r_Carried (b : RB) (r : RA) (n : Int) (hl : b.nodes.length ≤ 1000000) (W : World) (h : RAt W b r) :
  Calls Try.prog 16 #[.agg #[.int .i64 b.c.f0, .int .i64 b.c.f1, .int .i64 b.c.f2, .int .i64 b.c.f3, .int .i64 b.c.f4, .slice r.a5 b.calls.length r.c5, .slice r.a6 b.ins.length r.c6, .slice r.a7 b.made.length r.c7, .slice r.a8 b.ops.length r.c8, .slice r.a9 b.nodes.length r.c9], .int .i64 n] W fun e w' => e = .returned (.int .i64 (ndR (fNd b.nodes n))) ∧ Below W.heap.size W w' :=
 corrieref07_Carried.calls (b.nodes.length + 1) b.c.f0 b.c.f1 b.c.f2 b.c.f3 b.c.f4 r.a5 r.c5 b.calls r.a6 r.c6 b.ins r.a7 r.c7 b.made r.a8 r.c8 b.ops r.a9 r.c9 b.nodes n (ndR (fNd b.nodes n)) W h.h5 h.l5 h.h6 h.l6 h.h7 h.l7 h.h8 h.l8 h.h9 h.l9 (carried_ev b.c b.calls b.ins b.made b.ops b.nodes n hl b.nodes.length 0 (b.nodes.length + 1) (by omega) (by omega) (by omega))
theorem r_Key (b : RB) (r : RA) (n : Int) (hl : b.ops.length ≤ 1000000) (hl2 : b.nodes.length ≤ 1000000) (W : World) (h : RAt W b r) :
  Calls Try.prog 18 #[.agg #[.int .i64 b.c.f0, .int .i64 b.c.f1, .int .i64 b.c.f2, .int .i64 b.c.f3, .int .i64 b.c.f4, .slice r.a5 b.calls.length r.c5, .slice r.a6 b.ins.length r.c6, .slice r.a7 b.made.length r.c7, .slice r.a8 b.ops.length r.c8, .slice r.a9 b.nodes.length r.c9], .int .i64 n] W fun e w' => e = .returned (.int .u64 (opC (fOp b.ops (ndR (fNd b.nodes n)))).f1) ∧ Below W.heap.size W w' := by
 refine corrieref07_Key.calls (b.ops.length + b.nodes.length + 1) b.c.f0 b.c.f1 b.c.f2 b.c.f3 b.c.f4 r.a5 r.c5 b.calls r.a6 r.c6 b.ins r.a7 r.c7 b.made r.a8 r.c8 b.ops r.a9 r.c9 b.nodes n _ W h.h5 h.l5 h.h6 h.l6 h.h7 h.l7 h.h8 h.l8 h.h9 h.l9 ?_
 unfold corrieref07_Key.f corrieref07_Carried.f
 rw [show corrieref07_Carried.l0 (b.ops.length + b.nodes.length + 1) n 0 b.c.f0 b.c.f1 b.c.f2 b.c.f3 b.c.f4 b.calls b.ins b.made b.ops b.nodes = some (ndR (fNd b.nodes n)) from carried_ev b.c b.calls b.ins b.made b.ops b.nodes n hl2 b.nodes.length 0 _ (by omega) (by omega) (by omega), Option.bind_some]
 generalize ndR (fNd b.nodes n) = m
 obtain ⟨j, h1, h2⟩ := find_ev b.c b.calls b.ins b.made b.ops b.nodes m hl b.ops.length 0 (b.ops.length + b.nodes.length + 1) (by omega) (by omega) (by omega)
 have h1' : corrieref07_find.f (b.ops.length + b.nodes.length + 1) b.c.f0 b.c.f1 b.c.f2 b.c.f3 b.c.f4 b.calls b.ins b.made b.ops b.nodes m = some j := h1
 unfold corrieref07_Call.f
 rw [h1', Option.bind_some]
 rw [List.drop_zero] at h2
 rcases h2 with ⟨rfl, h3⟩ | ⟨q, hq, rfl, h3⟩
 ·rw [if_pos (by decide), h3]
  rfl
 ·rw [if_neg (by omega), if_pos (by omega), if_pos (by omega), h3, rdO _ q hq]
  rfl
theorem r_Counts (b : RB) (r : RA) (n : Int) (hm : b.made.length = b.calls.length) (W : World) (h : RAt W b r) :
  Calls Try.prog 14 #[.agg #[.int .i64 b.c.f0, .int .i64 b.c.f1, .int .i64 b.c.f2, .int .i64 b.c.f3, .int .i64 b.c.f4, .slice r.a5 b.calls.length r.c5, .slice r.a6 b.ins.length r.c6, .slice r.a7 b.made.length r.c7, .slice r.a8 b.ops.length r.c8, .slice r.a9 b.nodes.length r.c9], .int .i64 n] W fun e w' => e = .returned (.tuple #[.int .i64 (cnt b.calls n), .int .i64 (cnt b.made n)]) ∧ Below W.heap.size W w' := by
 refine corrieref07_Counts.calls b.c.f0 b.c.f1 b.c.f2 b.c.f3 b.c.f4 r.a5 r.c5 b.calls r.a6 r.c6 b.ins r.a7 r.c7 b.made r.a8 r.c8 b.ops r.a9 r.c9 b.nodes n _ _ W h.h5 h.l5 h.h6 h.l6 h.h7 h.l7 h.h8 h.l8 h.h9 h.l9 ?_
 unfold corrieref07_Counts.f corrieref07_is.f cnt
 by_cases c : 0 ≤ n ∧ n < (b.calls.length : Int)
 ·rw [if_pos (show n ≥ 0 from c.1), Option.bind_some, if_pos (by simpa using c.2), if_pos c.1, if_pos c.2, if_pos (by omega), if_pos c, if_pos (by omega)]
  rfl
 ·by_cases c0 : n ≥ 0
  ·rw [if_pos c0, Option.bind_some, if_neg (by simp; omega), if_neg c, if_neg (by omega)]
  ·rw [if_neg c0, Option.bind_some, if_neg (by simp), if_neg c, if_neg (by omega)]
def bac_lb (n m : Nat) : Array Bool := ((List.range n).map (fun i => m.testBit i)).toArray
def corrielaw07_BookActs.T11 : Bool × List (List Nat × List Nat) := (true, [([], []), ([], []), ([0, 1], [0, 1]), ([2], [2]), ([3], [3]), ([3], [3]), ([4, 5, 3], [3, 4, 5]), ([3, 6], [3, 6]), ([7, 3], [7]), ([8], [8]), ([8], [8]), ([9, 10, 8, 8], [8, 9, 10]), ([8], [8]), ([8], [8]), ([12, 13, 11, 8], [8, 12, 13]), ([11, 14, 8], [8, 11, 14]), ([8, 15], [8, 15]), ([16, 14], [16]), ([17], [17]), ([17], [17]), ([18, 19, 17, 17], [17, 18, 19]), ([17], [17]), ([17], [17]), ([21, 22, 20, 17], [17, 21, 22]), ([20, 23, 17], [17, 20, 23]), ([17, 24], [17, 24]), ([25, 23], [25]), ([26], [26]), ([26], [26]), ([27, 28, 26, 26], [26, 27, 28]), ([26], [26]), ([29, 30, 26], [26, 29, 30]), ([26, 31], [26, 31]), ([32, 29], [32]), ([33], [33]), ([33], [33]), ([34, 35, 33, 33], [33, 34, 35]), ([33], [33]), ([36, 37, 33], [33, 36, 37]), ([33, 38], [33, 38])])
def corrielaw07_BookActs.B11 : List Nat := [0, 0, 3, 7, 15, 15, 63, 127, 255, 511, 511, 2047, 511, 511, 16383, 32767, 65535, 131071, 262143, 262143, 1048575, 262143, 262143, 8388607, 16777215, 33554431, 67108863, 134217727, 134217727, 536870911, 134217727, 2147483647, 4294967295, 8589934591, 17179869183, 17179869183, 68719476735, 17179869183, 274877906943, 549755813887]
theorem corrielaw07_BookActs.tab11 : rtab .any (opsOf Try.f3 11) = corrielaw07_BookActs.T11 := by kernel_rfl
theorem corrielaw07_BookActs.bits11 : waitsOk corrielaw07_BookActs.T11.2 corrielaw07_BookActs.B11 = true := by kernel_rfl
def corrielaw07_BookActs.f (a0_0 a0_1 a0_2 a0_3 a0_4 : Int) (l1 : List S58) : Option Bool := if l1.all (fun a => (Lit.int .i64 a.f2).wf) = true then some true else none
attribute [local go_sem high] eqA38
set_option maxHeartbeats 8000000 in
set_option maxRecDepth 100000 in
theorem corrielaw07_BookActs.calls (a0_0 a0_1 a0_2 a0_3 a0_4 : Int) (A1 : Option Addr) (c1 : Nat) (l1 : List S58) (r : Bool) (w : World) (hr1 : Kd.C k58 w A1 l1.length l1) (hc1 : l1.length ≤ c1) (h : corrielaw07_BookActs.f a0_0 a0_1 a0_2 a0_3 a0_4 l1 = some r) :
  Calls Try.prog 3 #[.agg #[.int .i64 a0_0, .int .i64 a0_1, .int .i64 a0_2, .int .i64 a0_3, .int .i64 a0_4], .slice A1 l1.length c1] w fun e w' => e = .returned (.bool r) ∧ Below w.heap.size w w' := by
 have HR1 := Aside0.mk hr1
 clear hr1 hc1
 have HB := Aside0.mk (Below.refl w.heap.size w)
 unfold corrielaw07_BookActs.f at h
 by_cases hwf : l1.all (fun a => (Lit.int .i64 a.f2).wf) = true
 rotate_left
 ·rw [if_neg hwf] at h
  cases h
 rw [if_pos hwf] at h
 obtain rfl := Option.some.inj h
 clear h
 have HW := Aside0.mk (show ∀ a ∈ l1, (Lit.int .i64 a.f2).wf = true from by simpa [List.all_eq_true] using hwf)
 clear hwf
 by_cases hF : FewP a0_0 a0_1 a0_2 a0_3 a0_4
 rotate_left
 ·have HF := Aside0.mk (show ∀ W : World, Calls Try.prog 9 #[.agg #[.int .i64 a0_0, .int .i64 a0_1, .int .i64 a0_2, .int .i64 a0_3, .int .i64 a0_4]] W (fun e w' => e = .returned (.bool false) ∧ Below W.heap.size W w') from fun W => few_calls a0_0 a0_1 a0_2 a0_3 a0_4 false (decide_eq_false hF) W)
  clear hF
  go_enter Try.func3, Try.ntmps3
  go_wp2_with (first | ((with_reducible refine gate_dst (N := 2) rfl ?_); refine box_event ?hg (N := 2) ?hd (cs := #[.int .i64 a0_0, .int .i64 a0_1, .int .i64 a0_2, .int .i64 a0_3, .int .i64 a0_4]) (t := 23) ?hr ?_; (case hd => rfl); (case hg => rfl); (case hr => first | (go_simp; done) | (go_simp; rfl)); intro g2 hg w1 hbox hbk; have B2 := Aside0.mk hbox; have HGB2 := Aside0.mk (show w.heap.size ≤ g2 from by rw [hg]; exact HB.out.size); have n_HB := Aside0.mk (below_step HB.out hbk); clear HB; have HB := n_HB; clear n_HB; clear hbk hbox hg) | (go_at_call 8; (with_reducible refine (corrielaw07_awake.calls true _ rfl).mono ?_); rintro e w0 ⟨rfl, hbk⟩; have n_B2 := Aside0.mk (blk_below B2.out hbk); have n_HB := Aside0.mk (below_step HB.out hbk); clear B2 HB; have B2 := n_B2; have HB := n_HB; clear n_B2 n_HB; obtain ⟨c2_0, c2_1, c2_2, c2_3, c2_4⟩ := blkc5 B2.out; clear hbk) | (go_at_call 9; (with_reducible refine (HF.out _).mono ?_); rintro e wf ⟨rfl, hbk⟩; clear c2_0 c2_1 c2_2 c2_3 c2_4; have n_B2 := Aside0.mk (blk_below B2.out hbk); have n_HB := Aside0.mk (below_step HB.out hbk); clear B2 HB; have B2 := n_B2; have HB := n_HB; clear n_B2 n_HB; obtain ⟨c2_0, c2_1, c2_2, c2_3, c2_4⟩ := blkc5 B2.out; clear hbk))
  go_ret
  exact ⟨by first | rfl | (simp [*]; done), HB.out⟩
 by_cases hl : (30 : Int) < (l1.length : Int)
 ·have HF := Aside0.mk (show ∀ W : World, Calls Try.prog 9 #[.agg #[.int .i64 a0_0, .int .i64 a0_1, .int .i64 a0_2, .int .i64 a0_3, .int .i64 a0_4]] W (fun e w' => e = .returned (.bool true) ∧ Below W.heap.size W w') from fun W => few_calls a0_0 a0_1 a0_2 a0_3 a0_4 true (decide_eq_true hF) W)
  clear hF
  go_enter Try.func3, Try.ntmps3
  go_wp2_with (first | ((with_reducible refine gate_dst (N := 2) rfl ?_); refine box_event ?hg (N := 2) ?hd (cs := #[.int .i64 a0_0, .int .i64 a0_1, .int .i64 a0_2, .int .i64 a0_3, .int .i64 a0_4]) (t := 23) ?hr ?_; (case hd => rfl); (case hg => rfl); (case hr => first | (go_simp; done) | (go_simp; rfl)); intro g2 hg w1 hbox hbk; have B2 := Aside0.mk hbox; have HGB2 := Aside0.mk (show w.heap.size ≤ g2 from by rw [hg]; exact HB.out.size); have n_HB := Aside0.mk (below_step HB.out hbk); clear HB; have HB := n_HB; clear n_HB; clear hbk hbox hg) | (go_at_call 8; (with_reducible refine (corrielaw07_awake.calls true _ rfl).mono ?_); rintro e w0 ⟨rfl, hbk⟩; have n_B2 := Aside0.mk (blk_below B2.out hbk); have n_HB := Aside0.mk (below_step HB.out hbk); clear B2 HB; have B2 := n_B2; have HB := n_HB; clear n_B2 n_HB; obtain ⟨c2_0, c2_1, c2_2, c2_3, c2_4⟩ := blkc5 B2.out; clear hbk) | (go_at_call 9; (with_reducible refine (HF.out _).mono ?_); rintro e wf ⟨rfl, hbk⟩; clear c2_0 c2_1 c2_2 c2_3 c2_4; have n_B2 := Aside0.mk (blk_below B2.out hbk); have n_HB := Aside0.mk (below_step HB.out hbk); clear B2 HB; have B2 := n_B2; have HB := n_HB; clear n_B2 n_HB; obtain ⟨c2_0, c2_1, c2_2, c2_3, c2_4⟩ := blkc5 B2.out; clear hbk))
  go_ret
  exact ⟨by first | rfl | (simp [*]; done), HB.out⟩
 have HF := Aside0.mk (show ∀ W : World, Calls Try.prog 9 #[.agg #[.int .i64 a0_0, .int .i64 a0_1, .int .i64 a0_2, .int .i64 a0_3, .int .i64 a0_4]] W (fun e w' => e = .returned (.bool true) ∧ Below W.heap.size W w') from fun W => few_calls a0_0 a0_1 a0_2 a0_3 a0_4 true (decide_eq_true hF) W)
 have HL := Aside0.mk (show l1.length ≤ 30 from by omega)
 have hO := hF.1
 clear hF
 obtain ⟨b, hb⟩ : ∃ b, bRun (newRB ⟨a0_0, a0_1, a0_2, a0_3, a0_4⟩) l1 = b := ⟨_, rfl⟩
 have HI := Aside0.mk (show Inv b from by rw [← hb]; exact (Inv.new ⟨a0_0, a0_1, a0_2, a0_3, a0_4⟩ hO).run l1)
 have HBC := Aside0.mk (show b.c = ⟨a0_0, a0_1, a0_2, a0_3, a0_4⟩ from by rw [← hb, bRun_c]; rfl)
 have HRun := Aside0.mk (show ∀ W : World, Kd.C k58 W A1 l1.length l1 → Calls Try.prog 10 #[.agg #[.int .i64 a0_0, .int .i64 a0_1, .int .i64 a0_2, .int .i64 a0_3, .int .i64 a0_4], .slice A1 l1.length c1] W (fun e w' => ∃ (p gt go gn : Nat) (r : RA), e = .returned (.tuple #[.pointer (some ⟨p, 0, none⟩), rv b r, .bool true]) ∧ BookAt w' p gt go gn b ∧ RAt w' b r ∧ (W.heap.size ≤ p ∧ W.heap.size ≤ gt ∧ W.heap.size ≤ go ∧ W.heap.size ≤ gn) ∧ Below W.heap.size W w') from fun W hk => by rw [← hb]; exact p_run ⟨a0_0, a0_1, a0_2, a0_3, a0_4⟩ hO A1 c1 l1 HW.out HL.out W hk)
 unfold rv at HRun
 obtain ⟨n, hn⟩ : ∃ n : Nat, (n : Int) = 1 + a0_1 + 2 * (a0_0 * a0_4) + 2 := ⟨(1 + a0_1 + 2 * (a0_0 * a0_4) + 2).toNat, by have := bnds hO; omega⟩
 have HNB := Aside0.mk (show 2 ≤ n ∧ n ≤ 5000 from by have := bnds hO; omega)
 have HN := Aside0.mk (show ∀ W : World, Calls Try.prog 11 #[.agg #[.int .i64 a0_0, .int .i64 a0_1, .int .i64 a0_2, .int .i64 a0_3, .int .i64 a0_4]] W (fun e w' => e = .returned (.int .i64 ((n : Int) - 2)) ∧ Below W.heap.size W w') from fun W => corrieref04_Nodes.calls 1 a0_0 a0_1 a0_2 a0_3 a0_4 _ W (by rw [rnodes_eq 0, if_pos hO, show (n : Int) - 2 = 1 + a0_1 + 2 * (a0_0 * a0_4) from by omega]))
 clear hb hO hn
 go_enter Try.func3, Try.ntmps3
 go_wp2_with (first | ((with_reducible refine gate_dst (N := 2) rfl ?_); refine box_event ?hg (N := 2) ?hd (cs := #[.int .i64 a0_0, .int .i64 a0_1, .int .i64 a0_2, .int .i64 a0_3, .int .i64 a0_4]) (t := 23) ?hr ?_; (case hd => rfl); (case hg => rfl); (case hr => first | (go_simp; done) | (go_simp; rfl)); intro g2 hg w1 hbox hbk; have B2 := Aside0.mk hbox; have HGB2 := Aside0.mk (show w.heap.size ≤ g2 from by rw [hg]; exact HB.out.size); have n_HB := Aside0.mk (below_step HB.out hbk); clear HB; have HB := n_HB; clear n_HB; clear hbk hbox hg) | (go_at_call 8; (with_reducible refine (corrielaw07_awake.calls true _ rfl).mono ?_); rintro e w0 ⟨rfl, hbk⟩; have n_B2 := Aside0.mk (blk_below B2.out hbk); have n_HB := Aside0.mk (below_step HB.out hbk); clear B2 HB; have B2 := n_B2; have HB := n_HB; clear n_B2 n_HB; obtain ⟨c2_0, c2_1, c2_2, c2_3, c2_4⟩ := blkc5 B2.out; clear hbk) | (go_at_call 9; (with_reducible refine (HF.out _).mono ?_); rintro e wf ⟨rfl, hbk⟩; clear c2_0 c2_1 c2_2 c2_3 c2_4; have n_B2 := Aside0.mk (blk_below B2.out hbk); have n_HB := Aside0.mk (below_step HB.out hbk); clear B2 HB; have B2 := n_B2; have HB := n_HB; clear n_B2 n_HB; obtain ⟨c2_0, c2_1, c2_2, c2_3, c2_4⟩ := blkc5 B2.out; clear hbk) | (go_at_call 10; (with_reducible refine (HRun.out _ (Kd.C_below HR1.out HB.out)).mono ?_); rintro e w4 ⟨p, gt, go, gn, r, rfl, hA, hR, hg, hbk⟩; clear c2_0 c2_1 c2_2 c2_3 c2_4; have n_B2 := Aside0.mk (blk_below B2.out hbk); have n_HB := Aside0.mk (below_step HB.out hbk); clear B2 HB; have B2 := n_B2; have HB := n_HB; clear n_B2 n_HB; have HA := Aside0.mk hA; have HRR := Aside0.mk hR; clear hbk hA hR hg) | ((with_reducible refine gate_dst (N := 7) rfl ?_); refine box_event ?hg (N := 7) ?hd (cs := #[.int .i64 0, .int .i64 0, .int .i64 0, .int .i64 0, .int .i64 0, .slice none 0 0, .slice none 0 0, .slice none 0 0, .slice none 0 0, .slice none 0 0]) (t := 32) ?hr ?_; (case hd => rfl); (case hg => rfl); (case hr => first | (go_simp; done) | (go_simp; rfl)); intro g7 hg w7 hbox hbk; have B7 := Aside0.mk hbox; have HD := Aside0.mk (show (p ≠ g7 ∧ gt ≠ g7 ∧ go ≠ g7 ∧ gn ≠ g7) ∧ g2 ≠ g7 from by have := HA.out.lt; have := blk_lt B2.out; omega); have HGB7 := Aside0.mk (show w.heap.size ≤ g7 from by rw [hg]; exact HB.out.size); have n_HA := Aside0.mk (HA.out.below hbk); have n_HRR := Aside0.mk (HRR.out.below hbk); have n_B2 := Aside0.mk (blk_below B2.out hbk); have n_HB := Aside0.mk (below_step HB.out hbk); clear HA HRR B2 HB; have HA := n_HA; have HRR := n_HRR; have B2 := n_B2; have HB := n_HB; clear n_HA n_HRR n_B2 n_HB; obtain ⟨c7_0, c7_1, c7_2, c7_3, c7_4, c7_5, c7_6, c7_7, c7_8, c7_9⟩ := blkc10 B7.out; obtain ⟨fc7_0, fc7_1, fc7_2, fc7_3, fc7_4, fc7_5, fc7_6, fc7_7, fc7_8, fc7_9⟩ := blkf10 B7.out; clear hbk hbox hg))
 go_loopg [9] n (fun kq v9 wr => ∃ (i : Int), v9 = .int .i64 i ∧ Aside0 (-1 ≤ i ∧ i + 1 ≤ (n : Int)) ∧ Aside0 (n - (i + 1).toNat ≤ kq) ∧ Aside0 (BookAt wr p gt go gn b) ∧ Aside0 (RAt wr b r) ∧ Aside0 (wr.heap[g2]? = some (.cells #[.int .i64 a0_0, .int .i64 a0_1, .int .i64 a0_2, .int .i64 a0_3, .int .i64 a0_4] 23 (0, 0))) ∧ Aside0 (wr.heap[g7]? = some (.cells #[.int .i64 b.c.f0, .int .i64 b.c.f1, .int .i64 b.c.f2, .int .i64 b.c.f3, .int .i64 b.c.f4, .slice r.a5 b.calls.length r.c5, .slice r.a6 b.ins.length r.c6, .slice r.a7 b.made.length r.c7, .slice r.a8 b.ops.length r.c8, .slice r.a9 b.nodes.length r.c9] 32 (0, 0))) ∧ Aside0 (Below w.heap.size w wr))
 case atStart => exact ⟨-1, rfl, ⟨by have := HNB.out; omega⟩, ⟨by omega⟩, ⟨HA.out.far (grown10 _ _) HD.out.1⟩, ⟨HRR.out.set10 B7.out⟩, ⟨blk_grown B2.out (grown10 _ _) HD.out.2⟩, ⟨put10 B7.out⟩, ⟨bel10 HB.out HGB7.out⟩⟩
 case round =>
  clear HB HA B2 B7 HRR
  obtain ⟨i, rfl, HJ, HK, HA, HRR, B2, B7, HB⟩ := hrel
  obtain ⟨c2_0, c2_1, c2_2, c2_3, c2_4⟩ := blkc5 B2.out
  by_cases hlt : i ≤ (n : Int) - 2
  rotate_left
  ·go_wp2_with (first | (go_at_call 11; (with_reducible refine (HN.out _).mono ?_); rintro e w8 ⟨rfl, hbk⟩; clear c2_0 c2_1 c2_2 c2_3 c2_4; have n_HA := Aside0.mk (HA.out.below hbk); have n_HRR := Aside0.mk (HRR.out.below hbk); have n_B2 := Aside0.mk (blk_below B2.out hbk); have n_B7 := Aside0.mk (blk_below B7.out hbk); have n_HB := Aside0.mk (below_step HB.out hbk); clear HA HRR B2 B7 HB; have HA := n_HA; have HRR := n_HRR; have B2 := n_B2; have B7 := n_B7; have HB := n_HB; clear n_HA n_HRR n_B2 n_B7 n_HB; clear hbk))
   go_ret
   exact ⟨by first | rfl | (simp [*]; done), HB.out⟩
  ·have HLT := Aside0.mk hlt
   have hwi : (Lit.int .i64 i).wf = true := wf_i64 (by have := HJ.out; omega) (by have := HJ.out; have := HNB.out; omega)
   have F1 := Aside0.mk (show ∀ W : World, BookAt W p gt go gn b → Calls Try.prog 12 #[.pointer (some ⟨p, 0, none⟩), .int .i64 i] W (fun e w' => e = .returned (.tuple #[.agg #[.int .i64 (opC (fOp b.ops i)).f0, .int .u64 (opC (fOp b.ops i)).f1, .int .u64 (opC (fOp b.ops i)).f2, .int .i64 (opC (fOp b.ops i)).f3], .int .i64 (opE (fOp b.ops i))]) ∧ Below W.heap.size W w') from fun W h => by have h2 := bk_Call p gt go gn b i hwi W h; rw [opOf_f HI.out] at h2; exact h2)
   have F2 := Aside0.mk (show ∀ W : World, RAt W b r → Calls Try.prog 13 #[.agg #[.int .i64 b.c.f0, .int .i64 b.c.f1, .int .i64 b.c.f2, .int .i64 b.c.f3, .int .i64 b.c.f4, .slice r.a5 b.calls.length r.c5, .slice r.a6 b.ins.length r.c6, .slice r.a7 b.made.length r.c7, .slice r.a8 b.ops.length r.c8, .slice r.a9 b.nodes.length r.c9], .int .i64 i] W (fun e w' => e = .returned (.tuple #[.agg #[.int .i64 (opC (fOp b.ops i)).f0, .int .u64 (opC (fOp b.ops i)).f1, .int .u64 (opC (fOp b.ops i)).f2, .int .i64 (opC (fOp b.ops i)).f3], .int .i64 (opE (fOp b.ops i))]) ∧ Below W.heap.size W w') from fun W h => r_Call b r i (by have := HI.out.small; omega) W h)
   have F3 := Aside0.mk (show ∀ W : World, RAt W b r → Calls Try.prog 14 #[.agg #[.int .i64 b.c.f0, .int .i64 b.c.f1, .int .i64 b.c.f2, .int .i64 b.c.f3, .int .i64 b.c.f4, .slice r.a5 b.calls.length r.c5, .slice r.a6 b.ins.length r.c6, .slice r.a7 b.made.length r.c7, .slice r.a8 b.ops.length r.c8, .slice r.a9 b.nodes.length r.c9], .int .i64 i] W (fun e w' => e = .returned (.tuple #[.int .i64 (cnt b.calls i), .int .i64 (cnt b.made i)]) ∧ Below W.heap.size W w') from fun W h => r_Counts b r i HI.out.lm W h)
   have F4 := Aside0.mk (show ∀ W : World, BookAt W p gt go gn b → Calls Try.prog 15 #[.pointer (some ⟨p, 0, none⟩), .int .i64 i] W (fun e w' => e = .returned (.int .i64 (ndR (fNd b.nodes i))) ∧ Below W.heap.size W w') from fun W h => by have h2 := bk_Carried p gt go gn b i hwi W h; rw [ndOf_f HI.out] at h2; exact h2.mono (fun e w' h => wkB h))
   have F5 := Aside0.mk (show ∀ W : World, RAt W b r → Calls Try.prog 16 #[.agg #[.int .i64 b.c.f0, .int .i64 b.c.f1, .int .i64 b.c.f2, .int .i64 b.c.f3, .int .i64 b.c.f4, .slice r.a5 b.calls.length r.c5, .slice r.a6 b.ins.length r.c6, .slice r.a7 b.made.length r.c7, .slice r.a8 b.ops.length r.c8, .slice r.a9 b.nodes.length r.c9], .int .i64 i] W (fun e w' => e = .returned (.int .i64 (ndR (fNd b.nodes i))) ∧ Below W.heap.size W w') from fun W h => r_Carried b r i (by have := HI.out.small; omega) W h)
   have F6 := Aside0.mk (show ∀ W : World, BookAt W p gt go gn b → Calls Try.prog 17 #[.pointer (some ⟨p, 0, none⟩), .int .i64 i] W (fun e w' => e = .returned (.int .u64 ((opC (fOp b.ops (ndR (fNd b.nodes i)))).f1)) ∧ Below W.heap.size W w') from fun W h => by have h2 := bk_Key p gt go gn b i hwi (by rw [ndOf_f HI.out]; exact wf_i64 (by have := HI.out.ndwf i; omega) (by have := HI.out.ndwf i; omega)) W h; rw [ndOf_f HI.out, opOf_f HI.out] at h2; exact h2)
   have F7 := Aside0.mk (show ∀ W : World, RAt W b r → Calls Try.prog 18 #[.agg #[.int .i64 b.c.f0, .int .i64 b.c.f1, .int .i64 b.c.f2, .int .i64 b.c.f3, .int .i64 b.c.f4, .slice r.a5 b.calls.length r.c5, .slice r.a6 b.ins.length r.c6, .slice r.a7 b.made.length r.c7, .slice r.a8 b.ops.length r.c8, .slice r.a9 b.nodes.length r.c9], .int .i64 i] W (fun e w' => e = .returned (.int .u64 ((opC (fOp b.ops (ndR (fNd b.nodes i)))).f1)) ∧ Below W.heap.size W w') from fun W h => r_Key b r i (by have := HI.out.small; omega) (by have := HI.out.small; omega) W h)
   have F8 := Aside0.mk (show ∀ W : World, BookAt W p gt go gn b → Calls Try.prog 19 #[.pointer (some ⟨p, 0, none⟩), .int .i64 i] W (fun e w' => e = .returned (.int .i64 (cnt b.calls i)) ∧ Below W.heap.size W w') from fun W h => (bk_Calls p gt go gn b i W h).mono (fun e w' h => wkB h))
   have F9 := Aside0.mk (show ∀ W : World, BookAt W p gt go gn b → Calls Try.prog 20 #[.pointer (some ⟨p, 0, none⟩), .int .i64 i] W (fun e w' => e = .returned (.int .i64 (cnt b.made i)) ∧ Below W.heap.size W w') from fun W h => (bk_Made p gt go gn b i W h).mono (fun e w' h => wkB h))
   clear hwi
   generalize ((opC (fOp b.ops (ndR (fNd b.nodes i)))).f1) = ky at F6 F7
   generalize (ndR (fNd b.nodes i)) = nd at F4 F5
   generalize (cnt b.calls i) = n1 at F3 F8
   generalize (cnt b.made i) = n2 at F3 F9
   generalize (opE (fOp b.ops i)) = e0 at F1 F2
   generalize (opC (fOp b.ops i)).f0 = x0 at F1 F2
   generalize (opC (fOp b.ops i)).f1 = x1 at F1 F2
   generalize (opC (fOp b.ops i)).f2 = x2 at F1 F2
   generalize (opC (fOp b.ops i)).f3 = x3 at F1 F2
   go_upto_region 9 with (first | (go_at_call 11; (with_reducible refine (HN.out _).mono ?_); rintro e w8 ⟨rfl, hbk⟩; clear c2_0 c2_1 c2_2 c2_3 c2_4; have n_HA := Aside0.mk (HA.out.below hbk); have n_HRR := Aside0.mk (HRR.out.below hbk); have n_B2 := Aside0.mk (blk_below B2.out hbk); have n_B7 := Aside0.mk (blk_below B7.out hbk); have n_HB := Aside0.mk (below_step HB.out hbk); clear HA HRR B2 B7 HB; have HA := n_HA; have HRR := n_HRR; have B2 := n_B2; have B7 := n_B7; have HB := n_HB; clear n_HA n_HRR n_B2 n_B7 n_HB; clear hbk) | (go_at_call 12; (with_reducible refine (F1.out _ HA.out).mono ?_); rintro e w9 ⟨rfl, hbk⟩; have n_HA := Aside0.mk (HA.out.below hbk); have n_HRR := Aside0.mk (HRR.out.below hbk); have n_B2 := Aside0.mk (blk_below B2.out hbk); have n_B7 := Aside0.mk (blk_below B7.out hbk); have n_HB := Aside0.mk (below_step HB.out hbk); clear HA HRR B2 B7 HB; have HA := n_HA; have HRR := n_HRR; have B2 := n_B2; have B7 := n_B7; have HB := n_HB; clear n_HA n_HRR n_B2 n_B7 n_HB; clear hbk) | ((with_reducible refine gate_dst (N := 10) rfl ?_); refine box_event ?hg (N := 10) ?hd (cs := #[.int .i64 0, .int .u64 0, .int .u64 0, .int .i64 0]) (t := 38) ?hr ?_; (case hd => rfl); (case hg => rfl); (case hr => first | (go_simp; done) | (go_simp; rfl)); intro g10 hg w10 hbox hbk; have B10 := Aside0.mk hbox; have HD10 := Aside0.mk (show (p ≠ g10 ∧ gt ≠ g10 ∧ go ≠ g10 ∧ gn ≠ g10) ∧ g2 ≠ g10 ∧ g7 ≠ g10 from by have := HA.out.lt; have := blk_lt B2.out; have := blk_lt B7.out; omega); have HGB10 := Aside0.mk (show w.heap.size ≤ g10 from by rw [hg]; exact HB.out.size); have n_HA := Aside0.mk (HA.out.below hbk); have n_HRR := Aside0.mk (HRR.out.below hbk); have n_B2 := Aside0.mk (blk_below B2.out hbk); have n_B7 := Aside0.mk (blk_below B7.out hbk); have n_HB := Aside0.mk (below_step HB.out hbk); clear HA HRR B2 B7 HB; have HA := n_HA; have HRR := n_HRR; have B2 := n_B2; have B7 := n_B7; have HB := n_HB; clear n_HA n_HRR n_B2 n_B7 n_HB; obtain ⟨c10_0, c10_1, c10_2, c10_3⟩ := blkc4 B10.out; obtain ⟨fc10_0, fc10_1, fc10_2, fc10_3⟩ := blkf4 B10.out; clear hbk hbox hg))
   obtain ⟨W9, hW9⟩ : ∃ W, ((((w10.setCell ⟨g10, 0, none⟩ (.int .i64 x0)).setCell ⟨g10, 1, none⟩ (.int .u64 x1)).setCell ⟨g10, 2, none⟩ (.int .u64 x2)).setCell ⟨g10, 3, none⟩ (.int .i64 x3)) = W := ⟨_, rfl⟩
   rw [hW9]
   have n_HA := Aside0.mk (show BookAt W9 p gt go gn b from by rw [← hW9]; exact HA.out.far (grown4 _ _) HD10.out.1)
   have n_HRR := Aside0.mk (show RAt W9 b r from by rw [← hW9]; exact ⟨MR.set4 HRR.out.m5 B10.out (by decide), MR.set4 HRR.out.m6 B10.out (by decide), MR.set4 HRR.out.m7 B10.out (by decide), MR.set4 HRR.out.m8 B10.out (by decide), MR.set4 HRR.out.m9 B10.out (by decide)⟩)
   have n_B2 := Aside0.mk (show W9.heap[g2]? = some (.cells #[.int .i64 a0_0, .int .i64 a0_1, .int .i64 a0_2, .int .i64 a0_3, .int .i64 a0_4] 23 (0, 0)) from by rw [← hW9]; exact blk_grown B2.out (grown4 _ _) HD10.out.2.1)
   have n_B7 := Aside0.mk (show W9.heap[g7]? = some (.cells #[.int .i64 b.c.f0, .int .i64 b.c.f1, .int .i64 b.c.f2, .int .i64 b.c.f3, .int .i64 b.c.f4, .slice r.a5 b.calls.length r.c5, .slice r.a6 b.ins.length r.c6, .slice r.a7 b.made.length r.c7, .slice r.a8 b.ops.length r.c8, .slice r.a9 b.nodes.length r.c9] 32 (0, 0)) from by rw [← hW9]; exact blk_grown B7.out (grown4 _ _) HD10.out.2.2)
   have n_B10 := Aside0.mk (show W9.heap[g10]? = some (.cells #[.int .i64 x0, .int .u64 x1, .int .u64 x2, .int .i64 x3] 38 (0, 0)) from by rw [← hW9]; exact put4 B10.out)
   have n_HB := Aside0.mk (show Below w.heap.size w W9 from by rw [← hW9]; exact ((((HB.out.setCell (p := ⟨g10, 0, none⟩) HGB10.out _).setCell (p := ⟨g10, 1, none⟩) HGB10.out _).setCell (p := ⟨g10, 2, none⟩) HGB10.out _).setCell (p := ⟨g10, 3, none⟩) HGB10.out _))
   clear hW9 HA HRR B2 B7 B10 HB
   have HA := n_HA
   have HRR := n_HRR
   have B2 := n_B2
   have B7 := n_B7
   have B10 := n_B10
   have HB := n_HB
   clear n_HA n_HRR n_B2 n_B7 n_B10 n_HB
   clear c10_0 c10_1 c10_2 c10_3 fc10_0 fc10_1 fc10_2 fc10_3
   obtain ⟨c7_0, c7_1, c7_2, c7_3, c7_4, c7_5, c7_6, c7_7, c7_8, c7_9⟩ := blkc10 B7.out
   go_upto_region 10 with (first | (go_at_call 13; (with_reducible refine (F2.out _ HRR.out).mono ?_); rintro e w11 ⟨rfl, hbk⟩; clear c7_0 c7_1 c7_2 c7_3 c7_4 c7_5 c7_6 c7_7 c7_8 c7_9; have n_HA := Aside0.mk (HA.out.below hbk); have n_HRR := Aside0.mk (HRR.out.below hbk); have n_B2 := Aside0.mk (blk_below B2.out hbk); have n_B7 := Aside0.mk (blk_below B7.out hbk); have n_HB := Aside0.mk (below_step HB.out hbk); have n_B10 := Aside0.mk (blk_below B10.out hbk); clear HA HRR B2 B7 HB B10; have HA := n_HA; have HRR := n_HRR; have B2 := n_B2; have B7 := n_B7; have HB := n_HB; have B10 := n_B10; clear n_HA n_HRR n_B2 n_B7 n_HB n_B10; clear hbk) | ((with_reducible refine gate_dst (N := 12) rfl ?_); refine box_event ?hg (N := 12) ?hd (cs := #[.int .i64 0, .int .u64 0, .int .u64 0, .int .i64 0]) (t := 38) ?hr ?_; (case hd => rfl); (case hg => rfl); (case hr => first | (go_simp; done) | (go_simp; rfl)); intro g12 hg w12 hbox hbk; have B12 := Aside0.mk hbox; have HD12 := Aside0.mk (show (p ≠ g12 ∧ gt ≠ g12 ∧ go ≠ g12 ∧ gn ≠ g12) ∧ g2 ≠ g12 ∧ g7 ≠ g12 ∧ g10 ≠ g12 from by have := HA.out.lt; have := blk_lt B2.out; have := blk_lt B7.out; have := blk_lt B10.out; omega); have HGB12 := Aside0.mk (show w.heap.size ≤ g12 from by rw [hg]; exact HB.out.size); have n_HA := Aside0.mk (HA.out.below hbk); have n_HRR := Aside0.mk (HRR.out.below hbk); have n_B2 := Aside0.mk (blk_below B2.out hbk); have n_B7 := Aside0.mk (blk_below B7.out hbk); have n_HB := Aside0.mk (below_step HB.out hbk); have n_B10 := Aside0.mk (blk_below B10.out hbk); clear HA HRR B2 B7 HB B10; have HA := n_HA; have HRR := n_HRR; have B2 := n_B2; have B7 := n_B7; have HB := n_HB; have B10 := n_B10; clear n_HA n_HRR n_B2 n_B7 n_HB n_B10; obtain ⟨c12_0, c12_1, c12_2, c12_3⟩ := blkc4 B12.out; obtain ⟨fc12_0, fc12_1, fc12_2, fc12_3⟩ := blkf4 B12.out; clear hbk hbox hg))
   obtain ⟨W10, hW10⟩ : ∃ W, ((((w12.setCell ⟨g12, 0, none⟩ (.int .i64 x0)).setCell ⟨g12, 1, none⟩ (.int .u64 x1)).setCell ⟨g12, 2, none⟩ (.int .u64 x2)).setCell ⟨g12, 3, none⟩ (.int .i64 x3)) = W := ⟨_, rfl⟩
   rw [hW10]
   have n_HA := Aside0.mk (show BookAt W10 p gt go gn b from by rw [← hW10]; exact HA.out.far (grown4 _ _) HD12.out.1)
   have n_HRR := Aside0.mk (show RAt W10 b r from by rw [← hW10]; exact ⟨MR.set4 HRR.out.m5 B12.out (by decide), MR.set4 HRR.out.m6 B12.out (by decide), MR.set4 HRR.out.m7 B12.out (by decide), MR.set4 HRR.out.m8 B12.out (by decide), MR.set4 HRR.out.m9 B12.out (by decide)⟩)
   have n_B2 := Aside0.mk (show W10.heap[g2]? = some (.cells #[.int .i64 a0_0, .int .i64 a0_1, .int .i64 a0_2, .int .i64 a0_3, .int .i64 a0_4] 23 (0, 0)) from by rw [← hW10]; exact blk_grown B2.out (grown4 _ _) HD12.out.2.1)
   have n_B7 := Aside0.mk (show W10.heap[g7]? = some (.cells #[.int .i64 b.c.f0, .int .i64 b.c.f1, .int .i64 b.c.f2, .int .i64 b.c.f3, .int .i64 b.c.f4, .slice r.a5 b.calls.length r.c5, .slice r.a6 b.ins.length r.c6, .slice r.a7 b.made.length r.c7, .slice r.a8 b.ops.length r.c8, .slice r.a9 b.nodes.length r.c9] 32 (0, 0)) from by rw [← hW10]; exact blk_grown B7.out (grown4 _ _) HD12.out.2.2.1)
   have n_B12 := Aside0.mk (show W10.heap[g12]? = some (.cells #[.int .i64 x0, .int .u64 x1, .int .u64 x2, .int .i64 x3] 38 (0, 0)) from by rw [← hW10]; exact put4 B12.out)
   have n_HB := Aside0.mk (show Below w.heap.size w W10 from by rw [← hW10]; exact ((((HB.out.setCell (p := ⟨g12, 0, none⟩) HGB12.out _).setCell (p := ⟨g12, 1, none⟩) HGB12.out _).setCell (p := ⟨g12, 2, none⟩) HGB12.out _).setCell (p := ⟨g12, 3, none⟩) HGB12.out _))
   have n_B10 := Aside0.mk (show W10.heap[g10]? = some (.cells #[.int .i64 x0, .int .u64 x1, .int .u64 x2, .int .i64 x3] 38 (0, 0)) from by rw [← hW10]; exact blk_grown B10.out (grown4 _ _) HD12.out.2.2.2)
   clear hW10 HA HRR B2 B7 B12 HB B10
   have HA := n_HA
   have HRR := n_HRR
   have B2 := n_B2
   have B7 := n_B7
   have B12 := n_B12
   have HB := n_HB
   have B10 := n_B10
   clear n_HA n_HRR n_B2 n_B7 n_B12 n_HB n_B10
   clear c12_0 c12_1 c12_2 c12_3 fc12_0 fc12_1 fc12_2 fc12_3
   obtain ⟨c7_0, c7_1, c7_2, c7_3, c7_4, c7_5, c7_6, c7_7, c7_8, c7_9⟩ := blkc10 B7.out
   go_upto_region 11 with (first | (go_at_call 14; (with_reducible refine (F3.out _ HRR.out).mono ?_); rintro e w13 ⟨rfl, hbk⟩; clear c7_0 c7_1 c7_2 c7_3 c7_4 c7_5 c7_6 c7_7 c7_8 c7_9; have n_HA := Aside0.mk (HA.out.below hbk); have n_HRR := Aside0.mk (HRR.out.below hbk); have n_B2 := Aside0.mk (blk_below B2.out hbk); have n_B7 := Aside0.mk (blk_below B7.out hbk); have n_HB := Aside0.mk (below_step HB.out hbk); have n_B10 := Aside0.mk (blk_below B10.out hbk); have n_B12 := Aside0.mk (blk_below B12.out hbk); clear HA HRR B2 B7 HB B10 B12; have HA := n_HA; have HRR := n_HRR; have B2 := n_B2; have B7 := n_B7; have HB := n_HB; have B10 := n_B10; have B12 := n_B12; clear n_HA n_HRR n_B2 n_B7 n_HB n_B10 n_B12; clear hbk))
   have n_HA := Aside0.mk (HA.out.drew)
   have n_HRR := Aside0.mk (HRR.out.drew)
   have n_B2 := Aside0.mk (blk_drew B2.out)
   have n_B7 := Aside0.mk (blk_drew B7.out)
   have n_HB := Aside0.mk (below_drew1 HB.out)
   have n_B10 := Aside0.mk (blk_drew B10.out)
   have n_B12 := Aside0.mk (blk_drew B12.out)
   clear HA HRR B2 B7 HB B10 B12
   have HA := n_HA
   have HRR := n_HRR
   have B2 := n_B2
   have B7 := n_B7
   have HB := n_HB
   have B10 := n_B10
   have B12 := n_B12
   clear n_HA n_HRR n_B2 n_B7 n_HB n_B10 n_B12
   refine start_ (n := 40) (S := fun w' => w'.cell? ⟨g10, 0, none⟩ = some (.int .i64 x0) ∧ w'.cell? ⟨g10, 1, none⟩ = some (.int .u64 x1) ∧ w'.cell? ⟨g10, 2, none⟩ = some (.int .u64 x2) ∧ w'.cell? ⟨g10, 3, none⟩ = some (.int .i64 x3) ∧ w'.cell? ⟨g12, 0, none⟩ = some (.int .i64 x0) ∧ w'.cell? ⟨g12, 1, none⟩ = some (.int .u64 x1) ∧ w'.cell? ⟨g12, 2, none⟩ = some (.int .u64 x2) ∧ w'.cell? ⟨g12, 3, none⟩ = some (.int .i64 x3) ∧ w'.cell? ⟨g7, 0, none⟩ = some (.int .i64 b.c.f0) ∧ w'.cell? ⟨g7, 1, none⟩ = some (.int .i64 b.c.f1) ∧ w'.cell? ⟨g7, 2, none⟩ = some (.int .i64 b.c.f2) ∧ w'.cell? ⟨g7, 3, none⟩ = some (.int .i64 b.c.f3) ∧ w'.cell? ⟨g7, 4, none⟩ = some (.int .i64 b.c.f4) ∧ w'.cell? ⟨g7, 5, none⟩ = some (.slice r.a5 b.calls.length r.c5) ∧ w'.cell? ⟨g7, 6, none⟩ = some (.slice r.a6 b.ins.length r.c6) ∧ w'.cell? ⟨g7, 7, none⟩ = some (.slice r.a7 b.made.length r.c7) ∧ w'.cell? ⟨g7, 8, none⟩ = some (.slice r.a8 b.ops.length r.c8) ∧ w'.cell? ⟨g7, 9, none⟩ = some (.slice r.a9 b.nodes.length r.c9)) (ds := []) #[false, false, false, false, false, false, false, false, false, false, false, false, false, false, false, false, false, false, false, false, false, false, false, false, false, false, false, false, false, false, false, false, false, false, false, false, false, false, false, false] (by kernel_rfl) rfl rfl ⟨((blk_cell B10.out 0).trans rfl), ((blk_cell B10.out 1).trans rfl), ((blk_cell B10.out 2).trans rfl), ((blk_cell B10.out 3).trans rfl), ((blk_cell B12.out 0).trans rfl), ((blk_cell B12.out 1).trans rfl), ((blk_cell B12.out 2).trans rfl), ((blk_cell B12.out 3).trans rfl), ((blk_cell B7.out 0).trans rfl), ((blk_cell B7.out 1).trans rfl), ((blk_cell B7.out 2).trans rfl), ((blk_cell B7.out 3).trans rfl), ((blk_cell B7.out 4).trans rfl), ((blk_cell B7.out 5).trans rfl), ((blk_cell B7.out 6).trans rfl), ((blk_cell B7.out 7).trans rfl), ((blk_cell B7.out 8).trans rfl), ((blk_cell B7.out 9).trans rfl)⟩ (fun hHeld => ?_); refine with_tabW corrielaw07_BookActs.tab11 corrielaw07_BookActs.bits11 (fun HT_ HW_ => ?_)
   generalize w13.drew = W1 at HA HRR B2 B7 HB B10 B12 hHeld ⊢
   refine take_ (i := 0) (N := some 57) (v := ?_) (a' := ?_) (bac_lb 40 1) rfl rfl (take_ofW HT_.out HW_.out (by kernel_rfl)) (fun _ _ _ h => h) (Or.inl ⟨by rfl, ?_⟩) hHeld ?_ ?_; rotate_left
   ·rintro w' ⟨s0, s1, s2, s3, s4, s5, s6, s7, s8, s9, s10, s11, s12, s13, s14, s15, s16, s17⟩; go_simp; with_reducible rfl
   rotate_left
   ·simp only [Act.put, List.setIfInBounds_toArray, List.set_cons_zero, List.set_cons_succ, i64_w, i32_w]; rfl
   refine take_ (i := 1) (N := some 58) (v := ?_) (a' := ?_) (bac_lb 40 3) rfl rfl (take_ofW HT_.out HW_.out (by kernel_rfl)) (fun _ _ _ h => h) (Or.inl ⟨by rfl, ?_⟩) hHeld ?_ ?_; rotate_left
   ·rintro w' ⟨s0, s1, s2, s3, s4, s5, s6, s7, s8, s9, s10, s11, s12, s13, s14, s15, s16, s17⟩; go_simp; with_reducible rfl
   rotate_left
   ·simp only [Act.put, List.setIfInBounds_toArray, List.set_cons_zero, List.set_cons_succ, i64_w, i32_w]; rfl
   refine pure_ (i := 2) (N := some 59) (v := ?_) (a' := ?_) (bac_lb 40 7) rfl rfl (any_of HT_.out (by kernel_rfl)) (fun _ _ _ h => h) (Or.inl ⟨by rfl, ?_⟩) ?_ ?_; rotate_left
   ·intro w'; go_simp; with_reducible rfl
   rotate_left
   ·simp only [Act.put, List.setIfInBounds_toArray, List.set_cons_zero, List.set_cons_succ, i64_w, i32_w]; rfl
   refine pure_ (i := 3) (N := some 60) (v := ?_) (a' := ?_) (bac_lb 40 15) rfl rfl (any_of HT_.out (by kernel_rfl)) (fun _ _ _ h => h) (Or.inl ⟨by rfl, ?_⟩) ?_ ?_; rotate_left
   ·intro w'; go_simp; with_reducible rfl
   rotate_left
   ·simp only [Act.put, List.setIfInBounds_toArray, List.set_cons_zero, List.set_cons_succ, i64_w, i32_w]; rfl
   refine pure_ (i := 4) (N := some 61) (v := ?_) (a' := ?_) (bac_lb 40 31) rfl rfl (any_of HT_.out (by kernel_rfl)) (fun _ _ _ h => h) (Or.inl ⟨by rfl, ?_⟩) ?_ ?_; rotate_left
   ·intro w'; go_simp; with_reducible rfl
   rotate_left
   ·simp only [Act.put, List.setIfInBounds_toArray, List.set_cons_zero, List.set_cons_succ, i64_w, i32_w]; rfl
   refine pure_ (i := 5) (N := some 62) (v := ?_) (a' := ?_) (bac_lb 40 63) rfl rfl (any_of HT_.out (by kernel_rfl)) (fun _ _ _ h => h) (Or.inl ⟨by rfl, ?_⟩) ?_ ?_; rotate_left
   ·intro w'; go_simp; with_reducible rfl
   rotate_left
   ·simp only [Act.put, List.setIfInBounds_toArray, List.set_cons_zero, List.set_cons_succ, i64_w, i32_w]; rfl
   refine pure_ (i := 6) (N := some 63) (v := ?_) (a' := ?_) (bac_lb 40 127) rfl rfl (any_of HT_.out (by kernel_rfl)) (fun _ _ _ h => h) (Or.inl ⟨by rfl, ?_⟩) ?_ ?_; rotate_left
   ·intro w'; go_simp; with_reducible rfl
   rotate_left
   ·simp only [Act.put, List.setIfInBounds_toArray, List.set_cons_zero, List.set_cons_succ, i64_w, i32_w]; rfl
   refine pure_ (i := 7) (N := some 64) (v := ?_) (a' := ?_) (bac_lb 40 255) rfl rfl (any_of HT_.out (by kernel_rfl)) (fun _ _ _ h => h) (Or.inl ⟨by rfl, ?_⟩) ?_ ?_; rotate_left
   ·intro w'; go_simp; with_reducible rfl
   rotate_left
   ·simp only [Act.put, List.setIfInBounds_toArray, List.set_cons_zero, List.set_cons_succ, i64_w, i32_w]; rfl
   refine pure_ (i := 8) (N := some 65) (v := ?_) (a' := ?_) (bac_lb 40 511) rfl rfl (any_of HT_.out (by kernel_rfl)) (fun _ _ _ h => h) (Or.inl ⟨by rfl, ?_⟩) ?_ ?_; rotate_left
   ·intro w'; go_simp; with_reducible rfl
   rotate_left
   ·simp only [Act.put, List.setIfInBounds_toArray, List.set_cons_zero, List.set_cons_succ, i64_w, i32_w]; rfl
   refine pure_ (i := 9) (N := some 66) (v := ?_) (a' := ?_) (bac_lb 40 1023) rfl rfl (any_of HT_.out (by kernel_rfl)) (fun _ _ _ h => h) (Or.inl ⟨by rfl, ?_⟩) ?_ ?_; rotate_left
   ·intro w'; go_simp; with_reducible rfl
   rotate_left
   ·simp only [Act.put, List.setIfInBounds_toArray, List.set_cons_zero, List.set_cons_succ, i64_w, i32_w]; rfl
   refine pure_ (i := 10) (N := some 67) (v := ?_) (a' := ?_) (bac_lb 40 2047) rfl rfl (any_of HT_.out (by kernel_rfl)) (fun _ _ _ h => h) (Or.inl ⟨by rfl, ?_⟩) ?_ ?_; rotate_left
   ·intro w'; go_simp; with_reducible rfl
   rotate_left
   ·simp only [Act.put, List.setIfInBounds_toArray, List.set_cons_zero, List.set_cons_succ, i64_w, i32_w]; rfl
   refine pure_ (i := 13) (N := some 70) (v := ?_) (a' := ?_) (bac_lb 40 10239) rfl rfl (any_of HT_.out (by kernel_rfl)) (fun _ _ _ h => h) (Or.inl ⟨by rfl, ?_⟩) ?_ ?_; rotate_left
   ·intro w'; go_simp; with_reducible rfl
   rotate_left
   ·simp only [Act.put, List.setIfInBounds_toArray, List.set_cons_zero, List.set_cons_succ, i64_w, i32_w]; rfl
   refine take_ (i := 12) (N := some 69) (v := ?_) (a' := ?_) (bac_lb 40 14335) rfl rfl (take_ofW HT_.out HW_.out (by kernel_rfl)) (fun _ _ _ h => h) (Or.inl ⟨by rfl, ?_⟩) hHeld ?_ ?_; rotate_left
   ·rintro w' ⟨s0, s1, s2, s3, s4, s5, s6, s7, s8, s9, s10, s11, s12, s13, s14, s15, s16, s17⟩; go_simp; with_reducible rfl
   rotate_left
   ·simp only [Act.put, List.setIfInBounds_toArray, List.set_cons_zero, List.set_cons_succ, i64_w, i32_w]; rfl
   refine one_ (i := 11) (N := some 68) (bac_lb 40 16383) rfl rfl (one_of HT_.out (by kernel_rfl)) (by decide) (fun K hK => ?_)
   refine goes_ Try.func15 (by kernel_rfl) rfl #[.pointer (some ⟨p, 0, none⟩), .int .i64 i] (by rfl) rfl rfl (by (try simp only [List.map_toArray, List.map_cons, List.map_nil]); first | done | rfl) ?_
   with_reducible refine (F4.out _ HA.out).mono ?_
   rintro e u1 ⟨rfl, hbk⟩
   refine ⟨_, rfl, ?_⟩
   have n_HA := Aside0.mk (HA.out.below hbk)
   have n_HRR := Aside0.mk (HRR.out.below hbk)
   have n_B2 := Aside0.mk (blk_below B2.out hbk)
   have n_B7 := Aside0.mk (blk_below B7.out hbk)
   have n_HB := Aside0.mk (below_step HB.out hbk)
   have n_B10 := Aside0.mk (blk_below B10.out hbk)
   have n_B12 := Aside0.mk (blk_below B12.out hbk)
   clear HA HRR B2 B7 HB B10 B12 hbk
   have HA := n_HA
   have HRR := n_HRR
   have B2 := n_B2
   have B7 := n_B7
   have HB := n_HB
   have B10 := n_B10
   have B12 := n_B12
   clear n_HA n_HRR n_B2 n_B7 n_HB n_B10 n_B12
   refine hK.out _ _ ⟨((blk_cell B10.out 0).trans rfl), ((blk_cell B10.out 1).trans rfl), ((blk_cell B10.out 2).trans rfl), ((blk_cell B10.out 3).trans rfl), ((blk_cell B12.out 0).trans rfl), ((blk_cell B12.out 1).trans rfl), ((blk_cell B12.out 2).trans rfl), ((blk_cell B12.out 3).trans rfl), ((blk_cell B7.out 0).trans rfl), ((blk_cell B7.out 1).trans rfl), ((blk_cell B7.out 2).trans rfl), ((blk_cell B7.out 3).trans rfl), ((blk_cell B7.out 4).trans rfl), ((blk_cell B7.out 5).trans rfl), ((blk_cell B7.out 6).trans rfl), ((blk_cell B7.out 7).trans rfl), ((blk_cell B7.out 8).trans rfl), ((blk_cell B7.out 9).trans rfl)⟩ (fun hHeld => ?_)
   clear hK K
   refine norm_ (a' := ?_) ?_ ?_
   rotate_left
   ·show Act.put _ (some 68) _ = _
    simp only [Act.put, List.setIfInBounds_toArray, List.set_cons_zero, List.set_cons_succ, i64_w, i32_w]
    rfl
   refine one_ (i := 14) (N := some 71) (bac_lb 40 32767) rfl rfl (one_of HT_.out (by kernel_rfl)) (by decide) (fun K hK => ?_)
   refine goes_ Try.func16 (by kernel_rfl) rfl #[.agg #[.int .i64 b.c.f0, .int .i64 b.c.f1, .int .i64 b.c.f2, .int .i64 b.c.f3, .int .i64 b.c.f4, .slice r.a5 b.calls.length r.c5, .slice r.a6 b.ins.length r.c6, .slice r.a7 b.made.length r.c7, .slice r.a8 b.ops.length r.c8, .slice r.a9 b.nodes.length r.c9], .int .i64 i] (by rfl) rfl rfl (by (try simp only [List.map_toArray, List.map_cons, List.map_nil]); first | done | rfl) ?_
   with_reducible refine (F5.out _ HRR.out).mono ?_
   rintro e u2 ⟨rfl, hbk⟩
   refine ⟨_, rfl, ?_⟩
   have n_HA := Aside0.mk (HA.out.below hbk)
   have n_HRR := Aside0.mk (HRR.out.below hbk)
   have n_B2 := Aside0.mk (blk_below B2.out hbk)
   have n_B7 := Aside0.mk (blk_below B7.out hbk)
   have n_HB := Aside0.mk (below_step HB.out hbk)
   have n_B10 := Aside0.mk (blk_below B10.out hbk)
   have n_B12 := Aside0.mk (blk_below B12.out hbk)
   clear HA HRR B2 B7 HB B10 B12 hbk
   have HA := n_HA
   have HRR := n_HRR
   have B2 := n_B2
   have B7 := n_B7
   have HB := n_HB
   have B10 := n_B10
   have B12 := n_B12
   clear n_HA n_HRR n_B2 n_B7 n_HB n_B10 n_B12
   refine hK.out _ _ ⟨((blk_cell B10.out 0).trans rfl), ((blk_cell B10.out 1).trans rfl), ((blk_cell B10.out 2).trans rfl), ((blk_cell B10.out 3).trans rfl), ((blk_cell B12.out 0).trans rfl), ((blk_cell B12.out 1).trans rfl), ((blk_cell B12.out 2).trans rfl), ((blk_cell B12.out 3).trans rfl), ((blk_cell B7.out 0).trans rfl), ((blk_cell B7.out 1).trans rfl), ((blk_cell B7.out 2).trans rfl), ((blk_cell B7.out 3).trans rfl), ((blk_cell B7.out 4).trans rfl), ((blk_cell B7.out 5).trans rfl), ((blk_cell B7.out 6).trans rfl), ((blk_cell B7.out 7).trans rfl), ((blk_cell B7.out 8).trans rfl), ((blk_cell B7.out 9).trans rfl)⟩ (fun hHeld => ?_)
   clear hK K
   refine norm_ (a' := ?_) ?_ ?_
   rotate_left
   ·show Act.put _ (some 71) _ = _
    simp only [Act.put, List.setIfInBounds_toArray, List.set_cons_zero, List.set_cons_succ, i64_w, i32_w]
    rfl
   refine pure_ (i := 15) (N := some 72) (v := ?_) (a' := ?_) (bac_lb 40 65535) rfl rfl (any_of HT_.out (by kernel_rfl)) (fun _ _ _ h => h) (Or.inl ⟨by rfl, ?_⟩) ?_ ?_; rotate_left
   ·intro w'; go_simp; with_reducible rfl
   rotate_left
   ·simp only [Act.put, List.setIfInBounds_toArray, List.set_cons_zero, List.set_cons_succ, i64_w, i32_w]; rfl
   refine pure_ (i := 16) (N := some 73) (v := ?_) (a' := ?_) (bac_lb 40 131071) rfl rfl (any_of HT_.out (by kernel_rfl)) (fun _ _ _ h => h) (Or.inl ⟨by rfl, ?_⟩) ?_ ?_; rotate_left
   ·intro w'; go_simp; with_reducible rfl
   rotate_left
   ·simp only [Act.put, List.setIfInBounds_toArray, List.set_cons_zero, List.set_cons_succ, i64_w, i32_w]; rfl
   refine pure_ (i := 17) (N := some 74) (v := ?_) (a' := ?_) (bac_lb 40 262143) rfl rfl (any_of HT_.out (by kernel_rfl)) (fun _ _ _ h => h) (Or.inl ⟨by rfl, ?_⟩) ?_ ?_; rotate_left
   ·intro w'; go_simp; with_reducible rfl
   rotate_left
   ·simp only [Act.put, List.setIfInBounds_toArray, List.set_cons_zero, List.set_cons_succ, i64_w, i32_w]; rfl
   refine pure_ (i := 18) (N := some 75) (v := ?_) (a' := ?_) (bac_lb 40 524287) rfl rfl (any_of HT_.out (by kernel_rfl)) (fun _ _ _ h => h) (Or.inl ⟨by rfl, ?_⟩) ?_ ?_; rotate_left
   ·intro w'; go_simp; with_reducible rfl
   rotate_left
   ·simp only [Act.put, List.setIfInBounds_toArray, List.set_cons_zero, List.set_cons_succ, i64_w, i32_w]; rfl
   refine pure_ (i := 19) (N := some 76) (v := ?_) (a' := ?_) (bac_lb 40 1048575) rfl rfl (any_of HT_.out (by kernel_rfl)) (fun _ _ _ h => h) (Or.inl ⟨by rfl, ?_⟩) ?_ ?_; rotate_left
   ·intro w'; go_simp; with_reducible rfl
   rotate_left
   ·simp only [Act.put, List.setIfInBounds_toArray, List.set_cons_zero, List.set_cons_succ, i64_w, i32_w]; rfl
   refine pure_ (i := 22) (N := some 79) (v := ?_) (a' := ?_) (bac_lb 40 5242879) rfl rfl (any_of HT_.out (by kernel_rfl)) (fun _ _ _ h => h) (Or.inl ⟨by rfl, ?_⟩) ?_ ?_; rotate_left
   ·intro w'; go_simp; with_reducible rfl
   rotate_left
   ·simp only [Act.put, List.setIfInBounds_toArray, List.set_cons_zero, List.set_cons_succ, i64_w, i32_w]; rfl
   refine take_ (i := 21) (N := some 78) (v := ?_) (a' := ?_) (bac_lb 40 7340031) rfl rfl (take_ofW HT_.out HW_.out (by kernel_rfl)) (fun _ _ _ h => h) (Or.inl ⟨by rfl, ?_⟩) hHeld ?_ ?_; rotate_left
   ·rintro w' ⟨s0, s1, s2, s3, s4, s5, s6, s7, s8, s9, s10, s11, s12, s13, s14, s15, s16, s17⟩; go_simp; with_reducible rfl
   rotate_left
   ·simp only [Act.put, List.setIfInBounds_toArray, List.set_cons_zero, List.set_cons_succ, i64_w, i32_w]; rfl
   refine one_ (i := 20) (N := some 77) (bac_lb 40 8388607) rfl rfl (one_of HT_.out (by kernel_rfl)) (by decide) (fun K hK => ?_)
   refine goes_ Try.func17 (by kernel_rfl) rfl #[.pointer (some ⟨p, 0, none⟩), .int .i64 i] (by rfl) rfl rfl (by (try simp only [List.map_toArray, List.map_cons, List.map_nil]); first | done | rfl) ?_
   with_reducible refine (F6.out _ HA.out).mono ?_
   rintro e u3 ⟨rfl, hbk⟩
   refine ⟨_, rfl, ?_⟩
   have n_HA := Aside0.mk (HA.out.below hbk)
   have n_HRR := Aside0.mk (HRR.out.below hbk)
   have n_B2 := Aside0.mk (blk_below B2.out hbk)
   have n_B7 := Aside0.mk (blk_below B7.out hbk)
   have n_HB := Aside0.mk (below_step HB.out hbk)
   have n_B10 := Aside0.mk (blk_below B10.out hbk)
   have n_B12 := Aside0.mk (blk_below B12.out hbk)
   clear HA HRR B2 B7 HB B10 B12 hbk
   have HA := n_HA
   have HRR := n_HRR
   have B2 := n_B2
   have B7 := n_B7
   have HB := n_HB
   have B10 := n_B10
   have B12 := n_B12
   clear n_HA n_HRR n_B2 n_B7 n_HB n_B10 n_B12
   refine hK.out _ _ ⟨((blk_cell B10.out 0).trans rfl), ((blk_cell B10.out 1).trans rfl), ((blk_cell B10.out 2).trans rfl), ((blk_cell B10.out 3).trans rfl), ((blk_cell B12.out 0).trans rfl), ((blk_cell B12.out 1).trans rfl), ((blk_cell B12.out 2).trans rfl), ((blk_cell B12.out 3).trans rfl), ((blk_cell B7.out 0).trans rfl), ((blk_cell B7.out 1).trans rfl), ((blk_cell B7.out 2).trans rfl), ((blk_cell B7.out 3).trans rfl), ((blk_cell B7.out 4).trans rfl), ((blk_cell B7.out 5).trans rfl), ((blk_cell B7.out 6).trans rfl), ((blk_cell B7.out 7).trans rfl), ((blk_cell B7.out 8).trans rfl), ((blk_cell B7.out 9).trans rfl)⟩ (fun hHeld => ?_)
   clear hK K
   refine norm_ (a' := ?_) ?_ ?_
   rotate_left
   ·show Act.put _ (some 77) _ = _
    simp only [Act.put, List.setIfInBounds_toArray, List.set_cons_zero, List.set_cons_succ, i64_w, i32_w]
    rfl
   refine one_ (i := 23) (N := some 80) (bac_lb 40 16777215) rfl rfl (one_of HT_.out (by kernel_rfl)) (by decide) (fun K hK => ?_)
   refine goes_ Try.func18 (by kernel_rfl) rfl #[.agg #[.int .i64 b.c.f0, .int .i64 b.c.f1, .int .i64 b.c.f2, .int .i64 b.c.f3, .int .i64 b.c.f4, .slice r.a5 b.calls.length r.c5, .slice r.a6 b.ins.length r.c6, .slice r.a7 b.made.length r.c7, .slice r.a8 b.ops.length r.c8, .slice r.a9 b.nodes.length r.c9], .int .i64 i] (by rfl) rfl rfl (by (try simp only [List.map_toArray, List.map_cons, List.map_nil]); first | done | rfl) ?_
   with_reducible refine (F7.out _ HRR.out).mono ?_
   rintro e u4 ⟨rfl, hbk⟩
   refine ⟨_, rfl, ?_⟩
   have n_HA := Aside0.mk (HA.out.below hbk)
   have n_HRR := Aside0.mk (HRR.out.below hbk)
   have n_B2 := Aside0.mk (blk_below B2.out hbk)
   have n_B7 := Aside0.mk (blk_below B7.out hbk)
   have n_HB := Aside0.mk (below_step HB.out hbk)
   have n_B10 := Aside0.mk (blk_below B10.out hbk)
   have n_B12 := Aside0.mk (blk_below B12.out hbk)
   clear HA HRR B2 B7 HB B10 B12 hbk
   have HA := n_HA
   have HRR := n_HRR
   have B2 := n_B2
   have B7 := n_B7
   have HB := n_HB
   have B10 := n_B10
   have B12 := n_B12
   clear n_HA n_HRR n_B2 n_B7 n_HB n_B10 n_B12
   refine hK.out _ _ ⟨((blk_cell B10.out 0).trans rfl), ((blk_cell B10.out 1).trans rfl), ((blk_cell B10.out 2).trans rfl), ((blk_cell B10.out 3).trans rfl), ((blk_cell B12.out 0).trans rfl), ((blk_cell B12.out 1).trans rfl), ((blk_cell B12.out 2).trans rfl), ((blk_cell B12.out 3).trans rfl), ((blk_cell B7.out 0).trans rfl), ((blk_cell B7.out 1).trans rfl), ((blk_cell B7.out 2).trans rfl), ((blk_cell B7.out 3).trans rfl), ((blk_cell B7.out 4).trans rfl), ((blk_cell B7.out 5).trans rfl), ((blk_cell B7.out 6).trans rfl), ((blk_cell B7.out 7).trans rfl), ((blk_cell B7.out 8).trans rfl), ((blk_cell B7.out 9).trans rfl)⟩ (fun hHeld => ?_)
   clear hK K
   refine norm_ (a' := ?_) ?_ ?_
   rotate_left
   ·show Act.put _ (some 80) _ = _
    simp only [Act.put, List.setIfInBounds_toArray, List.set_cons_zero, List.set_cons_succ, i64_w, i32_w]
    rfl
   refine pure_ (i := 24) (N := some 81) (v := ?_) (a' := ?_) (bac_lb 40 33554431) rfl rfl (any_of HT_.out (by kernel_rfl)) (fun _ _ _ h => h) (Or.inl ⟨by rfl, ?_⟩) ?_ ?_; rotate_left
   ·intro w'; go_simp; with_reducible rfl
   rotate_left
   ·simp only [Act.put, List.setIfInBounds_toArray, List.set_cons_zero, List.set_cons_succ, i64_w, i32_w]; rfl
   refine pure_ (i := 25) (N := some 82) (v := ?_) (a' := ?_) (bac_lb 40 67108863) rfl rfl (any_of HT_.out (by kernel_rfl)) (fun _ _ _ h => h) (Or.inl ⟨by rfl, ?_⟩) ?_ ?_; rotate_left
   ·intro w'; go_simp; with_reducible rfl
   rotate_left
   ·simp only [Act.put, List.setIfInBounds_toArray, List.set_cons_zero, List.set_cons_succ, i64_w, i32_w]; rfl
   refine pure_ (i := 26) (N := some 83) (v := ?_) (a' := ?_) (bac_lb 40 134217727) rfl rfl (any_of HT_.out (by kernel_rfl)) (fun _ _ _ h => h) (Or.inl ⟨by rfl, ?_⟩) ?_ ?_; rotate_left
   ·intro w'; go_simp; with_reducible rfl
   rotate_left
   ·simp only [Act.put, List.setIfInBounds_toArray, List.set_cons_zero, List.set_cons_succ, i64_w, i32_w]; rfl
   refine pure_ (i := 27) (N := some 84) (v := ?_) (a' := ?_) (bac_lb 40 268435455) rfl rfl (any_of HT_.out (by kernel_rfl)) (fun _ _ _ h => h) (Or.inl ⟨by rfl, ?_⟩) ?_ ?_; rotate_left
   ·intro w'; go_simp; with_reducible rfl
   rotate_left
   ·simp only [Act.put, List.setIfInBounds_toArray, List.set_cons_zero, List.set_cons_succ, i64_w, i32_w]; rfl
   refine pure_ (i := 28) (N := some 85) (v := ?_) (a' := ?_) (bac_lb 40 536870911) rfl rfl (any_of HT_.out (by kernel_rfl)) (fun _ _ _ h => h) (Or.inl ⟨by rfl, ?_⟩) ?_ ?_; rotate_left
   ·intro w'; go_simp; with_reducible rfl
   rotate_left
   ·simp only [Act.put, List.setIfInBounds_toArray, List.set_cons_zero, List.set_cons_succ, i64_w, i32_w]; rfl
   refine pure_ (i := 30) (N := some 87) (v := ?_) (a' := ?_) (bac_lb 40 1610612735) rfl rfl (any_of HT_.out (by kernel_rfl)) (fun _ _ _ h => h) (Or.inl ⟨by rfl, ?_⟩) ?_ ?_; rotate_left
   ·intro w'; go_simp; with_reducible rfl
   rotate_left
   ·simp only [Act.put, List.setIfInBounds_toArray, List.set_cons_zero, List.set_cons_succ, i64_w, i32_w]; rfl
   refine one_ (i := 29) (N := some 86) (bac_lb 40 2147483647) rfl rfl (one_of HT_.out (by kernel_rfl)) (by decide) (fun K hK => ?_)
   refine goes_ Try.func19 (by kernel_rfl) rfl #[.pointer (some ⟨p, 0, none⟩), .int .i64 i] (by rfl) rfl rfl (by (try simp only [List.map_toArray, List.map_cons, List.map_nil]); first | done | rfl) ?_
   with_reducible refine (F8.out _ HA.out).mono ?_
   rintro e u5 ⟨rfl, hbk⟩
   refine ⟨_, rfl, ?_⟩
   have n_HA := Aside0.mk (HA.out.below hbk)
   have n_HRR := Aside0.mk (HRR.out.below hbk)
   have n_B2 := Aside0.mk (blk_below B2.out hbk)
   have n_B7 := Aside0.mk (blk_below B7.out hbk)
   have n_HB := Aside0.mk (below_step HB.out hbk)
   have n_B10 := Aside0.mk (blk_below B10.out hbk)
   have n_B12 := Aside0.mk (blk_below B12.out hbk)
   clear HA HRR B2 B7 HB B10 B12 hbk
   have HA := n_HA
   have HRR := n_HRR
   have B2 := n_B2
   have B7 := n_B7
   have HB := n_HB
   have B10 := n_B10
   have B12 := n_B12
   clear n_HA n_HRR n_B2 n_B7 n_HB n_B10 n_B12
   refine hK.out _ _ ⟨((blk_cell B10.out 0).trans rfl), ((blk_cell B10.out 1).trans rfl), ((blk_cell B10.out 2).trans rfl), ((blk_cell B10.out 3).trans rfl), ((blk_cell B12.out 0).trans rfl), ((blk_cell B12.out 1).trans rfl), ((blk_cell B12.out 2).trans rfl), ((blk_cell B12.out 3).trans rfl), ((blk_cell B7.out 0).trans rfl), ((blk_cell B7.out 1).trans rfl), ((blk_cell B7.out 2).trans rfl), ((blk_cell B7.out 3).trans rfl), ((blk_cell B7.out 4).trans rfl), ((blk_cell B7.out 5).trans rfl), ((blk_cell B7.out 6).trans rfl), ((blk_cell B7.out 7).trans rfl), ((blk_cell B7.out 8).trans rfl), ((blk_cell B7.out 9).trans rfl)⟩ (fun hHeld => ?_)
   clear hK K
   refine norm_ (a' := ?_) ?_ ?_
   rotate_left
   ·show Act.put _ (some 86) _ = _
    simp only [Act.put, List.setIfInBounds_toArray, List.set_cons_zero, List.set_cons_succ, i64_w, i32_w]
    rfl
   refine pure_ (i := 31) (N := some 88) (v := ?_) (a' := ?_) (bac_lb 40 4294967295) rfl rfl (any_of HT_.out (by kernel_rfl)) (fun _ _ _ h => h) (Or.inl ⟨by rfl, ?_⟩) ?_ ?_; rotate_left
   ·intro w'; go_simp; with_reducible rfl
   rotate_left
   ·simp only [Act.put, List.setIfInBounds_toArray, List.set_cons_zero, List.set_cons_succ, i64_w, i32_w]; rfl
   refine pure_ (i := 32) (N := some 89) (v := ?_) (a' := ?_) (bac_lb 40 8589934591) rfl rfl (any_of HT_.out (by kernel_rfl)) (fun _ _ _ h => h) (Or.inl ⟨by rfl, ?_⟩) ?_ ?_; rotate_left
   ·intro w'; go_simp; with_reducible rfl
   rotate_left
   ·simp only [Act.put, List.setIfInBounds_toArray, List.set_cons_zero, List.set_cons_succ, i64_w, i32_w]; rfl
   refine pure_ (i := 33) (N := some 90) (v := ?_) (a' := ?_) (bac_lb 40 17179869183) rfl rfl (any_of HT_.out (by kernel_rfl)) (fun _ _ _ h => h) (Or.inl ⟨by rfl, ?_⟩) ?_ ?_; rotate_left
   ·intro w'; go_simp; with_reducible rfl
   rotate_left
   ·simp only [Act.put, List.setIfInBounds_toArray, List.set_cons_zero, List.set_cons_succ, i64_w, i32_w]; rfl
   refine pure_ (i := 34) (N := some 91) (v := ?_) (a' := ?_) (bac_lb 40 34359738367) rfl rfl (any_of HT_.out (by kernel_rfl)) (fun _ _ _ h => h) (Or.inl ⟨by rfl, ?_⟩) ?_ ?_; rotate_left
   ·intro w'; go_simp; with_reducible rfl
   rotate_left
   ·simp only [Act.put, List.setIfInBounds_toArray, List.set_cons_zero, List.set_cons_succ, i64_w, i32_w]; rfl
   refine pure_ (i := 35) (N := some 92) (v := ?_) (a' := ?_) (bac_lb 40 68719476735) rfl rfl (any_of HT_.out (by kernel_rfl)) (fun _ _ _ h => h) (Or.inl ⟨by rfl, ?_⟩) ?_ ?_; rotate_left
   ·intro w'; go_simp; with_reducible rfl
   rotate_left
   ·simp only [Act.put, List.setIfInBounds_toArray, List.set_cons_zero, List.set_cons_succ, i64_w, i32_w]; rfl
   refine pure_ (i := 37) (N := some 94) (v := ?_) (a' := ?_) (bac_lb 40 206158430207) rfl rfl (any_of HT_.out (by kernel_rfl)) (fun _ _ _ h => h) (Or.inl ⟨by rfl, ?_⟩) ?_ ?_; rotate_left
   ·intro w'; go_simp; with_reducible rfl
   rotate_left
   ·simp only [Act.put, List.setIfInBounds_toArray, List.set_cons_zero, List.set_cons_succ, i64_w, i32_w]; rfl
   refine one_ (i := 36) (N := some 93) (bac_lb 40 274877906943) rfl rfl (one_of HT_.out (by kernel_rfl)) (by decide) (fun K hK => ?_)
   refine goes_ Try.func20 (by kernel_rfl) rfl #[.pointer (some ⟨p, 0, none⟩), .int .i64 i] (by rfl) rfl rfl (by (try simp only [List.map_toArray, List.map_cons, List.map_nil]); first | done | rfl) ?_
   with_reducible refine (F9.out _ HA.out).mono ?_
   rintro e u6 ⟨rfl, hbk⟩
   refine ⟨_, rfl, ?_⟩
   have n_HA := Aside0.mk (HA.out.below hbk)
   have n_HRR := Aside0.mk (HRR.out.below hbk)
   have n_B2 := Aside0.mk (blk_below B2.out hbk)
   have n_B7 := Aside0.mk (blk_below B7.out hbk)
   have n_HB := Aside0.mk (below_step HB.out hbk)
   have n_B10 := Aside0.mk (blk_below B10.out hbk)
   have n_B12 := Aside0.mk (blk_below B12.out hbk)
   clear HA HRR B2 B7 HB B10 B12 hbk
   have HA := n_HA
   have HRR := n_HRR
   have B2 := n_B2
   have B7 := n_B7
   have HB := n_HB
   have B10 := n_B10
   have B12 := n_B12
   clear n_HA n_HRR n_B2 n_B7 n_HB n_B10 n_B12
   refine hK.out _ _ ⟨((blk_cell B10.out 0).trans rfl), ((blk_cell B10.out 1).trans rfl), ((blk_cell B10.out 2).trans rfl), ((blk_cell B10.out 3).trans rfl), ((blk_cell B12.out 0).trans rfl), ((blk_cell B12.out 1).trans rfl), ((blk_cell B12.out 2).trans rfl), ((blk_cell B12.out 3).trans rfl), ((blk_cell B7.out 0).trans rfl), ((blk_cell B7.out 1).trans rfl), ((blk_cell B7.out 2).trans rfl), ((blk_cell B7.out 3).trans rfl), ((blk_cell B7.out 4).trans rfl), ((blk_cell B7.out 5).trans rfl), ((blk_cell B7.out 6).trans rfl), ((blk_cell B7.out 7).trans rfl), ((blk_cell B7.out 8).trans rfl), ((blk_cell B7.out 9).trans rfl)⟩ (fun hHeld => ?_)
   clear hK K
   refine norm_ (a' := ?_) ?_ ?_
   rotate_left
   ·show Act.put _ (some 93) _ = _
    simp only [Act.put, List.setIfInBounds_toArray, List.set_cons_zero, List.set_cons_succ, i64_w, i32_w]
    rfl
   refine pure_ (i := 38) (N := some 95) (v := ?_) (a' := ?_) (bac_lb 40 549755813887) rfl rfl (any_of HT_.out (by kernel_rfl)) (fun _ _ _ h => h) (Or.inl ⟨by rfl, ?_⟩) ?_ ?_; rotate_left
   ·intro w'; go_simp; with_reducible rfl
   rotate_left
   ·simp only [Act.put, List.setIfInBounds_toArray, List.set_cons_zero, List.set_cons_succ, i64_w, i32_w]; rfl
   refine pure_ (i := 39) (N := some 96) (v := ?_) (a' := ?_) (bac_lb 40 1099511627775) rfl rfl (any_of HT_.out (by kernel_rfl)) (fun _ _ _ h => h) (Or.inl ⟨by rfl, ?_⟩) ?_ ?_; rotate_left
   ·intro w'; go_simp; with_reducible rfl
   rotate_left
   ·simp only [Act.put, List.setIfInBounds_toArray, List.set_cons_zero, List.set_cons_succ, i64_w, i32_w]; rfl
   refine done_ (done_of HT_.out (by kernel_rfl)) ?_
   go_wp2
   go_roundg (n - (i + 1 + 1).toNat)
   case measure => have := HLT.out; have := HK.out; have := HJ.out; omega
   case rel =>
    have hj := HJ.out
    have hlt := HLT.out
    have hnb := HNB.out
    exact ⟨i + 1, by rw [show wrap64 (i + 1) = i + 1 from by unfold wrap64; omega], ⟨by omega⟩, ⟨by omega⟩, HA, HRR, B2, B7, HB⟩


end Go.Proofs.Ytpcmoclohepdiaf.PBookActs
