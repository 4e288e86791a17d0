-- Written by a program of this session: a variant of the print that takes proofs by hand (wip/tools/mkprint.py)
import Derived.Test.YtpcmoclohepdiagPWorldActsx0
import Derived.Test.YtpcmoclohepdiagPWorldActsx3
import Derived.Test.YtpcmoclohepdiagPWorldActsx4
import Derived.Test.YtpcmoclohepdiagPWorldActsx5
import Derived.Test.YtpcmoclohepdiagPWorldActsx6
import Derived.Test.YtpcmoclohepdiagPWorldActsx7
import Derived.Test.YtpcmoclohepdiagPWorldActsx8
import Derived.Test.YtpcmoclohepdiagPWorldActsx9
import Derived.Test.YtpcmoclohepdiagPWorldActsx10
namespace Go.Proofs.Ytpcmoclohepdiag.PWorldActs
open Go.RowKit Go.Proofs.YtpcmoclohepdiagW.PrintWords Go.Proofs.YtpcmoclohepdiagW.PrintLast
set_option linter.unusedVariables false
set_option linter.unusedSimpArgs false

/-! ### corrielaw08_WorldActs: function 6 (by hand) -/
theorem RU.reads {w0 W : World} {A : Option Addr} {C : Nat} {ws : List Int} (h : RU w0 W A C ws) : Kd.C (Kd.int .u64) W A ws.length ws ∧ ws.length ≤ C := by
 obtain ⟨A', c', he, hl, hC⟩ := Kd.R_reads h
 injection he with h1 _ h2
 subst h1 h2
 exact ⟨hC, hl⟩
theorem wl_zero (n : Nat) (at_ : Int) : cRd (List.replicate n 0) at_ = 0 := by
 unfold cRd
 split
 ·simp only [List.getD, List.getElem?_replicate]
  split <;> rfl
 ·rfl
theorem cPut_len (ws : List Int) (x y : Int) : (cPutW ws x y).length = ws.length := by
 unfold cPutW
 split <;> simp
theorem cRd_put (ws : List Int) (x y j : Int) (h : 0 ≤ x ∧ x < (ws.length : Int)) : cRd (cPutW ws x y) j = if j = x then y else cRd ws j := by
 have e : cPutW ws x y = ws.set x.toNat y := by unfold cPutW cInb; rw [if_pos (decide_eq_true h)]
 rw [e]
 unfold cRd cInb
 rw [List.length_set]
 by_cases hj : 0 ≤ j ∧ j < (ws.length : Int)
 ·rw [if_pos (decide_eq_true hj), if_pos (decide_eq_true hj)]
  by_cases hx : j = x
  ·rw [if_pos hx, hx, List.getD_eq_getElem?_getD, List.getElem?_set_self (by omega)]
   rfl
  ·rw [if_neg hx, List.getD_eq_getElem?_getD, List.getElem?_set_ne (by omega), List.getD_eq_getElem?_getD]
 ·have hf : decide (0 ≤ j ∧ j < (ws.length : Int)) = false := decide_eq_false hj
  rw [hf]
  by_cases hx : j = x
  ·exact absurd (hx ▸ h) hj
  ·rw [if_neg hx]
   rfl
theorem cSw_put (ws : List Int) (x old y : Int) (h : 0 ≤ x ∧ x < (ws.length : Int)) (h0 : cRd ws x = old) : cSwW ws x old y = cPutW ws x y := by
 have e : cInb ws x = true := decide_eq_true h
 unfold cSwW cSwB cPutW
 rw [e, h0]
 simp
theorem cst_inW (ws : List Int) (x st : Int) (h : 0 ≤ x ∧ x < (ws.length : Int)) : cSt ws st x = wrap64 (st + 1) := by
 have e : cInb ws x = true := decide_eq_true h
 unfold cSt
 rw [if_pos e]
def xOf (t b c k n : Int) : Int := if k < 3 then (if 0 ≤ n ∧ n < 1 + b + 2 * (t * c) then n else -1) else if k < 5 then (if 0 ≤ n ∧ n < t * c then 1 + b + 2 * (t * c) + n else -1) else (if 0 ≤ n ∧ n < t then 1 + b + 2 * (t * c) + t * c + n else -1)
theorem xN {t b i f c k n : Int} (hO : Ok t b i f c) (h : k < 3) : (if Ok t b i f c ∧ 0 ≤ n ∧ n < 1 + b + 2 * (t * c) then n else -1) = xOf t b c k n := by
 unfold xOf
 rw [if_pos h]
 simp only [hO, true_and]
theorem xW {t b i f c k n : Int} (hO : Ok t b i f c) (h : 3 ≤ k ∧ k < 5) : (if Ok t b i f c ∧ 0 ≤ n ∧ n < t * c then 1 + b + 2 * (t * c) + n else -1) = xOf t b c k n := by
 unfold xOf
 have h1 : ¬ k < 3 := by omega
 simp only [hO, true_and, if_neg h1, if_pos h.2]
theorem xA {t b i f c k n : Int} (hO : Ok t b i f c) (h : 5 ≤ k) : (if Ok t b i f c ∧ 0 ≤ n ∧ n < t then 1 + b + 2 * (t * c) + t * c + n else -1) = xOf t b c k n := by
 unfold xOf
 have h1 : ¬ k < 3 := by omega
 have h2 : ¬ k < 5 := by omega
 simp only [hO, true_and, if_neg h1, if_neg h2]
theorem cSwW_len (ws : List Int) (x old y : Int) : (cSwW ws x old y).length = ws.length := by
 unfold cSwW
 split <;> simp
theorem wDo_len (ws : List Int) (k x a2 old y : Int) : (wDo ws k x a2 old y).2.2.2.length = ws.length := by
 unfold wDo
 repeat' split
 all_goals first | rfl | exact cSwW_len _ _ _ _ | exact cPut_len _ _ _
theorem WAt.t25 {W W1 : World} {pw gc gw : Nat} {bk : Value} {c : S23} {ws : List Int} {st : Int} (h : WAt W pw gc gw bk c ws st) (hT : T25 W W1) : WAt W1 pw gc gw bk c ws st :=
 ⟨blk_t25 h.w hT (by decide), ⟨blk_t25 h.m.c hT (by decide), blk_t25 h.m.w hT (by decide), h.m.ne⟩, h.n1, h.n2⟩
theorem WAt.grw {W W1 : World} {pw gc gw : Nat} {bk : Value} {c : S23} {ws : List Int} {st : Int} (h : WAt W pw gc gw bk c ws st) {g : Nat} (k : W.grownBy W1 (some g)) (hn : pw ≠ g ∧ gc ≠ g ∧ gw ≠ g) : WAt W1 pw gc gw bk c ws st :=
 ⟨wq_blk h.w k hn.1, ⟨wq_blk h.m.c k hn.2.1, wq_blk h.m.w k hn.2.2, h.m.ne⟩, h.n1, h.n2⟩
theorem RU.touch {w0 W W1 : World} {A : Option Addr} {C : Nat} {ws ws' : List Int} {pw gc gw : Nat} {bk : Value} {c : S23} {st : Int} (h : RU w0 W A C ws) (hA : WAt W pw gc gw bk c ws' st) (hT : Touch (fun k => k = gc ∨ k = gw) W W1) : RU w0 W1 A C ws :=
 Kd.R_mono (Kd.R_step (RU.ok h) (fun k hk hlt => hT.block k hlt (by
  obtain ⟨cs, hc⟩ := hk
  rintro (rfl | rfl)
  ·have h1 := hA.m.c
   rw [hc] at h1
   injection h1 with h1
   injection h1 with _ h1 _
   exact absurd h1 (by decide)
  ·have h1 := hA.m.w
   rw [hc] at h1
   injection h1 with h1
   injection h1 with _ h1 _
   exact absurd h1 (by decide)))) (fun _ _ => trivial)
def wac_lb (n m : Nat) : Array Bool := ((List.range n).map (fun i => m.testBit i)).toArray
def wac.T12 : Bool × List (List Nat × List Nat) := (true, [([], []), ([], []), ([], []), ([1, 2], [1, 2]), ([3], [3]), ([0, 4], [0, 4]), ([5], [5]), ([6], [6]), ([6], [6]), ([6], [6]), ([6], [6]), ([], []), ([11, 7, 5, 0, 1, 2, 3, 4, 5, 6, 7, 11], [7, 11]), ([8, 12, 0, 1, 2, 3, 4, 5, 6, 7, 8, 11, 12], [8]), ([9, 13, 0, 1, 2, 3, 4, 5, 6, 7, 8, 9, 11, 12, 13], [9]), ([10, 14, 0, 1, 2, 3, 4, 5, 6, 7, 8, 9, 10, 11, 12, 13, 14], [10])])
def wac.B12 : List Nat := [0, 0, 0, 6, 14, 31, 63, 127, 127, 127, 127, 0, 2303, 6655, 15359, 32767]
theorem wac.tab12 : rtab .any (opsOf Try.f6 12) = wac.T12 := by kernel_rfl
theorem wac.bits12 : waitsOk wac.T12.2 wac.B12 = true := by kernel_rfl
def wac.T14 : Bool × List (List Nat × List Nat) := (true, [([], []), ([], []), ([0, 1], [0, 1]), ([2], [2]), ([3], [3]), ([3], [3]), ([4, 5, 3], [3, 4, 5]), ([3, 6], [3, 6]), ([7, 3], [7]), ([8], [8]), ([8], [8]), ([9, 10, 8], [8, 9, 10]), ([8, 11], [8, 11]), ([12, 8], [12]), ([13], [13]), ([14, 13], [13, 14]), ([15, 13], [13, 15]), ([16, 13], [13, 16]), ([17, 13, 13], [13, 17]), ([13], [13]), ([19, 13], [13, 19]), ([20, 13], [13, 20]), ([18, 21, 13], [13, 18, 21]), ([13, 22], [13, 22])])
def wac.B14 : List Nat := [0, 0, 3, 7, 15, 15, 63, 127, 255, 511, 511, 2047, 4095, 8191, 16383, 32767, 65535, 131071, 262143, 16383, 540671, 1589247, 4194303, 8388607]
theorem wac.tab14 : rtab .any (opsOf Try.f6 14) = wac.T14 := by kernel_rfl
theorem wac.bits14 : waitsOk wac.T14.2 wac.B14 = true := by kernel_rfl
def wac.T19 : Bool × List (List Nat × List Nat) := (true, [([], []), ([0], [0]), ([1], [1]), ([2], [2]), ([], []), ([3, 4], [3, 4]), ([], []), ([6], [6]), ([7], [7]), ([], []), ([8, 9], [8, 9]), ([10], [10]), ([5, 11], [5, 11])])
def wac.B19 : List Nat := [0, 1, 3, 7, 0, 31, 0, 64, 192, 0, 960, 1984, 4095]
theorem wac.tab19 : rtab .any (opsOf Try.f6 19) = wac.T19 := by kernel_rfl
theorem wac.bits19 : waitsOk wac.T19.2 wac.B19 = true := by kernel_rfl
def wac.T21 : Bool × List (List Nat × List Nat) := (true, [([], []), ([0], [0]), ([1], [1]), ([1], [1]), ([2, 3, 1], [1, 2, 3]), ([1, 4], [1, 4]), ([5, 1], [5]), ([6], [6]), ([7, 6], [6, 7]), ([8, 6], [6, 8]), ([9, 6], [6, 9]), ([10, 6, 6], [6, 10]), ([6], [6]), ([12, 6], [6, 12]), ([13, 6], [6, 13]), ([14, 6], [6, 14]), ([11, 15, 6], [6, 11, 15]), ([6, 16], [6, 16]), ([17, 11, 0, 1, 2, 3, 4, 5, 6, 7, 8, 9, 10, 11, 12, 13, 14, 15, 16, 17], [17])])
def wac.B21 : List Nat := [0, 1, 3, 3, 15, 31, 63, 127, 255, 511, 1023, 2047, 127, 4223, 12415, 28799, 65535, 131071, 262143]
theorem wac.tab21 : rtab .any (opsOf Try.f6 21) = wac.T21 := by kernel_rfl
theorem wac.bits21 : waitsOk wac.T21.2 wac.B21 = true := by kernel_rfl
def corrielaw08_WorldActs.f (a0_0 a0_1 a0_2 a0_3 a0_4 : Int) (l1 : List S27) : Option Bool := if l1.all (fun a => (Lit.int .u8 a.f0).wf) = true then some true else none
set_option maxHeartbeats 8000000 in
set_option maxRecDepth 100000 in
theorem corrielaw08_WorldActs.calls (a0_0 a0_1 a0_2 a0_3 a0_4 : Int) (A1 : Option Addr) (c1 : Nat) (l1 : List S27) (r : Bool) (w : World) (hr1 : Kd.C k27 w A1 l1.length l1) (hc1 : l1.length ≤ c1) (h : corrielaw08_WorldActs.f a0_0 a0_1 a0_2 a0_3 a0_4 l1 = some r) :
  Calls Try.prog 6 #[.agg #[.int .i64 a0_0, .int .i64 a0_1, .int .i64 a0_2, .int .i64 a0_3, .int .i64 a0_4], .slice A1 l1.length c1] w fun e w' => e = .returned (.bool r) ∧ Below w.heap.size w w' := by
 have HR1 := Aside0.mk hr1
 clear hr1 hc1
 have HB := Aside0.mk (Below.refl w.heap.size w)
 unfold corrielaw08_WorldActs.f at h
 by_cases hwf : l1.all (fun a => (Lit.int .u8 a.f0).wf) = true
 rotate_left
 ·rw [if_neg hwf] at h
  cases h
 rw [if_pos hwf] at h
 obtain rfl := Option.some.inj h
 clear h
 have HW := Aside0.mk (show ∀ a ∈ l1, (Lit.int .u8 a.f0).wf = true from by simpa [List.all_eq_true] using hwf)
 clear hwf
 by_cases hF : FewP a0_0 a0_1 a0_2 a0_3 a0_4
 rotate_left
 ·have HF := Aside0.mk (show ∀ W : World, Calls Try.prog 9 #[.agg #[.int .i64 a0_0, .int .i64 a0_1, .int .i64 a0_2, .int .i64 a0_3, .int .i64 a0_4]] W (fun e w' => e = .returned (.bool false) ∧ Below W.heap.size W w') from fun W => few_calls a0_0 a0_1 a0_2 a0_3 a0_4 false (decide_eq_false hF) W)
  clear hF
  go_enter Try.func6, Try.ntmps6
  go_wp2_with (first | ((with_reducible refine gate_dst (N := 2) rfl ?_); refine box_event ?hg (N := 2) ?hd (cs := #[.int .i64 a0_0, .int .i64 a0_1, .int .i64 a0_2, .int .i64 a0_3, .int .i64 a0_4]) (t := 23) ?hr ?_; (case hd => rfl); (case hg => rfl); (case hr => first | (go_simp; done) | (go_simp; rfl)); intro g2 hg w1 hbox hbk; have B2 := Aside0.mk hbox; have HGB2 := Aside0.mk (show w.heap.size ≤ g2 from by rw [hg]; exact HB.out.size); have n_HB := Aside0.mk (below_step HB.out hbk); clear HB; have HB := n_HB; clear n_HB; clear hbk hbox hg) | (go_at_call 8; (with_reducible refine (corrielaw08_awake.calls true _ rfl).mono ?_); rintro e w0 ⟨rfl, hbk⟩; have n_B2 := Aside0.mk (blk_below B2.out hbk); have n_HB := Aside0.mk (below_step HB.out hbk); clear B2 HB; have B2 := n_B2; have HB := n_HB; clear n_B2 n_HB; have c2_0 : w0.cell? ⟨g2, 0, none⟩ = some (.int .i64 a0_0) := (blk_cell B2.out 0).trans rfl; have c2_1 : w0.cell? ⟨g2, 1, none⟩ = some (.int .i64 a0_1) := (blk_cell B2.out 1).trans rfl; have c2_2 : w0.cell? ⟨g2, 2, none⟩ = some (.int .i64 a0_2) := (blk_cell B2.out 2).trans rfl; have c2_3 : w0.cell? ⟨g2, 3, none⟩ = some (.int .i64 a0_3) := (blk_cell B2.out 3).trans rfl; have c2_4 : w0.cell? ⟨g2, 4, none⟩ = some (.int .i64 a0_4) := (blk_cell B2.out 4).trans rfl; clear hbk) | (go_at_call 9; (with_reducible refine (HF.out _).mono ?_); rintro e wf ⟨rfl, hbk⟩; clear c2_0 c2_1 c2_2 c2_3 c2_4; have n_B2 := Aside0.mk (blk_below B2.out hbk); have n_HB := Aside0.mk (below_step HB.out hbk); clear B2 HB; have B2 := n_B2; have HB := n_HB; clear n_B2 n_HB; have c2_0 : wf.cell? ⟨g2, 0, none⟩ = some (.int .i64 a0_0) := (blk_cell B2.out 0).trans rfl; have c2_1 : wf.cell? ⟨g2, 1, none⟩ = some (.int .i64 a0_1) := (blk_cell B2.out 1).trans rfl; have c2_2 : wf.cell? ⟨g2, 2, none⟩ = some (.int .i64 a0_2) := (blk_cell B2.out 2).trans rfl; have c2_3 : wf.cell? ⟨g2, 3, none⟩ = some (.int .i64 a0_3) := (blk_cell B2.out 3).trans rfl; have c2_4 : wf.cell? ⟨g2, 4, none⟩ = some (.int .i64 a0_4) := (blk_cell B2.out 4).trans rfl; clear hbk))
  go_ret
  exact ⟨by first | rfl | (simp [*]; done), HB.out⟩
 by_cases hl : (30 : Int) < (l1.length : Int)
 ·have HF := Aside0.mk (show ∀ W : World, Calls Try.prog 9 #[.agg #[.int .i64 a0_0, .int .i64 a0_1, .int .i64 a0_2, .int .i64 a0_3, .int .i64 a0_4]] W (fun e w' => e = .returned (.bool true) ∧ Below W.heap.size W w') from fun W => few_calls a0_0 a0_1 a0_2 a0_3 a0_4 true (decide_eq_true hF) W)
  clear hF
  go_enter Try.func6, Try.ntmps6
  go_wp2_with (first | ((with_reducible refine gate_dst (N := 2) rfl ?_); refine box_event ?hg (N := 2) ?hd (cs := #[.int .i64 a0_0, .int .i64 a0_1, .int .i64 a0_2, .int .i64 a0_3, .int .i64 a0_4]) (t := 23) ?hr ?_; (case hd => rfl); (case hg => rfl); (case hr => first | (go_simp; done) | (go_simp; rfl)); intro g2 hg w1 hbox hbk; have B2 := Aside0.mk hbox; have HGB2 := Aside0.mk (show w.heap.size ≤ g2 from by rw [hg]; exact HB.out.size); have n_HB := Aside0.mk (below_step HB.out hbk); clear HB; have HB := n_HB; clear n_HB; clear hbk hbox hg) | (go_at_call 8; (with_reducible refine (corrielaw08_awake.calls true _ rfl).mono ?_); rintro e w0 ⟨rfl, hbk⟩; have n_B2 := Aside0.mk (blk_below B2.out hbk); have n_HB := Aside0.mk (below_step HB.out hbk); clear B2 HB; have B2 := n_B2; have HB := n_HB; clear n_B2 n_HB; have c2_0 : w0.cell? ⟨g2, 0, none⟩ = some (.int .i64 a0_0) := (blk_cell B2.out 0).trans rfl; have c2_1 : w0.cell? ⟨g2, 1, none⟩ = some (.int .i64 a0_1) := (blk_cell B2.out 1).trans rfl; have c2_2 : w0.cell? ⟨g2, 2, none⟩ = some (.int .i64 a0_2) := (blk_cell B2.out 2).trans rfl; have c2_3 : w0.cell? ⟨g2, 3, none⟩ = some (.int .i64 a0_3) := (blk_cell B2.out 3).trans rfl; have c2_4 : w0.cell? ⟨g2, 4, none⟩ = some (.int .i64 a0_4) := (blk_cell B2.out 4).trans rfl; clear hbk) | (go_at_call 9; (with_reducible refine (HF.out _).mono ?_); rintro e wf ⟨rfl, hbk⟩; clear c2_0 c2_1 c2_2 c2_3 c2_4; have n_B2 := Aside0.mk (blk_below B2.out hbk); have n_HB := Aside0.mk (below_step HB.out hbk); clear B2 HB; have B2 := n_B2; have HB := n_HB; clear n_B2 n_HB; have c2_0 : wf.cell? ⟨g2, 0, none⟩ = some (.int .i64 a0_0) := (blk_cell B2.out 0).trans rfl; have c2_1 : wf.cell? ⟨g2, 1, none⟩ = some (.int .i64 a0_1) := (blk_cell B2.out 1).trans rfl; have c2_2 : wf.cell? ⟨g2, 2, none⟩ = some (.int .i64 a0_2) := (blk_cell B2.out 2).trans rfl; have c2_3 : wf.cell? ⟨g2, 3, none⟩ = some (.int .i64 a0_3) := (blk_cell B2.out 3).trans rfl; have c2_4 : wf.cell? ⟨g2, 4, none⟩ = some (.int .i64 a0_4) := (blk_cell B2.out 4).trans rfl; clear hbk))
  go_ret
  exact ⟨by first | rfl | (simp [*]; done), HB.out⟩
 have HF := Aside0.mk (show ∀ W : World, Calls Try.prog 9 #[.agg #[.int .i64 a0_0, .int .i64 a0_1, .int .i64 a0_2, .int .i64 a0_3, .int .i64 a0_4]] W (fun e w' => e = .returned (.bool true) ∧ Below W.heap.size W w') from fun W => few_calls a0_0 a0_1 a0_2 a0_3 a0_4 true (decide_eq_true hF) W)
 have HL := Aside0.mk (show l1.length ≤ 30 from by omega)
 have hO := hF.1
 have HO := Aside0.mk hO
 clear hF
 have hbn := bnds hO
 obtain ⟨m, hm⟩ : ∃ m, cNew (1 + a0_1 + 2 * (a0_0 * a0_4) + a0_0 * a0_4 + a0_0) = m := ⟨_, rfl⟩
 have hml : (m : Int) = (1 + a0_1 + 2 * (a0_0 * a0_4) + a0_0 * a0_4 + a0_0) := by rw [← hm]; exact cNew_len (by omega) (by omega)
 have HM := Aside0.mk (show m ≤ 1000000 from by omega)
 have HN0 := Aside0.mk (show ∀ W : World, Calls Try.prog 10 #[.agg #[.int .i64 a0_0, .int .i64 a0_1, .int .i64 a0_2, .int .i64 a0_3, .int .i64 a0_4]] W (fun e w' => ∃ (pw gc gw : Nat) (bk : Value), e = .returned (.tuple #[.pointer (some ⟨pw, 0, none⟩), .int .i64 0]) ∧ WAt w' pw gc gw bk ⟨a0_0, a0_1, a0_2, a0_3, a0_4⟩ (List.replicate m 0) 0 ∧ (W.heap.size ≤ pw ∧ W.heap.size ≤ gc ∧ W.heap.size ≤ gw) ∧ Below W.heap.size W w') from fun W => (wl_New_ok ⟨a0_0, a0_1, a0_2, a0_3, a0_4⟩ hO (1 + a0_1 + 2 * (a0_0 * a0_4) + a0_0 * a0_4 + a0_0) (fun W => layout_Len.calls 8 a0_0 a0_1 a0_2 a0_3 a0_4 (1 + a0_1 + 2 * (a0_0 * a0_4) + a0_0 * a0_4 + a0_0) W (by rw [len_eq 0, if_pos hO])) W).mono (fun e w' h => by
  obtain ⟨pw, gc, gw, p, gt, go, gn, e1, hA, _, _, _, hg, hb⟩ := h
  rw [hm] at hA
  exact ⟨pw, gc, gw, _, e1, hA, hg, hb⟩))
 have H2 := Aside0.mk (show ∀ W : World, Below w.heap.size w W → Calls Try.prog 21 #[.agg #[.int .i64 a0_0, .int .i64 a0_1, .int .i64 a0_2, .int .i64 a0_3, .int .i64 a0_4]] W (fun e w' => ∃ (q : R8) (A : Option Addr) (C : Nat), e = .returned (.tuple #[.agg #[.int .i64 a0_0, .int .i64 a0_1, .int .i64 a0_2, .int .i64 a0_3, .int .i64 a0_4, .slice A (List.replicate m (0 : Int)).length C, .int .i64 0, .int .i64 a0_0, .int .i64 a0_1, .int .i64 a0_2, .int .i64 a0_3, .int .i64 a0_4, .slice q.a5 a0_0.toNat q.c5, .slice q.a6 a0_0.toNat q.c6, .slice q.a7 a0_0.toNat q.c7, .slice q.a8 0 q.c8, .slice q.a9 0 q.c9], .int .i64 0]) ∧ RU w w' A C (List.replicate m 0) ∧ Below W.heap.size W w') from fun W hB => (d8_New ⟨a0_0, a0_1, a0_2, a0_3, a0_4⟩ hO m hml W).mono (fun e w' h => by
  obtain ⟨q, A, C, e1, hR, hb⟩ := h
  refine ⟨q, A, C, ?_, ?_, hb⟩
  ·rw [List.length_replicate]
   exact e1
  ·unfold RU
   rw [List.length_replicate]
   exact Kd.R_lower hR hB.size))
 clear hm hbn hml
 go_enter Try.func6, Try.ntmps6
 go_wp2_with (first | ((with_reducible refine gate_dst (N := 2) rfl ?_); refine box_event ?hg (N := 2) ?hd (cs := #[.int .i64 a0_0, .int .i64 a0_1, .int .i64 a0_2, .int .i64 a0_3, .int .i64 a0_4]) (t := 23) ?hr ?_; (case hd => rfl); (case hg => rfl); (case hr => first | (go_simp; done) | (go_simp; rfl)); intro g2 hg w1 hbox hbk; have B2 := Aside0.mk hbox; have HGB2 := Aside0.mk (show w.heap.size ≤ g2 from by rw [hg]; exact HB.out.size); have n_HB := Aside0.mk (below_step HB.out hbk); clear HB; have HB := n_HB; clear n_HB; clear hbk hbox hg) | (go_at_call 8; (with_reducible refine (corrielaw08_awake.calls true _ rfl).mono ?_); rintro e w0 ⟨rfl, hbk⟩; have n_B2 := Aside0.mk (blk_below B2.out hbk); have n_HB := Aside0.mk (below_step HB.out hbk); clear B2 HB; have B2 := n_B2; have HB := n_HB; clear n_B2 n_HB; have c2_0 : w0.cell? ⟨g2, 0, none⟩ = some (.int .i64 a0_0) := (blk_cell B2.out 0).trans rfl; have c2_1 : w0.cell? ⟨g2, 1, none⟩ = some (.int .i64 a0_1) := (blk_cell B2.out 1).trans rfl; have c2_2 : w0.cell? ⟨g2, 2, none⟩ = some (.int .i64 a0_2) := (blk_cell B2.out 2).trans rfl; have c2_3 : w0.cell? ⟨g2, 3, none⟩ = some (.int .i64 a0_3) := (blk_cell B2.out 3).trans rfl; have c2_4 : w0.cell? ⟨g2, 4, none⟩ = some (.int .i64 a0_4) := (blk_cell B2.out 4).trans rfl; clear hbk) | (go_at_call 9; (with_reducible refine (HF.out _).mono ?_); rintro e wf ⟨rfl, hbk⟩; clear c2_0 c2_1 c2_2 c2_3 c2_4; have n_B2 := Aside0.mk (blk_below B2.out hbk); have n_HB := Aside0.mk (below_step HB.out hbk); clear B2 HB; have B2 := n_B2; have HB := n_HB; clear n_B2 n_HB; have c2_0 : wf.cell? ⟨g2, 0, none⟩ = some (.int .i64 a0_0) := (blk_cell B2.out 0).trans rfl; have c2_1 : wf.cell? ⟨g2, 1, none⟩ = some (.int .i64 a0_1) := (blk_cell B2.out 1).trans rfl; have c2_2 : wf.cell? ⟨g2, 2, none⟩ = some (.int .i64 a0_2) := (blk_cell B2.out 2).trans rfl; have c2_3 : wf.cell? ⟨g2, 3, none⟩ = some (.int .i64 a0_3) := (blk_cell B2.out 3).trans rfl; have c2_4 : wf.cell? ⟨g2, 4, none⟩ = some (.int .i64 a0_4) := (blk_cell B2.out 4).trans rfl; clear hbk) | (go_at_call 10; (with_reducible refine (HN0.out _).mono ?_); rintro e w3 ⟨pw, gc, gw, bk, rfl, hA, hg, hbk⟩; have HA := Aside0.mk hA; have HGN := Aside0.mk (show (w.heap.size ≤ pw ∧ w.heap.size ≤ gc ∧ w.heap.size ≤ gw) ∧ (g2 ≠ pw ∧ g2 ≠ gc ∧ g2 ≠ gw) from by have := HB.out.size; have := blk_lt B2.out; omega); clear c2_0 c2_1 c2_2 c2_3 c2_4; have n_B2 := Aside0.mk (blk_below B2.out hbk); have n_HB := Aside0.mk (below_step HB.out hbk); clear B2 HB; have B2 := n_B2; have HB := n_HB; clear n_B2 n_HB; have c2_0 : w3.cell? ⟨g2, 0, none⟩ = some (.int .i64 a0_0) := (blk_cell B2.out 0).trans rfl; have c2_1 : w3.cell? ⟨g2, 1, none⟩ = some (.int .i64 a0_1) := (blk_cell B2.out 1).trans rfl; have c2_2 : w3.cell? ⟨g2, 2, none⟩ = some (.int .i64 a0_2) := (blk_cell B2.out 2).trans rfl; have c2_3 : w3.cell? ⟨g2, 3, none⟩ = some (.int .i64 a0_3) := (blk_cell B2.out 3).trans rfl; have c2_4 : w3.cell? ⟨g2, 4, none⟩ = some (.int .i64 a0_4) := (blk_cell B2.out 4).trans rfl; clear hbk hA hg) | (go_at_call 21; (with_reducible refine (H2.out _ HB.out).mono ?_); rintro e w4 ⟨q, A, C, rfl, hR, hbk⟩; clear c2_0 c2_1 c2_2 c2_3 c2_4; have n_HA := Aside0.mk (HA.out.below hbk); have n_B2 := Aside0.mk (blk_below B2.out hbk); have n_HB := Aside0.mk (below_step HB.out hbk); clear HA B2 HB; have HA := n_HA; have B2 := n_B2; have HB := n_HB; clear n_HA n_B2 n_HB; have HR := Aside0.mk hR; clear hbk hR) | ((with_reducible refine gate_dst (N := 8) rfl ?_); refine box_event ?hg (N := 8) ?hd (cs := #[.int .i64 0, .int .i64 0, .int .i64 0, .int .i64 0, .int .i64 0, .slice none 0 0, .int .i64 0, .int .i64 0, .int .i64 0, .int .i64 0, .int .i64 0, .int .i64 0, .slice none 0 0, .slice none 0 0, .slice none 0 0, .slice none 0 0, .slice none 0 0]) (t := 60) ?hr ?_; (case hd => rfl); (case hg => rfl); (case hr => first | (go_simp; done) | (go_simp; rfl)); intro g8 hg w5 hbox hbk; have B8 := Aside0.mk hbox; have HD8 := Aside0.mk (show (pw ≠ g8 ∧ gc ≠ g8 ∧ gw ≠ g8) ∧ g2 ≠ g8 from by have := HA.out.lt; have := blk_lt B2.out; omega); have HGB8 := Aside0.mk (show w.heap.size ≤ g8 from by rw [hg]; exact HB.out.size); have n_HA := Aside0.mk (HA.out.below hbk); have n_HR := Aside0.mk (HR.out.below hbk); have n_B2 := Aside0.mk (blk_below B2.out hbk); have n_HB := Aside0.mk (below_step HB.out hbk); clear HA HR B2 HB; have HA := n_HA; have HR := n_HR; have B2 := n_B2; have HB := n_HB; clear n_HA n_HR n_B2 n_HB; clear hbk hbox hg) | ((with_reducible refine gate_store (p := 8) rfl ?_); refine wq_store (ty := 60) (p := .tmp 8) (x := .tmp 37) (g := g8) (i := 0) (k := 17) (v := ?v1) (vs := ?vs1) (cs' := ?cs1) ?hgd1 ?hdst1 ?ho1 ?hp1 ?hx1 ?hvc1 ?hi1 ?hk1 ?h11 B8.out ?hsz1 ?hcs1 ?_; (case hi1 => kernel_rfl); (case hgd1 => rfl); (case hdst1 => rfl); (case ho1 => rfl); (case hp1 => rfl); (case hx1 => go_simp; with_reducible rfl); (case hvc1 => simp only [Value.cells]; with_reducible rfl); (case hk1 => rfl); (case h11 => rfl); (case hsz1 => exact Nat.le_of_ble_eq_true rfl); (case hcs1 => simp only [wqPut, List.setIfInBounds_toArray, List.set_cons_succ, List.set_cons_zero, Nat.reduceAdd]; with_reducible rfl); intro w6 hb hgr; have n_HA := Aside0.mk (HA.out.grw hgr HD8.out.1); have n_HR := Aside0.mk (HR.out.grown B8.out (by decide) hgr); have n_B2 := Aside0.mk (wq_blk B2.out hgr HD8.out.2); have n_HB := Aside0.mk (HB.out.grown hgr HB.out.size (fun k hk => by cases hk; exact HGB8.out)); clear HA HR B2 HB B8; have HA := n_HA; have HR := n_HR; have B2 := n_B2; have HB := n_HB; have B8 := Aside0.mk hb; clear n_HA n_HR n_B2 n_HB hb hgr))
 go_loopg [10] l1.length (fun kq v10 wr => ∃ (i : Nat) (A : Option Addr) (C : Nat) (ws : List Int) (st : Int), v10 = .int .i64 i ∧ Aside0 (i ≤ l1.length) ∧ Aside0 (l1.length - i ≤ kq) ∧ Aside0 (ws.length = m) ∧ Aside0 (WAt wr pw gc gw bk ⟨a0_0, a0_1, a0_2, a0_3, a0_4⟩ ws st) ∧ Aside0 (RU w wr A C ws) ∧ Aside0 (wr.heap[g2]? = some (.cells #[.int .i64 a0_0, .int .i64 a0_1, .int .i64 a0_2, .int .i64 a0_3, .int .i64 a0_4] 23 (0, 0))) ∧ Aside0 (wr.heap[g8]? = some (.cells #[.int .i64 a0_0, .int .i64 a0_1, .int .i64 a0_2, .int .i64 a0_3, .int .i64 a0_4, .slice A ws.length C, .int .i64 st, .int .i64 a0_0, .int .i64 a0_1, .int .i64 a0_2, .int .i64 a0_3, .int .i64 a0_4, .slice q.a5 a0_0.toNat q.c5, .slice q.a6 a0_0.toNat q.c6, .slice q.a7 a0_0.toNat q.c7, .slice q.a8 0 q.c8, .slice q.a9 0 q.c9] 60 (0, 0))) ∧ Aside0 (Below w.heap.size w wr))
 case atStart => exact ⟨0, A, C, _, 0, rfl, ⟨Nat.zero_le _⟩, ⟨by omega⟩, ⟨List.length_replicate⟩, HA, HR, B2, ⟨by rw [List.length_replicate]; exact B8.out⟩, HB⟩
 case round =>
  clear HB HA HR B2 B8
  obtain ⟨i, A, C, ws, st, rfl, HJ, HK, HLW, HA, HR, B2, B8, HB⟩ := hrel
  by_cases hlt : i < l1.length
  ·have hltb : (i : Int) < (l1.length : Int) := by omega
   have HLTI := Aside0.mk hlt
   obtain ⟨ad, e4, hW0, hW1, hW2, hW3, hW4⟩ := at_T27 HR1.out (i : Int) (by omega) (by omega)
   cases e4
   have HX := Aside0.mk (show rd_T27 l1 (i : Int) = l1[i] from by unfold rd_T27; simp [List.getD, hlt])
   simp only [Int.toNat_natCast] at hW0 hW1 hW2 hW3 hW4
   generalize rd_T27 l1 (i : Int) = x at hW0 hW1 hW2 hW3 hW4 HX
   have hx0 : 0 ≤ x.f0 ∧ x.f0 ≤ 255 := by
    have h := HW.out l1[i] (List.getElem_mem hlt)
    rw [← HX.out] at h
    simp only [Lit.wf, IntKind.min, IntKind.max, IntKind.signed, IntKind.bits, Bool.and_eq_true] at h
    exact ⟨by simpa using h.1, by simpa using h.2⟩
   have hkx : 0 ≤ (Int.tmod x.f0 7) ∧ (Int.tmod x.f0 7) < 7 := by rw [Int.tmod_eq_emod_of_nonneg hx0.1]; omega
   obtain ⟨v1, e1⟩ : ∃ v, (wDo ws (Int.tmod x.f0 7) (xOf a0_0 a0_1 a0_4 (Int.tmod x.f0 7) x.f1) x.f2 x.f3 x.f4).1 = v := ⟨_, rfl⟩
   obtain ⟨b1, e2⟩ : ∃ v, (wDo ws (Int.tmod x.f0 7) (xOf a0_0 a0_1 a0_4 (Int.tmod x.f0 7) x.f1) x.f2 x.f3 x.f4).2.1 = v := ⟨_, rfl⟩
   obtain ⟨n1, e3⟩ : ∃ v, (wDo ws (Int.tmod x.f0 7) (xOf a0_0 a0_1 a0_4 (Int.tmod x.f0 7) x.f1) x.f2 x.f3 x.f4).2.2.1 = v := ⟨_, rfl⟩
   obtain ⟨ws2, e4⟩ : ∃ v, (wDo ws (Int.tmod x.f0 7) (xOf a0_0 a0_1 a0_4 (Int.tmod x.f0 7) x.f1) x.f2 x.f3 x.f4).2.2.2 = v := ⟨_, rfl⟩
   obtain ⟨st2, e5⟩ : ∃ v, cSt ws st (xOf a0_0 a0_1 a0_4 (Int.tmod x.f0 7) x.f1) = v := ⟨_, rfl⟩
   have HLW2 := Aside0.mk (show ws2.length = m from by rw [← e4, wDo_len, HLW.out])
   have hO := HO.out
   have HDO := Aside0.mk (show ∀ (W : World), WAt W pw gc gw bk ⟨a0_0, a0_1, a0_2, a0_3, a0_4⟩ ws st → Calls Try.prog 11 #[.pointer (some ⟨pw, 0, none⟩), .agg #[.int .u8 x.f0, .int .i64 x.f1, .int .u16 x.f2, .int .u64 x.f3, .int .u64 x.f4]] W (fun e w' => e = .returned (.tuple #[.int .u64 v1, .bool b1, .int .i64 n1]) ∧ WAt w' pw gc gw bk ⟨a0_0, a0_1, a0_2, a0_3, a0_4⟩ ws2 st2 ∧ Touch (fun k => k = gc ∨ k = gw) W w') from fun W h => by
    have h2 := wl_do pw gc gw bk ⟨a0_0, a0_1, a0_2, a0_3, a0_4⟩ ws st x.f0 x.f1 x.f2 x.f3 x.f4 (xOf a0_0 a0_1 a0_4 (Int.tmod x.f0 7) x.f1) W h hkx (fun h => fun W => layout_Next.calls 8 a0_0 a0_1 a0_2 a0_3 a0_4 x.f1 _ W (by rw [next_eq 0, xN hO h])) (fun h => fun W => layout_Word.calls 8 a0_0 a0_1 a0_2 a0_3 a0_4 x.f1 _ W (by rw [word_eq 0, xW hO h])) (fun h => fun W => layout_Ann.calls 8 a0_0 a0_1 a0_2 a0_3 a0_4 x.f1 _ W (by rw [ann_eq 0, xA hO h]))
    rw [e1, e2, e3, e4, e5] at h2
    exact h2)
   have HRD := Aside0.mk (show ∀ (W : World), Below w.heap.size w W → RU w W A C ws → Calls Try.prog 25 #[.agg #[.int .i64 a0_0, .int .i64 a0_1, .int .i64 a0_2, .int .i64 a0_3, .int .i64 a0_4, .slice A ws.length C, .int .i64 st, .int .i64 a0_0, .int .i64 a0_1, .int .i64 a0_2, .int .i64 a0_3, .int .i64 a0_4, .slice q.a5 a0_0.toNat q.c5, .slice q.a6 a0_0.toNat q.c6, .slice q.a7 a0_0.toNat q.c7, .slice q.a8 0 q.c8, .slice q.a9 0 q.c9], .agg #[.int .u8 x.f0, .int .i64 x.f1, .int .u16 x.f2, .int .u64 x.f3, .int .u64 x.f4]] W (fun e w' => ∃ (A' : Option Addr) (C' : Nat), e = .returned (.tuple #[.agg #[.int .i64 a0_0, .int .i64 a0_1, .int .i64 a0_2, .int .i64 a0_3, .int .i64 a0_4, .slice A' ws2.length C', .int .i64 st2, .int .i64 a0_0, .int .i64 a0_1, .int .i64 a0_2, .int .i64 a0_3, .int .i64 a0_4, .slice q.a5 a0_0.toNat q.c5, .slice q.a6 a0_0.toNat q.c6, .slice q.a7 a0_0.toNat q.c7, .slice q.a8 0 q.c8, .slice q.a9 0 q.c9], .int .u64 v1, .bool b1, .int .i64 n1]) ∧ RU w w' A' C' ws2 ∧ T25 W w' ∧ Below w.heap.size w w') from fun W hB hR => by
    have h2 := d8_Do w W ⟨a0_0, a0_1, a0_2, a0_3, a0_4⟩ a0_0.toNat q A C ws (by rw [HLW.out]; exact HM.out) st x.f0 x.f1 x.f2 x.f3 x.f4 (xOf a0_0 a0_1 a0_4 (Int.tmod x.f0 7) x.f1) hB hR hkx (fun h => fun W => corrieref05_Next.calls 1 a0_0 a0_1 a0_2 a0_3 a0_4 x.f1 _ W (by rw [rnext_eq 0, xN hO h])) (fun h => fun W => corrieref05_Word.calls 1 a0_0 a0_1 a0_2 a0_3 a0_4 x.f1 _ W (by rw [rword_eq 0, xW hO h])) (fun h => fun W => corrieref05_Ann.calls 1 a0_0 a0_1 a0_2 a0_3 a0_4 x.f1 _ W (by rw [rann_eq 0, xA hO h]))
    rw [e1, e2, e3, e4, e5] at h2
    exact h2)
   have HST := Aside0.mk (show ∀ (W : World), CellsAt W gc gw ws2 st2 → Calls Try.prog 14 #[.pointer (some ⟨gc, 0, none⟩)] W (fun e w' => e = .returned (.int .i64 st2) ∧ Below W.heap.size W w') from fun W h => (cel_Steps gc gw ws2 st2 W h).mono (fun e w' h => ⟨h.1, by rw [h.2]; exact Below.refl _ _⟩))
   clear e1 e2 e3 e4 e5 hkx hx0 hO HX
   have hx0 := pw_cell_below HB.out hW0
   have hx1 := pw_cell_below HB.out hW1
   have hx2 := pw_cell_below HB.out hW2
   have hx3 := pw_cell_below HB.out hW3
   have hx4 := pw_cell_below HB.out hW4
   go_upto_region 12 with (first | (go_at_call 11; (with_reducible refine (HDO.out _ HA.out).mono ?_); rintro e w7 ⟨rfl, hA, hT⟩; have hgn := HGN.out; have hd := HD8.out; have n_B2 := Aside0.mk (blk_touch B2.out hT (fun e => e.elim hgn.2.2.1 hgn.2.2.2)); have n_B8 := Aside0.mk (blk_touch B8.out hT (fun e => e.elim (fun h => hd.1.2.1 h.symm) (fun h => hd.1.2.2 h.symm))); have n_HR := Aside0.mk (HR.out.touch HA.out hT); have n_HB := Aside0.mk (HB.out.trans (hT.below HB.out.size (fun k hk => by rcases hk with rfl | rfl <;> omega))); clear HA B2 B8 HR HB hgn hd hx0 hx1 hx2 hx3 hx4; have HA := Aside0.mk hA; have B2 := n_B2; have B8 := n_B8; have HR := n_HR; have HB := n_HB; clear n_B2 n_B8 n_HR n_HB hA hT))
   have HGB8_ := HGB8
   have HGB2_ := HGB2
   clear HGB8 HGB2
   have HGB2 := Aside0.mk HGB2_.out
   have HGB8 := Aside0.mk (And.intro HD8.out.2 HGB8_.out)
   obtain ⟨XB8, hXB8, hb_B8⟩ := wq_name B8.out
   clear B8
   have B8 := Aside0.mk hb_B8
   have HXB8 := Aside0.mk hXB8
   clear hXB8 hb_B8
   have n_HA := Aside0.mk (HA.out.drew)
   have n_HR := Aside0.mk (HR.out.drew)
   have n_HB := Aside0.mk (below_drew1 HB.out)
   have n_B2 := Aside0.mk (blk_drew B2.out)
   have n_B8 := Aside0.mk (blk_drew B8.out)
   clear HA HR HB B2 B8
   have HA := n_HA
   have HR := n_HR
   have HB := n_HB
   have B2 := n_B2
   have B8 := n_B8
   clear n_HA n_HR n_HB n_B2 n_B8
   refine start_ (n := 16) (S := fun w' => w'.heap[g8]? = some (.cells XB8 60 (0, 0)) ∧ w'.cell? (ad.add (i * 5)) = some (.int .u8 x.f0) ∧ w'.cell? ⟨(ad.add (i * 5)).block, (ad.add (i * 5)).off + 1, none⟩ = some (.int .i64 x.f1) ∧ w'.cell? ⟨(ad.add (i * 5)).block, (ad.add (i * 5)).off + 2, none⟩ = some (.int .u16 x.f2) ∧ w'.cell? ⟨(ad.add (i * 5)).block, (ad.add (i * 5)).off + 3, none⟩ = some (.int .u64 x.f3) ∧ w'.cell? ⟨(ad.add (i * 5)).block, (ad.add (i * 5)).off + 4, none⟩ = some (.int .u64 x.f4)) (ds := [12]) #[false, false, false, false, false, false, false, false, false, false, false, false, false, false, false, false] (by kernel_rfl) rfl rfl ⟨B8.out, (pw_cell_below HB.out hW0), (pw_cell_below HB.out hW1), (pw_cell_below HB.out hW2), (pw_cell_below HB.out hW3), (pw_cell_below HB.out hW4)⟩ (fun hHeld => ?_); refine with_tabW wac.tab12 wac.bits12 (fun HT_ HW_ => ?_)
   generalize w7.drew = v1_ at HA HR HB B2 B8 hHeld ⊢
   refine pure_ (i := 1) (N := some 59) (v := ?_) (a' := ?_) (wac_lb 16 2) rfl rfl (any_of HT_.out (by kernel_rfl)) (fun _ _ _ h => h) (Or.inl ⟨by rfl, ?_⟩) ?_ ?_; rotate_left
   ·intro w'; go_simp; with_reducible rfl
   rotate_left
   ·simp only [Act.put, List.setIfInBounds_toArray, List.set_cons_zero, List.set_cons_succ, i64_w, i32_w]; rfl
   refine pure_ (i := 2) (N := some 60) (v := ?_) (a' := ?_) (wac_lb 16 6) rfl rfl (any_of HT_.out (by kernel_rfl)) (fun _ _ _ h => h) (Or.inl ⟨by rfl, ?_⟩) ?_ ?_; rotate_left
   ·intro w'; go_simp; with_reducible rfl
   rotate_left
   ·simp only [Act.put, List.setIfInBounds_toArray, List.set_cons_zero, List.set_cons_succ, i64_w, i32_w]; rfl
   refine pure_ (i := 3) (N := some 61) (v := ?_) (a' := ?_) (wac_lb 16 14) rfl rfl (any_of HT_.out (by kernel_rfl)) (fun _ _ _ h => h) (Or.inl ⟨by rfl, ?_⟩) ?_ ?_; rotate_left
   ·intro w'; go_simp; with_reducible rfl
   rotate_left
   ·simp only [Act.put, List.setIfInBounds_toArray, List.set_cons_zero, List.set_cons_succ, i64_w, i32_w]; rfl
   refine take_ (i := 0) (N := some 58) (v := ?_) (a' := ?_) (wac_lb 16 15) rfl rfl (take_ofW HT_.out HW_.out (by kernel_rfl)) (fun _ _ _ h => h) (Or.inl ⟨by rfl, ?_⟩) hHeld ?_ ?_; rotate_left
   ·rintro w' ⟨s0, s1, s2, s3, s4, s5⟩; refine Eq.trans (wq_run_loadA (ty := 60) (p := .tmp 8) (g := g8) (i := 0) (k := 17) (vs := ?vs7) ?ho7 ?hp7 Try.underlying60 ?hd7 ?hi7 s0 ?hv7 ?hk7) ?fin7; (case hd7 => rfl); (case hi7 => kernel_rfl); (case ho7 => rfl); (case hp7 => rfl); (case hv7 => rewrite [HXB8.out]; simp only [List.drop_succ_cons, List.drop_zero, List.take_succ_cons, List.take_zero, List.take_nil, List.drop_nil]; with_reducible rfl); (case hk7 => rfl); (case fin7 => with_reducible rfl)
   rotate_left
   ·simp only [Act.put, List.setIfInBounds_toArray, List.set_cons_zero, List.set_cons_succ, i64_w, i32_w]; rfl
   refine take_ (i := 4) (N := some 62) (v := ?_) (a' := ?_) (wac_lb 16 31) rfl rfl (take_ofW HT_.out HW_.out (by kernel_rfl)) (fun _ _ _ h => h) (Or.inl ⟨by rfl, ?_⟩) hHeld ?_ ?_; rotate_left
   ·rintro w' ⟨s0, s1, s2, s3, s4, s5⟩; go_simp; with_reducible rfl
   rotate_left
   ·simp only [Act.put, List.setIfInBounds_toArray, List.set_cons_zero, List.set_cons_succ, i64_w, i32_w]; rfl
   refine join_ (σ := Option Addr × Nat × Nat) 4 (wac_lb 16 4095) (fun s => [(63, .tuple #[.agg #[.int .i64 a0_0, .int .i64 a0_1, .int .i64 a0_2, .int .i64 a0_3, .int .i64 a0_4, .slice s.1 ws2.length s.2.1, .int .i64 st2, .int .i64 a0_0, .int .i64 a0_1, .int .i64 a0_2, .int .i64 a0_3, .int .i64 a0_4, .slice q.a5 a0_0.toNat q.c5, .slice q.a6 a0_0.toNat q.c6, .slice q.a7 a0_0.toNat q.c7, .slice q.a8 0 q.c8, .slice q.a9 0 q.c9], .int .u64 v1, .bool b1, .int .i64 n1]), (57, .tuple #[.agg #[.int .i64 a0_0, .int .i64 a0_1, .int .i64 a0_2, .int .i64 a0_3, .int .i64 a0_4, .slice s.1 ws2.length s.2.1, .int .i64 st2, .int .i64 a0_0, .int .i64 a0_1, .int .i64 a0_2, .int .i64 a0_3, .int .i64 a0_4, .slice q.a5 a0_0.toNat q.c5, .slice q.a6 a0_0.toNat q.c6, .slice q.a7 a0_0.toNat q.c7, .slice q.a8 0 q.c8, .slice q.a9 0 q.c9], .int .u64 v1, .bool b1, .int .i64 n1]), (64, .agg #[.int .i64 a0_0, .int .i64 a0_1, .int .i64 a0_2, .int .i64 a0_3, .int .i64 a0_4, .slice s.1 ws2.length s.2.1, .int .i64 st2, .int .i64 a0_0, .int .i64 a0_1, .int .i64 a0_2, .int .i64 a0_3, .int .i64 a0_4, .slice q.a5 a0_0.toNat q.c5, .slice q.a6 a0_0.toNat q.c6, .slice q.a7 a0_0.toNat q.c7, .slice q.a8 0 q.c8, .slice q.a9 0 q.c9]), (65, .int .u64 v1), (66, .bool b1), (67, .int .i64 n1), (14, .pointer (some ⟨s.2.2, 0, none⟩))]) (fun s w' => Aside0 (WAt w' pw gc gw bk ⟨a0_0, a0_1, a0_2, a0_3, a0_4⟩ ws2 st2) ∧ Aside0 (RU w w' s.1 s.2.1 ws2) ∧ Aside0 (Below w.heap.size w w') ∧ Aside0 (w'.heap[g2]? = some (.cells #[.int .i64 a0_0, .int .i64 a0_1, .int .i64 a0_2, .int .i64 a0_3, .int .i64 a0_4] 23 (0, 0))) ∧ Aside0 (w'.heap[g8]? = some (.cells XB8 60 (0, 0))) ∧ Aside0 (w'.heap[s.2.2]? = some (.cells #[.int .i64 0, .int .i64 0, .int .i64 0, .int .i64 0, .int .i64 0, .slice none 0 0, .int .i64 0, .int .i64 0, .int .i64 0, .int .i64 0, .int .i64 0, .int .i64 0, .slice none 0 0, .slice none 0 0, .slice none 0 0, .slice none 0 0, .slice none 0 0] 60 (0, 0))) ∧ Aside0 ((g2 ≠ s.2.2 ∧ g8 ≠ s.2.2 ∧ w.heap.size ≤ s.2.2) ∧ (pw ≠ s.2.2 ∧ gc ≠ s.2.2 ∧ gw ≠ s.2.2))) ?_ ?_
   rotate_left
   ·intro hCont
    refine two_ (i := 5) (j := 11) (Ni := some 63) (Nj := some 14) (wac_lb 16 63) (wac_lb 16 2079) rfl rfl rfl rfl (two_of HT_.out (by kernel_rfl)) (by decide) (by decide) (fun K hK => ?_) (fun K hK => ?_)
    ·skip
     refine goes_ Try.func25 (by kernel_rfl) rfl ?args3 ?hw3 rfl rfl ?hargs3 ?_
     case hw3 => rfl
     case hargs3 => go_simp; with_reducible rfl
     with_reducible refine (HRD.out _ HB.out HR.out).mono ?_
     rintro e w8_ ⟨A1, C1, rfl, hR, hT, hb⟩
     refine ⟨_, rfl, ?_⟩
     have n_HA := Aside0.mk (HA.out.t25 hT)
     have n_HR := Aside0.mk hR
     have n_HB := Aside0.mk hb
     have n_B2 := Aside0.mk (blk_t25 B2.out hT (by decide))
     have n_B8 := Aside0.mk (blk_t25 B8.out hT (by decide))
     clear HA HR HB B2 B8 hR hT hb
     have HA := n_HA
     have HR := n_HR
     have HB := n_HB
     have B2 := n_B2
     have B8 := n_B8
     clear n_HA n_HR n_HB n_B2 n_B8
     refine hK.out _ _ ⟨B8.out, (pw_cell_below HB.out hW0), (pw_cell_below HB.out hW1), (pw_cell_below HB.out hW2), (pw_cell_below HB.out hW3), (pw_cell_below HB.out hW4)⟩ (fun hHeld => ?_)
     clear hK K
     refine norm_ (a' := ?_) ?_ ?_
     rotate_left
     ·show Act.put _ (some 63) _ = _
      simp only [Act.put, List.setIfInBounds_toArray, List.set_cons_zero, List.set_cons_succ, i64_w, i32_w]
      rfl
     refine pure_ (i := 6) (N := some 57) (v := ?_) (a' := ?_) (wac_lb 16 127) rfl rfl (any_of HT_.out (by kernel_rfl)) (fun _ _ _ h => h) (Or.inl ⟨by rfl, ?_⟩) ?_ ?_; rotate_left
     ·intro w'; go_simp; with_reducible rfl
     rotate_left
     ·simp only [Act.put, List.setIfInBounds_toArray, List.set_cons_zero, List.set_cons_succ, i64_w, i32_w]; rfl
     refine pure_ (i := 7) (N := some 64) (v := ?_) (a' := ?_) (wac_lb 16 255) rfl rfl (any_of HT_.out (by kernel_rfl)) (fun _ _ _ h => h) (Or.inl ⟨by rfl, ?_⟩) ?_ ?_; rotate_left
     ·intro w'; go_simp; with_reducible rfl
     rotate_left
     ·simp only [Act.put, List.setIfInBounds_toArray, List.set_cons_zero, List.set_cons_succ, i64_w, i32_w]; rfl
     refine pure_ (i := 8) (N := some 65) (v := ?_) (a' := ?_) (wac_lb 16 511) rfl rfl (any_of HT_.out (by kernel_rfl)) (fun _ _ _ h => h) (Or.inl ⟨by rfl, ?_⟩) ?_ ?_; rotate_left
     ·intro w'; go_simp; with_reducible rfl
     rotate_left
     ·simp only [Act.put, List.setIfInBounds_toArray, List.set_cons_zero, List.set_cons_succ, i64_w, i32_w]; rfl
     refine pure_ (i := 9) (N := some 66) (v := ?_) (a' := ?_) (wac_lb 16 1023) rfl rfl (any_of HT_.out (by kernel_rfl)) (fun _ _ _ h => h) (Or.inl ⟨by rfl, ?_⟩) ?_ ?_; rotate_left
     ·intro w'; go_simp; with_reducible rfl
     rotate_left
     ·simp only [Act.put, List.setIfInBounds_toArray, List.set_cons_zero, List.set_cons_succ, i64_w, i32_w]; rfl
     refine pure_ (i := 10) (N := some 67) (v := ?_) (a' := ?_) (wac_lb 16 2047) rfl rfl (any_of HT_.out (by kernel_rfl)) (fun _ _ _ h => h) (Or.inl ⟨by rfl, ?_⟩) ?_ ?_; rotate_left
     ·intro w'; go_simp; with_reducible rfl
     rotate_left
     ·simp only [Act.put, List.setIfInBounds_toArray, List.set_cons_zero, List.set_cons_succ, i64_w, i32_w]; rfl
     refine one_ (i := 11) (N := some 14) (wac_lb 16 4095) rfl rfl (one_of HT_.out (by kernel_rfl)) (by decide) (fun K hK => ?_)
     refine wq_value ?hw4 ?hN4 (cs := #[.int .i64 0, .int .i64 0, .int .i64 0, .int .i64 0, .int .i64 0, .slice none 0 0, .int .i64 0, .int .i64 0, .int .i64 0, .int .i64 0, .int .i64 0, .int .i64 0, .slice none 0 0, .slice none 0 0, .slice none 0 0, .slice none 0 0, .slice none 0 0]) (t := 60) ?hr4 ?_
     case hw4 => rfl
     case hN4 => rfl
     case hr4 => first | (go_simp; done) | (go_simp; rfl)
     intro g21 hg w9_ hbox hbk
     have HGB21 := Aside0.mk (show (g2 ≠ g21 ∧ g8 ≠ g21 ∧ w.heap.size ≤ g21) ∧ (pw ≠ g21 ∧ gc ≠ g21 ∧ gw ≠ g21) from by rw [hg]; have := blk_lt B2.out; have := blk_lt B8.out; have := HB.out.size; have := HA.out.lt; omega)
     have n_HA := Aside0.mk (HA.out.below hbk)
     have n_HR := Aside0.mk (HR.out.below hbk)
     have n_HB := Aside0.mk (below_step HB.out hbk)
     have n_B2 := Aside0.mk (blk_below B2.out hbk)
     have n_B8 := Aside0.mk (blk_below B8.out hbk)
     clear HA HR HB B2 B8
     have HA := n_HA
     have HR := n_HR
     have HB := n_HB
     have B2 := n_B2
     have B8 := n_B8
     clear n_HA n_HR n_HB n_B2 n_B8
     have B21 := Aside0.mk hbox
     clear hbk hbox hg
     refine hK.out _ _ ⟨B8.out, (pw_cell_below HB.out hW0), (pw_cell_below HB.out hW1), (pw_cell_below HB.out hW2), (pw_cell_below HB.out hW3), (pw_cell_below HB.out hW4)⟩ (fun hHeld => ?_)
     clear hK K
     refine norm_ (a' := ?_) ?_ ?_
     rotate_left
     ·show Act.put _ (some 14) _ = _
      simp only [Act.put, List.setIfInBounds_toArray, List.set_cons_zero, List.set_cons_succ, i64_w, i32_w]
      rfl
     exact norm_ (by simp only [putAll, Act.put, List.setIfInBounds_toArray, List.set_cons_zero, List.set_cons_succ]) (hCont (A1, C1, g21) _ ⟨HA, HR, HB, B2, B8, B21, HGB21⟩)
    ·skip
     refine wq_value ?hw5 ?hN5 (cs := #[.int .i64 0, .int .i64 0, .int .i64 0, .int .i64 0, .int .i64 0, .slice none 0 0, .int .i64 0, .int .i64 0, .int .i64 0, .int .i64 0, .int .i64 0, .int .i64 0, .slice none 0 0, .slice none 0 0, .slice none 0 0, .slice none 0 0, .slice none 0 0]) (t := 60) ?hr5 ?_
     case hw5 => rfl
     case hN5 => rfl
     case hr5 => first | (go_simp; done) | (go_simp; rfl)
     intro g21 hg w9_ hbox hbk
     have HGB21 := Aside0.mk (show (g2 ≠ g21 ∧ g8 ≠ g21 ∧ w.heap.size ≤ g21) ∧ (pw ≠ g21 ∧ gc ≠ g21 ∧ gw ≠ g21) from by rw [hg]; have := blk_lt B2.out; have := blk_lt B8.out; have := HB.out.size; have := HA.out.lt; omega)
     have n_HA := Aside0.mk (HA.out.below hbk)
     have n_HR := Aside0.mk (HR.out.below hbk)
     have n_HB := Aside0.mk (below_step HB.out hbk)
     have n_B2 := Aside0.mk (blk_below B2.out hbk)
     have n_B8 := Aside0.mk (blk_below B8.out hbk)
     clear HA HR HB B2 B8
     have HA := n_HA
     have HR := n_HR
     have HB := n_HB
     have B2 := n_B2
     have B8 := n_B8
     clear n_HA n_HR n_HB n_B2 n_B8
     have B21 := Aside0.mk hbox
     clear hbk hbox hg
     refine hK.out _ _ ⟨B8.out, (pw_cell_below HB.out hW0), (pw_cell_below HB.out hW1), (pw_cell_below HB.out hW2), (pw_cell_below HB.out hW3), (pw_cell_below HB.out hW4)⟩ (fun hHeld => ?_)
     clear hK K
     refine norm_ (a' := ?_) ?_ ?_
     rotate_left
     ·show Act.put _ (some 14) _ = _
      simp only [Act.put, List.setIfInBounds_toArray, List.set_cons_zero, List.set_cons_succ, i64_w, i32_w]
      rfl
     refine one_ (i := 5) (N := some 63) (wac_lb 16 2111) rfl rfl (one_of HT_.out (by kernel_rfl)) (by decide) (fun K hK => ?_)
     refine goes_ Try.func25 (by kernel_rfl) rfl ?args6 ?hw6 rfl rfl ?hargs6 ?_
     case hw6 => rfl
     case hargs6 => go_simp; with_reducible rfl
     with_reducible refine (HRD.out _ HB.out HR.out).mono ?_
     rintro e w8_ ⟨A1, C1, rfl, hR, hT, hb⟩
     refine ⟨_, rfl, ?_⟩
     have n_HA := Aside0.mk (HA.out.t25 hT)
     have n_HR := Aside0.mk hR
     have n_HB := Aside0.mk hb
     have n_B2 := Aside0.mk (blk_t25 B2.out hT (by decide))
     have n_B8 := Aside0.mk (blk_t25 B8.out hT (by decide))
     have n_B21 := Aside0.mk (blk_t25 B21.out hT (by decide))
     clear HA HR HB B2 B8 B21 hR hT hb
     have HA := n_HA
     have HR := n_HR
     have HB := n_HB
     have B2 := n_B2
     have B8 := n_B8
     have B21 := n_B21
     clear n_HA n_HR n_HB n_B2 n_B8 n_B21
     refine hK.out _ _ ⟨B8.out, (pw_cell_below HB.out hW0), (pw_cell_below HB.out hW1), (pw_cell_below HB.out hW2), (pw_cell_below HB.out hW3), (pw_cell_below HB.out hW4)⟩ (fun hHeld => ?_)
     clear hK K
     refine norm_ (a' := ?_) ?_ ?_
     rotate_left
     ·show Act.put _ (some 63) _ = _
      simp only [Act.put, List.setIfInBounds_toArray, List.set_cons_zero, List.set_cons_succ, i64_w, i32_w]
      rfl
     refine pure_ (i := 6) (N := some 57) (v := ?_) (a' := ?_) (wac_lb 16 2175) rfl rfl (any_of HT_.out (by kernel_rfl)) (fun _ _ _ h => h) (Or.inl ⟨by rfl, ?_⟩) ?_ ?_; rotate_left
     ·intro w'; go_simp; with_reducible rfl
     rotate_left
     ·simp only [Act.put, List.setIfInBounds_toArray, List.set_cons_zero, List.set_cons_succ, i64_w, i32_w]; rfl
     refine pure_ (i := 7) (N := some 64) (v := ?_) (a' := ?_) (wac_lb 16 2303) rfl rfl (any_of HT_.out (by kernel_rfl)) (fun _ _ _ h => h) (Or.inl ⟨by rfl, ?_⟩) ?_ ?_; rotate_left
     ·intro w'; go_simp; with_reducible rfl
     rotate_left
     ·simp only [Act.put, List.setIfInBounds_toArray, List.set_cons_zero, List.set_cons_succ, i64_w, i32_w]; rfl
     refine pure_ (i := 8) (N := some 65) (v := ?_) (a' := ?_) (wac_lb 16 2559) rfl rfl (any_of HT_.out (by kernel_rfl)) (fun _ _ _ h => h) (Or.inl ⟨by rfl, ?_⟩) ?_ ?_; rotate_left
     ·intro w'; go_simp; with_reducible rfl
     rotate_left
     ·simp only [Act.put, List.setIfInBounds_toArray, List.set_cons_zero, List.set_cons_succ, i64_w, i32_w]; rfl
     refine pure_ (i := 9) (N := some 66) (v := ?_) (a' := ?_) (wac_lb 16 3071) rfl rfl (any_of HT_.out (by kernel_rfl)) (fun _ _ _ h => h) (Or.inl ⟨by rfl, ?_⟩) ?_ ?_; rotate_left
     ·intro w'; go_simp; with_reducible rfl
     rotate_left
     ·simp only [Act.put, List.setIfInBounds_toArray, List.set_cons_zero, List.set_cons_succ, i64_w, i32_w]; rfl
     refine pure_ (i := 10) (N := some 67) (v := ?_) (a' := ?_) (wac_lb 16 4095) rfl rfl (any_of HT_.out (by kernel_rfl)) (fun _ _ _ h => h) (Or.inl ⟨by rfl, ?_⟩) ?_ ?_; rotate_left
     ·intro w'; go_simp; with_reducible rfl
     rotate_left
     ·simp only [Act.put, List.setIfInBounds_toArray, List.set_cons_zero, List.set_cons_succ, i64_w, i32_w]; rfl
     exact norm_ (by simp only [putAll, Act.put, List.setIfInBounds_toArray, List.set_cons_zero, List.set_cons_succ]) (hCont (A1, C1, g21) _ ⟨HA, HR, HB, B2, B8, B21, HGB21⟩)
   clear HA HR HB B2 B8 hHeld
   rintro ⟨A1, C1, g21⟩ w10_ ⟨HA, HR, HB, B2, B8, B21, HGX⟩
   have HGB21 := Aside0.mk HGX.out.1
   have HNB21 := Aside0.mk HGX.out.2
   clear HGX
   have hHeld := (show w10_.heap[g8]? = some (.cells XB8 60 (0, 0)) ∧ w10_.cell? (ad.add (i * 5)) = some (.int .u8 x.f0) ∧ w10_.cell? ⟨(ad.add (i * 5)).block, (ad.add (i * 5)).off + 1, none⟩ = some (.int .i64 x.f1) ∧ w10_.cell? ⟨(ad.add (i * 5)).block, (ad.add (i * 5)).off + 2, none⟩ = some (.int .u16 x.f2) ∧ w10_.cell? ⟨(ad.add (i * 5)).block, (ad.add (i * 5)).off + 3, none⟩ = some (.int .u64 x.f3) ∧ w10_.cell? ⟨(ad.add (i * 5)).block, (ad.add (i * 5)).off + 4, none⟩ = some (.int .u64 x.f4) from ⟨B8.out, (pw_cell_below HB.out hW0), (pw_cell_below HB.out hW1), (pw_cell_below HB.out hW2), (pw_cell_below HB.out hW3), (pw_cell_below HB.out hW4)⟩)
   refine norm_ (a' := ?_) ?_ ?_
   rotate_left
   ·simp only [putAll, Act.put, List.setIfInBounds_toArray, List.set_cons_zero, List.set_cons_succ]
    rfl
   refine last_ (i := 12) (N := none) (wac_lb 16 8191) rfl rfl (one_of HT_.out (by kernel_rfl)) (by decide) (fun K hK => ?_)
   refine wq_skip (ty := 60) (p := .tmp 14) (x := .tmp 64) (g := g21) (i := 0) (k := 17) (v := ?v2) (vs := ?vs2) (cs' := ?cs2) ?hw2 ?hN2 ?ho2 ?hp2 ?hx2 ?hvc2 ?hi2 ?hk2 ?h12 B21.out ?hsz2 ?hcs2 ?_
   case hi2 => kernel_rfl
   case hw2 => rfl
   case hN2 => rfl
   case ho2 => rfl
   case hp2 => rfl
   case hx2 => go_simp; with_reducible rfl
   case hvc2 => simp only [Value.cells]; with_reducible rfl
   case hk2 => rfl
   case h12 => rfl
   case hsz2 => exact Nat.le_of_ble_eq_true rfl
   case hcs2 => simp only [wqPut, List.setIfInBounds_toArray, List.set_cons_succ, List.set_cons_zero, Nat.reduceAdd]; with_reducible rfl
   intro w11_ hb hgr
   have n_HA := Aside0.mk (HA.out.grw hgr HNB21.out)
   have n_HR := Aside0.mk (HR.out.grown B21.out (by decide) hgr)
   have n_HB := Aside0.mk (HB.out.grown hgr HB.out.size (fun k hk => by cases hk; exact HGB21.out.2.2))
   have n_B2 := Aside0.mk (wq_blk B2.out hgr HGB21.out.1)
   have n_B8 := Aside0.mk (wq_blk B8.out hgr HGB21.out.2.1)
   have n_B21 := Aside0.mk hb
   clear HA HR HB B2 B8 B21 hb hgr
   have HA := n_HA
   have HR := n_HR
   have HB := n_HB
   have B2 := n_B2
   have B8 := n_B8
   have B21 := n_B21
   clear n_HA n_HR n_HB n_B2 n_B8 n_B21
   refine hK.out _ _ ?_
   clear hK K
   refine pure_ (i := 13) (N := some 15) (v := ?_) (a' := ?_) (wac_lb 16 16383) rfl rfl (any_of HT_.out (by kernel_rfl)) (fun _ _ _ h => h) (Or.inl ⟨by rfl, ?_⟩) ?_ ?_; rotate_left
   ·intro w'; go_simp; with_reducible rfl
   rotate_left
   ·simp only [Act.put, List.setIfInBounds_toArray, List.set_cons_zero, List.set_cons_succ, i64_w, i32_w]; rfl
   refine pure_ (i := 14) (N := some 16) (v := ?_) (a' := ?_) (wac_lb 16 32767) rfl rfl (any_of HT_.out (by kernel_rfl)) (fun _ _ _ h => h) (Or.inl ⟨by rfl, ?_⟩) ?_ ?_; rotate_left
   ·intro w'; go_simp; with_reducible rfl
   rotate_left
   ·simp only [Act.put, List.setIfInBounds_toArray, List.set_cons_zero, List.set_cons_succ, i64_w, i32_w]; rfl
   refine pure_ (i := 15) (N := some 17) (v := ?_) (a' := ?_) (wac_lb 16 65535) rfl rfl (any_of HT_.out (by kernel_rfl)) (fun _ _ _ h => h) (Or.inl ⟨by rfl, ?_⟩) ?_ ?_; rotate_left
   ·intro w'; go_simp; with_reducible rfl
   rotate_left
   ·simp only [Act.put, List.setIfInBounds_toArray, List.set_cons_zero, List.set_cons_succ, i64_w, i32_w]; rfl
   refine done_ (done_of HT_.out (by kernel_rfl)) ?_
   have hX := HXB8.out
   subst hX
   clear HXB8
   go_upto_region 14 with (first | ((with_reducible refine gate_dst (N := 68) rfl ?_); refine wq_loadA (ty := 60) (p := .tmp 14) (g := g21) (i := 0) (k := 17) (vs := ?vs8) ?hgd8 ?ho8 ?hp8 Try.underlying60 ?hd8 ?hi8 B21.out ?hv8 ?hk8 ?_; (case hd8 => rfl); (case hi8 => kernel_rfl); (case hgd8 => rfl); (case ho8 => rfl); (case hp8 => rfl); (case hv8 => simp only [List.drop_succ_cons, List.drop_zero, List.take_succ_cons, List.take_zero, List.take_nil, List.drop_nil]; with_reducible rfl); (case hk8 => rfl)) | ((with_reducible refine gate_store (p := 8) rfl ?_); refine wq_store (ty := 60) (p := .tmp 8) (x := .tmp 68) (g := g8) (i := 0) (k := 17) (v := ?v9) (vs := ?vs9) (cs' := ?cs9) ?hgd9 ?hdst9 ?ho9 ?hp9 ?hx9 ?hvc9 ?hi9 ?hk9 ?h19 B8.out ?hsz9 ?hcs9 ?_; (case hi9 => kernel_rfl); (case hgd9 => rfl); (case hdst9 => rfl); (case ho9 => rfl); (case hp9 => rfl); (case hx9 => go_simp; with_reducible rfl); (case hvc9 => simp only [Value.cells]; with_reducible rfl); (case hk9 => rfl); (case h19 => rfl); (case hsz9 => exact Nat.le_of_ble_eq_true rfl); (case hcs9 => simp only [wqPut, List.setIfInBounds_toArray, List.set_cons_succ, List.set_cons_zero, Nat.reduceAdd]; with_reducible rfl); intro w2_ hb hgr; have n_HA := Aside0.mk (HA.out.grw hgr HD8.out.1); have n_HR := Aside0.mk (HR.out.grown B8.out (by decide) hgr); have n_HB := Aside0.mk (HB.out.grown hgr HB.out.size (fun k hk => by cases hk; exact HGB8.out.2)); have n_B2 := Aside0.mk (wq_blk B2.out hgr HGB8.out.1); have n_B8 := Aside0.mk hb; have n_B21 := Aside0.mk (wq_blk B21.out hgr (Ne.symm HGB21.out.2.1)); clear HA HR HB B2 B8 B21 hb hgr; have HA := n_HA; have HR := n_HR; have HB := n_HB; have B2 := n_B2; have B8 := n_B8; have B21 := n_B21; clear n_HA n_HR n_HB n_B2 n_B8 n_B21))
   have BW := Aside0.mk HA.out.w
   go_upto_region 14 with fail
   obtain ⟨XBW, hXBW, hb_BW⟩ := wq_name BW.out
   clear BW
   have BW := Aside0.mk hb_BW
   have HXBW := Aside0.mk hXBW
   clear hXBW hb_BW
   obtain ⟨XB8, hXB8, hb_B8⟩ := wq_name B8.out
   clear B8
   have B8 := Aside0.mk hb_B8
   have HXB8 := Aside0.mk hXB8
   clear hXB8 hb_B8
   have n_HA := Aside0.mk (HA.out.drew)
   have n_HR := Aside0.mk (HR.out.drew)
   have n_HB := Aside0.mk (below_drew1 HB.out)
   have n_B2 := Aside0.mk (blk_drew B2.out)
   have n_B8 := Aside0.mk (blk_drew B8.out)
   have n_B21 := Aside0.mk (blk_drew B21.out)
   have n_BW := Aside0.mk (blk_drew BW.out)
   clear HA HR HB B2 B8 B21 BW
   have HA := n_HA
   have HR := n_HR
   have HB := n_HB
   have B2 := n_B2
   have B8 := n_B8
   have B21 := n_B21
   have BW := n_BW
   clear n_HA n_HR n_HB n_B2 n_B8 n_B21 n_BW
   refine start_ (n := 24) (S := fun w' => w'.heap[pw]? = some (.cells XBW 40 (0, 0)) ∧ w'.heap[g8]? = some (.cells XB8 60 (0, 0))) (ds := []) #[false, false, false, false, false, false, false, false, false, false, false, false, false, false, false, false, false, false, false, false, false, false, false, false] (by kernel_rfl) rfl rfl ⟨BW.out, B8.out⟩ (fun hHeld => ?_); refine with_tabW wac.tab14 wac.bits14 (fun HT_ HW_ => ?_)
   generalize w2_.drew = v3_ at HA HR HB B2 B8 B21 BW hHeld ⊢
   refine pure_ (i := 0) (N := some 69) (v := ?_) (a' := ?_) (wac_lb 24 1) rfl rfl (any_of HT_.out (by kernel_rfl)) (fun _ _ _ h => h) (Or.inl ⟨by rfl, ?_⟩) ?_ ?_; rotate_left
   ·intro w'; go_simp; with_reducible rfl
   rotate_left
   ·simp only [Act.put, List.setIfInBounds_toArray, List.set_cons_zero, List.set_cons_succ, i64_w, i32_w]; rfl
   refine pure_ (i := 1) (N := some 70) (v := ?_) (a' := ?_) (wac_lb 24 3) rfl rfl (any_of HT_.out (by kernel_rfl)) (fun _ _ _ h => h) (Or.inl ⟨by rfl, ?_⟩) ?_ ?_; rotate_left
   ·intro w'; go_simp; with_reducible rfl
   rotate_left
   ·simp only [Act.put, List.setIfInBounds_toArray, List.set_cons_zero, List.set_cons_succ, i64_w, i32_w]; rfl
   refine pure_ (i := 2) (N := some 71) (v := ?_) (a' := ?_) (wac_lb 24 7) rfl rfl (any_of HT_.out (by kernel_rfl)) (fun _ _ _ h => h) (Or.inl ⟨by rfl, ?_⟩) ?_ ?_; rotate_left
   ·intro w'; go_simp; with_reducible rfl
   rotate_left
   ·simp only [Act.put, List.setIfInBounds_toArray, List.set_cons_zero, List.set_cons_succ, i64_w, i32_w]; rfl
   refine pure_ (i := 3) (N := some 72) (v := ?_) (a' := ?_) (wac_lb 24 15) rfl rfl (any_of HT_.out (by kernel_rfl)) (fun _ _ _ h => h) (Or.inl ⟨by rfl, ?_⟩) ?_ ?_; rotate_left
   ·intro w'; go_simp; with_reducible rfl
   rotate_left
   ·simp only [Act.put, List.setIfInBounds_toArray, List.set_cons_zero, List.set_cons_succ, i64_w, i32_w]; rfl
   refine pure_ (i := 4) (N := some 73) (v := ?_) (a' := ?_) (wac_lb 24 31) rfl rfl (any_of HT_.out (by kernel_rfl)) (fun _ _ _ h => h) (Or.inl ⟨by rfl, ?_⟩) ?_ ?_; rotate_left
   ·intro w'; go_simp; with_reducible rfl
   rotate_left
   ·simp only [Act.put, List.setIfInBounds_toArray, List.set_cons_zero, List.set_cons_succ, i64_w, i32_w]; rfl
   refine pure_ (i := 5) (N := some 74) (v := ?_) (a' := ?_) (wac_lb 24 63) rfl rfl (any_of HT_.out (by kernel_rfl)) (fun _ _ _ h => h) (Or.inl ⟨by rfl, ?_⟩) ?_ ?_; rotate_left
   ·intro w'; go_simp; with_reducible rfl
   rotate_left
   ·simp only [Act.put, List.setIfInBounds_toArray, List.set_cons_zero, List.set_cons_succ, i64_w, i32_w]; rfl
   refine pure_ (i := 6) (N := some 75) (v := ?_) (a' := ?_) (wac_lb 24 127) rfl rfl (any_of HT_.out (by kernel_rfl)) (fun _ _ _ h => h) (Or.inl ⟨by rfl, ?_⟩) ?_ ?_; rotate_left
   ·intro w'; go_simp; with_reducible rfl
   rotate_left
   ·simp only [Act.put, List.setIfInBounds_toArray, List.set_cons_zero, List.set_cons_succ, i64_w, i32_w]; rfl
   refine pure_ (i := 7) (N := some 76) (v := ?_) (a' := ?_) (wac_lb 24 255) rfl rfl (any_of HT_.out (by kernel_rfl)) (fun _ _ _ h => h) (Or.inl ⟨by rfl, ?_⟩) ?_ ?_; rotate_left
   ·intro w'; go_simp; with_reducible rfl
   rotate_left
   ·simp only [Act.put, List.setIfInBounds_toArray, List.set_cons_zero, List.set_cons_succ, i64_w, i32_w]; rfl
   refine pure_ (i := 8) (N := some 77) (v := ?_) (a' := ?_) (wac_lb 24 511) rfl rfl (any_of HT_.out (by kernel_rfl)) (fun _ _ _ h => h) (Or.inl ⟨by rfl, ?_⟩) ?_ ?_; rotate_left
   ·intro w'; go_simp; with_reducible rfl
   rotate_left
   ·simp only [Act.put, List.setIfInBounds_toArray, List.set_cons_zero, List.set_cons_succ, i64_w, i32_w]; rfl
   refine pure_ (i := 9) (N := some 78) (v := ?_) (a' := ?_) (wac_lb 24 1023) rfl rfl (any_of HT_.out (by kernel_rfl)) (fun _ _ _ h => h) (Or.inl ⟨by rfl, ?_⟩) ?_ ?_; rotate_left
   ·intro w'; go_simp; with_reducible rfl
   rotate_left
   ·simp only [Act.put, List.setIfInBounds_toArray, List.set_cons_zero, List.set_cons_succ, i64_w, i32_w]; rfl
   refine pure_ (i := 10) (N := some 79) (v := ?_) (a' := ?_) (wac_lb 24 2047) rfl rfl (any_of HT_.out (by kernel_rfl)) (fun _ _ _ h => h) (Or.inl ⟨by rfl, ?_⟩) ?_ ?_; rotate_left
   ·intro w'; go_simp; with_reducible rfl
   rotate_left
   ·simp only [Act.put, List.setIfInBounds_toArray, List.set_cons_zero, List.set_cons_succ, i64_w, i32_w]; rfl
   refine pure_ (i := 11) (N := some 80) (v := ?_) (a' := ?_) (wac_lb 24 4095) rfl rfl (any_of HT_.out (by kernel_rfl)) (fun _ _ _ h => h) (Or.inl ⟨by rfl, ?_⟩) ?_ ?_; rotate_left
   ·intro w'; go_simp; with_reducible rfl
   rotate_left
   ·simp only [Act.put, List.setIfInBounds_toArray, List.set_cons_zero, List.set_cons_succ, i64_w, i32_w]; rfl
   refine pure_ (i := 12) (N := some 81) (v := ?_) (a' := ?_) (wac_lb 24 8191) rfl rfl (any_of HT_.out (by kernel_rfl)) (fun _ _ _ h => h) (Or.inl ⟨by rfl, ?_⟩) ?_ ?_; rotate_left
   ·intro w'; go_simp; with_reducible rfl
   rotate_left
   ·simp only [Act.put, List.setIfInBounds_toArray, List.set_cons_zero, List.set_cons_succ, i64_w, i32_w]; rfl
   refine pure_ (i := 13) (N := some 82) (v := ?_) (a' := ?_) (wac_lb 24 16383) rfl rfl (any_of HT_.out (by kernel_rfl)) (fun _ _ _ h => h) (Or.inl ⟨by rfl, ?_⟩) ?_ ?_; rotate_left
   ·intro w'; go_simp; with_reducible rfl
   rotate_left
   ·simp only [Act.put, List.setIfInBounds_toArray, List.set_cons_zero, List.set_cons_succ, i64_w, i32_w]; rfl
   refine pure_ (i := 14) (N := some 83) (v := ?_) (a' := ?_) (wac_lb 24 32767) rfl rfl (any_of HT_.out (by kernel_rfl)) (fun _ _ _ h => h) (Or.inl ⟨by rfl, ?_⟩) ?_ ?_; rotate_left
   ·intro w'; go_simp; with_reducible rfl
   rotate_left
   ·simp only [Act.put, List.setIfInBounds_toArray, List.set_cons_zero, List.set_cons_succ, i64_w, i32_w]; rfl
   refine pure_ (i := 15) (N := some 84) (v := ?_) (a' := ?_) (wac_lb 24 65535) rfl rfl (any_of HT_.out (by kernel_rfl)) (fun _ _ _ h => h) (Or.inl ⟨by rfl, ?_⟩) ?_ ?_; rotate_left
   ·intro w'; go_simp; with_reducible rfl
   rotate_left
   ·simp only [Act.put, List.setIfInBounds_toArray, List.set_cons_zero, List.set_cons_succ, i64_w, i32_w]; rfl
   refine pure_ (i := 16) (N := some 85) (v := ?_) (a' := ?_) (wac_lb 24 131071) rfl rfl (any_of HT_.out (by kernel_rfl)) (fun _ _ _ h => h) (Or.inl ⟨by rfl, ?_⟩) ?_ ?_; rotate_left
   ·intro w'; go_simp; with_reducible rfl
   rotate_left
   ·simp only [Act.put, List.setIfInBounds_toArray, List.set_cons_zero, List.set_cons_succ, i64_w, i32_w]; rfl
   refine pure_ (i := 19) (N := some 88) (v := ?_) (a' := ?_) (wac_lb 24 655359) rfl rfl (any_of HT_.out (by kernel_rfl)) (fun _ _ _ h => h) (Or.inl ⟨by rfl, ?_⟩) ?_ ?_; rotate_left
   ·intro w'; go_simp; with_reducible rfl
   rotate_left
   ·simp only [Act.put, List.setIfInBounds_toArray, List.set_cons_zero, List.set_cons_succ, i64_w, i32_w]; rfl
   refine pure_ (i := 20) (N := some 89) (v := ?_) (a' := ?_) (wac_lb 24 1703935) rfl rfl (any_of HT_.out (by kernel_rfl)) (fun _ _ _ h => h) (Or.inl ⟨by rfl, ?_⟩) ?_ ?_; rotate_left
   ·intro w'; go_simp; with_reducible rfl
   rotate_left
   ·simp only [Act.put, List.setIfInBounds_toArray, List.set_cons_zero, List.set_cons_succ, i64_w, i32_w]; rfl
   refine take_ (i := 17) (N := some 86) (v := ?_) (a' := ?_) (wac_lb 24 1835007) rfl rfl (take_ofW HT_.out HW_.out (by kernel_rfl)) (fun _ _ _ h => h) (Or.inl ⟨by rfl, ?_⟩) hHeld ?_ ?_; rotate_left
   ·rintro w' ⟨s0, s1⟩; refine Eq.trans (wq_run_load1 (ty := 37) (p := .tmp 85) (g := pw) (i := 5) (v := ?v11) ?ho11 ?hp11 Try.underlying37 ?hd11 s0 ?hv11) ?fin11; (case hd11 => rfl); (case ho11 => rfl); (case hp11 => rfl); (case hv11 => rewrite [HXBW.out]; rfl); (case fin11 => with_reducible rfl)
   rotate_left
   ·simp only [Act.put, List.setIfInBounds_toArray, List.set_cons_zero, List.set_cons_succ, i64_w, i32_w]; rfl
   refine take_ (i := 21) (N := some 90) (v := ?_) (a' := ?_) (wac_lb 24 3932159) rfl rfl (take_ofW HT_.out HW_.out (by kernel_rfl)) (fun _ _ _ h => h) (Or.inl ⟨by rfl, ?_⟩) hHeld ?_ ?_; rotate_left
   ·rintro w' ⟨s0, s1⟩; refine Eq.trans (wq_run_load1 (ty := 3) (p := .tmp 89) (g := g8) (i := 6) (v := ?v12) ?ho12 ?hp12 Try.underlying3 ?hd12 s1 ?hv12) ?fin12; (case hd12 => rfl); (case ho12 => rfl); (case hp12 => rfl); (case hv12 => rewrite [HXB8.out]; rfl); (case fin12 => with_reducible rfl)
   rotate_left
   ·simp only [Act.put, List.setIfInBounds_toArray, List.set_cons_zero, List.set_cons_succ, i64_w, i32_w]; rfl
   refine one_ (i := 18) (N := some 87) (wac_lb 24 4194303) rfl rfl (one_of HT_.out (by kernel_rfl)) (by decide) (fun K hK => ?_)
   refine goes_ Try.func14 (by kernel_rfl) rfl ?args10 ?hw10 rfl rfl ?hargs10 ?_
   case hw10 => rfl
   case hargs10 => go_simp; with_reducible rfl
   with_reducible refine (HST.out _ HA.out.m).mono ?_
   rintro e u4_ ⟨rfl, hbk⟩
   refine ⟨_, rfl, ?_⟩
   have n_HA := Aside0.mk (HA.out.below hbk)
   have n_HR := Aside0.mk (HR.out.below hbk)
   have n_HB := Aside0.mk (below_step HB.out hbk)
   have n_B2 := Aside0.mk (blk_below B2.out hbk)
   have n_B8 := Aside0.mk (blk_below B8.out hbk)
   have n_B21 := Aside0.mk (blk_below B21.out hbk)
   have n_BW := Aside0.mk (blk_below BW.out hbk)
   clear HA HR HB B2 B8 B21 BW
   have HA := n_HA
   have HR := n_HR
   have HB := n_HB
   have B2 := n_B2
   have B8 := n_B8
   have B21 := n_B21
   have BW := n_BW
   clear n_HA n_HR n_HB n_B2 n_B8 n_B21 n_BW
   clear hbk
   refine hK.out _ _ ⟨BW.out, B8.out⟩ (fun hHeld => ?_)
   clear hK K
   refine norm_ (a' := ?_) ?_ ?_
   rotate_left
   ·show Act.put _ (some 87) _ = _
    simp only [Act.put, List.setIfInBounds_toArray, List.set_cons_zero, List.set_cons_succ, i64_w, i32_w]
    rfl
   refine pure_ (i := 22) (N := some 91) (v := ?_) (a' := ?_) (wac_lb 24 8388607) rfl rfl (any_of HT_.out (by kernel_rfl)) (fun _ _ _ h => h) (Or.inl ⟨by rfl, ?_⟩) ?_ ?_; rotate_left
   ·intro w'; go_simp; with_reducible rfl
   rotate_left
   ·simp only [Act.put, List.setIfInBounds_toArray, List.set_cons_zero, List.set_cons_succ, i64_w, i32_w]; rfl
   refine pure_ (i := 23) (N := some 92) (v := ?_) (a' := ?_) (wac_lb 24 16777215) rfl rfl (any_of HT_.out (by kernel_rfl)) (fun _ _ _ h => h) (Or.inl ⟨by rfl, ?_⟩) ?_ ?_; rotate_left
   ·intro w'; go_simp; with_reducible rfl
   rotate_left
   ·simp only [Act.put, List.setIfInBounds_toArray, List.set_cons_zero, List.set_cons_succ, i64_w, i32_w]; rfl
   refine done_ (done_of HT_.out (by kernel_rfl)) ?_
   have hX := HXBW.out
   subst hX
   clear HXBW
   have hX := HXB8.out
   subst hX
   clear HXB8
   go_wp2
   go_roundg (l1.length - (i + 1))
   case measure => have := HLTI.out; have := HK.out; omega
   case rel =>
    have hlt := HLTI.out
    have hle := HL.out
    exact ⟨i + 1, A1, C1, ws2, st2, by first | rfl | (rw [show wrap64 ((i : Int) + 1) = ((i + 1 : Nat) : Int) from by unfold wrap64; omega]), ⟨by omega⟩, ⟨by omega⟩, HLW2, HA, HR, B2, B8, HB⟩
  ·have hnlt : ¬ ((i : Int) < (l1.length : Int)) := by omega
   clear hlt
   go_wp2
   go_loopg [18] ws.length (fun kq v18 wr => ∃ (j : Nat), v18 = .int .i64 j ∧ Aside0 (j ≤ ws.length) ∧ Aside0 (ws.length - j ≤ kq) ∧ Aside0 (WAt wr pw gc gw bk ⟨a0_0, a0_1, a0_2, a0_3, a0_4⟩ ws st) ∧ Aside0 (RU w wr A C ws) ∧ Aside0 (wr.heap[g2]? = some (.cells #[.int .i64 a0_0, .int .i64 a0_1, .int .i64 a0_2, .int .i64 a0_3, .int .i64 a0_4] 23 (0, 0))) ∧ Aside0 (wr.heap[g8]? = some (.cells #[.int .i64 a0_0, .int .i64 a0_1, .int .i64 a0_2, .int .i64 a0_3, .int .i64 a0_4, .slice A ws.length C, .int .i64 st, .int .i64 a0_0, .int .i64 a0_1, .int .i64 a0_2, .int .i64 a0_3, .int .i64 a0_4, .slice q.a5 a0_0.toNat q.c5, .slice q.a6 a0_0.toNat q.c6, .slice q.a7 a0_0.toNat q.c7, .slice q.a8 0 q.c8, .slice q.a9 0 q.c9] 60 (0, 0))) ∧ Aside0 (Below w.heap.size w wr))
   case atStart => exact ⟨0, rfl, ⟨Nat.zero_le _⟩, ⟨by omega⟩, HA, HR, B2, B8, HB⟩
   case round =>
    clear HB HA HR B2 B8 HJ HK
    obtain ⟨j, rfl, HJ, HK, HA, HR, B2, B8, HB⟩ := hrel
    by_cases hlt : j < ws.length
    ·have hltb : (j : Int) < (ws.length : Int) := by omega
     have HLTI := Aside0.mk hlt
     clear hlt
     obtain ⟨hC, hCc⟩ := RU.reads HR.out
     obtain ⟨ad, eA, hcell⟩ := Kd.at_int hC (j : Int) (by omega) (by omega)
     have hrd : rd ws (j : Int) = cRd ws (j : Int) := by unfold cRd cInb; rw [if_pos (decide_eq_true ⟨by omega, hltb⟩)]; rfl
     rw [hrd] at hcell
     obtain ⟨vv, hvv⟩ : ∃ v, cRd ws (j : Int) = v := ⟨_, rfl⟩
     rw [hvv] at hcell
     have HPK := Aside0.mk (show ∀ (W : World), CellsAt W gc gw ws st → Calls Try.prog 26 #[.pointer (some ⟨gc, 0, none⟩), .int .i64 (j : Int)] W (fun e w' => e = .returned (.int .u64 vv) ∧ Below W.heap.size W w') from fun W h => (cel_Peek gc gw ws st (j : Int) W h).mono (fun e w' h => ⟨by rw [← hvv]; exact h.1, by rw [h.2]; exact Below.refl _ _⟩))
     cases eA
     rw [Int.toNat_natCast] at hcell
     have HCE := Aside0.mk hcell
     clear hC hCc hcell hrd hvv
     go_upto_region 19 with (first | ((with_reducible refine gate_dst (N := 96) rfl ?_); refine wq_load1 (ty := 51) (p := .tmp 95) (g := g8) (i := 5) (v := ?v13) ?hgd13 ?ho13 ?hp13 Try.underlying51 ?hd13 B8.out ?hv13 ?_; (case hd13 => rfl); (case hgd13 => rfl); (case ho13 => rfl); (case hp13 => rfl); (case hv13 => rfl)))
     have BW := Aside0.mk HA.out.w
     go_upto_region 19 with fail
     obtain ⟨XBW, hXBW, hb_BW⟩ := wq_name BW.out
     clear BW
     have BW := Aside0.mk hb_BW
     have HXBW := Aside0.mk hXBW
     clear hXBW hb_BW
     obtain ⟨XB8, hXB8, hb_B8⟩ := wq_name B8.out
     clear B8
     have B8 := Aside0.mk hb_B8
     have HXB8 := Aside0.mk hXB8
     clear hXB8 hb_B8
     have n_HA := Aside0.mk (HA.out.drew)
     have n_HR := Aside0.mk (HR.out.drew)
     have n_HB := Aside0.mk (below_drew1 HB.out)
     have n_HCE := Aside0.mk ((show wr.drew.cell? (ad.add j) = some (.int .u64 vv) from HCE.out))
     have n_B2 := Aside0.mk (blk_drew B2.out)
     have n_B8 := Aside0.mk (blk_drew B8.out)
     have n_BW := Aside0.mk (blk_drew BW.out)
     clear HA HR HB HCE B2 B8 BW
     have HA := n_HA
     have HR := n_HR
     have HB := n_HB
     have HCE := n_HCE
     have B2 := n_B2
     have B8 := n_B8
     have BW := n_BW
     clear n_HA n_HR n_HB n_HCE n_B2 n_B8 n_BW
     refine start_ (n := 13) (S := fun w' => w'.heap[pw]? = some (.cells XBW 40 (0, 0)) ∧ w'.heap[g8]? = some (.cells XB8 60 (0, 0)) ∧ w'.cell? (ad.add j) = some (.int .u64 vv)) (ds := []) #[false, false, false, false, false, false, false, false, false, false, false, false, false] (by kernel_rfl) rfl rfl ⟨BW.out, B8.out, HCE.out⟩ (fun hHeld => ?_); refine with_tabW wac.tab19 wac.bits19 (fun HT_ HW_ => ?_)
     generalize wr.drew = zv1_ at HA HR HB HCE B2 B8 BW hHeld ⊢
     refine pure_ (i := 0) (N := some 101) (v := ?_) (a' := ?_) (wac_lb 13 1) rfl rfl (any_of HT_.out (by kernel_rfl)) (fun _ _ _ h => h) (Or.inl ⟨by rfl, ?_⟩) ?_ ?_; rotate_left
     ·intro w'; go_simp; with_reducible rfl
     rotate_left
     ·simp only [Act.put, List.setIfInBounds_toArray, List.set_cons_zero, List.set_cons_succ, i64_w, i32_w]; rfl
     refine pure_ (i := 1) (N := some 102) (v := ?_) (a' := ?_) (wac_lb 13 3) rfl rfl (any_of HT_.out (by kernel_rfl)) (fun _ _ _ h => h) (Or.inl ⟨by rfl, ?_⟩) ?_ ?_; rotate_left
     ·intro w'; go_simp; with_reducible rfl
     rotate_left
     ·simp only [Act.put, List.setIfInBounds_toArray, List.set_cons_zero, List.set_cons_succ, i64_w, i32_w]; rfl
     refine pure_ (i := 2) (N := some 103) (v := ?_) (a' := ?_) (wac_lb 13 7) rfl rfl (any_of HT_.out (by kernel_rfl)) (fun _ _ _ h => h) (Or.inl ⟨by rfl, ?_⟩) ?_ ?_; rotate_left
     ·intro w'; go_simp; with_reducible rfl
     rotate_left
     ·simp only [Act.put, List.setIfInBounds_toArray, List.set_cons_zero, List.set_cons_succ, i64_w, i32_w]; rfl
     refine pure_ (i := 4) (N := some 105) (v := ?_) (a' := ?_) (wac_lb 13 23) rfl rfl (any_of HT_.out (by kernel_rfl)) (fun _ _ _ h => h) (Or.inl ⟨by rfl, ?_⟩) ?_ ?_; rotate_left
     ·intro w'; go_simp; with_reducible rfl
     rotate_left
     ·simp only [Act.put, List.setIfInBounds_toArray, List.set_cons_zero, List.set_cons_succ, i64_w, i32_w]; rfl
     refine pure_ (i := 6) (N := some 107) (v := ?_) (a' := ?_) (wac_lb 13 87) rfl rfl (any_of HT_.out (by kernel_rfl)) (fun _ _ _ h => h) (Or.inl ⟨by rfl, ?_⟩) ?_ ?_; rotate_left
     ·intro w'; go_simp; with_reducible rfl
     rotate_left
     ·simp only [Act.put, List.setIfInBounds_toArray, List.set_cons_zero, List.set_cons_succ, i64_w, i32_w]; rfl
     refine pure_ (i := 7) (N := some 108) (v := ?_) (a' := ?_) (wac_lb 13 215) rfl rfl (any_of HT_.out (by kernel_rfl)) (fun _ _ _ h => h) (Or.inl ⟨by rfl, ?_⟩) ?_ ?_; rotate_left
     ·intro w'; go_simp; with_reducible rfl
     rotate_left
     ·simp only [Act.put, List.setIfInBounds_toArray, List.set_cons_zero, List.set_cons_succ, i64_w, i32_w]; rfl
     refine pure_ (i := 9) (N := some 110) (v := ?_) (a' := ?_) (wac_lb 13 727) rfl rfl (any_of HT_.out (by kernel_rfl)) (fun _ _ _ h => h) (Or.inl ⟨by rfl, ?_⟩) ?_ ?_; rotate_left
     ·intro w'; go_simp; with_reducible rfl
     rotate_left
     ·simp only [Act.put, List.setIfInBounds_toArray, List.set_cons_zero, List.set_cons_succ, i64_w, i32_w]; rfl
     refine take_ (i := 3) (N := some 104) (v := ?_) (a' := ?_) (wac_lb 13 735) rfl rfl (take_ofW HT_.out HW_.out (by kernel_rfl)) (fun _ _ _ h => h) (Or.inl ⟨by rfl, ?_⟩) hHeld ?_ ?_; rotate_left
     ·rintro w' ⟨s0, s1, s2⟩; refine Eq.trans (wq_run_load1 (ty := 37) (p := .tmp 103) (g := pw) (i := 5) (v := ?v15) ?ho15 ?hp15 Try.underlying37 ?hd15 s0 ?hv15) ?fin15; (case hd15 => rfl); (case ho15 => rfl); (case hp15 => rfl); (case hv15 => rewrite [HXBW.out]; rfl); (case fin15 => with_reducible rfl)
     rotate_left
     ·simp only [Act.put, List.setIfInBounds_toArray, List.set_cons_zero, List.set_cons_succ, i64_w, i32_w]; rfl
     refine take_ (i := 8) (N := some 109) (v := ?_) (a' := ?_) (wac_lb 13 991) rfl rfl (take_ofW HT_.out HW_.out (by kernel_rfl)) (fun _ _ _ h => h) (Or.inl ⟨by rfl, ?_⟩) hHeld ?_ ?_; rotate_left
     ·rintro w' ⟨s0, s1, s2⟩; refine Eq.trans (wq_run_load1 (ty := 51) (p := .tmp 108) (g := g8) (i := 5) (v := ?v16) ?ho16 ?hp16 Try.underlying51 ?hd16 s1 ?hv16) ?fin16; (case hd16 => rfl); (case ho16 => rfl); (case hp16 => rfl); (case hv16 => rewrite [HXB8.out]; rfl); (case fin16 => with_reducible rfl)
     rotate_left
     ·simp only [Act.put, List.setIfInBounds_toArray, List.set_cons_zero, List.set_cons_succ, i64_w, i32_w]; rfl
     refine pure_ (i := 10) (N := some 111) (v := ?_) (a' := ?_) (wac_lb 13 2015) rfl rfl (any_of HT_.out (by kernel_rfl)) (fun _ _ _ h => h) (Or.inl ⟨by rfl, ?_⟩) ?_ ?_; rotate_left
     ·intro w'; go_simp; with_reducible rfl
     rotate_left
     ·simp only [Act.put, List.setIfInBounds_toArray, List.set_cons_zero, List.set_cons_succ, i64_w, i32_w]; rfl
     refine take_ (i := 11) (N := some 112) (v := ?_) (a' := ?_) (wac_lb 13 4063) rfl rfl (take_ofW HT_.out HW_.out (by kernel_rfl)) (fun _ _ _ h => h) (Or.inl ⟨by rfl, ?_⟩) hHeld ?_ ?_; rotate_left
     ·rintro w' ⟨s0, s1, s2⟩; go_simp; with_reducible rfl
     rotate_left
     ·simp only [Act.put, List.setIfInBounds_toArray, List.set_cons_zero, List.set_cons_succ, i64_w, i32_w]; rfl
     refine one_ (i := 5) (N := some 106) (wac_lb 13 4095) rfl rfl (one_of HT_.out (by kernel_rfl)) (by decide) (fun K hK => ?_)
     refine goes_ Try.func26 (by kernel_rfl) rfl ?args14 ?hw14 rfl rfl ?hargs14 ?_
     case hw14 => rfl
     case hargs14 => go_simp; with_reducible rfl
     with_reducible refine (HPK.out _ HA.out.m).mono ?_
     rintro e zu2_ ⟨rfl, hbk⟩
     refine ⟨_, rfl, ?_⟩
     have n_HA := Aside0.mk (HA.out.below hbk)
     have n_HR := Aside0.mk (HR.out.below hbk)
     have n_HB := Aside0.mk (below_step HB.out hbk)
     have n_HCE := Aside0.mk (pw_cell_below hbk HCE.out)
     have n_B2 := Aside0.mk (blk_below B2.out hbk)
     have n_B8 := Aside0.mk (blk_below B8.out hbk)
     have n_BW := Aside0.mk (blk_below BW.out hbk)
     clear HA HR HB HCE B2 B8 BW
     have HA := n_HA
     have HR := n_HR
     have HB := n_HB
     have HCE := n_HCE
     have B2 := n_B2
     have B8 := n_B8
     have BW := n_BW
     clear n_HA n_HR n_HB n_HCE n_B2 n_B8 n_BW
     clear hbk
     refine hK.out _ _ ⟨BW.out, B8.out, HCE.out⟩ (fun hHeld => ?_)
     clear hK K
     refine norm_ (a' := ?_) ?_ ?_
     rotate_left
     ·show Act.put _ (some 106) _ = _
      simp only [Act.put, List.setIfInBounds_toArray, List.set_cons_zero, List.set_cons_succ, i64_w, i32_w]
      rfl
     refine pure_ (i := 12) (N := some 113) (v := ?_) (a' := ?_) (wac_lb 13 8191) rfl rfl (any_of HT_.out (by kernel_rfl)) (fun _ _ _ h => h) (Or.inl ⟨by rfl, ?_⟩) ?_ ?_; rotate_left
     ·intro w'; go_simp; with_reducible rfl
     rotate_left
     ·simp only [Act.put, List.setIfInBounds_toArray, List.set_cons_zero, List.set_cons_succ, i64_w, i32_w]; rfl
     refine done_ (done_of HT_.out (by kernel_rfl)) ?_
     have hX := HXBW.out
     subst hX
     clear HXBW
     have hX := HXB8.out
     subst hX
     clear HXB8
     go_wp2
     go_roundg (ws.length - (j + 1))
     case measure => have := HLTI.out; have := HK.out; omega
     case rel =>
      have hlt := HLTI.out
      have hle := HLW.out
      have hm := HM.out
      exact ⟨j + 1, by first | rfl | (rw [show wrap64 ((j : Int) + 1) = ((j + 1 : Nat) : Int) from by unfold wrap64; omega]), ⟨by omega⟩, ⟨by omega⟩, HA, HR, B2, B8, HB⟩
    ·have hnlt2 : ¬ ((j : Int) < (ws.length : Int)) := by omega
     clear hlt
     go_upto_region 21 with (first | ((with_reducible refine gate_dst (N := 96) rfl ?_); refine wq_load1 (ty := 51) (p := .tmp 95) (g := g8) (i := 5) (v := ?v17) ?hgd17 ?ho17 ?hp17 Try.underlying51 ?hd17 B8.out ?hv17 ?_; (case hd17 => rfl); (case hgd17 => rfl); (case ho17 => rfl); (case hp17 => rfl); (case hv17 => rfl)))
     have BW := Aside0.mk HA.out.w
     have HLN := Aside0.mk (show ∀ (W : World), CellsAt W gc gw ws st → Calls Try.prog 27 #[.pointer (some ⟨gc, 0, none⟩)] W (fun e w' => e = .returned (.int .i64 (ws.length : Int)) ∧ Below W.heap.size W w') from fun W h => (cel_Len gc gw ws st W h).mono (fun e w' h => ⟨h.1, by rw [h.2]; exact Below.refl _ _⟩))
     go_upto_region 21 with fail
     obtain ⟨XBW, hXBW, hb_BW⟩ := wq_name BW.out
     clear BW
     have BW := Aside0.mk hb_BW
     have HXBW := Aside0.mk hXBW
     clear hXBW hb_BW
     obtain ⟨XB8, hXB8, hb_B8⟩ := wq_name B8.out
     clear B8
     have B8 := Aside0.mk hb_B8
     have HXB8 := Aside0.mk hXB8
     clear hXB8 hb_B8
     have n_HA := Aside0.mk (HA.out.drew)
     have n_HR := Aside0.mk (HR.out.drew)
     have n_HB := Aside0.mk (below_drew1 HB.out)
     have n_B2 := Aside0.mk (blk_drew B2.out)
     have n_B8 := Aside0.mk (blk_drew B8.out)
     have n_BW := Aside0.mk (blk_drew BW.out)
     clear HA HR HB B2 B8 BW
     have HA := n_HA
     have HR := n_HR
     have HB := n_HB
     have B2 := n_B2
     have B8 := n_B8
     have BW := n_BW
     clear n_HA n_HR n_HB n_B2 n_B8 n_BW
     refine start_ (n := 19) (S := fun w' => w'.heap[pw]? = some (.cells XBW 40 (0, 0)) ∧ w'.heap[g8]? = some (.cells XB8 60 (0, 0))) (ds := []) #[false, false, false, false, false, false, false, false, false, false, false, false, false, false, false, false, false, false, false] (by kernel_rfl) rfl rfl ⟨BW.out, B8.out⟩ (fun hHeld => ?_); refine with_tabW wac.tab21 wac.bits21 (fun HT_ HW_ => ?_)
     generalize wr.drew = yv1_ at HA HR HB B2 B8 BW hHeld ⊢
     refine pure_ (i := 0) (N := some 114) (v := ?_) (a' := ?_) (wac_lb 19 1) rfl rfl (any_of HT_.out (by kernel_rfl)) (fun _ _ _ h => h) (Or.inl ⟨by rfl, ?_⟩) ?_ ?_; rotate_left
     ·intro w'; go_simp; with_reducible rfl
     rotate_left
     ·simp only [Act.put, List.setIfInBounds_toArray, List.set_cons_zero, List.set_cons_succ, i64_w, i32_w]; rfl
     refine pure_ (i := 1) (N := some 115) (v := ?_) (a' := ?_) (wac_lb 19 3) rfl rfl (any_of HT_.out (by kernel_rfl)) (fun _ _ _ h => h) (Or.inl ⟨by rfl, ?_⟩) ?_ ?_; rotate_left
     ·intro w'; go_simp; with_reducible rfl
     rotate_left
     ·simp only [Act.put, List.setIfInBounds_toArray, List.set_cons_zero, List.set_cons_succ, i64_w, i32_w]; rfl
     refine pure_ (i := 2) (N := some 116) (v := ?_) (a' := ?_) (wac_lb 19 7) rfl rfl (any_of HT_.out (by kernel_rfl)) (fun _ _ _ h => h) (Or.inl ⟨by rfl, ?_⟩) ?_ ?_; rotate_left
     ·intro w'; go_simp; with_reducible rfl
     rotate_left
     ·simp only [Act.put, List.setIfInBounds_toArray, List.set_cons_zero, List.set_cons_succ, i64_w, i32_w]; rfl
     refine pure_ (i := 3) (N := some 117) (v := ?_) (a' := ?_) (wac_lb 19 15) rfl rfl (any_of HT_.out (by kernel_rfl)) (fun _ _ _ h => h) (Or.inl ⟨by rfl, ?_⟩) ?_ ?_; rotate_left
     ·intro w'; go_simp; with_reducible rfl
     rotate_left
     ·simp only [Act.put, List.setIfInBounds_toArray, List.set_cons_zero, List.set_cons_succ, i64_w, i32_w]; rfl
     refine pure_ (i := 4) (N := some 118) (v := ?_) (a' := ?_) (wac_lb 19 31) rfl rfl (any_of HT_.out (by kernel_rfl)) (fun _ _ _ h => h) (Or.inl ⟨by rfl, ?_⟩) ?_ ?_; rotate_left
     ·intro w'; go_simp; with_reducible rfl
     rotate_left
     ·simp only [Act.put, List.setIfInBounds_toArray, List.set_cons_zero, List.set_cons_succ, i64_w, i32_w]; rfl
     refine pure_ (i := 5) (N := some 119) (v := ?_) (a' := ?_) (wac_lb 19 63) rfl rfl (any_of HT_.out (by kernel_rfl)) (fun _ _ _ h => h) (Or.inl ⟨by rfl, ?_⟩) ?_ ?_; rotate_left
     ·intro w'; go_simp; with_reducible rfl
     rotate_left
     ·simp only [Act.put, List.setIfInBounds_toArray, List.set_cons_zero, List.set_cons_succ, i64_w, i32_w]; rfl
     refine pure_ (i := 6) (N := some 120) (v := ?_) (a' := ?_) (wac_lb 19 127) rfl rfl (any_of HT_.out (by kernel_rfl)) (fun _ _ _ h => h) (Or.inl ⟨by rfl, ?_⟩) ?_ ?_; rotate_left
     ·intro w'; go_simp; with_reducible rfl
     rotate_left
     ·simp only [Act.put, List.setIfInBounds_toArray, List.set_cons_zero, List.set_cons_succ, i64_w, i32_w]; rfl
     refine pure_ (i := 7) (N := some 121) (v := ?_) (a' := ?_) (wac_lb 19 255) rfl rfl (any_of HT_.out (by kernel_rfl)) (fun _ _ _ h => h) (Or.inl ⟨by rfl, ?_⟩) ?_ ?_; rotate_left
     ·intro w'; go_simp; with_reducible rfl
     rotate_left
     ·simp only [Act.put, List.setIfInBounds_toArray, List.set_cons_zero, List.set_cons_succ, i64_w, i32_w]; rfl
     refine pure_ (i := 8) (N := some 122) (v := ?_) (a' := ?_) (wac_lb 19 511) rfl rfl (any_of HT_.out (by kernel_rfl)) (fun _ _ _ h => h) (Or.inl ⟨by rfl, ?_⟩) ?_ ?_; rotate_left
     ·intro w'; go_simp; with_reducible rfl
     rotate_left
     ·simp only [Act.put, List.setIfInBounds_toArray, List.set_cons_zero, List.set_cons_succ, i64_w, i32_w]; rfl
     refine pure_ (i := 9) (N := some 123) (v := ?_) (a' := ?_) (wac_lb 19 1023) rfl rfl (any_of HT_.out (by kernel_rfl)) (fun _ _ _ h => h) (Or.inl ⟨by rfl, ?_⟩) ?_ ?_; rotate_left
     ·intro w'; go_simp; with_reducible rfl
     rotate_left
     ·simp only [Act.put, List.setIfInBounds_toArray, List.set_cons_zero, List.set_cons_succ, i64_w, i32_w]; rfl
     refine pure_ (i := 12) (N := some 126) (v := ?_) (a' := ?_) (wac_lb 19 5119) rfl rfl (any_of HT_.out (by kernel_rfl)) (fun _ _ _ h => h) (Or.inl ⟨by rfl, ?_⟩) ?_ ?_; rotate_left
     ·intro w'; go_simp; with_reducible rfl
     rotate_left
     ·simp only [Act.put, List.setIfInBounds_toArray, List.set_cons_zero, List.set_cons_succ, i64_w, i32_w]; rfl
     refine pure_ (i := 13) (N := some 127) (v := ?_) (a' := ?_) (wac_lb 19 13311) rfl rfl (any_of HT_.out (by kernel_rfl)) (fun _ _ _ h => h) (Or.inl ⟨by rfl, ?_⟩) ?_ ?_; rotate_left
     ·intro w'; go_simp; with_reducible rfl
     rotate_left
     ·simp only [Act.put, List.setIfInBounds_toArray, List.set_cons_zero, List.set_cons_succ, i64_w, i32_w]; rfl
     refine take_ (i := 10) (N := some 124) (v := ?_) (a' := ?_) (wac_lb 19 14335) rfl rfl (take_ofW HT_.out HW_.out (by kernel_rfl)) (fun _ _ _ h => h) (Or.inl ⟨by rfl, ?_⟩) hHeld ?_ ?_; rotate_left
     ·rintro w' ⟨s0, s1⟩; refine Eq.trans (wq_run_load1 (ty := 37) (p := .tmp 123) (g := pw) (i := 5) (v := ?v19) ?ho19 ?hp19 Try.underlying37 ?hd19 s0 ?hv19) ?fin19; (case hd19 => rfl); (case ho19 => rfl); (case hp19 => rfl); (case hv19 => rewrite [HXBW.out]; rfl); (case fin19 => with_reducible rfl)
     rotate_left
     ·simp only [Act.put, List.setIfInBounds_toArray, List.set_cons_zero, List.set_cons_succ, i64_w, i32_w]; rfl
     refine take_ (i := 14) (N := some 128) (v := ?_) (a' := ?_) (wac_lb 19 30719) rfl rfl (take_ofW HT_.out HW_.out (by kernel_rfl)) (fun _ _ _ h => h) (Or.inl ⟨by rfl, ?_⟩) hHeld ?_ ?_; rotate_left
     ·rintro w' ⟨s0, s1⟩; refine Eq.trans (wq_run_load1 (ty := 51) (p := .tmp 127) (g := g8) (i := 5) (v := ?v20) ?ho20 ?hp20 Try.underlying51 ?hd20 s1 ?hv20) ?fin20; (case hd20 => rfl); (case ho20 => rfl); (case hp20 => rfl); (case hv20 => rewrite [HXB8.out]; rfl); (case fin20 => with_reducible rfl)
     rotate_left
     ·simp only [Act.put, List.setIfInBounds_toArray, List.set_cons_zero, List.set_cons_succ, i64_w, i32_w]; rfl
     refine pure_ (i := 15) (N := some 129) (v := ?_) (a' := ?_) (wac_lb 19 63487) rfl rfl (any_of HT_.out (by kernel_rfl)) (fun _ _ _ h => h) (Or.inl ⟨by rfl, ?_⟩) ?_ ?_; rotate_left
     ·intro w'; go_simp; with_reducible rfl
     rotate_left
     ·simp only [Act.put, List.setIfInBounds_toArray, List.set_cons_zero, List.set_cons_succ, i64_w, i32_w]; rfl
     refine one_ (i := 11) (N := some 125) (wac_lb 19 65535) rfl rfl (one_of HT_.out (by kernel_rfl)) (by decide) (fun K hK => ?_)
     refine goes_ Try.func27 (by kernel_rfl) rfl ?args18 ?hw18 rfl rfl ?hargs18 ?_
     case hw18 => rfl
     case hargs18 => go_simp; with_reducible rfl
     with_reducible refine (HLN.out _ HA.out.m).mono ?_
     rintro e yu2_ ⟨rfl, hbk⟩
     refine ⟨_, rfl, ?_⟩
     have n_HA := Aside0.mk (HA.out.below hbk)
     have n_HR := Aside0.mk (HR.out.below hbk)
     have n_HB := Aside0.mk (below_step HB.out hbk)
     have n_B2 := Aside0.mk (blk_below B2.out hbk)
     have n_B8 := Aside0.mk (blk_below B8.out hbk)
     have n_BW := Aside0.mk (blk_below BW.out hbk)
     clear HA HR HB B2 B8 BW
     have HA := n_HA
     have HR := n_HR
     have HB := n_HB
     have B2 := n_B2
     have B8 := n_B8
     have BW := n_BW
     clear n_HA n_HR n_HB n_B2 n_B8 n_BW
     clear hbk
     refine hK.out _ _ ⟨BW.out, B8.out⟩ (fun hHeld => ?_)
     clear hK K
     refine norm_ (a' := ?_) ?_ ?_
     rotate_left
     ·show Act.put _ (some 125) _ = _
      simp only [Act.put, List.setIfInBounds_toArray, List.set_cons_zero, List.set_cons_succ, i64_w, i32_w]
      rfl
     refine pure_ (i := 16) (N := some 130) (v := ?_) (a' := ?_) (wac_lb 19 131071) rfl rfl (any_of HT_.out (by kernel_rfl)) (fun _ _ _ h => h) (Or.inl ⟨by rfl, ?_⟩) ?_ ?_; rotate_left
     ·intro w'; go_simp; with_reducible rfl
     rotate_left
     ·simp only [Act.put, List.setIfInBounds_toArray, List.set_cons_zero, List.set_cons_succ, i64_w, i32_w]; rfl
     refine pure_ (i := 17) (N := some 131) (v := ?_) (a' := ?_) (wac_lb 19 262143) rfl rfl (any_of HT_.out (by kernel_rfl)) (fun _ _ _ h => h) (Or.inl ⟨by rfl, ?_⟩) ?_ ?_; rotate_left
     ·intro w'; go_simp; with_reducible rfl
     rotate_left
     ·simp only [Act.put, List.setIfInBounds_toArray, List.set_cons_zero, List.set_cons_succ, i64_w, i32_w]; rfl
     refine pure_ (i := 18) (N := some 4) (v := ?_) (a' := ?_) (wac_lb 19 524287) rfl rfl (any_of HT_.out (by kernel_rfl)) (fun _ _ _ h => h) (Or.inl ⟨by rfl, ?_⟩) ?_ ?_; rotate_left
     ·intro w'; go_simp; with_reducible rfl
     rotate_left
     ·simp only [Act.put, List.setIfInBounds_toArray, List.set_cons_zero, List.set_cons_succ, i64_w, i32_w]; rfl
     refine done_ (done_of HT_.out (by kernel_rfl)) ?_
     have hX := HXBW.out
     subst hX
     clear HXBW
     have hX := HXB8.out
     subst hX
     clear HXB8
     go_wp2
     go_ret
     exact ⟨by first | rfl | (simp [*]; done), HB.out⟩



end Go.Proofs.Ytpcmoclohepdiag.PWorldActs
