-- Written by a program of this session: a variant of the print that takes proofs by hand (wip/tools/mkprint.py)
import Derived.Test.YtpcmoclohepdiagPWorldActsx0
import Derived.Test.YtpcmoclohepdiagPWorldActsx4
import Derived.Test.YtpcmoclohepdiagPWorldActsx5
import Derived.Test.YtpcmoclohepdiagPWorldActsx6
import Derived.Test.YtpcmoclohepdiagPWorldActsx7
import Derived.Test.YtpcmoclohepdiagPWorldActsx8
namespace Go.Proofs.Ytpcmoclohepdiag.PWorldActs
open Go.RowKit Go.Proofs.YtpcmoclohepdiagW.PrintWords Go.Proofs.YtpcmoclohepdiagW.PrintLast
set_option linter.unusedVariables false
set_option linter.unusedSimpArgs false

theorem rword_eq (k : Nat) (t b i f c n : Int) : corrieref05_Word.f (k + 1) t b i f c n = some (if Ok t b i f c ∧ 0 ≤ n ∧ n < t * c then 1 + b + 2 * (t * c) + n else -1) := by
 unfold corrieref05_Word.f
 rw [rops_eq, rnodes_eq]
 simp only [Option.bind_some, in_eq]
 by_cases h : Ok t b i f c
 ·have hb := bnds h
  simp only [if_pos h]
  simp only [h, true_and, decide_eq_true_eq]
  split
  ·rw [wrap64_eq (by omega) (by omega)]
  ·rfl
 ·simp only [h, false_and, if_false, decide_false, Bool.false_eq_true]

/-! ### corrieref08_Word: function 59 (by hand) -/
def d8_Word_lb (n m : Nat) : Array Bool := ((List.range n).map (fun i => m.testBit i)).toArray
def d8_Word.T1 : Bool × List (List Nat × List Nat) := (true, [([], []), ([], []), ([1], [1]), ([], []), ([2, 3], [2, 3]), ([0, 4, 4], [0, 4]), ([5], [5]), ([5], [5]), ([6, 5, 0, 1, 2, 3, 4, 5, 6, 7], [6]), ([7, 8, 0, 1, 2, 3, 4, 5, 6, 7, 8], [7])])
def d8_Word.B1 : List Nat := [0, 0, 2, 0, 14, 31, 63, 63, 255, 511]
theorem d8_Word.tab1 : rtab .any (opsOf Try.f59 1) = d8_Word.T1 := by kernel_rfl
theorem d8_Word.bits1 : waitsOk d8_Word.T1.2 d8_Word.B1 = true := by kernel_rfl
set_option maxHeartbeats 8000000 in
set_option maxRecDepth 100000 in
theorem d8_Word (w0 W : World) (c : S23) (t : Nat) (q : R8) (A : Option Addr) (C : Nat) (ws : List Int) (st n x : Int) (hB : Below w0.heap.size w0 W) (hR : RU w0 W A C ws) (hx : ∀ W : World, Calls Try.prog 90 #[.agg #[.int .i64 c.f0, .int .i64 c.f1, .int .i64 c.f2, .int .i64 c.f3, .int .i64 c.f4], .int .i64 n] W (fun e w' => e = .returned (.int .i64 x) ∧ Below W.heap.size W w')) :
  Calls Try.prog 59 #[.agg #[.int .i64 c.f0, .int .i64 c.f1, .int .i64 c.f2, .int .i64 c.f3, .int .i64 c.f4, .slice A ws.length C, .int .i64 st, .int .i64 c.f0, .int .i64 c.f1, .int .i64 c.f2, .int .i64 c.f3, .int .i64 c.f4, .slice q.a5 t q.c5, .slice q.a6 t q.c6, .slice q.a7 t q.c7, .slice q.a8 0 q.c8, .slice q.a9 0 q.c9], .int .i64 n] W fun e w' => ∃ (A' : Option Addr) (C' : Nat), e = .returned (.tuple #[.agg #[.int .i64 c.f0, .int .i64 c.f1, .int .i64 c.f2, .int .i64 c.f3, .int .i64 c.f4, .slice A' ws.length C', .int .i64 (cSt ws st x), .int .i64 c.f0, .int .i64 c.f1, .int .i64 c.f2, .int .i64 c.f3, .int .i64 c.f4, .slice q.a5 t q.c5, .slice q.a6 t q.c6, .slice q.a7 t q.c7, .slice q.a8 0 q.c8, .slice q.a9 0 q.c9], .int .u64 (cRd ws x)]) ∧ RU w0 w' A' C' ws ∧ T25 W w' ∧ Below w0.heap.size w0 w' := by
 have HR := Aside0.mk hR
 have HB := Aside0.mk hB
 have HB0 := Aside0.mk hB.size
 have HT := Aside0.mk (T25.refl W)
 clear hR hB
 go_enter Try.func59, Try.ntmps59
 go_upto_region 1 with (first | ((with_reducible refine gate_dst (N := 2) rfl ?_); refine box_event ?hg28 (N := 2) ?hd28 (cs := #[.int .i64 c.f0, .int .i64 c.f1, .int .i64 c.f2, .int .i64 c.f3, .int .i64 c.f4, .slice A ws.length C, .int .i64 st, .int .i64 c.f0, .int .i64 c.f1, .int .i64 c.f2, .int .i64 c.f3, .int .i64 c.f4, .slice q.a5 t q.c5, .slice q.a6 t q.c6, .slice q.a7 t q.c7, .slice q.a8 0 q.c8, .slice q.a9 0 q.c9]) (t := 60) ?hr28 ?_; (case hd28 => rfl); (case hg28 => rfl); (case hr28 => first | (go_simp; done) | (go_simp; rfl)); intro g1 hg w1_ hbox hbk; have HGB1 := Aside0.mk (show W.heap.size ≤ g1 from by rw [hg]; have := HT.out.size; omega); have n_HR := Aside0.mk (HR.out.below hbk); have n_HT := Aside0.mk (HT.out.below hbk); have n_HB := Aside0.mk (below_step HB.out hbk); clear HR HT HB; have HR := n_HR; have HT := n_HT; have HB := n_HB; clear n_HR n_HT n_HB; have B1 := Aside0.mk hbox; clear hbk hbox hg) | ((with_reducible refine gate_dst (N := 4) rfl ?_); refine box_event ?hg29 (N := 4) ?hd29 (cs := #[.int .i64 0, .int .i64 0, .int .i64 0, .int .i64 0, .int .i64 0, .slice none 0 0, .int .i64 0, .int .i64 0, .int .i64 0, .int .i64 0, .int .i64 0, .int .i64 0, .slice none 0 0, .slice none 0 0, .slice none 0 0, .slice none 0 0, .slice none 0 0]) (t := 60) ?hr29 ?_; (case hd29 => rfl); (case hg29 => rfl); (case hr29 => first | (go_simp; done) | (go_simp; rfl)); intro g2 hg w2_ hbox hbk; have HGB2 := Aside0.mk (show g1 ≠ g2 ∧ W.heap.size ≤ g2 from by rw [hg]; have := blk_lt B1.out; have := HT.out.size; omega); have n_HR := Aside0.mk (HR.out.below hbk); have n_HT := Aside0.mk (HT.out.below hbk); have n_HB := Aside0.mk (below_step HB.out hbk); have n_B1 := Aside0.mk (blk_below B1.out hbk); clear HR HT HB B1; have HR := n_HR; have HT := n_HT; have HB := n_HB; have B1 := n_B1; clear n_HR n_HT n_HB n_B1; have B2 := Aside0.mk hbox; clear hbk hbox hg))
 obtain ⟨XB1, hXB1, hb_B1⟩ := wq_name B1.out
 clear B1
 have B1 := Aside0.mk hb_B1
 have HXB1 := Aside0.mk hXB1
 clear hXB1 hb_B1
 have n_HR := Aside0.mk (HR.out.drew)
 have n_HT := Aside0.mk (HT.out.drew)
 have n_HB := Aside0.mk (below_drew1 HB.out)
 have n_B1 := Aside0.mk (blk_drew B1.out)
 have n_B2 := Aside0.mk (blk_drew B2.out)
 clear HR HT HB B1 B2
 have HR := n_HR
 have HT := n_HT
 have HB := n_HB
 have B1 := n_B1
 have B2 := n_B2
 clear n_HR n_HT n_HB n_B1 n_B2
 refine start_ (n := 10) (S := fun w' => w'.heap[g1]? = some (.cells XB1 60 (0, 0))) (ds := [8]) #[false, false, false, false, false, false, false, false, false, false] (by kernel_rfl) rfl rfl (B1.out) (fun hHeld => ?_); refine with_tabW d8_Word.tab1 d8_Word.bits1 (fun HT_ HW_ => ?_)
 generalize w2_.drew = v3_ at HR HT HB B1 B2 hHeld ⊢
 refine pure_ (i := 1) (N := some 7) (v := ?_) (a' := ?_) (d8_Word_lb 10 2) rfl rfl (any_of HT_.out (by kernel_rfl)) (fun _ _ _ h => h) (Or.inl ⟨by rfl, ?_⟩) ?_ ?_; rotate_left
 ·intro w'; go_simp; with_reducible rfl
 rotate_left
 ·simp only [Act.put, List.setIfInBounds_toArray, List.set_cons_zero, List.set_cons_succ, i64_w, i32_w]; rfl
 refine pure_ (i := 3) (N := some 9) (v := ?_) (a' := ?_) (d8_Word_lb 10 10) rfl rfl (any_of HT_.out (by kernel_rfl)) (fun _ _ _ h => h) (Or.inl ⟨by rfl, ?_⟩) ?_ ?_; rotate_left
 ·intro w'; go_simp; with_reducible rfl
 rotate_left
 ·simp only [Act.put, List.setIfInBounds_toArray, List.set_cons_zero, List.set_cons_succ, i64_w, i32_w]; rfl
 refine take_ (i := 0) (N := some 6) (v := ?_) (a' := ?_) (d8_Word_lb 10 11) rfl rfl (take_ofW HT_.out HW_.out (by kernel_rfl)) (fun _ _ _ h => h) (Or.inl ⟨by rfl, ?_⟩) hHeld ?_ ?_; rotate_left
 ·intro w' s0; refine Eq.trans (wq_run_loadA (ty := 60) (p := .tmp 2) (g := g1) (i := 0) (k := 17) (vs := ?vs33) ?ho33 ?hp33 Try.underlying60 ?hd33 ?hi33 s0 ?hv33 ?hk33) ?fin33; (case hd33 => rfl); (case hi33 => kernel_rfl); (case ho33 => rfl); (case hp33 => rfl); (case hv33 => rewrite [HXB1.out]; simp only [List.drop_succ_cons, List.drop_zero, List.take_succ_cons, List.take_zero, List.take_nil, List.drop_nil]; with_reducible rfl); (case hk33 => rfl); (case fin33 => with_reducible rfl)
 rotate_left
 ·simp only [Act.put, List.setIfInBounds_toArray, List.set_cons_zero, List.set_cons_succ, i64_w, i32_w]; rfl
 refine take_ (i := 2) (N := some 8) (v := ?_) (a' := ?_) (d8_Word_lb 10 15) rfl rfl (take_ofW HT_.out HW_.out (by kernel_rfl)) (fun _ _ _ h => h) (Or.inl ⟨by rfl, ?_⟩) hHeld ?_ ?_; rotate_left
 ·intro w' s0; refine Eq.trans (wq_run_loadA (ty := 23) (p := .tmp 7) (g := g1) (i := 0) (k := 5) (vs := ?vs34) ?ho34 ?hp34 Try.underlying23 ?hd34 ?hi34 s0 ?hv34 ?hk34) ?fin34; (case hd34 => rfl); (case hi34 => kernel_rfl); (case ho34 => rfl); (case hp34 => rfl); (case hv34 => rewrite [HXB1.out]; simp only [List.drop_succ_cons, List.drop_zero, List.take_succ_cons, List.take_zero, List.take_nil, List.drop_nil]; with_reducible rfl); (case hk34 => rfl); (case fin34 => with_reducible rfl)
 rotate_left
 ·simp only [Act.put, List.setIfInBounds_toArray, List.set_cons_zero, List.set_cons_succ, i64_w, i32_w]; rfl
 refine one_ (i := 4) (N := some 10) (d8_Word_lb 10 31) rfl rfl (one_of HT_.out (by kernel_rfl)) (by decide) (fun K hK => ?_)
 refine goes_ Try.func90 (by kernel_rfl) rfl ?args30 ?hw30 rfl rfl ?hargs30 ?_
 case hw30 => rfl
 case hargs30 => go_simp; with_reducible rfl
 with_reducible refine (hx _).mono ?_
 rintro e u4_ ⟨rfl, hbk⟩
 refine ⟨_, rfl, ?_⟩
 have n_HR := Aside0.mk (HR.out.below hbk)
 have n_HT := Aside0.mk (HT.out.below hbk)
 have n_HB := Aside0.mk (below_step HB.out hbk)
 have n_B1 := Aside0.mk (blk_below B1.out hbk)
 have n_B2 := Aside0.mk (blk_below B2.out hbk)
 clear HR HT HB B1 B2
 have HR := n_HR
 have HT := n_HT
 have HB := n_HB
 have B1 := n_B1
 have B2 := n_B2
 clear n_HR n_HT n_HB n_B1 n_B2
 clear hbk
 refine hK.out _ _ (B1.out) (fun hHeld => ?_)
 clear hK K
 refine norm_ (a' := ?_) ?_ ?_
 rotate_left
 ·show Act.put _ (some 10) _ = _
  simp only [Act.put, List.setIfInBounds_toArray, List.set_cons_zero, List.set_cons_succ, i64_w, i32_w]
  rfl
 refine one_ (i := 5) (N := some 11) (d8_Word_lb 10 63) rfl rfl (one_of HT_.out (by kernel_rfl)) (by decide) (fun K hK => ?_)
 refine goes_ Try.func86 (by kernel_rfl) rfl ?args31 ?hw31 rfl rfl ?hargs31 ?_
 case hw31 => rfl
 case hargs31 => go_simp; with_reducible rfl
 with_reducible refine (d8_load w0 _ c t q _ _ _ _ _ HB.out HR.out).mono ?_
 rintro e u5_ ⟨A1, C1, rfl, hR, hT, hb⟩
 refine ⟨_, rfl, ?_⟩
 have n_HR := Aside0.mk hR
 have n_HT := Aside0.mk (HT.out.trans hT)
 have n_HB := Aside0.mk hb
 have n_B1 := Aside0.mk (blk_t25 B1.out hT (by decide))
 have n_B2 := Aside0.mk (blk_t25 B2.out hT (by decide))
 clear HR HT HB B1 B2 hR hT hb
 have HR := n_HR
 have HT := n_HT
 have HB := n_HB
 have B1 := n_B1
 have B2 := n_B2
 clear n_HR n_HT n_HB n_B1 n_B2
 refine hK.out _ _ (B1.out) (fun hHeld => ?_)
 clear hK K
 refine norm_ (a' := ?_) ?_ ?_
 rotate_left
 ·show Act.put _ (some 11) _ = _
  simp only [Act.put, List.setIfInBounds_toArray, List.set_cons_zero, List.set_cons_succ, i64_w, i32_w]
  rfl
 refine pure_ (i := 6) (N := some 12) (v := ?_) (a' := ?_) (d8_Word_lb 10 127) rfl rfl (any_of HT_.out (by kernel_rfl)) (fun _ _ _ h => h) (Or.inl ⟨by rfl, ?_⟩) ?_ ?_; rotate_left
 ·intro w'; go_simp; with_reducible rfl
 rotate_left
 ·simp only [Act.put, List.setIfInBounds_toArray, List.set_cons_zero, List.set_cons_succ, i64_w, i32_w]; rfl
 refine pure_ (i := 7) (N := some 13) (v := ?_) (a' := ?_) (d8_Word_lb 10 255) rfl rfl (any_of HT_.out (by kernel_rfl)) (fun _ _ _ h => h) (Or.inl ⟨by rfl, ?_⟩) ?_ ?_; rotate_left
 ·intro w'; go_simp; with_reducible rfl
 rotate_left
 ·simp only [Act.put, List.setIfInBounds_toArray, List.set_cons_zero, List.set_cons_succ, i64_w, i32_w]; rfl
 refine last_ (i := 8) (N := none) (d8_Word_lb 10 511) rfl rfl (one_of HT_.out (by kernel_rfl)) (by decide) (fun K hK => ?_)
 refine wq_skip (ty := 60) (p := .tmp 4) (x := .tmp 12) (g := g2) (i := 0) (k := 17) (v := ?v32) (vs := ?vs32) (cs' := ?cs32) ?hw32 ?hN32 ?ho32 ?hp32 ?hx32 ?hvc32 ?hi32 ?hk32 ?h132 B2.out ?hsz32 ?hcs32 ?_
 case hi32 => kernel_rfl
 case hw32 => rfl
 case hN32 => rfl
 case ho32 => rfl
 case hp32 => rfl
 case hx32 => go_simp; with_reducible rfl
 case hvc32 => simp only [Value.cells]; with_reducible rfl
 case hk32 => rfl
 case h132 => rfl
 case hsz32 => exact Nat.le_of_ble_eq_true rfl
 case hcs32 => simp only [wqPut, List.setIfInBounds_toArray, List.set_cons_succ, List.set_cons_zero, Nat.reduceAdd]; with_reducible rfl
 intro w6_ hb hgr
 have n_HR := Aside0.mk (HR.out.grown B2.out (by decide) hgr)
 have n_HT := Aside0.mk (HT.out.grown hgr HGB2.out.2)
 have n_HB := Aside0.mk (HB.out.grown hgr HB.out.size (fun k hk => by cases hk; exact Nat.le_trans HB0.out HGB2.out.2))
 have n_B1 := Aside0.mk (wq_blk B1.out hgr HGB2.out.1)
 have n_B2 := Aside0.mk hb
 clear HR HT HB B1 B2 hb hgr
 have HR := n_HR
 have HT := n_HT
 have HB := n_HB
 have B1 := n_B1
 have B2 := n_B2
 clear n_HR n_HT n_HB n_B1 n_B2
 refine hK.out _ _ ?_
 clear hK K
 refine pure_ (i := 9) (N := some 5) (v := ?_) (a' := ?_) (d8_Word_lb 10 1023) rfl rfl (any_of HT_.out (by kernel_rfl)) (fun _ _ _ h => h) (Or.inl ⟨by rfl, ?_⟩) ?_ ?_; rotate_left
 ·intro w'; go_simp; with_reducible rfl
 rotate_left
 ·simp only [Act.put, List.setIfInBounds_toArray, List.set_cons_zero, List.set_cons_succ, i64_w, i32_w]; rfl
 refine done_ (done_of HT_.out (by kernel_rfl)) ?_
 have hX := HXB1.out
 subst hX
 clear HXB1
 go_wp2
 refine bodyPost_ret (res_ct rfl _ _ _ _ _ _ _ rfl B2.out Try.underlying60 rfl (by kernel_rfl)) rfl ?_
 exact ⟨A1, C1, rfl, HR.out, HT.out, HB.out⟩


/-! ### corrieref08_Turn: function 60 (by hand) -/
def d8_Turn_lb (n m : Nat) : Array Bool := ((List.range n).map (fun i => m.testBit i)).toArray
def d8_Turn.T1 : Bool × List (List Nat × List Nat) := (true, [([], []), ([], []), ([1], [1]), ([], []), ([2, 3], [2, 3]), ([], []), ([], []), ([0, 4, 5, 6, 4], [0, 4, 5, 6]), ([7], [7]), ([7], [7]), ([8, 7, 0, 1, 2, 3, 4, 5, 6, 7, 8, 9], [8]), ([9, 10, 0, 1, 2, 3, 4, 5, 6, 7, 8, 9, 10], [9])])
def d8_Turn.B1 : List Nat := [0, 0, 2, 0, 14, 0, 0, 127, 255, 255, 1023, 2047]
theorem d8_Turn.tab1 : rtab .any (opsOf Try.f60 1) = d8_Turn.T1 := by kernel_rfl
theorem d8_Turn.bits1 : waitsOk d8_Turn.T1.2 d8_Turn.B1 = true := by kernel_rfl
set_option maxHeartbeats 8000000 in
set_option maxRecDepth 100000 in
theorem d8_Turn (w0 W : World) (c : S23) (t : Nat) (q : R8) (A : Option Addr) (C : Nat) (ws : List Int) (hl : ws.length ≤ 1000000) (st n x old y : Int) (hB : Below w0.heap.size w0 W) (hR : RU w0 W A C ws) (hx : ∀ W : World, Calls Try.prog 90 #[.agg #[.int .i64 c.f0, .int .i64 c.f1, .int .i64 c.f2, .int .i64 c.f3, .int .i64 c.f4], .int .i64 n] W (fun e w' => e = .returned (.int .i64 x) ∧ Below W.heap.size W w')) :
  Calls Try.prog 60 #[.agg #[.int .i64 c.f0, .int .i64 c.f1, .int .i64 c.f2, .int .i64 c.f3, .int .i64 c.f4, .slice A ws.length C, .int .i64 st, .int .i64 c.f0, .int .i64 c.f1, .int .i64 c.f2, .int .i64 c.f3, .int .i64 c.f4, .slice q.a5 t q.c5, .slice q.a6 t q.c6, .slice q.a7 t q.c7, .slice q.a8 0 q.c8, .slice q.a9 0 q.c9], .int .i64 n, .int .u64 old, .int .u64 y] W fun e w' => ∃ (A' : Option Addr) (C' : Nat), e = .returned (.tuple #[.agg #[.int .i64 c.f0, .int .i64 c.f1, .int .i64 c.f2, .int .i64 c.f3, .int .i64 c.f4, .slice A' (cSwW ws x old y).length C', .int .i64 (cSt ws st x), .int .i64 c.f0, .int .i64 c.f1, .int .i64 c.f2, .int .i64 c.f3, .int .i64 c.f4, .slice q.a5 t q.c5, .slice q.a6 t q.c6, .slice q.a7 t q.c7, .slice q.a8 0 q.c8, .slice q.a9 0 q.c9], .bool (cSwB ws x old)]) ∧ RU w0 w' A' C' (cSwW ws x old y) ∧ T25 W w' ∧ Below w0.heap.size w0 w' := by
 have HR := Aside0.mk hR
 have HB := Aside0.mk hB
 have HB0 := Aside0.mk hB.size
 have HT := Aside0.mk (T25.refl W)
 clear hR hB
 go_enter Try.func60, Try.ntmps60
 go_upto_region 1 with (first | ((with_reducible refine gate_dst (N := 4) rfl ?_); refine box_event ?hg42 (N := 4) ?hd42 (cs := #[.int .i64 c.f0, .int .i64 c.f1, .int .i64 c.f2, .int .i64 c.f3, .int .i64 c.f4, .slice A ws.length C, .int .i64 st, .int .i64 c.f0, .int .i64 c.f1, .int .i64 c.f2, .int .i64 c.f3, .int .i64 c.f4, .slice q.a5 t q.c5, .slice q.a6 t q.c6, .slice q.a7 t q.c7, .slice q.a8 0 q.c8, .slice q.a9 0 q.c9]) (t := 60) ?hr42 ?_; (case hd42 => rfl); (case hg42 => rfl); (case hr42 => first | (go_simp; done) | (go_simp; rfl)); intro g1 hg w1_ hbox hbk; have HGB1 := Aside0.mk (show W.heap.size ≤ g1 from by rw [hg]; have := HT.out.size; omega); have n_HR := Aside0.mk (HR.out.below hbk); have n_HT := Aside0.mk (HT.out.below hbk); have n_HB := Aside0.mk (below_step HB.out hbk); clear HR HT HB; have HR := n_HR; have HT := n_HT; have HB := n_HB; clear n_HR n_HT n_HB; have B1 := Aside0.mk hbox; clear hbk hbox hg) | ((with_reducible refine gate_dst (N := 8) rfl ?_); refine box_event ?hg43 (N := 8) ?hd43 (cs := #[.int .i64 0, .int .i64 0, .int .i64 0, .int .i64 0, .int .i64 0, .slice none 0 0, .int .i64 0, .int .i64 0, .int .i64 0, .int .i64 0, .int .i64 0, .int .i64 0, .slice none 0 0, .slice none 0 0, .slice none 0 0, .slice none 0 0, .slice none 0 0]) (t := 60) ?hr43 ?_; (case hd43 => rfl); (case hg43 => rfl); (case hr43 => first | (go_simp; done) | (go_simp; rfl)); intro g2 hg w2_ hbox hbk; have HGB2 := Aside0.mk (show g1 ≠ g2 ∧ W.heap.size ≤ g2 from by rw [hg]; have := blk_lt B1.out; have := HT.out.size; omega); have n_HR := Aside0.mk (HR.out.below hbk); have n_HT := Aside0.mk (HT.out.below hbk); have n_HB := Aside0.mk (below_step HB.out hbk); have n_B1 := Aside0.mk (blk_below B1.out hbk); clear HR HT HB B1; have HR := n_HR; have HT := n_HT; have HB := n_HB; have B1 := n_B1; clear n_HR n_HT n_HB n_B1; have B2 := Aside0.mk hbox; clear hbk hbox hg))
 obtain ⟨XB1, hXB1, hb_B1⟩ := wq_name B1.out
 clear B1
 have B1 := Aside0.mk hb_B1
 have HXB1 := Aside0.mk hXB1
 clear hXB1 hb_B1
 have n_HR := Aside0.mk (HR.out.drew)
 have n_HT := Aside0.mk (HT.out.drew)
 have n_HB := Aside0.mk (below_drew1 HB.out)
 have n_B1 := Aside0.mk (blk_drew B1.out)
 have n_B2 := Aside0.mk (blk_drew B2.out)
 clear HR HT HB B1 B2
 have HR := n_HR
 have HT := n_HT
 have HB := n_HB
 have B1 := n_B1
 have B2 := n_B2
 clear n_HR n_HT n_HB n_B1 n_B2
 refine start_ (n := 12) (S := fun w' => w'.heap[g1]? = some (.cells XB1 60 (0, 0))) (ds := [10]) #[false, false, false, false, false, false, false, false, false, false, false, false] (by kernel_rfl) rfl rfl (B1.out) (fun hHeld => ?_); refine with_tabW d8_Turn.tab1 d8_Turn.bits1 (fun HT_ HW_ => ?_)
 generalize w2_.drew = v3_ at HR HT HB B1 B2 hHeld ⊢
 refine pure_ (i := 1) (N := some 11) (v := ?_) (a' := ?_) (d8_Turn_lb 12 2) rfl rfl (any_of HT_.out (by kernel_rfl)) (fun _ _ _ h => h) (Or.inl ⟨by rfl, ?_⟩) ?_ ?_; rotate_left
 ·intro w'; go_simp; with_reducible rfl
 rotate_left
 ·simp only [Act.put, List.setIfInBounds_toArray, List.set_cons_zero, List.set_cons_succ, i64_w, i32_w]; rfl
 refine pure_ (i := 3) (N := some 13) (v := ?_) (a' := ?_) (d8_Turn_lb 12 10) rfl rfl (any_of HT_.out (by kernel_rfl)) (fun _ _ _ h => h) (Or.inl ⟨by rfl, ?_⟩) ?_ ?_; rotate_left
 ·intro w'; go_simp; with_reducible rfl
 rotate_left
 ·simp only [Act.put, List.setIfInBounds_toArray, List.set_cons_zero, List.set_cons_succ, i64_w, i32_w]; rfl
 refine pure_ (i := 5) (N := some 15) (v := ?_) (a' := ?_) (d8_Turn_lb 12 42) rfl rfl (any_of HT_.out (by kernel_rfl)) (fun _ _ _ h => h) (Or.inl ⟨by rfl, ?_⟩) ?_ ?_; rotate_left
 ·intro w'; go_simp; with_reducible rfl
 rotate_left
 ·simp only [Act.put, List.setIfInBounds_toArray, List.set_cons_zero, List.set_cons_succ, i64_w, i32_w]; rfl
 refine pure_ (i := 6) (N := some 16) (v := ?_) (a' := ?_) (d8_Turn_lb 12 106) rfl rfl (any_of HT_.out (by kernel_rfl)) (fun _ _ _ h => h) (Or.inl ⟨by rfl, ?_⟩) ?_ ?_; rotate_left
 ·intro w'; go_simp; with_reducible rfl
 rotate_left
 ·simp only [Act.put, List.setIfInBounds_toArray, List.set_cons_zero, List.set_cons_succ, i64_w, i32_w]; rfl
 refine take_ (i := 0) (N := some 10) (v := ?_) (a' := ?_) (d8_Turn_lb 12 107) rfl rfl (take_ofW HT_.out HW_.out (by kernel_rfl)) (fun _ _ _ h => h) (Or.inl ⟨by rfl, ?_⟩) hHeld ?_ ?_; rotate_left
 ·intro w' s0; refine Eq.trans (wq_run_loadA (ty := 60) (p := .tmp 4) (g := g1) (i := 0) (k := 17) (vs := ?vs47) ?ho47 ?hp47 Try.underlying60 ?hd47 ?hi47 s0 ?hv47 ?hk47) ?fin47; (case hd47 => rfl); (case hi47 => kernel_rfl); (case ho47 => rfl); (case hp47 => rfl); (case hv47 => rewrite [HXB1.out]; simp only [List.drop_succ_cons, List.drop_zero, List.take_succ_cons, List.take_zero, List.take_nil, List.drop_nil]; with_reducible rfl); (case hk47 => rfl); (case fin47 => with_reducible rfl)
 rotate_left
 ·simp only [Act.put, List.setIfInBounds_toArray, List.set_cons_zero, List.set_cons_succ, i64_w, i32_w]; rfl
 refine take_ (i := 2) (N := some 12) (v := ?_) (a' := ?_) (d8_Turn_lb 12 111) rfl rfl (take_ofW HT_.out HW_.out (by kernel_rfl)) (fun _ _ _ h => h) (Or.inl ⟨by rfl, ?_⟩) hHeld ?_ ?_; rotate_left
 ·intro w' s0; refine Eq.trans (wq_run_loadA (ty := 23) (p := .tmp 11) (g := g1) (i := 0) (k := 5) (vs := ?vs48) ?ho48 ?hp48 Try.underlying23 ?hd48 ?hi48 s0 ?hv48 ?hk48) ?fin48; (case hd48 => rfl); (case hi48 => kernel_rfl); (case ho48 => rfl); (case hp48 => rfl); (case hv48 => rewrite [HXB1.out]; simp only [List.drop_succ_cons, List.drop_zero, List.take_succ_cons, List.take_zero, List.take_nil, List.drop_nil]; with_reducible rfl); (case hk48 => rfl); (case fin48 => with_reducible rfl)
 rotate_left
 ·simp only [Act.put, List.setIfInBounds_toArray, List.set_cons_zero, List.set_cons_succ, i64_w, i32_w]; rfl
 refine one_ (i := 4) (N := some 14) (d8_Turn_lb 12 127) rfl rfl (one_of HT_.out (by kernel_rfl)) (by decide) (fun K hK => ?_)
 refine goes_ Try.func90 (by kernel_rfl) rfl ?args44 ?hw44 rfl rfl ?hargs44 ?_
 case hw44 => rfl
 case hargs44 => go_simp; with_reducible rfl
 with_reducible refine (hx _).mono ?_
 rintro e u4_ ⟨rfl, hbk⟩
 refine ⟨_, rfl, ?_⟩
 have n_HR := Aside0.mk (HR.out.below hbk)
 have n_HT := Aside0.mk (HT.out.below hbk)
 have n_HB := Aside0.mk (below_step HB.out hbk)
 have n_B1 := Aside0.mk (blk_below B1.out hbk)
 have n_B2 := Aside0.mk (blk_below B2.out hbk)
 clear HR HT HB B1 B2
 have HR := n_HR
 have HT := n_HT
 have HB := n_HB
 have B1 := n_B1
 have B2 := n_B2
 clear n_HR n_HT n_HB n_B1 n_B2
 clear hbk
 refine hK.out _ _ (B1.out) (fun hHeld => ?_)
 clear hK K
 refine norm_ (a' := ?_) ?_ ?_
 rotate_left
 ·show Act.put _ (some 14) _ = _
  simp only [Act.put, List.setIfInBounds_toArray, List.set_cons_zero, List.set_cons_succ, i64_w, i32_w]
  rfl
 refine one_ (i := 7) (N := some 17) (d8_Turn_lb 12 255) rfl rfl (one_of HT_.out (by kernel_rfl)) (by decide) (fun K hK => ?_)
 refine goes_ Try.func88 (by kernel_rfl) rfl ?args45 ?hw45 rfl rfl ?hargs45 ?_
 case hw45 => rfl
 case hargs45 => go_simp; with_reducible rfl
 with_reducible refine (d8_swap w0 _ c t q _ _ _ hl _ _ _ _ HB.out HR.out).mono ?_
 rintro e u5_ ⟨A1, C1, rfl, hR, hT, hb⟩
 refine ⟨_, rfl, ?_⟩
 have n_HR := Aside0.mk hR
 have n_HT := Aside0.mk (HT.out.trans hT)
 have n_HB := Aside0.mk hb
 have n_B1 := Aside0.mk (blk_t25 B1.out hT (by decide))
 have n_B2 := Aside0.mk (blk_t25 B2.out hT (by decide))
 clear HR HT HB B1 B2 hR hT hb
 have HR := n_HR
 have HT := n_HT
 have HB := n_HB
 have B1 := n_B1
 have B2 := n_B2
 clear n_HR n_HT n_HB n_B1 n_B2
 refine hK.out _ _ (B1.out) (fun hHeld => ?_)
 clear hK K
 refine norm_ (a' := ?_) ?_ ?_
 rotate_left
 ·show Act.put _ (some 17) _ = _
  simp only [Act.put, List.setIfInBounds_toArray, List.set_cons_zero, List.set_cons_succ, i64_w, i32_w]
  rfl
 refine pure_ (i := 8) (N := some 18) (v := ?_) (a' := ?_) (d8_Turn_lb 12 511) rfl rfl (any_of HT_.out (by kernel_rfl)) (fun _ _ _ h => h) (Or.inl ⟨by rfl, ?_⟩) ?_ ?_; rotate_left
 ·intro w'; go_simp; with_reducible rfl
 rotate_left
 ·simp only [Act.put, List.setIfInBounds_toArray, List.set_cons_zero, List.set_cons_succ, i64_w, i32_w]; rfl
 refine pure_ (i := 9) (N := some 19) (v := ?_) (a' := ?_) (d8_Turn_lb 12 1023) rfl rfl (any_of HT_.out (by kernel_rfl)) (fun _ _ _ h => h) (Or.inl ⟨by rfl, ?_⟩) ?_ ?_; rotate_left
 ·intro w'; go_simp; with_reducible rfl
 rotate_left
 ·simp only [Act.put, List.setIfInBounds_toArray, List.set_cons_zero, List.set_cons_succ, i64_w, i32_w]; rfl
 refine last_ (i := 10) (N := none) (d8_Turn_lb 12 2047) rfl rfl (one_of HT_.out (by kernel_rfl)) (by decide) (fun K hK => ?_)
 refine wq_skip (ty := 60) (p := .tmp 8) (x := .tmp 18) (g := g2) (i := 0) (k := 17) (v := ?v46) (vs := ?vs46) (cs' := ?cs46) ?hw46 ?hN46 ?ho46 ?hp46 ?hx46 ?hvc46 ?hi46 ?hk46 ?h146 B2.out ?hsz46 ?hcs46 ?_
 case hi46 => kernel_rfl
 case hw46 => rfl
 case hN46 => rfl
 case ho46 => rfl
 case hp46 => rfl
 case hx46 => go_simp; with_reducible rfl
 case hvc46 => simp only [Value.cells]; with_reducible rfl
 case hk46 => rfl
 case h146 => rfl
 case hsz46 => exact Nat.le_of_ble_eq_true rfl
 case hcs46 => simp only [wqPut, List.setIfInBounds_toArray, List.set_cons_succ, List.set_cons_zero, Nat.reduceAdd]; with_reducible rfl
 intro w6_ hb hgr
 have n_HR := Aside0.mk (HR.out.grown B2.out (by decide) hgr)
 have n_HT := Aside0.mk (HT.out.grown hgr HGB2.out.2)
 have n_HB := Aside0.mk (HB.out.grown hgr HB.out.size (fun k hk => by cases hk; exact Nat.le_trans HB0.out HGB2.out.2))
 have n_B1 := Aside0.mk (wq_blk B1.out hgr HGB2.out.1)
 have n_B2 := Aside0.mk hb
 clear HR HT HB B1 B2 hb hgr
 have HR := n_HR
 have HT := n_HT
 have HB := n_HB
 have B1 := n_B1
 have B2 := n_B2
 clear n_HR n_HT n_HB n_B1 n_B2
 refine hK.out _ _ ?_
 clear hK K
 refine pure_ (i := 11) (N := some 9) (v := ?_) (a' := ?_) (d8_Turn_lb 12 4095) rfl rfl (any_of HT_.out (by kernel_rfl)) (fun _ _ _ h => h) (Or.inl ⟨by rfl, ?_⟩) ?_ ?_; rotate_left
 ·intro w'; go_simp; with_reducible rfl
 rotate_left
 ·simp only [Act.put, List.setIfInBounds_toArray, List.set_cons_zero, List.set_cons_succ, i64_w, i32_w]; rfl
 refine done_ (done_of HT_.out (by kernel_rfl)) ?_
 have hX := HXB1.out
 subst hX
 clear HXB1
 go_wp2
 refine bodyPost_ret (res_ct rfl _ _ _ _ _ _ _ rfl B2.out Try.underlying60 rfl (by kernel_rfl)) rfl ?_
 exact ⟨A1, C1, rfl, HR.out, HT.out, HB.out⟩


/-! ### corrieref05_Ann: function 91 -/
def corrieref05_Ann.f (k : Nat) (a0_0 : Int) (a0_1 : Int) (a0_2 : Int) (a0_3 : Int) (a0_4 : Int) (a1 : Int) : Option (Int) := (corrieref05_in.f k a0_0 a0_1 a0_2 a0_3 a0_4 a1 a0_0).bind fun t167 => (if t167 = true then ((corrieref04_Nodes.f k a0_0 a0_1 a0_2 a0_3 a0_4).bind fun t168 => ((corrieref04_Ops.f k a0_0 a0_1 a0_2 a0_3 a0_4).bind fun t169 => (some (wrap64 ((wrap64 (t168 + t169)) + a1))))) else (some (-1)))
theorem corrieref05_Ann.mono : ∀ a0 a1 a2 a3 a4 a5 k, LeO (corrieref05_Ann.f k a0 a1 a2 a3 a4 a5) (corrieref05_Ann.f (k + 1) a0 a1 a2 a3 a4 a5) := by
 intro a0 a1 a2 a3 a4 a5 k
 unfold corrieref05_Ann.f
 repeat' first
   | (with_reducible exact corrieref04_Nodes.mono _ _ _ _ _ _)
   | (with_reducible exact corrieref04_Ops.mono _ _ _ _ _ _)
   | (with_reducible exact corrieref05_in.mono _ _ _ _ _ _ _ _)
   | (with_reducible exact LeO.refl _)
   | (with_reducible exact LeO.none _)
   | (with_reducible refine LeO.ite ?_ ?_)
   | (with_reducible refine LeO.bind ?_ (fun _ => ?_))
   | exact corrieref04_Nodes.mono _ _ _ _ _ _
   | exact corrieref04_Ops.mono _ _ _ _ _ _
   | exact corrieref05_in.mono _ _ _ _ _ _ _ _
   | exact LeO.none _
   | refine LeO.ite ?_ ?_
   | refine LeO.bind ?_ (fun _ => ?_)
def corrieref05_Ann.T2 : Bool × List (List Nat × List Nat) := (true, [([], []), ([0], [0]), ([], []), ([2, 1], [2]), ([1, 3], [1, 3]), ([], []), ([4, 5], [4, 5]), ([6, 3, 0, 1, 2, 3, 4, 5, 6], [6])])
def corrieref05_Ann.B2 : List Nat := [0, 1, 0, 7, 15, 0, 63, 127]
theorem corrieref05_Ann.tab2 : rtab .any (opsOf Try.f91 2) = corrieref05_Ann.T2 := by kernel_rfl
theorem corrieref05_Ann.bits2 : waitsOk corrieref05_Ann.T2.2 corrieref05_Ann.B2 = true := by kernel_rfl
set_option maxHeartbeats 8000000 in
set_option maxRecDepth 100000 in
theorem corrieref05_Ann.calls (k : Nat) (a0_0 : Int) (a0_1 : Int) (a0_2 : Int) (a0_3 : Int) (a0_4 : Int) (a1 : Int) (r : Int) (w : World) (h : corrieref05_Ann.f k a0_0 a0_1 a0_2 a0_3 a0_4 a1 = some r) :
  Calls Try.prog 91 #[.agg #[.int .i64 a0_0, .int .i64 a0_1, .int .i64 a0_2, .int .i64 a0_3, .int .i64 a0_4], .int .i64 a1] w fun e w' => e = .returned (.int .i64 r) ∧ Below w.heap.size w w' := by
 have hu23 := Try.underlying23
 have HB := Aside0.mk (Below.refl w.heap.size w)
 have H : ((corrieref05_in.f k a0_0 a0_1 a0_2 a0_3 a0_4 a1 a0_0).bind fun t167 => (if t167 = true then ((corrieref04_Nodes.f k a0_0 a0_1 a0_2 a0_3 a0_4).bind fun t168 => ((corrieref04_Ops.f k a0_0 a0_1 a0_2 a0_3 a0_4).bind fun t169 => (some (wrap64 ((wrap64 (t168 + t169)) + a1))))) else (some (-1)))) = some r := h
 clear h
 replace H := Option.bind_eq_some_iff.mp H
 obtain ⟨t167, A30, H⟩ := H
 replace H : (if t167 = true then ((corrieref04_Nodes.f k a0_0 a0_1 a0_2 a0_3 a0_4).bind fun t168 => ((corrieref04_Ops.f k a0_0 a0_1 a0_2 a0_3 a0_4).bind fun t169 => (some (wrap64 ((wrap64 (t168 + t169)) + a1))))) else (some (-1))) = some r := H
 have A3 := Aside0.mk A30
 clear A30
 by_cases c4 : t167 = true
 ·subst c4
  have H1 : ((corrieref04_Nodes.f k a0_0 a0_1 a0_2 a0_3 a0_4).bind fun t168 => ((corrieref04_Ops.f k a0_0 a0_1 a0_2 a0_3 a0_4).bind fun t169 => (some (wrap64 ((wrap64 (t168 + t169)) + a1))))) = some r := by rw [if_pos rfl] at H; exact H
  clear H
  have H := H1
  clear H1
  replace H := Option.bind_eq_some_iff.mp H
  obtain ⟨t168, A50, H⟩ := H
  replace H : ((corrieref04_Ops.f k a0_0 a0_1 a0_2 a0_3 a0_4).bind fun t169 => (some (wrap64 ((wrap64 (t168 + t169)) + a1)))) = some r := H
  have A5 := Aside0.mk A50
  clear A50
  replace H := Option.bind_eq_some_iff.mp H
  obtain ⟨t169, A60, H⟩ := H
  replace H : (some (wrap64 ((wrap64 (t168 + t169)) + a1))) = some r := H
  have A6 := Aside0.mk A60
  clear A60
  obtain rfl := Option.some.inj H
  go_enter Try.func91, Try.ntmps91
  try go_wp2_with (first | ((with_reducible refine gate_dst (N := 2) rfl ?_); refine box_event ?hg (N := 2) ?hd (cs := #[.int .i64 a0_0, .int .i64 a0_1, .int .i64 a0_2, .int .i64 a0_3, .int .i64 a0_4]) (t := 23) ?hr ?_; (case hd => rfl); (case hg => rfl); (case hr => first | (go_simp; done) | (go_simp; rfl)); intro gb166 hg w7 hbox hb; have n0_ := Aside0.mk (below_step (by repeat (first | (with_reducible first | exact HB.out | apply below_alloc | apply pw_below_drewN | apply below_drew1) | exact HB.out)) hb); have n1_ := Aside0.mk (hbox); have n2_ := Aside0.mk ((by rw [hg]; exact (below_size (by repeat (first | (with_reducible first | exact HB.out | apply below_alloc | apply pw_below_drewN | apply below_drew1) | exact HB.out))) : w.heap.size ≤ gb166)); have n3_ := Aside0.mk ((by rw [hg]; exact (below_size (by repeat (first | (with_reducible first | exact HB.out | apply below_alloc | apply pw_below_drewN | apply below_drew1) | exact HB.out))) : w.heap.size ≤ gb166)); clear HB; have HB := n0_; have BK166 := n1_; have GW166 := n2_; have GE166 := n3_; clear n0_ n1_ n2_ n3_; clear hb hbox hg; have hcz8_0 : w7.cell? ⟨gb166, 0, none⟩ = some (.int .i64 a0_0) := (blk_cell BK166.out 0).trans rfl; have hcz8_1 : w7.cell? ⟨gb166, 1, none⟩ = some (.int .i64 a0_1) := (blk_cell BK166.out 1).trans rfl; have hcz8_2 : w7.cell? ⟨gb166, 2, none⟩ = some (.int .i64 a0_2) := (blk_cell BK166.out 2).trans rfl; have hcz8_3 : w7.cell? ⟨gb166, 3, none⟩ = some (.int .i64 a0_3) := (blk_cell BK166.out 3).trans rfl; have hcz8_4 : w7.cell? ⟨gb166, 4, none⟩ = some (.int .i64 a0_4) := (blk_cell BK166.out 4).trans rfl; have hfz8_0 := blk_frozen BK166.out 0; have hfz8_1 := blk_frozen BK166.out 1; have hfz8_2 := blk_frozen BK166.out 2; have hfz8_3 := blk_frozen BK166.out 3; have hfz8_4 := blk_frozen BK166.out 4) | ((with_reducible refine gate_callee (f := 85) rfl ?_); refine goesL_ (some 9) rfl rfl Try.func85 (by kernel_rfl) rfl #[.agg #[.int .i64 a0_0, .int .i64 a0_1, .int .i64 a0_2, .int .i64 a0_3, .int .i64 a0_4], .int .i64 a1, .int .i64 a0_0] rfl (by (try simp only [List.map_toArray, List.map_cons, List.map_nil]); first | done | rfl | (simp only [List.length_drop, List.length_take]; rfl)) ?_; (with_reducible refine (corrieref05_in.calls k a0_0 a0_1 a0_2 a0_3 a0_4 a1 a0_0 true _ A3.out).mono ?_); rintro e w9 ⟨rfl, hb⟩; refine ⟨_, rfl, ?_⟩; have n0_ := Aside0.mk (blk_below (g := gb166) (o := .cells #[.int .i64 a0_0, .int .i64 a0_1, .int .i64 a0_2, .int .i64 a0_3, .int .i64 a0_4] 23 (0, 0)) (by (with_reducible repeat (first | refine blk_drewN ?_ _ | refine blk_drew ?_ | refine blk_alloc ?_ _)); exact BK166.out) hb); have n1_ := Aside0.mk (below_step (by repeat (first | (with_reducible first | exact HB.out | apply below_alloc | apply pw_below_drewN | apply below_drew1 | refine below_set ?_ GE166.out) | exact HB.out)) hb); clear BK166; clear HB; have BK166 := n0_; have HB := n1_; clear n0_ n1_; (try clear hb); (try clear hb2); (try clear hk); (try clear hi)))
  have n0_ := Aside0.mk (blk_drew BK166.out)
  have n1_ := Aside0.mk (below_drew1 HB.out)
  clear BK166
  clear HB
  have BK166 := n0_
  have HB := n1_
  clear n0_ n1_
  refine start_ (n := 8) (S := fun w' => w'.cell? ⟨gb166, 0, none⟩ = some (.int .i64 a0_0) ∧ w'.cell? ⟨gb166, 1, none⟩ = some (.int .i64 a0_1) ∧ w'.cell? ⟨gb166, 2, none⟩ = some (.int .i64 a0_2) ∧ w'.cell? ⟨gb166, 3, none⟩ = some (.int .i64 a0_3) ∧ w'.cell? ⟨gb166, 4, none⟩ = some (.int .i64 a0_4)) (ds := []) #[false, false, false, false, false, false, false, false] (by kernel_rfl) rfl rfl ⟨(blk_cell BK166.out 0).trans rfl, (blk_cell BK166.out 1).trans rfl, (blk_cell BK166.out 2).trans rfl, (blk_cell BK166.out 3).trans rfl, (blk_cell BK166.out 4).trans rfl⟩ (fun hHeld => ?_); refine with_tabW corrieref05_Ann.tab2 corrieref05_Ann.bits2 (fun HT_ HW_ => ?_)
  generalize w9.drew = w10 at BK166 HB hHeld ⊢
  refine pure_ (i := 5) (N := some 15) (v := ?_) (a' := ?_) #[false, false, false, false, false, true, false, false] rfl rfl (any_of HT_.out (by kernel_rfl)) (fun _ _ _ h => h) (Or.inl ⟨by rfl, ?_⟩) ?_ ?_
  rotate_left
  ·intro w'
   go_simp
   with_reducible rfl
  rotate_left
  ·simp only [Act.put, List.setIfInBounds_toArray, List.set_cons_zero, List.set_cons_succ, i64_w, i32_w]
   rfl
  refine take_ (i := 0) (N := some 10) (v := ?_) (a' := ?_) #[true, false, false, false, false, true, false, false] rfl rfl (take_ofW HT_.out HW_.out (by kernel_rfl)) (fun _ _ _ h => h) (Or.inl ⟨by rfl, ?_⟩) hHeld ?_ ?_
  rotate_left
  ·rintro w' ⟨s0, s1, s2, s3, s4⟩
   go_simp
   with_reducible rfl
  rotate_left
  ·simp only [Act.put, List.setIfInBounds_toArray, List.set_cons_zero, List.set_cons_succ, i64_w, i32_w]
   rfl
  refine take_ (i := 2) (N := some 12) (v := ?_) (a' := ?_) #[true, false, true, false, false, true, false, false] rfl rfl (take_ofW HT_.out HW_.out (by kernel_rfl)) (fun _ _ _ h => h) (Or.inl ⟨by rfl, ?_⟩) hHeld ?_ ?_
  rotate_left
  ·rintro w' ⟨s0, s1, s2, s3, s4⟩
   go_simp
   with_reducible rfl
  rotate_left
  ·simp only [Act.put, List.setIfInBounds_toArray, List.set_cons_zero, List.set_cons_succ, i64_w, i32_w]
   rfl
  refine one_ (i := 1) (N := some 11) #[true, true, true, false, false, true, false, false] rfl rfl (one_of HT_.out (by kernel_rfl)) (by decide) (fun K hK => ?_)
  refine goes_ Try.func12 (by kernel_rfl) rfl #[.agg #[.int .i64 a0_0, .int .i64 a0_1, .int .i64 a0_2, .int .i64 a0_3, .int .i64 a0_4]] (by rfl) rfl rfl (by (try simp only [List.map_toArray, List.map_cons, List.map_nil]); first | done | rfl | (simp only [List.length_drop, List.length_take]; rfl)) ?_
  with_reducible refine (corrieref04_Nodes.calls k a0_0 a0_1 a0_2 a0_3 a0_4 t168 _ A5.out).mono ?_
  rintro e w11 ⟨rfl, hb⟩
  refine ⟨_, rfl, ?_⟩
  have n0_ := Aside0.mk (blk_below (g := gb166) (o := .cells #[.int .i64 a0_0, .int .i64 a0_1, .int .i64 a0_2, .int .i64 a0_3, .int .i64 a0_4] 23 (0, 0)) (by (with_reducible repeat (first | refine blk_drewN ?_ _ | refine blk_drew ?_ | refine blk_alloc ?_ _)); exact BK166.out) hb)
  have n1_ := Aside0.mk (below_step (by repeat (first | (with_reducible first | exact HB.out | apply below_alloc | apply pw_below_drewN | apply below_drew1 | refine below_set ?_ GE166.out) | exact HB.out)) hb)
  clear BK166
  clear HB
  have BK166 := n0_
  have HB := n1_
  clear n0_ n1_
  (try clear hb)
  (try clear hb2)
  (try clear hk)
  (try clear hi)
  refine hK.out _ _ ⟨(blk_cell BK166.out 0).trans rfl, (blk_cell BK166.out 1).trans rfl, (blk_cell BK166.out 2).trans rfl, (blk_cell BK166.out 3).trans rfl, (blk_cell BK166.out 4).trans rfl⟩ (fun hHeld => ?_)
  clear hK K
  refine norm_ (a' := ?_) ?_ ?_
  rotate_left
  ·show Act.put _ (some 11) _ = _
   simp only [Act.put, List.setIfInBounds_toArray, List.set_cons_zero, List.set_cons_succ, i64_w, i32_w]
   rfl
  refine one_ (i := 3) (N := some 13) #[true, true, true, true, false, true, false, false] rfl rfl (one_of HT_.out (by kernel_rfl)) (by decide) (fun K hK => ?_)
  refine goes_ Try.func13 (by kernel_rfl) rfl #[.agg #[.int .i64 a0_0, .int .i64 a0_1, .int .i64 a0_2, .int .i64 a0_3, .int .i64 a0_4]] (by rfl) rfl rfl (by (try simp only [List.map_toArray, List.map_cons, List.map_nil]); first | done | rfl | (simp only [List.length_drop, List.length_take]; rfl)) ?_
  with_reducible refine (corrieref04_Ops.calls k a0_0 a0_1 a0_2 a0_3 a0_4 t169 _ A6.out).mono ?_
  rintro e w12 ⟨rfl, hb⟩
  refine ⟨_, rfl, ?_⟩
  have n0_ := Aside0.mk (blk_below (g := gb166) (o := .cells #[.int .i64 a0_0, .int .i64 a0_1, .int .i64 a0_2, .int .i64 a0_3, .int .i64 a0_4] 23 (0, 0)) (by (with_reducible repeat (first | refine blk_drewN ?_ _ | refine blk_drew ?_ | refine blk_alloc ?_ _)); exact BK166.out) hb)
  have n1_ := Aside0.mk (below_step (by repeat (first | (with_reducible first | exact HB.out | apply below_alloc | apply pw_below_drewN | apply below_drew1 | refine below_set ?_ GE166.out) | exact HB.out)) hb)
  clear BK166
  clear HB
  have BK166 := n0_
  have HB := n1_
  clear n0_ n1_
  (try clear hb)
  (try clear hb2)
  (try clear hk)
  (try clear hi)
  refine hK.out _ _ ⟨(blk_cell BK166.out 0).trans rfl, (blk_cell BK166.out 1).trans rfl, (blk_cell BK166.out 2).trans rfl, (blk_cell BK166.out 3).trans rfl, (blk_cell BK166.out 4).trans rfl⟩ (fun hHeld => ?_)
  clear hK K
  refine norm_ (a' := ?_) ?_ ?_
  rotate_left
  ·show Act.put _ (some 13) _ = _
   simp only [Act.put, List.setIfInBounds_toArray, List.set_cons_zero, List.set_cons_succ, i64_w, i32_w]
   rfl
  refine pure_ (i := 4) (N := some 14) (v := ?_) (a' := ?_) #[true, true, true, true, true, true, false, false] rfl rfl (any_of HT_.out (by kernel_rfl)) (fun _ _ _ h => h) (Or.inl ⟨by rfl, ?_⟩) ?_ ?_
  rotate_left
  ·intro w'
   go_simp
   with_reducible rfl
  rotate_left
  ·simp only [Act.put, List.setIfInBounds_toArray, List.set_cons_zero, List.set_cons_succ, i64_w, i32_w]
   rfl
  refine pure_ (i := 6) (N := some 16) (v := ?_) (a' := ?_) #[true, true, true, true, true, true, true, false] rfl rfl (any_of HT_.out (by kernel_rfl)) (fun _ _ _ h => h) (Or.inl ⟨by rfl, ?_⟩) ?_ ?_
  rotate_left
  ·intro w'
   go_simp
   with_reducible rfl
  rotate_left
  ·simp only [Act.put, List.setIfInBounds_toArray, List.set_cons_zero, List.set_cons_succ, i64_w, i32_w]
   rfl
  refine pure_ (i := 7) (N := some 4) (v := ?_) (a' := ?_) #[true, true, true, true, true, true, true, true] rfl rfl (any_of HT_.out (by kernel_rfl)) (fun _ _ _ h => h) (Or.inl ⟨by rfl, ?_⟩) ?_ ?_
  rotate_left
  ·intro w'
   go_simp
   with_reducible rfl
  rotate_left
  ·simp only [Act.put, List.setIfInBounds_toArray, List.set_cons_zero, List.set_cons_succ, i64_w, i32_w]
   rfl
  refine done_ (done_of HT_.out (by kernel_rfl)) ?_
  try go_wp2
  go_ret
  exact ⟨by first | rfl | (simp [errW_none, errW_some] <;> rfl) | (simp [*, errW_none, errW_some] <;> rfl), by repeat (first | (with_reducible first | exact HB.out | apply below_alloc | apply pw_below_drewN | apply below_drew1 | refine below_set ?_ GE166.out) | exact HB.out)⟩
 ·replace c4 := Bool.eq_false_iff.mpr c4
  subst c4
  have H1 : (some (-1)) = some r := by rw [if_neg (show ¬ (false = true) by decide)] at H; exact H
  clear H
  have H := H1
  clear H1
  obtain rfl := Option.some.inj H
  go_enter Try.func91, Try.ntmps91
  go_wp2_with (first | ((with_reducible refine gate_dst (N := 2) rfl ?_); refine box_event ?hg (N := 2) ?hd (cs := #[.int .i64 a0_0, .int .i64 a0_1, .int .i64 a0_2, .int .i64 a0_3, .int .i64 a0_4]) (t := 23) ?hr ?_; (case hd => rfl); (case hg => rfl); (case hr => first | (go_simp; done) | (go_simp; rfl)); intro gb166 hg w13 hbox hb; have n0_ := Aside0.mk (below_step (by repeat (first | (with_reducible first | exact HB.out | apply below_alloc | apply pw_below_drewN | apply below_drew1) | exact HB.out)) hb); have n1_ := Aside0.mk (hbox); have n2_ := Aside0.mk ((by rw [hg]; exact (below_size (by repeat (first | (with_reducible first | exact HB.out | apply below_alloc | apply pw_below_drewN | apply below_drew1) | exact HB.out))) : w.heap.size ≤ gb166)); have n3_ := Aside0.mk ((by rw [hg]; exact (below_size (by repeat (first | (with_reducible first | exact HB.out | apply below_alloc | apply pw_below_drewN | apply below_drew1) | exact HB.out))) : w.heap.size ≤ gb166)); clear HB; have HB := n0_; have BK166 := n1_; have GW166 := n2_; have GE166 := n3_; clear n0_ n1_ n2_ n3_; clear hb hbox hg; have hcz14_0 : w13.cell? ⟨gb166, 0, none⟩ = some (.int .i64 a0_0) := (blk_cell BK166.out 0).trans rfl; have hcz14_1 : w13.cell? ⟨gb166, 1, none⟩ = some (.int .i64 a0_1) := (blk_cell BK166.out 1).trans rfl; have hcz14_2 : w13.cell? ⟨gb166, 2, none⟩ = some (.int .i64 a0_2) := (blk_cell BK166.out 2).trans rfl; have hcz14_3 : w13.cell? ⟨gb166, 3, none⟩ = some (.int .i64 a0_3) := (blk_cell BK166.out 3).trans rfl; have hcz14_4 : w13.cell? ⟨gb166, 4, none⟩ = some (.int .i64 a0_4) := (blk_cell BK166.out 4).trans rfl; have hfz14_0 := blk_frozen BK166.out 0; have hfz14_1 := blk_frozen BK166.out 1; have hfz14_2 := blk_frozen BK166.out 2; have hfz14_3 := blk_frozen BK166.out 3; have hfz14_4 := blk_frozen BK166.out 4) | ((with_reducible refine gate_callee (f := 85) rfl ?_); refine goesL_ (some 9) rfl rfl Try.func85 (by kernel_rfl) rfl #[.agg #[.int .i64 a0_0, .int .i64 a0_1, .int .i64 a0_2, .int .i64 a0_3, .int .i64 a0_4], .int .i64 a1, .int .i64 a0_0] rfl (by (try simp only [List.map_toArray, List.map_cons, List.map_nil]); first | done | rfl | (simp only [List.length_drop, List.length_take]; rfl)) ?_; (with_reducible refine (corrieref05_in.calls k a0_0 a0_1 a0_2 a0_3 a0_4 a1 a0_0 false _ A3.out).mono ?_); rintro e w15 ⟨rfl, hb⟩; refine ⟨_, rfl, ?_⟩; have n0_ := Aside0.mk (blk_below (g := gb166) (o := .cells #[.int .i64 a0_0, .int .i64 a0_1, .int .i64 a0_2, .int .i64 a0_3, .int .i64 a0_4] 23 (0, 0)) (by (with_reducible repeat (first | refine blk_drewN ?_ _ | refine blk_drew ?_ | refine blk_alloc ?_ _)); exact BK166.out) hb); have n1_ := Aside0.mk (below_step (by repeat (first | (with_reducible first | exact HB.out | apply below_alloc | apply pw_below_drewN | apply below_drew1 | refine below_set ?_ GE166.out) | exact HB.out)) hb); clear BK166; clear HB; have BK166 := n0_; have HB := n1_; clear n0_ n1_; (try clear hb); (try clear hb2); (try clear hk); (try clear hi)))
  go_ret
  exact ⟨by first | rfl | (simp [errW_none, errW_some] <;> rfl) | (simp [*, errW_none, errW_some] <;> rfl), by repeat (first | (with_reducible first | exact HB.out | apply below_alloc | apply pw_below_drewN | apply below_drew1 | refine below_set ?_ GE166.out) | exact HB.out)⟩

theorem rann_eq (k : Nat) (t b i f c n : Int) : corrieref05_Ann.f (k + 1) t b i f c n = some (if Ok t b i f c ∧ 0 ≤ n ∧ n < t then 1 + b + 2 * (t * c) + t * c + n else -1) := by
 unfold corrieref05_Ann.f
 rw [rops_eq, rnodes_eq]
 simp only [Option.bind_some, in_eq]
 by_cases h : Ok t b i f c
 ·have hb := bnds h
  simp only [if_pos h]
  simp only [h, true_and, decide_eq_true_eq]
  split
  ·rw [wrap64_eq (n := 1 + b + 2 * (t * c) + t * c) (by omega) (by omega), wrap64_eq (by omega) (by omega)]
  ·rfl
 ·simp only [h, false_and, if_false, decide_false, Bool.false_eq_true]

/-! ### corrieref08_Ann: function 61 (by hand) -/
def d8_Ann_lb (n m : Nat) : Array Bool := ((List.range n).map (fun i => m.testBit i)).toArray
def d8_Ann.T1 : Bool × List (List Nat × List Nat) := (true, [([], []), ([], []), ([1], [1]), ([], []), ([2, 3], [2, 3]), ([0, 4, 4], [0, 4]), ([5], [5]), ([6], [6]), ([6], [6]), ([], []), ([9, 7, 5, 0, 1, 2, 3, 4, 5, 6, 7, 9], [7, 9]), ([8, 10, 0, 1, 2, 3, 4, 5, 6, 7, 8, 9, 10], [8])])
def d8_Ann.B1 : List Nat := [0, 0, 2, 0, 14, 31, 63, 127, 127, 0, 767, 2047]
theorem d8_Ann.tab1 : rtab .any (opsOf Try.f61 1) = d8_Ann.T1 := by kernel_rfl
theorem d8_Ann.bits1 : waitsOk d8_Ann.T1.2 d8_Ann.B1 = true := by kernel_rfl
set_option maxHeartbeats 8000000 in
set_option maxRecDepth 100000 in
theorem d8_Ann (w0 W : World) (c : S23) (t : Nat) (q : R8) (A : Option Addr) (C : Nat) (ws : List Int) (st n x : Int) (hB : Below w0.heap.size w0 W) (hR : RU w0 W A C ws) (hx : ∀ W : World, Calls Try.prog 91 #[.agg #[.int .i64 c.f0, .int .i64 c.f1, .int .i64 c.f2, .int .i64 c.f3, .int .i64 c.f4], .int .i64 n] W (fun e w' => e = .returned (.int .i64 x) ∧ Below W.heap.size W w')) :
  Calls Try.prog 61 #[.agg #[.int .i64 c.f0, .int .i64 c.f1, .int .i64 c.f2, .int .i64 c.f3, .int .i64 c.f4, .slice A ws.length C, .int .i64 st, .int .i64 c.f0, .int .i64 c.f1, .int .i64 c.f2, .int .i64 c.f3, .int .i64 c.f4, .slice q.a5 t q.c5, .slice q.a6 t q.c6, .slice q.a7 t q.c7, .slice q.a8 0 q.c8, .slice q.a9 0 q.c9], .int .i64 n] W fun e w' => ∃ (A' : Option Addr) (C' : Nat), e = .returned (.tuple #[.agg #[.int .i64 c.f0, .int .i64 c.f1, .int .i64 c.f2, .int .i64 c.f3, .int .i64 c.f4, .slice A' ws.length C', .int .i64 (cSt ws st x), .int .i64 c.f0, .int .i64 c.f1, .int .i64 c.f2, .int .i64 c.f3, .int .i64 c.f4, .slice q.a5 t q.c5, .slice q.a6 t q.c6, .slice q.a7 t q.c7, .slice q.a8 0 q.c8, .slice q.a9 0 q.c9], .int .i64 (wrap64 (wrap64 (cRd ws x) - 1))]) ∧ RU w0 w' A' C' ws ∧ T25 W w' ∧ Below w0.heap.size w0 w' := by
 have HR := Aside0.mk hR
 have HB := Aside0.mk hB
 have HB0 := Aside0.mk hB.size
 have HT := Aside0.mk (T25.refl W)
 clear hR hB
 go_enter Try.func61, Try.ntmps61
 go_upto_region 1 with (first | ((with_reducible refine gate_dst (N := 2) rfl ?_); refine box_event ?hg67 (N := 2) ?hd67 (cs := #[.int .i64 c.f0, .int .i64 c.f1, .int .i64 c.f2, .int .i64 c.f3, .int .i64 c.f4, .slice A ws.length C, .int .i64 st, .int .i64 c.f0, .int .i64 c.f1, .int .i64 c.f2, .int .i64 c.f3, .int .i64 c.f4, .slice q.a5 t q.c5, .slice q.a6 t q.c6, .slice q.a7 t q.c7, .slice q.a8 0 q.c8, .slice q.a9 0 q.c9]) (t := 60) ?hr67 ?_; (case hd67 => rfl); (case hg67 => rfl); (case hr67 => first | (go_simp; done) | (go_simp; rfl)); intro g1 hg w1_ hbox hbk; have HGB1 := Aside0.mk (show W.heap.size ≤ g1 from by rw [hg]; have := HT.out.size; omega); have n_HR := Aside0.mk (HR.out.below hbk); have n_HT := Aside0.mk (HT.out.below hbk); have n_HB := Aside0.mk (below_step HB.out hbk); clear HR HT HB; have HR := n_HR; have HT := n_HT; have HB := n_HB; clear n_HR n_HT n_HB; have B1 := Aside0.mk hbox; clear hbk hbox hg) | ((with_reducible refine gate_dst (N := 4) rfl ?_); refine box_event ?hg68 (N := 4) ?hd68 (cs := #[.int .i64 0, .int .i64 0, .int .i64 0, .int .i64 0, .int .i64 0, .slice none 0 0, .int .i64 0, .int .i64 0, .int .i64 0, .int .i64 0, .int .i64 0, .int .i64 0, .slice none 0 0, .slice none 0 0, .slice none 0 0, .slice none 0 0, .slice none 0 0]) (t := 60) ?hr68 ?_; (case hd68 => rfl); (case hg68 => rfl); (case hr68 => first | (go_simp; done) | (go_simp; rfl)); intro g2 hg w2_ hbox hbk; have HGB2 := Aside0.mk (show g1 ≠ g2 ∧ W.heap.size ≤ g2 from by rw [hg]; have := blk_lt B1.out; have := HT.out.size; omega); have n_HR := Aside0.mk (HR.out.below hbk); have n_HT := Aside0.mk (HT.out.below hbk); have n_HB := Aside0.mk (below_step HB.out hbk); have n_B1 := Aside0.mk (blk_below B1.out hbk); clear HR HT HB B1; have HR := n_HR; have HT := n_HT; have HB := n_HB; have B1 := n_B1; clear n_HR n_HT n_HB n_B1; have B2 := Aside0.mk hbox; clear hbk hbox hg))
 obtain ⟨XB1, hXB1, hb_B1⟩ := wq_name B1.out
 clear B1
 have B1 := Aside0.mk hb_B1
 have HXB1 := Aside0.mk hXB1
 clear hXB1 hb_B1
 have n_HR := Aside0.mk (HR.out.drew)
 have n_HT := Aside0.mk (HT.out.drew)
 have n_HB := Aside0.mk (below_drew1 HB.out)
 have n_B1 := Aside0.mk (blk_drew B1.out)
 have n_B2 := Aside0.mk (blk_drew B2.out)
 clear HR HT HB B1 B2
 have HR := n_HR
 have HT := n_HT
 have HB := n_HB
 have B1 := n_B1
 have B2 := n_B2
 clear n_HR n_HT n_HB n_B1 n_B2
 refine start_ (n := 12) (S := fun w' => w'.heap[g1]? = some (.cells XB1 60 (0, 0))) (ds := [10]) #[false, false, false, false, false, false, false, false, false, false, false, false] (by kernel_rfl) rfl rfl (B1.out) (fun hHeld => ?_); refine with_tabW d8_Ann.tab1 d8_Ann.bits1 (fun HT_ HW_ => ?_)
 generalize w2_.drew = v3_ at HR HT HB B1 B2 hHeld ⊢
 refine pure_ (i := 1) (N := some 10) (v := ?_) (a' := ?_) (d8_Ann_lb 12 2) rfl rfl (any_of HT_.out (by kernel_rfl)) (fun _ _ _ h => h) (Or.inl ⟨by rfl, ?_⟩) ?_ ?_; rotate_left
 ·intro w'; go_simp; with_reducible rfl
 rotate_left
 ·simp only [Act.put, List.setIfInBounds_toArray, List.set_cons_zero, List.set_cons_succ, i64_w, i32_w]; rfl
 refine pure_ (i := 3) (N := some 12) (v := ?_) (a' := ?_) (d8_Ann_lb 12 10) rfl rfl (any_of HT_.out (by kernel_rfl)) (fun _ _ _ h => h) (Or.inl ⟨by rfl, ?_⟩) ?_ ?_; rotate_left
 ·intro w'; go_simp; with_reducible rfl
 rotate_left
 ·simp only [Act.put, List.setIfInBounds_toArray, List.set_cons_zero, List.set_cons_succ, i64_w, i32_w]; rfl
 refine take_ (i := 0) (N := some 9) (v := ?_) (a' := ?_) (d8_Ann_lb 12 11) rfl rfl (take_ofW HT_.out HW_.out (by kernel_rfl)) (fun _ _ _ h => h) (Or.inl ⟨by rfl, ?_⟩) hHeld ?_ ?_; rotate_left
 ·intro w' s0; refine Eq.trans (wq_run_loadA (ty := 60) (p := .tmp 2) (g := g1) (i := 0) (k := 17) (vs := ?vs78) ?ho78 ?hp78 Try.underlying60 ?hd78 ?hi78 s0 ?hv78 ?hk78) ?fin78; (case hd78 => rfl); (case hi78 => kernel_rfl); (case ho78 => rfl); (case hp78 => rfl); (case hv78 => rewrite [HXB1.out]; simp only [List.drop_succ_cons, List.drop_zero, List.take_succ_cons, List.take_zero, List.take_nil, List.drop_nil]; with_reducible rfl); (case hk78 => rfl); (case fin78 => with_reducible rfl)
 rotate_left
 ·simp only [Act.put, List.setIfInBounds_toArray, List.set_cons_zero, List.set_cons_succ, i64_w, i32_w]; rfl
 refine take_ (i := 2) (N := some 11) (v := ?_) (a' := ?_) (d8_Ann_lb 12 15) rfl rfl (take_ofW HT_.out HW_.out (by kernel_rfl)) (fun _ _ _ h => h) (Or.inl ⟨by rfl, ?_⟩) hHeld ?_ ?_; rotate_left
 ·intro w' s0; refine Eq.trans (wq_run_loadA (ty := 23) (p := .tmp 10) (g := g1) (i := 0) (k := 5) (vs := ?vs79) ?ho79 ?hp79 Try.underlying23 ?hd79 ?hi79 s0 ?hv79 ?hk79) ?fin79; (case hd79 => rfl); (case hi79 => kernel_rfl); (case ho79 => rfl); (case hp79 => rfl); (case hv79 => rewrite [HXB1.out]; simp only [List.drop_succ_cons, List.drop_zero, List.take_succ_cons, List.take_zero, List.take_nil, List.drop_nil]; with_reducible rfl); (case hk79 => rfl); (case fin79 => with_reducible rfl)
 rotate_left
 ·simp only [Act.put, List.setIfInBounds_toArray, List.set_cons_zero, List.set_cons_succ, i64_w, i32_w]; rfl
 refine join_ (σ := Option Addr × Nat × Nat) 2 (d8_Ann_lb 12 1023) (fun s => [(13, .int .i64 x), (14, .tuple #[.agg #[.int .i64 c.f0, .int .i64 c.f1, .int .i64 c.f2, .int .i64 c.f3, .int .i64 c.f4, .slice s.1 ws.length s.2.1, .int .i64 (cSt ws st x), .int .i64 c.f0, .int .i64 c.f1, .int .i64 c.f2, .int .i64 c.f3, .int .i64 c.f4, .slice q.a5 t q.c5, .slice q.a6 t q.c6, .slice q.a7 t q.c7, .slice q.a8 0 q.c8, .slice q.a9 0 q.c9], .int .u64 (cRd ws x)]), (8, .tuple #[.agg #[.int .i64 c.f0, .int .i64 c.f1, .int .i64 c.f2, .int .i64 c.f3, .int .i64 c.f4, .slice s.1 ws.length s.2.1, .int .i64 (cSt ws st x), .int .i64 c.f0, .int .i64 c.f1, .int .i64 c.f2, .int .i64 c.f3, .int .i64 c.f4, .slice q.a5 t q.c5, .slice q.a6 t q.c6, .slice q.a7 t q.c7, .slice q.a8 0 q.c8, .slice q.a9 0 q.c9], .int .u64 (cRd ws x)]), (15, .agg #[.int .i64 c.f0, .int .i64 c.f1, .int .i64 c.f2, .int .i64 c.f3, .int .i64 c.f4, .slice s.1 ws.length s.2.1, .int .i64 (cSt ws st x), .int .i64 c.f0, .int .i64 c.f1, .int .i64 c.f2, .int .i64 c.f3, .int .i64 c.f4, .slice q.a5 t q.c5, .slice q.a6 t q.c6, .slice q.a7 t q.c7, .slice q.a8 0 q.c8, .slice q.a9 0 q.c9]), (16, .int .u64 (cRd ws x)), (6, .pointer (some ⟨s.2.2, 0, none⟩))]) (fun s w' => Aside0 (RU w0 w' s.1 s.2.1 ws) ∧ Aside0 (T25 W w') ∧ Aside0 (Below w0.heap.size w0 w') ∧ Aside0 (w'.heap[g1]? = some (.cells XB1 60 (0, 0))) ∧ Aside0 (w'.heap[g2]? = some (.cells #[.int .i64 0, .int .i64 0, .int .i64 0, .int .i64 0, .int .i64 0, .slice none 0 0, .int .i64 0, .int .i64 0, .int .i64 0, .int .i64 0, .int .i64 0, .int .i64 0, .slice none 0 0, .slice none 0 0, .slice none 0 0, .slice none 0 0, .slice none 0 0] 60 (0, 0))) ∧ Aside0 (w'.heap[s.2.2]? = some (.cells #[.int .i64 0, .int .i64 0, .int .i64 0, .int .i64 0, .int .i64 0, .slice none 0 0, .int .i64 0, .int .i64 0, .int .i64 0, .int .i64 0, .int .i64 0, .int .i64 0, .slice none 0 0, .slice none 0 0, .slice none 0 0, .slice none 0 0, .slice none 0 0] 60 (0, 0))) ∧ Aside0 (g1 ≠ s.2.2 ∧ g2 ≠ s.2.2 ∧ W.heap.size ≤ s.2.2)) ?_ ?_
 rotate_left
 ·intro hCont
  refine two_ (i := 4) (j := 9) (Ni := some 13) (Nj := some 6) (d8_Ann_lb 12 31) (d8_Ann_lb 12 527) rfl rfl rfl rfl (two_of HT_.out (by kernel_rfl)) (by decide) (by decide) (fun K hK => ?_) (fun K hK => ?_)
  ·skip
   refine goes_ Try.func91 (by kernel_rfl) rfl ?args70 ?hw70 rfl rfl ?hargs70 ?_
   case hw70 => rfl
   case hargs70 => go_simp; with_reducible rfl
   with_reducible refine (hx _).mono ?_
   rintro e u4_ ⟨rfl, hbk⟩
   refine ⟨_, rfl, ?_⟩
   have n_HR := Aside0.mk (HR.out.below hbk)
   have n_HT := Aside0.mk (HT.out.below hbk)
   have n_HB := Aside0.mk (below_step HB.out hbk)
   have n_B1 := Aside0.mk (blk_below B1.out hbk)
   have n_B2 := Aside0.mk (blk_below B2.out hbk)
   clear HR HT HB B1 B2
   have HR := n_HR
   have HT := n_HT
   have HB := n_HB
   have B1 := n_B1
   have B2 := n_B2
   clear n_HR n_HT n_HB n_B1 n_B2
   clear hbk
   refine hK.out _ _ (B1.out) (fun hHeld => ?_)
   clear hK K
   refine norm_ (a' := ?_) ?_ ?_
   rotate_left
   ·show Act.put _ (some 13) _ = _
    simp only [Act.put, List.setIfInBounds_toArray, List.set_cons_zero, List.set_cons_succ, i64_w, i32_w]
    rfl
   refine two_ (i := 5) (j := 9) (Ni := some 14) (Nj := some 6) (d8_Ann_lb 12 63) (d8_Ann_lb 12 543) rfl rfl rfl rfl (two_of HT_.out (by kernel_rfl)) (by decide) (by decide) (fun K hK => ?_) (fun K hK => ?_)
   ·skip
    refine goes_ Try.func86 (by kernel_rfl) rfl ?args71 ?hw71 rfl rfl ?hargs71 ?_
    case hw71 => rfl
    case hargs71 => go_simp; with_reducible rfl
    with_reducible refine (d8_load w0 _ c t q _ _ _ _ _ HB.out HR.out).mono ?_
    rintro e u5_ ⟨A1, C1, rfl, hR, hT, hb⟩
    refine ⟨_, rfl, ?_⟩
    have n_HR := Aside0.mk hR
    have n_HT := Aside0.mk (HT.out.trans hT)
    have n_HB := Aside0.mk hb
    have n_B1 := Aside0.mk (blk_t25 B1.out hT (by decide))
    have n_B2 := Aside0.mk (blk_t25 B2.out hT (by decide))
    clear HR HT HB B1 B2 hR hT hb
    have HR := n_HR
    have HT := n_HT
    have HB := n_HB
    have B1 := n_B1
    have B2 := n_B2
    clear n_HR n_HT n_HB n_B1 n_B2
    refine hK.out _ _ (B1.out) (fun hHeld => ?_)
    clear hK K
    refine norm_ (a' := ?_) ?_ ?_
    rotate_left
    ·show Act.put _ (some 14) _ = _
     simp only [Act.put, List.setIfInBounds_toArray, List.set_cons_zero, List.set_cons_succ, i64_w, i32_w]
     rfl
    refine pure_ (i := 6) (N := some 8) (v := ?_) (a' := ?_) (d8_Ann_lb 12 127) rfl rfl (any_of HT_.out (by kernel_rfl)) (fun _ _ _ h => h) (Or.inl ⟨by rfl, ?_⟩) ?_ ?_; rotate_left
    ·intro w'; go_simp; with_reducible rfl
    rotate_left
    ·simp only [Act.put, List.setIfInBounds_toArray, List.set_cons_zero, List.set_cons_succ, i64_w, i32_w]; rfl
    refine pure_ (i := 7) (N := some 15) (v := ?_) (a' := ?_) (d8_Ann_lb 12 255) rfl rfl (any_of HT_.out (by kernel_rfl)) (fun _ _ _ h => h) (Or.inl ⟨by rfl, ?_⟩) ?_ ?_; rotate_left
    ·intro w'; go_simp; with_reducible rfl
    rotate_left
    ·simp only [Act.put, List.setIfInBounds_toArray, List.set_cons_zero, List.set_cons_succ, i64_w, i32_w]; rfl
    refine pure_ (i := 8) (N := some 16) (v := ?_) (a' := ?_) (d8_Ann_lb 12 511) rfl rfl (any_of HT_.out (by kernel_rfl)) (fun _ _ _ h => h) (Or.inl ⟨by rfl, ?_⟩) ?_ ?_; rotate_left
    ·intro w'; go_simp; with_reducible rfl
    rotate_left
    ·simp only [Act.put, List.setIfInBounds_toArray, List.set_cons_zero, List.set_cons_succ, i64_w, i32_w]; rfl
    refine one_ (i := 9) (N := some 6) (d8_Ann_lb 12 1023) rfl rfl (one_of HT_.out (by kernel_rfl)) (by decide) (fun K hK => ?_)
    refine wq_value ?hw72 ?hN72 (cs := #[.int .i64 0, .int .i64 0, .int .i64 0, .int .i64 0, .int .i64 0, .slice none 0 0, .int .i64 0, .int .i64 0, .int .i64 0, .int .i64 0, .int .i64 0, .int .i64 0, .slice none 0 0, .slice none 0 0, .slice none 0 0, .slice none 0 0, .slice none 0 0]) (t := 60) ?hr72 ?_
    case hw72 => rfl
    case hN72 => rfl
    case hr72 => first | (go_simp; done) | (go_simp; rfl)
    intro g3 hg w9_ hbox hbk
    have HGB3 := Aside0.mk (show g1 ≠ g3 ∧ g2 ≠ g3 ∧ W.heap.size ≤ g3 from by rw [hg]; have := blk_lt B1.out; have := blk_lt B2.out; have := HT.out.size; omega)
    have n_HR := Aside0.mk (HR.out.below hbk)
    have n_HT := Aside0.mk (HT.out.below hbk)
    have n_HB := Aside0.mk (below_step HB.out hbk)
    have n_B1 := Aside0.mk (blk_below B1.out hbk)
    have n_B2 := Aside0.mk (blk_below B2.out hbk)
    clear HR HT HB B1 B2
    have HR := n_HR
    have HT := n_HT
    have HB := n_HB
    have B1 := n_B1
    have B2 := n_B2
    clear n_HR n_HT n_HB n_B1 n_B2
    have B3 := Aside0.mk hbox
    clear hbk hbox hg
    refine hK.out _ _ (B1.out) (fun hHeld => ?_)
    clear hK K
    refine norm_ (a' := ?_) ?_ ?_
    rotate_left
    ·show Act.put _ (some 6) _ = _
     simp only [Act.put, List.setIfInBounds_toArray, List.set_cons_zero, List.set_cons_succ, i64_w, i32_w]
     rfl
    exact norm_ (by simp only [putAll, Act.put, List.setIfInBounds_toArray, List.set_cons_zero, List.set_cons_succ]) (hCont (A1, C1, g3) _ ⟨HR, HT, HB, B1, B2, B3, HGB3⟩)
   ·skip
    refine wq_value ?hw73 ?hN73 (cs := #[.int .i64 0, .int .i64 0, .int .i64 0, .int .i64 0, .int .i64 0, .slice none 0 0, .int .i64 0, .int .i64 0, .int .i64 0, .int .i64 0, .int .i64 0, .int .i64 0, .slice none 0 0, .slice none 0 0, .slice none 0 0, .slice none 0 0, .slice none 0 0]) (t := 60) ?hr73 ?_
    case hw73 => rfl
    case hN73 => rfl
    case hr73 => first | (go_simp; done) | (go_simp; rfl)
    intro g3 hg w9_ hbox hbk
    have HGB3 := Aside0.mk (show g1 ≠ g3 ∧ g2 ≠ g3 ∧ W.heap.size ≤ g3 from by rw [hg]; have := blk_lt B1.out; have := blk_lt B2.out; have := HT.out.size; omega)
    have n_HR := Aside0.mk (HR.out.below hbk)
    have n_HT := Aside0.mk (HT.out.below hbk)
    have n_HB := Aside0.mk (below_step HB.out hbk)
    have n_B1 := Aside0.mk (blk_below B1.out hbk)
    have n_B2 := Aside0.mk (blk_below B2.out hbk)
    clear HR HT HB B1 B2
    have HR := n_HR
    have HT := n_HT
    have HB := n_HB
    have B1 := n_B1
    have B2 := n_B2
    clear n_HR n_HT n_HB n_B1 n_B2
    have B3 := Aside0.mk hbox
    clear hbk hbox hg
    refine hK.out _ _ (B1.out) (fun hHeld => ?_)
    clear hK K
    refine norm_ (a' := ?_) ?_ ?_
    rotate_left
    ·show Act.put _ (some 6) _ = _
     simp only [Act.put, List.setIfInBounds_toArray, List.set_cons_zero, List.set_cons_succ, i64_w, i32_w]
     rfl
    refine one_ (i := 5) (N := some 14) (d8_Ann_lb 12 575) rfl rfl (one_of HT_.out (by kernel_rfl)) (by decide) (fun K hK => ?_)
    refine goes_ Try.func86 (by kernel_rfl) rfl ?args74 ?hw74 rfl rfl ?hargs74 ?_
    case hw74 => rfl
    case hargs74 => go_simp; with_reducible rfl
    with_reducible refine (d8_load w0 _ c t q _ _ _ _ _ HB.out HR.out).mono ?_
    rintro e u5_ ⟨A1, C1, rfl, hR, hT, hb⟩
    refine ⟨_, rfl, ?_⟩
    have n_HR := Aside0.mk hR
    have n_HT := Aside0.mk (HT.out.trans hT)
    have n_HB := Aside0.mk hb
    have n_B1 := Aside0.mk (blk_t25 B1.out hT (by decide))
    have n_B2 := Aside0.mk (blk_t25 B2.out hT (by decide))
    have n_B3 := Aside0.mk (blk_t25 B3.out hT (by decide))
    clear HR HT HB B1 B2 B3 hR hT hb
    have HR := n_HR
    have HT := n_HT
    have HB := n_HB
    have B1 := n_B1
    have B2 := n_B2
    have B3 := n_B3
    clear n_HR n_HT n_HB n_B1 n_B2 n_B3
    refine hK.out _ _ (B1.out) (fun hHeld => ?_)
    clear hK K
    refine norm_ (a' := ?_) ?_ ?_
    rotate_left
    ·show Act.put _ (some 14) _ = _
     simp only [Act.put, List.setIfInBounds_toArray, List.set_cons_zero, List.set_cons_succ, i64_w, i32_w]
     rfl
    refine pure_ (i := 6) (N := some 8) (v := ?_) (a' := ?_) (d8_Ann_lb 12 639) rfl rfl (any_of HT_.out (by kernel_rfl)) (fun _ _ _ h => h) (Or.inl ⟨by rfl, ?_⟩) ?_ ?_; rotate_left
    ·intro w'; go_simp; with_reducible rfl
    rotate_left
    ·simp only [Act.put, List.setIfInBounds_toArray, List.set_cons_zero, List.set_cons_succ, i64_w, i32_w]; rfl
    refine pure_ (i := 7) (N := some 15) (v := ?_) (a' := ?_) (d8_Ann_lb 12 767) rfl rfl (any_of HT_.out (by kernel_rfl)) (fun _ _ _ h => h) (Or.inl ⟨by rfl, ?_⟩) ?_ ?_; rotate_left
    ·intro w'; go_simp; with_reducible rfl
    rotate_left
    ·simp only [Act.put, List.setIfInBounds_toArray, List.set_cons_zero, List.set_cons_succ, i64_w, i32_w]; rfl
    refine pure_ (i := 8) (N := some 16) (v := ?_) (a' := ?_) (d8_Ann_lb 12 1023) rfl rfl (any_of HT_.out (by kernel_rfl)) (fun _ _ _ h => h) (Or.inl ⟨by rfl, ?_⟩) ?_ ?_; rotate_left
    ·intro w'; go_simp; with_reducible rfl
    rotate_left
    ·simp only [Act.put, List.setIfInBounds_toArray, List.set_cons_zero, List.set_cons_succ, i64_w, i32_w]; rfl
    exact norm_ (by simp only [putAll, Act.put, List.setIfInBounds_toArray, List.set_cons_zero, List.set_cons_succ]) (hCont (A1, C1, g3) _ ⟨HR, HT, HB, B1, B2, B3, HGB3⟩)
  ·skip
   refine wq_value ?hw75 ?hN75 (cs := #[.int .i64 0, .int .i64 0, .int .i64 0, .int .i64 0, .int .i64 0, .slice none 0 0, .int .i64 0, .int .i64 0, .int .i64 0, .int .i64 0, .int .i64 0, .int .i64 0, .slice none 0 0, .slice none 0 0, .slice none 0 0, .slice none 0 0, .slice none 0 0]) (t := 60) ?hr75 ?_
   case hw75 => rfl
   case hN75 => rfl
   case hr75 => first | (go_simp; done) | (go_simp; rfl)
   intro g3 hg w9_ hbox hbk
   have HGB3 := Aside0.mk (show g1 ≠ g3 ∧ g2 ≠ g3 ∧ W.heap.size ≤ g3 from by rw [hg]; have := blk_lt B1.out; have := blk_lt B2.out; have := HT.out.size; omega)
   have n_HR := Aside0.mk (HR.out.below hbk)
   have n_HT := Aside0.mk (HT.out.below hbk)
   have n_HB := Aside0.mk (below_step HB.out hbk)
   have n_B1 := Aside0.mk (blk_below B1.out hbk)
   have n_B2 := Aside0.mk (blk_below B2.out hbk)
   clear HR HT HB B1 B2
   have HR := n_HR
   have HT := n_HT
   have HB := n_HB
   have B1 := n_B1
   have B2 := n_B2
   clear n_HR n_HT n_HB n_B1 n_B2
   have B3 := Aside0.mk hbox
   clear hbk hbox hg
   refine hK.out _ _ (B1.out) (fun hHeld => ?_)
   clear hK K
   refine norm_ (a' := ?_) ?_ ?_
   rotate_left
   ·show Act.put _ (some 6) _ = _
    simp only [Act.put, List.setIfInBounds_toArray, List.set_cons_zero, List.set_cons_succ, i64_w, i32_w]
    rfl
   refine one_ (i := 4) (N := some 13) (d8_Ann_lb 12 543) rfl rfl (one_of HT_.out (by kernel_rfl)) (by decide) (fun K hK => ?_)
   refine goes_ Try.func91 (by kernel_rfl) rfl ?args76 ?hw76 rfl rfl ?hargs76 ?_
   case hw76 => rfl
   case hargs76 => go_simp; with_reducible rfl
   with_reducible refine (hx _).mono ?_
   rintro e u4_ ⟨rfl, hbk⟩
   refine ⟨_, rfl, ?_⟩
   have n_HR := Aside0.mk (HR.out.below hbk)
   have n_HT := Aside0.mk (HT.out.below hbk)
   have n_HB := Aside0.mk (below_step HB.out hbk)
   have n_B1 := Aside0.mk (blk_below B1.out hbk)
   have n_B2 := Aside0.mk (blk_below B2.out hbk)
   have n_B3 := Aside0.mk (blk_below B3.out hbk)
   clear HR HT HB B1 B2 B3
   have HR := n_HR
   have HT := n_HT
   have HB := n_HB
   have B1 := n_B1
   have B2 := n_B2
   have B3 := n_B3
   clear n_HR n_HT n_HB n_B1 n_B2 n_B3
   clear hbk
   refine hK.out _ _ (B1.out) (fun hHeld => ?_)
   clear hK K
   refine norm_ (a' := ?_) ?_ ?_
   rotate_left
   ·show Act.put _ (some 13) _ = _
    simp only [Act.put, List.setIfInBounds_toArray, List.set_cons_zero, List.set_cons_succ, i64_w, i32_w]
    rfl
   refine one_ (i := 5) (N := some 14) (d8_Ann_lb 12 575) rfl rfl (one_of HT_.out (by kernel_rfl)) (by decide) (fun K hK => ?_)
   refine goes_ Try.func86 (by kernel_rfl) rfl ?args77 ?hw77 rfl rfl ?hargs77 ?_
   case hw77 => rfl
   case hargs77 => go_simp; with_reducible rfl
   with_reducible refine (d8_load w0 _ c t q _ _ _ _ _ HB.out HR.out).mono ?_
   rintro e u5_ ⟨A1, C1, rfl, hR, hT, hb⟩
   refine ⟨_, rfl, ?_⟩
   have n_HR := Aside0.mk hR
   have n_HT := Aside0.mk (HT.out.trans hT)
   have n_HB := Aside0.mk hb
   have n_B1 := Aside0.mk (blk_t25 B1.out hT (by decide))
   have n_B2 := Aside0.mk (blk_t25 B2.out hT (by decide))
   have n_B3 := Aside0.mk (blk_t25 B3.out hT (by decide))
   clear HR HT HB B1 B2 B3 hR hT hb
   have HR := n_HR
   have HT := n_HT
   have HB := n_HB
   have B1 := n_B1
   have B2 := n_B2
   have B3 := n_B3
   clear n_HR n_HT n_HB n_B1 n_B2 n_B3
   refine hK.out _ _ (B1.out) (fun hHeld => ?_)
   clear hK K
   refine norm_ (a' := ?_) ?_ ?_
   rotate_left
   ·show Act.put _ (some 14) _ = _
    simp only [Act.put, List.setIfInBounds_toArray, List.set_cons_zero, List.set_cons_succ, i64_w, i32_w]
    rfl
   refine pure_ (i := 6) (N := some 8) (v := ?_) (a' := ?_) (d8_Ann_lb 12 639) rfl rfl (any_of HT_.out (by kernel_rfl)) (fun _ _ _ h => h) (Or.inl ⟨by rfl, ?_⟩) ?_ ?_; rotate_left
   ·intro w'; go_simp; with_reducible rfl
   rotate_left
   ·simp only [Act.put, List.setIfInBounds_toArray, List.set_cons_zero, List.set_cons_succ, i64_w, i32_w]; rfl
   refine pure_ (i := 7) (N := some 15) (v := ?_) (a' := ?_) (d8_Ann_lb 12 767) rfl rfl (any_of HT_.out (by kernel_rfl)) (fun _ _ _ h => h) (Or.inl ⟨by rfl, ?_⟩) ?_ ?_; rotate_left
   ·intro w'; go_simp; with_reducible rfl
   rotate_left
   ·simp only [Act.put, List.setIfInBounds_toArray, List.set_cons_zero, List.set_cons_succ, i64_w, i32_w]; rfl
   refine pure_ (i := 8) (N := some 16) (v := ?_) (a' := ?_) (d8_Ann_lb 12 1023) rfl rfl (any_of HT_.out (by kernel_rfl)) (fun _ _ _ h => h) (Or.inl ⟨by rfl, ?_⟩) ?_ ?_; rotate_left
   ·intro w'; go_simp; with_reducible rfl
   rotate_left
   ·simp only [Act.put, List.setIfInBounds_toArray, List.set_cons_zero, List.set_cons_succ, i64_w, i32_w]; rfl
   exact norm_ (by simp only [putAll, Act.put, List.setIfInBounds_toArray, List.set_cons_zero, List.set_cons_succ]) (hCont (A1, C1, g3) _ ⟨HR, HT, HB, B1, B2, B3, HGB3⟩)
 clear HR HT HB B1 B2 hHeld
 rintro ⟨A1, C1, g3⟩ w6_ ⟨HR, HT, HB, B1, B2, B3, HGB3⟩
 have hHeld := (show w6_.heap[g1]? = some (.cells XB1 60 (0, 0)) from B1.out)
 refine norm_ (a' := ?_) ?_ ?_
 rotate_left
 ·simp only [putAll, Act.put, List.setIfInBounds_toArray, List.set_cons_zero, List.set_cons_succ]
  rfl
 refine last_ (i := 10) (N := none) (d8_Ann_lb 12 2047) rfl rfl (one_of HT_.out (by kernel_rfl)) (by decide) (fun K hK => ?_)
 refine wq_skip (ty := 60) (p := .tmp 6) (x := .tmp 15) (g := g3) (i := 0) (k := 17) (v := ?v69) (vs := ?vs69) (cs' := ?cs69) ?hw69 ?hN69 ?ho69 ?hp69 ?hx69 ?hvc69 ?hi69 ?hk69 ?h169 B3.out ?hsz69 ?hcs69 ?_
 case hi69 => kernel_rfl
 case hw69 => rfl
 case hN69 => rfl
 case ho69 => rfl
 case hp69 => rfl
 case hx69 => go_simp; with_reducible rfl
 case hvc69 => simp only [Value.cells]; with_reducible rfl
 case hk69 => rfl
 case h169 => rfl
 case hsz69 => exact Nat.le_of_ble_eq_true rfl
 case hcs69 => simp only [wqPut, List.setIfInBounds_toArray, List.set_cons_succ, List.set_cons_zero, Nat.reduceAdd]; with_reducible rfl
 intro w7_ hb hgr
 have n_HR := Aside0.mk (HR.out.grown B3.out (by decide) hgr)
 have n_HT := Aside0.mk (HT.out.grown hgr HGB3.out.2.2)
 have n_HB := Aside0.mk (HB.out.grown hgr HB.out.size (fun k hk => by cases hk; exact Nat.le_trans HB0.out HGB3.out.2.2))
 have n_B1 := Aside0.mk (wq_blk B1.out hgr HGB3.out.1)
 have n_B2 := Aside0.mk (wq_blk B2.out hgr HGB3.out.2.1)
 have n_B3 := Aside0.mk hb
 clear HR HT HB B1 B2 B3 hb hgr
 have HR := n_HR
 have HT := n_HT
 have HB := n_HB
 have B1 := n_B1
 have B2 := n_B2
 have B3 := n_B3
 clear n_HR n_HT n_HB n_B1 n_B2 n_B3
 refine hK.out _ _ ?_
 clear hK K
 refine pure_ (i := 11) (N := some 7) (v := ?_) (a' := ?_) (d8_Ann_lb 12 4095) rfl rfl (any_of HT_.out (by kernel_rfl)) (fun _ _ _ h => h) (Or.inl ⟨by rfl, ?_⟩) ?_ ?_; rotate_left
 ·intro w'; go_simp; with_reducible rfl
 rotate_left
 ·simp only [Act.put, List.setIfInBounds_toArray, List.set_cons_zero, List.set_cons_succ, i64_w, i32_w]; rfl
 refine done_ (done_of HT_.out (by kernel_rfl)) ?_
 have hX := HXB1.out
 subst hX
 clear HXB1
 go_wp2_with (first | ((with_reducible refine gate_dst (N := 17) rfl ?_); refine wq_loadA (ty := 60) (p := .tmp 6) (g := g3) (i := 0) (k := 17) (vs := ?vs80) ?hgd80 ?ho80 ?hp80 Try.underlying60 ?hd80 ?hi80 B3.out ?hv80 ?hk80 ?_; (case hd80 => rfl); (case hi80 => kernel_rfl); (case hgd80 => rfl); (case ho80 => rfl); (case hp80 => rfl); (case hv80 => simp only [List.drop_succ_cons, List.drop_zero, List.take_succ_cons, List.take_zero, List.take_nil, List.drop_nil]; with_reducible rfl); (case hk80 => rfl)) | ((with_reducible refine gate_store (p := 4) rfl ?_); refine wq_store (ty := 60) (p := .tmp 4) (x := .tmp 17) (g := g2) (i := 0) (k := 17) (v := ?v81) (vs := ?vs81) (cs' := ?cs81) ?hgd81 ?hdst81 ?ho81 ?hp81 ?hx81 ?hvc81 ?hi81 ?hk81 ?h181 B2.out ?hsz81 ?hcs81 ?_; (case hi81 => kernel_rfl); (case hgd81 => rfl); (case hdst81 => rfl); (case ho81 => rfl); (case hp81 => rfl); (case hx81 => go_simp; with_reducible rfl); (case hvc81 => simp only [Value.cells]; with_reducible rfl); (case hk81 => rfl); (case h181 => rfl); (case hsz81 => exact Nat.le_of_ble_eq_true rfl); (case hcs81 => simp only [wqPut, List.setIfInBounds_toArray, List.set_cons_succ, List.set_cons_zero, Nat.reduceAdd]; with_reducible rfl); intro w4_ hb hgr; have n_HR := Aside0.mk (HR.out.grown B2.out (by decide) hgr); have n_HT := Aside0.mk (HT.out.grown hgr HGB2.out.2); have n_HB := Aside0.mk (HB.out.grown hgr HB.out.size (fun k hk => by cases hk; exact Nat.le_trans HB0.out HGB2.out.2)); have n_B1 := Aside0.mk (wq_blk B1.out hgr HGB2.out.1); have n_B2 := Aside0.mk hb; have n_B3 := Aside0.mk (wq_blk B3.out hgr (Ne.symm HGB3.out.2.1)); clear HR HT HB B1 B2 B3 hb hgr; have HR := n_HR; have HT := n_HT; have HB := n_HB; have B1 := n_B1; have B2 := n_B2; have B3 := n_B3; clear n_HR n_HT n_HB n_B1 n_B2 n_B3))
 refine bodyPost_ret (res_ct rfl _ _ _ _ _ _ _ rfl B2.out Try.underlying60 rfl (by kernel_rfl)) rfl ?_
 exact ⟨A1, C1, rfl, HR.out, HT.out, HB.out⟩


end Go.Proofs.Ytpcmoclohepdiag.PWorldActs
