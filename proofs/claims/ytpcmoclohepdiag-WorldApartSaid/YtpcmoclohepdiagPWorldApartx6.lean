-- Written by a program of this session: a variant of the print that takes proofs by hand (wip/tools/mkprint.py)
import Derived.Test.YtpcmoclohepdiagPWorldApartx0
import Derived.Test.YtpcmoclohepdiagPWorldApartx3
import Derived.Test.YtpcmoclohepdiagPWorldApartx4
import Derived.Test.YtpcmoclohepdiagPWorldApartx5
namespace Go.Proofs.Ytpcmoclohepdiag.PWorldApart
open Go.RowKit Go.Proofs.YtpcmoclohepdiagW.PrintWords Go.Proofs.YtpcmoclohepdiagW.PrintLast Go.Proofs.YtpcmoclohepdiagW.PrintMore
attribute [local go_sem] max2_int min2_int max_two min_two max_three min_three max_four min_four   -- for this text's walks alone
set_option linter.unusedVariables false
set_option linter.unusedSimpArgs false

/-! ### corrielaw08_WorldApart: function 4 (by hand) -/
theorem wl_zero (n : Nat) (at_ : Int) : cRd (List.replicate n 0) at_ = 0 := by
  unfold cRd
  split
  · simp only [List.getD, List.getElem?_replicate]
    split <;> rfl
  · rfl
theorem cPut_len (ws : List Int) (x y : Int) : (cPutW ws x y).length = ws.length := by
  unfold cPutW
  split <;> simp
theorem cRd_put (ws : List Int) (x y j : Int) (h : 0 ≤ x ∧ x < (ws.length : Int)) : cRd (cPutW ws x y) j = if j = x then y else cRd ws j := by
  have e : cPutW ws x y = ws.set x.toNat y := by unfold cPutW cInb; rw [if_pos (decide_eq_true h)]
  rw [e]
  unfold cRd cInb
  rw [List.length_set]
  by_cases hj : 0 ≤ j ∧ j < (ws.length : Int)
  · rw [if_pos (decide_eq_true hj), if_pos (decide_eq_true hj)]
    by_cases hx : j = x
    · rw [if_pos hx, hx, List.getD_eq_getElem?_getD, List.getElem?_set_self (by omega)]
      rfl
    · rw [if_neg hx, List.getD_eq_getElem?_getD, List.getElem?_set_ne (by omega), List.getD_eq_getElem?_getD]
  · have hf : decide (0 ≤ j ∧ j < (ws.length : Int)) = false := decide_eq_false hj
    rw [hf]
    by_cases hx : j = x
    · exact absurd (hx ▸ h) hj
    · rw [if_neg hx]
      rfl
theorem cSw_put (ws : List Int) (x old y : Int) (h : 0 ≤ x ∧ x < (ws.length : Int)) (h0 : cRd ws x = old) : cSwW ws x old y = cPutW ws x y := by
  have e : cInb ws x = true := decide_eq_true h
  unfold cSwW cSwB cPutW
  rw [e, h0]
  simp
theorem cst_inW (ws : List Int) (x st : Int) (h : 0 ≤ x ∧ x < (ws.length : Int)) : cSt ws st x = wrap64 (st + 1) := by
  have e : cInb ws x = true := decide_eq_true h
  unfold cSt
  rw [if_pos e]
def wap_lb (n m : Nat) : Array Bool := ((List.range n).map (fun i => m.testBit i)).toArray
def wap.T7 : Bool × List (List Nat × List Nat) := (true, [([], []), ([0], [0]), ([1], [1]), ([], []), ([3], [3]), ([2, 4], [2, 4]), ([5, 4, 0, 1, 2, 3, 4, 5], [5])])
def wap.B7 : List Nat := [0, 1, 3, 0, 8, 31, 63]
theorem wap.tab7 : rtab .any (opsOf Try.f4 7) = wap.T7 := by kernel_rfl
theorem wap.bits7 : waitsOk wap.T7.2 wap.B7 = true := by kernel_rfl
def wap.T8 : Bool × List (List Nat × List Nat) := (true, [([], []), ([0], [0]), ([1], [1]), ([], []), ([3], [3]), ([2, 4], [2, 4]), ([5, 4, 0, 1, 2, 3, 4, 5], [5])])
def wap.B8 : List Nat := [0, 1, 3, 0, 8, 31, 63]
theorem wap.tab8 : rtab .any (opsOf Try.f4 8) = wap.T8 := by kernel_rfl
theorem wap.bits8 : waitsOk wap.T8.2 wap.B8 = true := by kernel_rfl
def wap.T28 : Bool × List (List Nat × List Nat) := (true, [([], []), ([0], [0]), ([1], [1]), ([1], [1]), ([2, 3, 1, 1], [1, 2, 3]), ([1], [1]), ([5, 1], [1, 5]), ([4, 6, 1], [1, 4, 6]), ([1, 7], [1, 7]), ([8, 4], [8]), ([9], [9]), ([9], [9]), ([10, 11, 9, 9], [9, 10, 11]), ([9], [9]), ([13, 9], [9, 13]), ([12, 14, 9], [9, 12, 14]), ([9, 15], [9, 15]), ([16, 12], [16]), ([17], [17]), ([17], [17]), ([18, 19, 17, 17], [17, 18, 19]), ([17], [17]), ([21, 17], [17, 21]), ([22, 17], [17, 22]), ([20, 23, 17], [17, 20, 23]), ([17, 24], [17, 24]), ([25, 20, 0, 1, 2, 3, 4, 5, 6, 7, 8, 9, 10, 11, 12, 13, 14, 15, 16, 17, 18, 19, 20, 21, 22, 23, 24, 25], [25])])
def wap.B28 : List Nat := [0, 1, 3, 3, 15, 3, 35, 127, 255, 511, 1023, 1023, 4095, 1023, 9215, 32767, 65535, 131071, 262143, 262143, 1048575, 262143, 2359295, 6553599, 16777215, 33554431, 67108863]
theorem wap.tab28 : rtab .any (opsOf Try.f4 28) = wap.T28 := by kernel_rfl
theorem wap.bits28 : waitsOk wap.T28.2 wap.B28 = true := by kernel_rfl
def corrielaw08_WorldApart.f (a0_0 a0_1 a0_2 a0_3 a0_4 : Int) (a1_0 a1_1 a1_2 a1_3 : Int) (a2_0 a2_1 : Int) : Option Bool := if 0 ≤ a1_0 ∧ 0 ≤ a1_1 ∧ 0 ≤ a1_2 ∧ 0 ≤ a1_3 ∧ a1_0 ≤ 255 ∧ a1_1 ≤ 255 ∧ a1_2 ≤ 255 ∧ a1_3 ≤ 255 then some true else none
set_option maxHeartbeats 8000000 in
set_option maxRecDepth 100000 in
theorem corrielaw08_WorldApart.calls (a0_0 a0_1 a0_2 a0_3 a0_4 : Int) (a1_0 a1_1 a1_2 a1_3 : Int) (a2_0 a2_1 : Int) (r : Bool) (w : World) (h : corrielaw08_WorldApart.f a0_0 a0_1 a0_2 a0_3 a0_4 a1_0 a1_1 a1_2 a1_3 a2_0 a2_1 = some r) :
    Calls Try.prog 4 #[.agg #[.int .i64 a0_0, .int .i64 a0_1, .int .i64 a0_2, .int .i64 a0_3, .int .i64 a0_4], .agg #[.int .u8 a1_0, .int .u8 a1_1, .int .u8 a1_2, .int .u8 a1_3], .agg #[.int .u64 a2_0, .int .u64 a2_1]] w fun e w' => e = .returned (.bool r) ∧ Below w.heap.size w w' := by
  have HB := Aside0.mk (Below.refl w.heap.size w)
  unfold corrielaw08_WorldApart.f at h
  by_cases hwf : 0 ≤ a1_0 ∧ 0 ≤ a1_1 ∧ 0 ≤ a1_2 ∧ 0 ≤ a1_3 ∧ a1_0 ≤ 255 ∧ a1_1 ≤ 255 ∧ a1_2 ≤ 255 ∧ a1_3 ≤ 255
  rotate_left
  · rw [if_neg hwf] at h
    cases h
  rw [if_pos hwf] at h
  obtain rfl := Option.some.inj h
  clear h
  by_cases hF : FewP a0_0 a0_1 a0_2 a0_3 a0_4
  rotate_left
  · have HF := Aside0.mk (show ∀ W : World, Calls Try.prog 9 #[.agg #[.int .i64 a0_0, .int .i64 a0_1, .int .i64 a0_2, .int .i64 a0_3, .int .i64 a0_4]] W (fun e w' => e = .returned (.bool false) ∧ Below W.heap.size W w') from fun W => few_calls a0_0 a0_1 a0_2 a0_3 a0_4 false (decide_eq_false hF) W)
    clear hF hwf
    go_enter Try.func4, Try.ntmps4
    go_wp2_with (first | ((with_reducible refine gate_dst (N := 3) rfl ?_); refine box_event ?hg (N := 3) ?hd (cs := #[.int .i64 a0_0, .int .i64 a0_1, .int .i64 a0_2, .int .i64 a0_3, .int .i64 a0_4]) (t := 23) ?hr ?_; (case hd => rfl); (case hg => rfl); (case hr => first | (go_simp; done) | (go_simp; rfl)); intro g3 hg w1 hbox hbk; have B3 := Aside0.mk hbox; have HGB3 := Aside0.mk (show w.heap.size ≤ g3 from by rw [hg]; exact HB.out.size); have n_HB := Aside0.mk (below_step HB.out hbk); clear HB; have HB := n_HB; clear n_HB; clear hbk hbox hg) | ((with_reducible refine gate_dst (N := 4) rfl ?_); refine box_event ?hg (N := 4) ?hd (cs := #[.int .u8 a1_0, .int .u8 a1_1, .int .u8 a1_2, .int .u8 a1_3]) (t := 43) ?hr ?_; (case hd => rfl); (case hg => rfl); (case hr => first | (go_simp; done) | (go_simp; rfl)); intro g4 hg w2 hbox hbk; have B4 := Aside0.mk hbox; have HGB4 := Aside0.mk (show w.heap.size ≤ g4 from by rw [hg]; exact HB.out.size); have n_B3 := Aside0.mk (blk_below B3.out hbk); have n_HB := Aside0.mk (below_step HB.out hbk); clear B3 HB; have B3 := n_B3; have HB := n_HB; clear n_B3 n_HB; clear hbk hbox hg) | ((with_reducible refine gate_dst (N := 5) rfl ?_); refine box_event ?hg (N := 5) ?hd (cs := #[.int .u64 a2_0, .int .u64 a2_1]) (t := 44) ?hr ?_; (case hd => rfl); (case hg => rfl); (case hr => first | (go_simp; done) | (go_simp; rfl)); intro g5 hg w2b hbox hbk; have B5 := Aside0.mk hbox; have HGB5 := Aside0.mk (show w.heap.size ≤ g5 from by rw [hg]; exact HB.out.size); have n_B3 := Aside0.mk (blk_below B3.out hbk); have n_B4 := Aside0.mk (blk_below B4.out hbk); have n_HB := Aside0.mk (below_step HB.out hbk); clear B3 B4 HB; have B3 := n_B3; have B4 := n_B4; have HB := n_HB; clear n_B3 n_B4 n_HB; clear hbk hbox hg) | (go_at_call 8; (with_reducible refine (corrielaw08_awake.calls true _ rfl).mono ?_); rintro e w0 ⟨rfl, hbk⟩; have n_B3 := Aside0.mk (blk_below B3.out hbk); have n_B4 := Aside0.mk (blk_below B4.out hbk); have n_B5 := Aside0.mk (blk_below B5.out hbk); have n_HB := Aside0.mk (below_step HB.out hbk); clear B3 B4 B5 HB; have B3 := n_B3; have B4 := n_B4; have B5 := n_B5; have HB := n_HB; clear n_B3 n_B4 n_B5 n_HB; have c3_0 : w0.cell? ⟨g3, 0, none⟩ = some (.int .i64 a0_0) := (blk_cell B3.out 0).trans rfl; have c3_1 : w0.cell? ⟨g3, 1, none⟩ = some (.int .i64 a0_1) := (blk_cell B3.out 1).trans rfl; have c3_2 : w0.cell? ⟨g3, 2, none⟩ = some (.int .i64 a0_2) := (blk_cell B3.out 2).trans rfl; have c3_3 : w0.cell? ⟨g3, 3, none⟩ = some (.int .i64 a0_3) := (blk_cell B3.out 3).trans rfl; have c3_4 : w0.cell? ⟨g3, 4, none⟩ = some (.int .i64 a0_4) := (blk_cell B3.out 4).trans rfl; have c4_0 : w0.cell? ⟨g4, 0, none⟩ = some (.int .u8 a1_0) := (blk_cell B4.out 0).trans rfl; have c4_1 : w0.cell? ⟨g4, 1, none⟩ = some (.int .u8 a1_1) := (blk_cell B4.out 1).trans rfl; have c4_2 : w0.cell? ⟨g4, 2, none⟩ = some (.int .u8 a1_2) := (blk_cell B4.out 2).trans rfl; have c4_3 : w0.cell? ⟨g4, 3, none⟩ = some (.int .u8 a1_3) := (blk_cell B4.out 3).trans rfl; have c5_0 : w0.cell? ⟨g5, 0, none⟩ = some (.int .u64 a2_0) := (blk_cell B5.out 0).trans rfl; have c5_1 : w0.cell? ⟨g5, 1, none⟩ = some (.int .u64 a2_1) := (blk_cell B5.out 1).trans rfl; clear hbk) | (go_at_call 9; (with_reducible refine (HF.out _).mono ?_); rintro e wf ⟨rfl, hbk⟩; clear c3_0 c3_1 c3_2 c3_3 c3_4; clear c4_0 c4_1 c4_2 c4_3; clear c5_0 c5_1; have n_B3 := Aside0.mk (blk_below B3.out hbk); have n_B4 := Aside0.mk (blk_below B4.out hbk); have n_B5 := Aside0.mk (blk_below B5.out hbk); have n_HB := Aside0.mk (below_step HB.out hbk); clear B3 B4 B5 HB; have B3 := n_B3; have B4 := n_B4; have B5 := n_B5; have HB := n_HB; clear n_B3 n_B4 n_B5 n_HB; have c3_0 : wf.cell? ⟨g3, 0, none⟩ = some (.int .i64 a0_0) := (blk_cell B3.out 0).trans rfl; have c3_1 : wf.cell? ⟨g3, 1, none⟩ = some (.int .i64 a0_1) := (blk_cell B3.out 1).trans rfl; have c3_2 : wf.cell? ⟨g3, 2, none⟩ = some (.int .i64 a0_2) := (blk_cell B3.out 2).trans rfl; have c3_3 : wf.cell? ⟨g3, 3, none⟩ = some (.int .i64 a0_3) := (blk_cell B3.out 3).trans rfl; have c3_4 : wf.cell? ⟨g3, 4, none⟩ = some (.int .i64 a0_4) := (blk_cell B3.out 4).trans rfl; have c4_0 : wf.cell? ⟨g4, 0, none⟩ = some (.int .u8 a1_0) := (blk_cell B4.out 0).trans rfl; have c4_1 : wf.cell? ⟨g4, 1, none⟩ = some (.int .u8 a1_1) := (blk_cell B4.out 1).trans rfl; have c4_2 : wf.cell? ⟨g4, 2, none⟩ = some (.int .u8 a1_2) := (blk_cell B4.out 2).trans rfl; have c4_3 : wf.cell? ⟨g4, 3, none⟩ = some (.int .u8 a1_3) := (blk_cell B4.out 3).trans rfl; have c5_0 : wf.cell? ⟨g5, 0, none⟩ = some (.int .u64 a2_0) := (blk_cell B5.out 0).trans rfl; have c5_1 : wf.cell? ⟨g5, 1, none⟩ = some (.int .u64 a2_1) := (blk_cell B5.out 1).trans rfl; clear hbk))
    go_ret
    exact ⟨by first | rfl | (simp [*]; done), HB.out⟩
  have HF := Aside0.mk (show ∀ W : World, Calls Try.prog 9 #[.agg #[.int .i64 a0_0, .int .i64 a0_1, .int .i64 a0_2, .int .i64 a0_3, .int .i64 a0_4]] W (fun e w' => e = .returned (.bool true) ∧ Below W.heap.size W w') from fun W => few_calls a0_0 a0_1 a0_2 a0_3 a0_4 true (decide_eq_true hF) W)
  have hO := hF.1
  clear hF
  have hbn := bnds hO
  obtain ⟨m, hm⟩ : ∃ m, cNew (1 + a0_1 + 2 * (a0_0 * a0_4) + a0_0 * a0_4 + a0_0) = m := ⟨_, rfl⟩
  have hml : (m : Int) = (1 + a0_1 + 2 * (a0_0 * a0_4) + a0_0 * a0_4 + a0_0) := by rw [← hm]; exact cNew_len (by omega) (by omega)
  have HN0 := Aside0.mk (show ∀ W : World, Calls Try.prog 10 #[.agg #[.int .i64 a0_0, .int .i64 a0_1, .int .i64 a0_2, .int .i64 a0_3, .int .i64 a0_4]] W (fun e w' => ∃ (pw gc gw : Nat) (bk : Value), e = .returned (.tuple #[.pointer (some ⟨pw, 0, none⟩), .int .i64 0]) ∧ WAt w' pw gc gw bk ⟨a0_0, a0_1, a0_2, a0_3, a0_4⟩ (List.replicate m 0) 0 ∧ (W.heap.size ≤ pw ∧ W.heap.size ≤ gc ∧ W.heap.size ≤ gw) ∧ Below W.heap.size W w') from fun W => (wl_New_ok ⟨a0_0, a0_1, a0_2, a0_3, a0_4⟩ hO (1 + a0_1 + 2 * (a0_0 * a0_4) + a0_0 * a0_4 + a0_0) (fun W => layout_Len.calls 8 a0_0 a0_1 a0_2 a0_3 a0_4 (1 + a0_1 + 2 * (a0_0 * a0_4) + a0_0 * a0_4 + a0_0) W (by rw [len_eq 0, if_pos hO])) W).mono (fun e w' h => by
    obtain ⟨pw, gc, gw, p, gt, go, gn, e1, hA, _, _, _, hg, hb⟩ := h
    rw [hm] at hA
    exact ⟨pw, gc, gw, _, e1, hA, hg, hb⟩))
  have HNd := Aside0.mk (show ∀ W : World, Calls Try.prog 12 #[.agg #[.int .i64 a0_0, .int .i64 a0_1, .int .i64 a0_2, .int .i64 a0_3, .int .i64 a0_4]] W (fun e w' => e = .returned (.int .i64 (1 + a0_1 + 2 * (a0_0 * a0_4))) ∧ Below W.heap.size W w') from fun W => corrieref04_Nodes.calls 1 a0_0 a0_1 a0_2 a0_3 a0_4 _ W (by rw [rnodes_eq 0, if_pos hO]))
  have HOp := Aside0.mk (show ∀ W : World, Calls Try.prog 13 #[.agg #[.int .i64 a0_0, .int .i64 a0_1, .int .i64 a0_2, .int .i64 a0_3, .int .i64 a0_4]] W (fun e w' => e = .returned (.int .i64 (a0_0 * a0_4)) ∧ Below W.heap.size W w') from fun W => corrieref04_Ops.calls 1 a0_0 a0_1 a0_2 a0_3 a0_4 _ W (by rw [rops_eq 0, if_pos hO]))
  have hxn : 0 ≤ Int.tmod (wrap64 a1_0) (1 + a0_1 + 2 * (a0_0 * a0_4)) ∧ Int.tmod (wrap64 a1_0) (1 + a0_1 + 2 * (a0_0 * a0_4)) < (1 + a0_1 + 2 * (a0_0 * a0_4)) := by rw [show wrap64 a1_0 = a1_0 from by unfold wrap64; omega, Int.tmod_eq_emod_of_nonneg (by omega)]; exact ⟨Int.emod_nonneg _ (by omega), Int.emod_lt_of_pos _ (by omega)⟩
  obtain ⟨xn, exn⟩ : ∃ x, Int.tmod (wrap64 a1_0) (1 + a0_1 + 2 * (a0_0 * a0_4)) = x := ⟨_, rfl⟩
  have Exn := Aside0.mk exn
  rw [exn] at hxn
  clear exn
  have hxo : 0 ≤ Int.tmod (wrap64 a1_1) (a0_0 * a0_4) ∧ Int.tmod (wrap64 a1_1) (a0_0 * a0_4) < (a0_0 * a0_4) := by rw [show wrap64 a1_1 = a1_1 from by unfold wrap64; omega, Int.tmod_eq_emod_of_nonneg (by omega)]; exact ⟨Int.emod_nonneg _ (by omega), Int.emod_lt_of_pos _ (by omega)⟩
  obtain ⟨xo, exo⟩ : ∃ x, Int.tmod (wrap64 a1_1) (a0_0 * a0_4) = x := ⟨_, rfl⟩
  have Exo := Aside0.mk exo
  rw [exo] at hxo
  clear exo
  have hxt : 0 ≤ Int.tmod (wrap64 a1_2) a0_0 ∧ Int.tmod (wrap64 a1_2) a0_0 < a0_0 := by rw [show wrap64 a1_2 = a1_2 from by unfold wrap64; omega, Int.tmod_eq_emod_of_nonneg (by omega)]; exact ⟨Int.emod_nonneg _ (by omega), Int.emod_lt_of_pos _ (by omega)⟩
  obtain ⟨xt, ext⟩ : ∃ x, Int.tmod (wrap64 a1_2) a0_0 = x := ⟨_, rfl⟩
  have Ext := Aside0.mk ext
  rw [ext] at hxt
  clear ext
  obtain ⟨ws1, hw1⟩ : ∃ l, cPutW (List.replicate m 0) xn a2_0 = l := ⟨_, rfl⟩
  obtain ⟨ws2, hw2⟩ : ∃ l, cSwW ws1 (1 + a0_1 + 2 * (a0_0 * a0_4) + xo) 0 a2_1 = l := ⟨_, rfl⟩
  obtain ⟨ws3, hw3⟩ : ∃ l, cPutW ws2 (1 + a0_1 + 2 * (a0_0 * a0_4) + a0_0 * a0_4 + xt) (IntKind.u64.wrap (wrap64 (wrap64 a1_3 - -1))) = l := ⟨_, rfl⟩
  have hl0 : ((List.replicate m (0 : Int)).length : Int) = m := by rw [List.length_replicate]
  have hl1 : (ws1.length : Int) = m := by rw [← hw1, cPut_len, hl0]
  have hr1 : ∀ j, cRd ws1 j = if j = xn then a2_0 else 0 := fun j => by rw [← hw1, cRd_put _ _ _ _ (by rw [hl0]; omega), wl_zero]
  have hw2b : cPutW ws1 (1 + a0_1 + 2 * (a0_0 * a0_4) + xo) a2_1 = ws2 := by rw [← hw2]; exact (cSw_put _ _ _ _ (by rw [hl1]; omega) (by rw [hr1, if_neg (by omega)])).symm
  have hl2 : (ws2.length : Int) = m := by rw [← hw2b, cPut_len, hl1]
  have hr2 : ∀ j, cRd ws2 j = if j = (1 + a0_1 + 2 * (a0_0 * a0_4) + xo) then a2_1 else if j = xn then a2_0 else 0 := fun j => by rw [← hw2b, cRd_put _ _ _ _ (by rw [hl1]; omega), hr1]
  have hl3 : (ws3.length : Int) = m := by rw [← hw3, cPut_len, hl2]
  have hr3 : ∀ j, cRd ws3 j = if j = (1 + a0_1 + 2 * (a0_0 * a0_4) + a0_0 * a0_4 + xt) then (IntKind.u64.wrap (wrap64 (wrap64 a1_3 - -1))) else if j = (1 + a0_1 + 2 * (a0_0 * a0_4) + xo) then a2_1 else if j = xn then a2_0 else 0 := fun j => by rw [← hw3, cRd_put _ _ _ _ (by rw [hl2]; omega), hr2]
  have hY : wrap64 (wrap64 (IntKind.u64.wrap (wrap64 (wrap64 a1_3 - -1))) + -1) = wrap64 a1_3 := by
    rw [show wrap64 a1_3 = a1_3 from by unfold wrap64; omega, show wrap64 (a1_3 - -1) = a1_3 + 1 from by unfold wrap64; omega, show IntKind.u64.wrap (a1_3 + 1) = a1_3 + 1 from by simp only [IntKind.wrap, IntKind.bits, IntKind.signed]; simp; omega]
    unfold wrap64
    omega
  have FS := Aside0.mk (show ∀ (W : World) (pw gc gw : Nat) (bk : Value), WAt W pw gc gw bk ⟨a0_0, a0_1, a0_2, a0_3, a0_4⟩ (List.replicate m 0) 0 → Calls Try.prog 15 #[.pointer (some ⟨pw, 0, none⟩), .int .i64 xn, .int .u64 a2_0] W (fun e w' => e = .returned (.tuple #[]) ∧ WAt w' pw gc gw bk ⟨a0_0, a0_1, a0_2, a0_3, a0_4⟩ ws1 1 ∧ Touch (fun k => k = gc ∨ k = gw) W w') from fun W pw gc gw bk h => by
    have h2 := wl_Set pw gc gw bk ⟨a0_0, a0_1, a0_2, a0_3, a0_4⟩ _ _ xn xn a2_0 W h (fun W => layout_Next.calls 8 a0_0 a0_1 a0_2 a0_3 a0_4 xn _ W (by rw [next_eq 0, if_pos ⟨hO, hxn.1, hxn.2⟩]))
    rw [hw1, cst_in (by omega) (by omega), show wrap64 (0 + 1) = 1 from by unfold wrap64; decide] at h2
    exact h2)
  have FT := Aside0.mk (show ∀ (W : World) (pw gc gw : Nat) (bk : Value), WAt W pw gc gw bk ⟨a0_0, a0_1, a0_2, a0_3, a0_4⟩ ws1 1 → Calls Try.prog 16 #[.pointer (some ⟨pw, 0, none⟩), .int .i64 xo, .int .u64 0, .int .u64 a2_1] W (fun e w' => ∃ bb : Bool, e = .returned (.bool bb) ∧ WAt w' pw gc gw bk ⟨a0_0, a0_1, a0_2, a0_3, a0_4⟩ ws2 2 ∧ Touch (fun k => k = gc ∨ k = gw) W w') from fun W pw gc gw bk h => by
    have h2 := wl_Turn pw gc gw bk ⟨a0_0, a0_1, a0_2, a0_3, a0_4⟩ _ _ xo (1 + a0_1 + 2 * (a0_0 * a0_4) + xo) 0 a2_1 W h (fun W => layout_Word.calls 8 a0_0 a0_1 a0_2 a0_3 a0_4 xo _ W (by rw [word_eq 0, if_pos ⟨hO, hxo.1, hxo.2⟩]))
    rw [hw2, cst_inW _ _ _ (by rw [hl1]; omega), show wrap64 (1 + 1) = 2 from by unfold wrap64; decide] at h2
    exact h2.mono (fun e w' h => ⟨_, h⟩))
  have FY := Aside0.mk (show ∀ (W : World) (pw gc gw : Nat) (bk : Value), WAt W pw gc gw bk ⟨a0_0, a0_1, a0_2, a0_3, a0_4⟩ ws2 2 → Calls Try.prog 17 #[.pointer (some ⟨pw, 0, none⟩), .int .i64 xt, .int .i64 (wrap64 a1_3)] W (fun e w' => e = .returned (.tuple #[]) ∧ WAt w' pw gc gw bk ⟨a0_0, a0_1, a0_2, a0_3, a0_4⟩ ws3 3 ∧ Touch (fun k => k = gc ∨ k = gw) W w') from fun W pw gc gw bk h => by
    have h2 := wl_Say pw gc gw bk ⟨a0_0, a0_1, a0_2, a0_3, a0_4⟩ _ _ xt (1 + a0_1 + 2 * (a0_0 * a0_4) + a0_0 * a0_4 + xt) (wrap64 a1_3) W h (fun W => layout_Ann.calls 8 a0_0 a0_1 a0_2 a0_3 a0_4 xt _ W (by rw [ann_eq 0, if_pos ⟨hO, hxt.1, hxt.2⟩]))
    rw [hw3, cst_inW _ _ _ (by rw [hl2]; omega), show wrap64 (2 + 1) = 3 from by unfold wrap64; decide] at h2
    exact h2)
  have FN1 := Aside0.mk (show ∀ (W : World) (pw gc gw : Nat) (bk : Value) (st i : Int), 0 ≤ i → i < (1 + a0_1 + 2 * (a0_0 * a0_4)) → i ≠ xn → WAt W pw gc gw bk ⟨a0_0, a0_1, a0_2, a0_3, a0_4⟩ ws3 st → Calls Try.prog 18 #[.pointer (some ⟨pw, 0, none⟩), .int .i64 i] W (fun e w' => ∃ st1 : Int, e = .returned (.int .u64 0) ∧ WAt w' pw gc gw bk ⟨a0_0, a0_1, a0_2, a0_3, a0_4⟩ ws3 st1 ∧ Touch (fun k => k = gc ∨ k = gw) W w') from fun W pw gc gw bk st i h0 h1 hc h => by
    have h2 := wl_Next pw gc gw bk ⟨a0_0, a0_1, a0_2, a0_3, a0_4⟩ _ _ i i W h (fun W => layout_Next.calls 8 a0_0 a0_1 a0_2 a0_3 a0_4 i _ W (by rw [next_eq 0, if_pos ⟨hO, h0, by omega⟩]))
    rw [hr3, if_neg (by omega), if_neg (by omega), if_neg (by omega)] at h2
    exact h2.mono (fun e w' h => ⟨_, h⟩))
  have FN2 := Aside0.mk (show ∀ (W : World) (pw gc gw : Nat) (bk : Value) (st i : Int), 0 ≤ i → i < (1 + a0_1 + 2 * (a0_0 * a0_4)) → i = xn → WAt W pw gc gw bk ⟨a0_0, a0_1, a0_2, a0_3, a0_4⟩ ws3 st → Calls Try.prog 18 #[.pointer (some ⟨pw, 0, none⟩), .int .i64 i] W (fun e w' => ∃ st1 : Int, e = .returned (.int .u64 a2_0) ∧ WAt w' pw gc gw bk ⟨a0_0, a0_1, a0_2, a0_3, a0_4⟩ ws3 st1 ∧ Touch (fun k => k = gc ∨ k = gw) W w') from fun W pw gc gw bk st i h0 h1 hc h => by
    have h2 := wl_Next pw gc gw bk ⟨a0_0, a0_1, a0_2, a0_3, a0_4⟩ _ _ i i W h (fun W => layout_Next.calls 8 a0_0 a0_1 a0_2 a0_3 a0_4 i _ W (by rw [next_eq 0, if_pos ⟨hO, h0, by omega⟩]))
    rw [hr3, if_neg (by omega), if_neg (by omega), if_pos (by omega)] at h2
    exact h2.mono (fun e w' h => ⟨_, h⟩))
  have FW1 := Aside0.mk (show ∀ (W : World) (pw gc gw : Nat) (bk : Value) (st i : Int), 0 ≤ i → i < (a0_0 * a0_4) → i ≠ xo → WAt W pw gc gw bk ⟨a0_0, a0_1, a0_2, a0_3, a0_4⟩ ws3 st → Calls Try.prog 19 #[.pointer (some ⟨pw, 0, none⟩), .int .i64 i] W (fun e w' => ∃ st1 : Int, e = .returned (.int .u64 0) ∧ WAt w' pw gc gw bk ⟨a0_0, a0_1, a0_2, a0_3, a0_4⟩ ws3 st1 ∧ Touch (fun k => k = gc ∨ k = gw) W w') from fun W pw gc gw bk st i h0 h1 hc h => by
    have h2 := wl_Word pw gc gw bk ⟨a0_0, a0_1, a0_2, a0_3, a0_4⟩ _ _ i (1 + a0_1 + 2 * (a0_0 * a0_4) + i) W h (fun W => layout_Word.calls 8 a0_0 a0_1 a0_2 a0_3 a0_4 i _ W (by rw [word_eq 0, if_pos ⟨hO, h0, by omega⟩]))
    rw [hr3, if_neg (by omega), if_neg (by omega), if_neg (by omega)] at h2
    exact h2.mono (fun e w' h => ⟨_, h⟩))
  have FW2 := Aside0.mk (show ∀ (W : World) (pw gc gw : Nat) (bk : Value) (st i : Int), 0 ≤ i → i < (a0_0 * a0_4) → i = xo → WAt W pw gc gw bk ⟨a0_0, a0_1, a0_2, a0_3, a0_4⟩ ws3 st → Calls Try.prog 19 #[.pointer (some ⟨pw, 0, none⟩), .int .i64 i] W (fun e w' => ∃ st1 : Int, e = .returned (.int .u64 a2_1) ∧ WAt w' pw gc gw bk ⟨a0_0, a0_1, a0_2, a0_3, a0_4⟩ ws3 st1 ∧ Touch (fun k => k = gc ∨ k = gw) W w') from fun W pw gc gw bk st i h0 h1 hc h => by
    have h2 := wl_Word pw gc gw bk ⟨a0_0, a0_1, a0_2, a0_3, a0_4⟩ _ _ i (1 + a0_1 + 2 * (a0_0 * a0_4) + i) W h (fun W => layout_Word.calls 8 a0_0 a0_1 a0_2 a0_3 a0_4 i _ W (by rw [word_eq 0, if_pos ⟨hO, h0, by omega⟩]))
    rw [hr3, if_neg (by omega), if_pos (by omega)] at h2
    exact h2.mono (fun e w' h => ⟨_, h⟩))
  have FA1 := Aside0.mk (show ∀ (W : World) (pw gc gw : Nat) (bk : Value) (st i : Int), 0 ≤ i → i < a0_0 → i ≠ xt → WAt W pw gc gw bk ⟨a0_0, a0_1, a0_2, a0_3, a0_4⟩ ws3 st → Calls Try.prog 20 #[.pointer (some ⟨pw, 0, none⟩), .int .i64 i] W (fun e w' => ∃ st1 : Int, e = .returned (.int .i64 (-1)) ∧ WAt w' pw gc gw bk ⟨a0_0, a0_1, a0_2, a0_3, a0_4⟩ ws3 st1 ∧ Touch (fun k => k = gc ∨ k = gw) W w') from fun W pw gc gw bk st i h0 h1 hc h => by
    have h2 := wl_Ann pw gc gw bk ⟨a0_0, a0_1, a0_2, a0_3, a0_4⟩ _ _ i (1 + a0_1 + 2 * (a0_0 * a0_4) + a0_0 * a0_4 + i) W h (fun W => layout_Ann.calls 8 a0_0 a0_1 a0_2 a0_3 a0_4 i _ W (by rw [ann_eq 0, if_pos ⟨hO, h0, by omega⟩]))
    rw [hr3, if_neg (by omega), if_neg (by omega), if_neg (by omega), show wrap64 (wrap64 0 + -1) = -1 from by unfold wrap64; decide] at h2
    exact h2.mono (fun e w' h => ⟨_, h⟩))
  have FA2 := Aside0.mk (show ∀ (W : World) (pw gc gw : Nat) (bk : Value) (st i : Int), 0 ≤ i → i < a0_0 → i = xt → WAt W pw gc gw bk ⟨a0_0, a0_1, a0_2, a0_3, a0_4⟩ ws3 st → Calls Try.prog 20 #[.pointer (some ⟨pw, 0, none⟩), .int .i64 i] W (fun e w' => ∃ st1 : Int, e = .returned (.int .i64 (wrap64 a1_3)) ∧ WAt w' pw gc gw bk ⟨a0_0, a0_1, a0_2, a0_3, a0_4⟩ ws3 st1 ∧ Touch (fun k => k = gc ∨ k = gw) W w') from fun W pw gc gw bk st i h0 h1 hc h => by
    have h2 := wl_Ann pw gc gw bk ⟨a0_0, a0_1, a0_2, a0_3, a0_4⟩ _ _ i (1 + a0_1 + 2 * (a0_0 * a0_4) + a0_0 * a0_4 + i) W h (fun W => layout_Ann.calls 8 a0_0 a0_1 a0_2 a0_3 a0_4 i _ W (by rw [ann_eq 0, if_pos ⟨hO, h0, by omega⟩]))
    rw [hr3, if_pos (by omega), hY] at h2
    exact h2.mono (fun e w' h => ⟨_, h⟩))
  have h00 : 1 ≤ a0_0 ∧ a0_0 ≤ 8 := ⟨hbn.1, hbn.2.1⟩
  have hNb : 1 ≤ (1 + a0_1 + 2 * (a0_0 * a0_4)) ∧ (1 + a0_1 + 2 * (a0_0 * a0_4)) ≤ 5000 := by omega
  have hOb : 1 ≤ (a0_0 * a0_4) ∧ (a0_0 * a0_4) ≤ 5000 := by omega
  clear hw1 hw2 hw3 hw2b hl0 hl1 hl2 hl3 hr1 hr2 hr3 hY hm hml hO hbn hwf
  obtain ⟨NN, hNN⟩ : ∃ y, (1 + a0_1 + 2 * (a0_0 * a0_4)) = y := ⟨_, rfl⟩
  obtain ⟨OO, hOO⟩ : ∃ y, (a0_0 * a0_4) = y := ⟨_, rfl⟩
  simp only [hNN] at HNd FN1 FN2 Exn hxn hNb
  simp only [hOO] at HOp FW1 FW2 Exo hxo hOb
  clear hNN hOO
  have zN : (NN == 0) = false := beq_eq_false_iff_ne.mpr (by omega)
  have zO : (OO == 0) = false := beq_eq_false_iff_ne.mpr (by omega)
  have zT : (a0_0 == 0) = false := beq_eq_false_iff_ne.mpr (by omega)
  have yN : ¬ NN = 0 := by omega
  have yO : ¬ OO = 0 := by omega
  have yT : ¬ a0_0 = 0 := by omega
  have HD := Aside0.mk (And.intro hxn (And.intro hxo hxt))
  have HNB := Aside0.mk (And.intro hNb (And.intro hOb h00))
  clear hxn hxo hxt hNb hOb h00
  go_enter Try.func4, Try.ntmps4
  go_upto_region 7 with (first | ((with_reducible refine gate_dst (N := 3) rfl ?_); refine box_event ?hg (N := 3) ?hd (cs := #[.int .i64 a0_0, .int .i64 a0_1, .int .i64 a0_2, .int .i64 a0_3, .int .i64 a0_4]) (t := 23) ?hr ?_; (case hd => rfl); (case hg => rfl); (case hr => first | (go_simp; done) | (go_simp; rfl)); intro g3 hg w1 hbox hbk; have B3 := Aside0.mk hbox; have HGB3 := Aside0.mk (show w.heap.size ≤ g3 from by rw [hg]; exact HB.out.size); have n_HB := Aside0.mk (below_step HB.out hbk); clear HB; have HB := n_HB; clear n_HB; clear hbk hbox hg) | ((with_reducible refine gate_dst (N := 4) rfl ?_); refine box_event ?hg (N := 4) ?hd (cs := #[.int .u8 a1_0, .int .u8 a1_1, .int .u8 a1_2, .int .u8 a1_3]) (t := 43) ?hr ?_; (case hd => rfl); (case hg => rfl); (case hr => first | (go_simp; done) | (go_simp; rfl)); intro g4 hg w2 hbox hbk; have B4 := Aside0.mk hbox; have HGB4 := Aside0.mk (show w.heap.size ≤ g4 from by rw [hg]; exact HB.out.size); have n_B3 := Aside0.mk (blk_below B3.out hbk); have n_HB := Aside0.mk (below_step HB.out hbk); clear B3 HB; have B3 := n_B3; have HB := n_HB; clear n_B3 n_HB; clear hbk hbox hg) | ((with_reducible refine gate_dst (N := 5) rfl ?_); refine box_event ?hg (N := 5) ?hd (cs := #[.int .u64 a2_0, .int .u64 a2_1]) (t := 44) ?hr ?_; (case hd => rfl); (case hg => rfl); (case hr => first | (go_simp; done) | (go_simp; rfl)); intro g5 hg w2b hbox hbk; have B5 := Aside0.mk hbox; have HGB5 := Aside0.mk (show w.heap.size ≤ g5 from by rw [hg]; exact HB.out.size); have n_B3 := Aside0.mk (blk_below B3.out hbk); have n_B4 := Aside0.mk (blk_below B4.out hbk); have n_HB := Aside0.mk (below_step HB.out hbk); clear B3 B4 HB; have B3 := n_B3; have B4 := n_B4; have HB := n_HB; clear n_B3 n_B4 n_HB; clear hbk hbox hg) | (go_at_call 8; (with_reducible refine (corrielaw08_awake.calls true _ rfl).mono ?_); rintro e w0 ⟨rfl, hbk⟩; have n_B3 := Aside0.mk (blk_below B3.out hbk); have n_B4 := Aside0.mk (blk_below B4.out hbk); have n_B5 := Aside0.mk (blk_below B5.out hbk); have n_HB := Aside0.mk (below_step HB.out hbk); clear B3 B4 B5 HB; have B3 := n_B3; have B4 := n_B4; have B5 := n_B5; have HB := n_HB; clear n_B3 n_B4 n_B5 n_HB; have c3_0 : w0.cell? ⟨g3, 0, none⟩ = some (.int .i64 a0_0) := (blk_cell B3.out 0).trans rfl; have c3_1 : w0.cell? ⟨g3, 1, none⟩ = some (.int .i64 a0_1) := (blk_cell B3.out 1).trans rfl; have c3_2 : w0.cell? ⟨g3, 2, none⟩ = some (.int .i64 a0_2) := (blk_cell B3.out 2).trans rfl; have c3_3 : w0.cell? ⟨g3, 3, none⟩ = some (.int .i64 a0_3) := (blk_cell B3.out 3).trans rfl; have c3_4 : w0.cell? ⟨g3, 4, none⟩ = some (.int .i64 a0_4) := (blk_cell B3.out 4).trans rfl; have c4_0 : w0.cell? ⟨g4, 0, none⟩ = some (.int .u8 a1_0) := (blk_cell B4.out 0).trans rfl; have c4_1 : w0.cell? ⟨g4, 1, none⟩ = some (.int .u8 a1_1) := (blk_cell B4.out 1).trans rfl; have c4_2 : w0.cell? ⟨g4, 2, none⟩ = some (.int .u8 a1_2) := (blk_cell B4.out 2).trans rfl; have c4_3 : w0.cell? ⟨g4, 3, none⟩ = some (.int .u8 a1_3) := (blk_cell B4.out 3).trans rfl; have c5_0 : w0.cell? ⟨g5, 0, none⟩ = some (.int .u64 a2_0) := (blk_cell B5.out 0).trans rfl; have c5_1 : w0.cell? ⟨g5, 1, none⟩ = some (.int .u64 a2_1) := (blk_cell B5.out 1).trans rfl; clear hbk) | (go_at_call 9; (with_reducible refine (HF.out _).mono ?_); rintro e wf ⟨rfl, hbk⟩; clear c3_0 c3_1 c3_2 c3_3 c3_4; clear c4_0 c4_1 c4_2 c4_3; clear c5_0 c5_1; have n_B3 := Aside0.mk (blk_below B3.out hbk); have n_B4 := Aside0.mk (blk_below B4.out hbk); have n_B5 := Aside0.mk (blk_below B5.out hbk); have n_HB := Aside0.mk (below_step HB.out hbk); clear B3 B4 B5 HB; have B3 := n_B3; have B4 := n_B4; have B5 := n_B5; have HB := n_HB; clear n_B3 n_B4 n_B5 n_HB; have c3_0 : wf.cell? ⟨g3, 0, none⟩ = some (.int .i64 a0_0) := (blk_cell B3.out 0).trans rfl; have c3_1 : wf.cell? ⟨g3, 1, none⟩ = some (.int .i64 a0_1) := (blk_cell B3.out 1).trans rfl; have c3_2 : wf.cell? ⟨g3, 2, none⟩ = some (.int .i64 a0_2) := (blk_cell B3.out 2).trans rfl; have c3_3 : wf.cell? ⟨g3, 3, none⟩ = some (.int .i64 a0_3) := (blk_cell B3.out 3).trans rfl; have c3_4 : wf.cell? ⟨g3, 4, none⟩ = some (.int .i64 a0_4) := (blk_cell B3.out 4).trans rfl; have c4_0 : wf.cell? ⟨g4, 0, none⟩ = some (.int .u8 a1_0) := (blk_cell B4.out 0).trans rfl; have c4_1 : wf.cell? ⟨g4, 1, none⟩ = some (.int .u8 a1_1) := (blk_cell B4.out 1).trans rfl; have c4_2 : wf.cell? ⟨g4, 2, none⟩ = some (.int .u8 a1_2) := (blk_cell B4.out 2).trans rfl; have c4_3 : wf.cell? ⟨g4, 3, none⟩ = some (.int .u8 a1_3) := (blk_cell B4.out 3).trans rfl; have c5_0 : wf.cell? ⟨g5, 0, none⟩ = some (.int .u64 a2_0) := (blk_cell B5.out 0).trans rfl; have c5_1 : wf.cell? ⟨g5, 1, none⟩ = some (.int .u64 a2_1) := (blk_cell B5.out 1).trans rfl; clear hbk) | (go_at_call 10; (with_reducible refine (HN0.out _).mono ?_); rintro e w3 ⟨pw, gc, gw, bk, rfl, hA, hg, hbk⟩; have HA := Aside0.mk hA; have HGN := Aside0.mk (show (w.heap.size ≤ gc ∧ w.heap.size ≤ gw) ∧ (g3 ≠ gc ∧ g3 ≠ gw) ∧ (g4 ≠ gc ∧ g4 ≠ gw) ∧ (g5 ≠ gc ∧ g5 ≠ gw) from by have := HB.out.size; have := blk_lt B3.out; have := blk_lt B4.out; have := blk_lt B5.out; omega); clear c3_0 c3_1 c3_2 c3_3 c3_4; clear c4_0 c4_1 c4_2 c4_3; clear c5_0 c5_1; have n_B3 := Aside0.mk (blk_below B3.out hbk); have n_B4 := Aside0.mk (blk_below B4.out hbk); have n_B5 := Aside0.mk (blk_below B5.out hbk); have n_HB := Aside0.mk (below_step HB.out hbk); clear B3 B4 B5 HB; have B3 := n_B3; have B4 := n_B4; have B5 := n_B5; have HB := n_HB; clear n_B3 n_B4 n_B5 n_HB; have c3_0 : w3.cell? ⟨g3, 0, none⟩ = some (.int .i64 a0_0) := (blk_cell B3.out 0).trans rfl; have c3_1 : w3.cell? ⟨g3, 1, none⟩ = some (.int .i64 a0_1) := (blk_cell B3.out 1).trans rfl; have c3_2 : w3.cell? ⟨g3, 2, none⟩ = some (.int .i64 a0_2) := (blk_cell B3.out 2).trans rfl; have c3_3 : w3.cell? ⟨g3, 3, none⟩ = some (.int .i64 a0_3) := (blk_cell B3.out 3).trans rfl; have c3_4 : w3.cell? ⟨g3, 4, none⟩ = some (.int .i64 a0_4) := (blk_cell B3.out 4).trans rfl; have c4_0 : w3.cell? ⟨g4, 0, none⟩ = some (.int .u8 a1_0) := (blk_cell B4.out 0).trans rfl; have c4_1 : w3.cell? ⟨g4, 1, none⟩ = some (.int .u8 a1_1) := (blk_cell B4.out 1).trans rfl; have c4_2 : w3.cell? ⟨g4, 2, none⟩ = some (.int .u8 a1_2) := (blk_cell B4.out 2).trans rfl; have c4_3 : w3.cell? ⟨g4, 3, none⟩ = some (.int .u8 a1_3) := (blk_cell B4.out 3).trans rfl; have c5_0 : w3.cell? ⟨g5, 0, none⟩ = some (.int .u64 a2_0) := (blk_cell B5.out 0).trans rfl; have c5_1 : w3.cell? ⟨g5, 1, none⟩ = some (.int .u64 a2_1) := (blk_cell B5.out 1).trans rfl; clear hbk hA hg))
  clear c3_0 c3_1 c3_2 c3_3 c3_4 c4_0 c4_1 c4_2 c4_3 c5_0 c5_1
  have n_HA := Aside0.mk (HA.out.drew)
  have n_B3 := Aside0.mk (blk_drew B3.out)
  have n_B4 := Aside0.mk (blk_drew B4.out)
  have n_B5 := Aside0.mk (blk_drew B5.out)
  have n_HB := Aside0.mk (below_drew1 HB.out)
  clear HA B3 B4 B5 HB
  have HA := n_HA
  have B3 := n_B3
  have B4 := n_B4
  have B5 := n_B5
  have HB := n_HB
  clear n_HA n_B3 n_B4 n_B5 n_HB
  refine start_ (n := 7) (S := fun w' => w'.cell? ⟨g4, 0, none⟩ = some (.int .u8 a1_0) ∧ w'.cell? ⟨g4, 1, none⟩ = some (.int .u8 a1_1) ∧ w'.cell? ⟨g4, 2, none⟩ = some (.int .u8 a1_2) ∧ w'.cell? ⟨g4, 3, none⟩ = some (.int .u8 a1_3) ∧ w'.cell? ⟨g3, 0, none⟩ = some (.int .i64 a0_0) ∧ w'.cell? ⟨g3, 1, none⟩ = some (.int .i64 a0_1) ∧ w'.cell? ⟨g3, 2, none⟩ = some (.int .i64 a0_2) ∧ w'.cell? ⟨g3, 3, none⟩ = some (.int .i64 a0_3) ∧ w'.cell? ⟨g3, 4, none⟩ = some (.int .i64 a0_4)) (ds := []) #[false, false, false, false, false, false, false] (by kernel_rfl) rfl rfl ⟨((blk_cell B4.out 0).trans rfl), ((blk_cell B4.out 1).trans rfl), ((blk_cell B4.out 2).trans rfl), ((blk_cell B4.out 3).trans rfl), ((blk_cell B3.out 0).trans rfl), ((blk_cell B3.out 1).trans rfl), ((blk_cell B3.out 2).trans rfl), ((blk_cell B3.out 3).trans rfl), ((blk_cell B3.out 4).trans rfl)⟩ (fun hHeld => ?_); refine with_tabW wap.tab7 wap.bits7 (fun HT_ HW_ => ?_)
  generalize w3.drew = W1 at HA B3 B4 B5 HB hHeld ⊢
  refine pure_ (i := 0) (N := some 28) (v := ?_) (a' := ?_) (wap_lb 7 1) rfl rfl (any_of HT_.out (by kernel_rfl)) (fun _ _ _ h => h) (Or.inl ⟨by rfl, ?_⟩) ?_ ?_; rotate_left
  · intro w'; go_simp; with_reducible rfl
  rotate_left
  · simp only [Act.put, List.setIfInBounds_toArray, List.set_cons_zero, List.set_cons_succ, i64_w, i32_w]; rfl
  refine take_ (i := 1) (N := some 29) (v := ?_) (a' := ?_) (wap_lb 7 3) rfl rfl (take_ofW HT_.out HW_.out (by kernel_rfl)) (fun _ _ _ h => h) (Or.inl ⟨by rfl, ?_⟩) hHeld ?_ ?_; rotate_left
  · rintro w' ⟨s0, s1, s2, s3, s4, s5, s6, s7, s8⟩; go_simp; with_reducible rfl
  rotate_left
  · simp only [Act.put, List.setIfInBounds_toArray, List.set_cons_zero, List.set_cons_succ, i64_w, i32_w]; rfl
  refine pure_ (i := 2) (N := some 30) (v := ?_) (a' := ?_) (wap_lb 7 7) rfl rfl (any_of HT_.out (by kernel_rfl)) (fun _ _ _ h => h) (Or.inl ⟨by rfl, ?_⟩) ?_ ?_; rotate_left
  · intro w'; go_simp; with_reducible rfl
  rotate_left
  · simp only [Act.put, List.setIfInBounds_toArray, List.set_cons_zero, List.set_cons_succ, i64_w, i32_w]; rfl
  refine take_ (i := 3) (N := some 31) (v := ?_) (a' := ?_) (wap_lb 7 15) rfl rfl (take_ofW HT_.out HW_.out (by kernel_rfl)) (fun _ _ _ h => h) (Or.inl ⟨by rfl, ?_⟩) hHeld ?_ ?_; rotate_left
  · rintro w' ⟨s0, s1, s2, s3, s4, s5, s6, s7, s8⟩; go_simp; with_reducible rfl
  rotate_left
  · simp only [Act.put, List.setIfInBounds_toArray, List.set_cons_zero, List.set_cons_succ, i64_w, i32_w]; rfl
  refine one_ (i := 4) (N := some 32) (wap_lb 7 31) rfl rfl (one_of HT_.out (by kernel_rfl)) (by decide) (fun K hK => ?_)
  refine goes_ Try.func12 (by kernel_rfl) rfl #[.agg #[.int .i64 a0_0, .int .i64 a0_1, .int .i64 a0_2, .int .i64 a0_3, .int .i64 a0_4]] (by rfl) rfl rfl (by (try simp only [List.map_toArray, List.map_cons, List.map_nil]); first | done | rfl) ?_
  with_reducible refine (HNd.out _).mono ?_
  rintro e u1 ⟨rfl, hbk⟩
  refine ⟨_, rfl, ?_⟩
  have n_HA := Aside0.mk (HA.out.below hbk)
  have n_B3 := Aside0.mk (blk_below B3.out hbk)
  have n_B4 := Aside0.mk (blk_below B4.out hbk)
  have n_B5 := Aside0.mk (blk_below B5.out hbk)
  have n_HB := Aside0.mk (below_step HB.out hbk)
  clear HA B3 B4 B5 HB hbk
  have HA := n_HA
  have B3 := n_B3
  have B4 := n_B4
  have B5 := n_B5
  have HB := n_HB
  clear n_HA n_B3 n_B4 n_B5 n_HB
  refine hK.out _ _ ⟨((blk_cell B4.out 0).trans rfl), ((blk_cell B4.out 1).trans rfl), ((blk_cell B4.out 2).trans rfl), ((blk_cell B4.out 3).trans rfl), ((blk_cell B3.out 0).trans rfl), ((blk_cell B3.out 1).trans rfl), ((blk_cell B3.out 2).trans rfl), ((blk_cell B3.out 3).trans rfl), ((blk_cell B3.out 4).trans rfl)⟩ (fun hHeld => ?_)
  clear hK K
  refine norm_ (a' := ?_) ?_ ?_
  rotate_left
  · show Act.put _ (some 32) _ = _
    simp only [Act.put, List.setIfInBounds_toArray, List.set_cons_zero, List.set_cons_succ, i64_w, i32_w]
    rfl
  refine pure_ (i := 5) (N := some 33) (v := ?_) (a' := ?_) (wap_lb 7 63) rfl rfl (any_of HT_.out (by kernel_rfl)) (fun _ _ _ h => h) (Or.inl ⟨by rfl, ?_⟩) ?_ ?_; rotate_left
  · intro w'; go_simp; with_reducible rfl
  rotate_left
  · simp only [Act.put, List.setIfInBounds_toArray, List.set_cons_zero, List.set_cons_succ, i64_w, i32_w]; rfl
  refine pure_ (i := 6) (N := some 10) (v := ?_) (a' := ?_) (wap_lb 7 127) rfl rfl (any_of HT_.out (by kernel_rfl)) (fun _ _ _ h => h) (Or.inl ⟨by rfl, ?_⟩) ?_ ?_; rotate_left
  · intro w'; go_simp; with_reducible rfl
  rotate_left
  · simp only [Act.put, List.setIfInBounds_toArray, List.set_cons_zero, List.set_cons_succ, i64_w, i32_w]; rfl
  refine done_ (done_of HT_.out (by kernel_rfl)) ?_
  rw [Exn.out]
  have c3_0 : u1.cell? ⟨g3, 0, none⟩ = some (.int .i64 a0_0) := (blk_cell B3.out 0).trans rfl
  have c3_1 : u1.cell? ⟨g3, 1, none⟩ = some (.int .i64 a0_1) := (blk_cell B3.out 1).trans rfl
  have c3_2 : u1.cell? ⟨g3, 2, none⟩ = some (.int .i64 a0_2) := (blk_cell B3.out 2).trans rfl
  have c3_3 : u1.cell? ⟨g3, 3, none⟩ = some (.int .i64 a0_3) := (blk_cell B3.out 3).trans rfl
  have c3_4 : u1.cell? ⟨g3, 4, none⟩ = some (.int .i64 a0_4) := (blk_cell B3.out 4).trans rfl
  have c4_0 : u1.cell? ⟨g4, 0, none⟩ = some (.int .u8 a1_0) := (blk_cell B4.out 0).trans rfl
  have c4_1 : u1.cell? ⟨g4, 1, none⟩ = some (.int .u8 a1_1) := (blk_cell B4.out 1).trans rfl
  have c4_2 : u1.cell? ⟨g4, 2, none⟩ = some (.int .u8 a1_2) := (blk_cell B4.out 2).trans rfl
  have c4_3 : u1.cell? ⟨g4, 3, none⟩ = some (.int .u8 a1_3) := (blk_cell B4.out 3).trans rfl
  have c5_0 : u1.cell? ⟨g5, 0, none⟩ = some (.int .u64 a2_0) := (blk_cell B5.out 0).trans rfl
  have c5_1 : u1.cell? ⟨g5, 1, none⟩ = some (.int .u64 a2_1) := (blk_cell B5.out 1).trans rfl
  go_upto_region 8 with fail
  clear c3_0 c3_1 c3_2 c3_3 c3_4 c4_0 c4_1 c4_2 c4_3 c5_0 c5_1
  have n_HA := Aside0.mk (HA.out.drew)
  have n_B3 := Aside0.mk (blk_drew B3.out)
  have n_B4 := Aside0.mk (blk_drew B4.out)
  have n_B5 := Aside0.mk (blk_drew B5.out)
  have n_HB := Aside0.mk (below_drew1 HB.out)
  clear HA B3 B4 B5 HB
  have HA := n_HA
  have B3 := n_B3
  have B4 := n_B4
  have B5 := n_B5
  have HB := n_HB
  clear n_HA n_B3 n_B4 n_B5 n_HB
  refine start_ (n := 7) (S := fun w' => w'.cell? ⟨g4, 0, none⟩ = some (.int .u8 a1_0) ∧ w'.cell? ⟨g4, 1, none⟩ = some (.int .u8 a1_1) ∧ w'.cell? ⟨g4, 2, none⟩ = some (.int .u8 a1_2) ∧ w'.cell? ⟨g4, 3, none⟩ = some (.int .u8 a1_3) ∧ w'.cell? ⟨g3, 0, none⟩ = some (.int .i64 a0_0) ∧ w'.cell? ⟨g3, 1, none⟩ = some (.int .i64 a0_1) ∧ w'.cell? ⟨g3, 2, none⟩ = some (.int .i64 a0_2) ∧ w'.cell? ⟨g3, 3, none⟩ = some (.int .i64 a0_3) ∧ w'.cell? ⟨g3, 4, none⟩ = some (.int .i64 a0_4)) (ds := []) #[false, false, false, false, false, false, false] (by kernel_rfl) rfl rfl ⟨((blk_cell B4.out 0).trans rfl), ((blk_cell B4.out 1).trans rfl), ((blk_cell B4.out 2).trans rfl), ((blk_cell B4.out 3).trans rfl), ((blk_cell B3.out 0).trans rfl), ((blk_cell B3.out 1).trans rfl), ((blk_cell B3.out 2).trans rfl), ((blk_cell B3.out 3).trans rfl), ((blk_cell B3.out 4).trans rfl)⟩ (fun hHeld => ?_); refine with_tabW wap.tab8 wap.bits8 (fun HT_ HW_ => ?_)
  generalize u1.drew = W1 at HA B3 B4 B5 HB hHeld ⊢
  refine pure_ (i := 0) (N := some 34) (v := ?_) (a' := ?_) (wap_lb 7 1) rfl rfl (any_of HT_.out (by kernel_rfl)) (fun _ _ _ h => h) (Or.inl ⟨by rfl, ?_⟩) ?_ ?_; rotate_left
  · intro w'; go_simp; with_reducible rfl
  rotate_left
  · simp only [Act.put, List.setIfInBounds_toArray, List.set_cons_zero, List.set_cons_succ, i64_w, i32_w]; rfl
  refine take_ (i := 1) (N := some 35) (v := ?_) (a' := ?_) (wap_lb 7 3) rfl rfl (take_ofW HT_.out HW_.out (by kernel_rfl)) (fun _ _ _ h => h) (Or.inl ⟨by rfl, ?_⟩) hHeld ?_ ?_; rotate_left
  · rintro w' ⟨s0, s1, s2, s3, s4, s5, s6, s7, s8⟩; go_simp; with_reducible rfl
  rotate_left
  · simp only [Act.put, List.setIfInBounds_toArray, List.set_cons_zero, List.set_cons_succ, i64_w, i32_w]; rfl
  refine pure_ (i := 2) (N := some 36) (v := ?_) (a' := ?_) (wap_lb 7 7) rfl rfl (any_of HT_.out (by kernel_rfl)) (fun _ _ _ h => h) (Or.inl ⟨by rfl, ?_⟩) ?_ ?_; rotate_left
  · intro w'; go_simp; with_reducible rfl
  rotate_left
  · simp only [Act.put, List.setIfInBounds_toArray, List.set_cons_zero, List.set_cons_succ, i64_w, i32_w]; rfl
  refine take_ (i := 3) (N := some 37) (v := ?_) (a' := ?_) (wap_lb 7 15) rfl rfl (take_ofW HT_.out HW_.out (by kernel_rfl)) (fun _ _ _ h => h) (Or.inl ⟨by rfl, ?_⟩) hHeld ?_ ?_; rotate_left
  · rintro w' ⟨s0, s1, s2, s3, s4, s5, s6, s7, s8⟩; go_simp; with_reducible rfl
  rotate_left
  · simp only [Act.put, List.setIfInBounds_toArray, List.set_cons_zero, List.set_cons_succ, i64_w, i32_w]; rfl
  refine one_ (i := 4) (N := some 38) (wap_lb 7 31) rfl rfl (one_of HT_.out (by kernel_rfl)) (by decide) (fun K hK => ?_)
  refine goes_ Try.func13 (by kernel_rfl) rfl #[.agg #[.int .i64 a0_0, .int .i64 a0_1, .int .i64 a0_2, .int .i64 a0_3, .int .i64 a0_4]] (by rfl) rfl rfl (by (try simp only [List.map_toArray, List.map_cons, List.map_nil]); first | done | rfl) ?_
  with_reducible refine (HOp.out _).mono ?_
  rintro e u2 ⟨rfl, hbk⟩
  refine ⟨_, rfl, ?_⟩
  have n_HA := Aside0.mk (HA.out.below hbk)
  have n_B3 := Aside0.mk (blk_below B3.out hbk)
  have n_B4 := Aside0.mk (blk_below B4.out hbk)
  have n_B5 := Aside0.mk (blk_below B5.out hbk)
  have n_HB := Aside0.mk (below_step HB.out hbk)
  clear HA B3 B4 B5 HB hbk
  have HA := n_HA
  have B3 := n_B3
  have B4 := n_B4
  have B5 := n_B5
  have HB := n_HB
  clear n_HA n_B3 n_B4 n_B5 n_HB
  refine hK.out _ _ ⟨((blk_cell B4.out 0).trans rfl), ((blk_cell B4.out 1).trans rfl), ((blk_cell B4.out 2).trans rfl), ((blk_cell B4.out 3).trans rfl), ((blk_cell B3.out 0).trans rfl), ((blk_cell B3.out 1).trans rfl), ((blk_cell B3.out 2).trans rfl), ((blk_cell B3.out 3).trans rfl), ((blk_cell B3.out 4).trans rfl)⟩ (fun hHeld => ?_)
  clear hK K
  refine norm_ (a' := ?_) ?_ ?_
  rotate_left
  · show Act.put _ (some 38) _ = _
    simp only [Act.put, List.setIfInBounds_toArray, List.set_cons_zero, List.set_cons_succ, i64_w, i32_w]
    rfl
  refine pure_ (i := 5) (N := some 39) (v := ?_) (a' := ?_) (wap_lb 7 63) rfl rfl (any_of HT_.out (by kernel_rfl)) (fun _ _ _ h => h) (Or.inl ⟨by rfl, ?_⟩) ?_ ?_; rotate_left
  · intro w'; go_simp; with_reducible rfl
  rotate_left
  · simp only [Act.put, List.setIfInBounds_toArray, List.set_cons_zero, List.set_cons_succ, i64_w, i32_w]; rfl
  refine pure_ (i := 6) (N := some 11) (v := ?_) (a' := ?_) (wap_lb 7 127) rfl rfl (any_of HT_.out (by kernel_rfl)) (fun _ _ _ h => h) (Or.inl ⟨by rfl, ?_⟩) ?_ ?_; rotate_left
  · intro w'; go_simp; with_reducible rfl
  rotate_left
  · simp only [Act.put, List.setIfInBounds_toArray, List.set_cons_zero, List.set_cons_succ, i64_w, i32_w]; rfl
  refine done_ (done_of HT_.out (by kernel_rfl)) ?_
  rw [Exo.out]
  have c3_0 : u2.cell? ⟨g3, 0, none⟩ = some (.int .i64 a0_0) := (blk_cell B3.out 0).trans rfl
  have c3_1 : u2.cell? ⟨g3, 1, none⟩ = some (.int .i64 a0_1) := (blk_cell B3.out 1).trans rfl
  have c3_2 : u2.cell? ⟨g3, 2, none⟩ = some (.int .i64 a0_2) := (blk_cell B3.out 2).trans rfl
  have c3_3 : u2.cell? ⟨g3, 3, none⟩ = some (.int .i64 a0_3) := (blk_cell B3.out 3).trans rfl
  have c3_4 : u2.cell? ⟨g3, 4, none⟩ = some (.int .i64 a0_4) := (blk_cell B3.out 4).trans rfl
  have c4_0 : u2.cell? ⟨g4, 0, none⟩ = some (.int .u8 a1_0) := (blk_cell B4.out 0).trans rfl
  have c4_1 : u2.cell? ⟨g4, 1, none⟩ = some (.int .u8 a1_1) := (blk_cell B4.out 1).trans rfl
  have c4_2 : u2.cell? ⟨g4, 2, none⟩ = some (.int .u8 a1_2) := (blk_cell B4.out 2).trans rfl
  have c4_3 : u2.cell? ⟨g4, 3, none⟩ = some (.int .u8 a1_3) := (blk_cell B4.out 3).trans rfl
  have c5_0 : u2.cell? ⟨g5, 0, none⟩ = some (.int .u64 a2_0) := (blk_cell B5.out 0).trans rfl
  have c5_1 : u2.cell? ⟨g5, 1, none⟩ = some (.int .u64 a2_1) := (blk_cell B5.out 1).trans rfl
  go_upto_region 10 with fail
  rw [Ext.out]
  go_upto_region 13 with (first | (go_at_call 15; (with_reducible refine (FS.out _ pw gc gw bk HA.out).mono ?_); rintro e u3 ⟨rfl, hA, hT⟩; have hgn := HGN.out; have n_B3 := Aside0.mk (blk_touch B3.out hT (fun e => e.elim hgn.2.1.1 hgn.2.1.2)); have n_B4 := Aside0.mk (blk_touch B4.out hT (fun e => e.elim hgn.2.2.1.1 hgn.2.2.1.2)); have n_B5 := Aside0.mk (blk_touch B5.out hT (fun e => e.elim hgn.2.2.2.1 hgn.2.2.2.2)); have n_HB := Aside0.mk (HB.out.trans (hT.below HB.out.size (fun k hk => by rcases hk with rfl | rfl <;> omega))); clear HA B3 B4 B5 HB hgn; clear c3_0 c3_1 c3_2 c3_3 c3_4; clear c4_0 c4_1 c4_2 c4_3; clear c5_0 c5_1; have HA := Aside0.mk hA; have B3 := n_B3; have B4 := n_B4; have B5 := n_B5; have HB := n_HB; clear n_B3 n_B4 n_B5 n_HB hA hT; have c3_0 : u3.cell? ⟨g3, 0, none⟩ = some (.int .i64 a0_0) := (blk_cell B3.out 0).trans rfl; have c3_1 : u3.cell? ⟨g3, 1, none⟩ = some (.int .i64 a0_1) := (blk_cell B3.out 1).trans rfl; have c3_2 : u3.cell? ⟨g3, 2, none⟩ = some (.int .i64 a0_2) := (blk_cell B3.out 2).trans rfl; have c3_3 : u3.cell? ⟨g3, 3, none⟩ = some (.int .i64 a0_3) := (blk_cell B3.out 3).trans rfl; have c3_4 : u3.cell? ⟨g3, 4, none⟩ = some (.int .i64 a0_4) := (blk_cell B3.out 4).trans rfl; have c4_0 : u3.cell? ⟨g4, 0, none⟩ = some (.int .u8 a1_0) := (blk_cell B4.out 0).trans rfl; have c4_1 : u3.cell? ⟨g4, 1, none⟩ = some (.int .u8 a1_1) := (blk_cell B4.out 1).trans rfl; have c4_2 : u3.cell? ⟨g4, 2, none⟩ = some (.int .u8 a1_2) := (blk_cell B4.out 2).trans rfl; have c4_3 : u3.cell? ⟨g4, 3, none⟩ = some (.int .u8 a1_3) := (blk_cell B4.out 3).trans rfl; have c5_0 : u3.cell? ⟨g5, 0, none⟩ = some (.int .u64 a2_0) := (blk_cell B5.out 0).trans rfl; have c5_1 : u3.cell? ⟨g5, 1, none⟩ = some (.int .u64 a2_1) := (blk_cell B5.out 1).trans rfl; skip) | (go_at_call 16; (with_reducible refine (FT.out _ pw gc gw bk HA.out).mono ?_); rintro e u4 ⟨bb, rfl, hA, hT⟩; have hgn := HGN.out; have n_B3 := Aside0.mk (blk_touch B3.out hT (fun e => e.elim hgn.2.1.1 hgn.2.1.2)); have n_B4 := Aside0.mk (blk_touch B4.out hT (fun e => e.elim hgn.2.2.1.1 hgn.2.2.1.2)); have n_B5 := Aside0.mk (blk_touch B5.out hT (fun e => e.elim hgn.2.2.2.1 hgn.2.2.2.2)); have n_HB := Aside0.mk (HB.out.trans (hT.below HB.out.size (fun k hk => by rcases hk with rfl | rfl <;> omega))); clear HA B3 B4 B5 HB hgn; clear c3_0 c3_1 c3_2 c3_3 c3_4; clear c4_0 c4_1 c4_2 c4_3; clear c5_0 c5_1; have HA := Aside0.mk hA; have B3 := n_B3; have B4 := n_B4; have B5 := n_B5; have HB := n_HB; clear n_B3 n_B4 n_B5 n_HB hA hT; have c3_0 : u4.cell? ⟨g3, 0, none⟩ = some (.int .i64 a0_0) := (blk_cell B3.out 0).trans rfl; have c3_1 : u4.cell? ⟨g3, 1, none⟩ = some (.int .i64 a0_1) := (blk_cell B3.out 1).trans rfl; have c3_2 : u4.cell? ⟨g3, 2, none⟩ = some (.int .i64 a0_2) := (blk_cell B3.out 2).trans rfl; have c3_3 : u4.cell? ⟨g3, 3, none⟩ = some (.int .i64 a0_3) := (blk_cell B3.out 3).trans rfl; have c3_4 : u4.cell? ⟨g3, 4, none⟩ = some (.int .i64 a0_4) := (blk_cell B3.out 4).trans rfl; have c4_0 : u4.cell? ⟨g4, 0, none⟩ = some (.int .u8 a1_0) := (blk_cell B4.out 0).trans rfl; have c4_1 : u4.cell? ⟨g4, 1, none⟩ = some (.int .u8 a1_1) := (blk_cell B4.out 1).trans rfl; have c4_2 : u4.cell? ⟨g4, 2, none⟩ = some (.int .u8 a1_2) := (blk_cell B4.out 2).trans rfl; have c4_3 : u4.cell? ⟨g4, 3, none⟩ = some (.int .u8 a1_3) := (blk_cell B4.out 3).trans rfl; have c5_0 : u4.cell? ⟨g5, 0, none⟩ = some (.int .u64 a2_0) := (blk_cell B5.out 0).trans rfl; have c5_1 : u4.cell? ⟨g5, 1, none⟩ = some (.int .u64 a2_1) := (blk_cell B5.out 1).trans rfl; skip) | (go_at_call 17; (with_reducible refine (FY.out _ pw gc gw bk HA.out).mono ?_); rintro e u5 ⟨rfl, hA, hT⟩; have hgn := HGN.out; have n_B3 := Aside0.mk (blk_touch B3.out hT (fun e => e.elim hgn.2.1.1 hgn.2.1.2)); have n_B4 := Aside0.mk (blk_touch B4.out hT (fun e => e.elim hgn.2.2.1.1 hgn.2.2.1.2)); have n_B5 := Aside0.mk (blk_touch B5.out hT (fun e => e.elim hgn.2.2.2.1 hgn.2.2.2.2)); have n_HB := Aside0.mk (HB.out.trans (hT.below HB.out.size (fun k hk => by rcases hk with rfl | rfl <;> omega))); clear HA B3 B4 B5 HB hgn; clear c3_0 c3_1 c3_2 c3_3 c3_4; clear c4_0 c4_1 c4_2 c4_3; clear c5_0 c5_1; have HA := Aside0.mk hA; have B3 := n_B3; have B4 := n_B4; have B5 := n_B5; have HB := n_HB; clear n_B3 n_B4 n_B5 n_HB hA hT; have c3_0 : u5.cell? ⟨g3, 0, none⟩ = some (.int .i64 a0_0) := (blk_cell B3.out 0).trans rfl; have c3_1 : u5.cell? ⟨g3, 1, none⟩ = some (.int .i64 a0_1) := (blk_cell B3.out 1).trans rfl; have c3_2 : u5.cell? ⟨g3, 2, none⟩ = some (.int .i64 a0_2) := (blk_cell B3.out 2).trans rfl; have c3_3 : u5.cell? ⟨g3, 3, none⟩ = some (.int .i64 a0_3) := (blk_cell B3.out 3).trans rfl; have c3_4 : u5.cell? ⟨g3, 4, none⟩ = some (.int .i64 a0_4) := (blk_cell B3.out 4).trans rfl; have c4_0 : u5.cell? ⟨g4, 0, none⟩ = some (.int .u8 a1_0) := (blk_cell B4.out 0).trans rfl; have c4_1 : u5.cell? ⟨g4, 1, none⟩ = some (.int .u8 a1_1) := (blk_cell B4.out 1).trans rfl; have c4_2 : u5.cell? ⟨g4, 2, none⟩ = some (.int .u8 a1_2) := (blk_cell B4.out 2).trans rfl; have c4_3 : u5.cell? ⟨g4, 3, none⟩ = some (.int .u8 a1_3) := (blk_cell B4.out 3).trans rfl; have c5_0 : u5.cell? ⟨g5, 0, none⟩ = some (.int .u64 a2_0) := (blk_cell B5.out 0).trans rfl; have c5_1 : u5.cell? ⟨g5, 1, none⟩ = some (.int .u64 a2_1) := (blk_cell B5.out 1).trans rfl; skip))
  clear c3_0 c3_1 c3_2 c3_3 c3_4 c4_0 c4_1 c4_2 c4_3 c5_0 c5_1
  go_wp2
  go_loopg [13] (NN).toNat (fun kq v13 wr => ∃ (i st : Int), v13 = .int .i64 i ∧ Aside0 (0 ≤ i ∧ i ≤ NN) ∧ Aside0 ((NN - i).toNat ≤ kq) ∧ Aside0 (WAt wr pw gc gw bk ⟨a0_0, a0_1, a0_2, a0_3, a0_4⟩ ws3 st) ∧ Aside0 (wr.heap[g3]? = some (.cells #[.int .i64 a0_0, .int .i64 a0_1, .int .i64 a0_2, .int .i64 a0_3, .int .i64 a0_4] 23 (0, 0))) ∧ Aside0 (wr.heap[g4]? = some (.cells #[.int .u8 a1_0, .int .u8 a1_1, .int .u8 a1_2, .int .u8 a1_3] 43 (0, 0))) ∧ Aside0 (wr.heap[g5]? = some (.cells #[.int .u64 a2_0, .int .u64 a2_1] 44 (0, 0))) ∧ Aside0 (Below w.heap.size w wr))
  case atStart => exact ⟨0, _, rfl, ⟨by have := HNB.out; omega⟩, ⟨by omega⟩, HA, B3, B4, B5, HB⟩
  case round =>
    clear HB HA B3 B4 B5
    obtain ⟨i, st, rfl, HJ, HK, HA, B3, B4, B5, HB⟩ := hrel
    have c3_0 : wr.cell? ⟨g3, 0, none⟩ = some (.int .i64 a0_0) := (blk_cell B3.out 0).trans rfl
    have c3_1 : wr.cell? ⟨g3, 1, none⟩ = some (.int .i64 a0_1) := (blk_cell B3.out 1).trans rfl
    have c3_2 : wr.cell? ⟨g3, 2, none⟩ = some (.int .i64 a0_2) := (blk_cell B3.out 2).trans rfl
    have c3_3 : wr.cell? ⟨g3, 3, none⟩ = some (.int .i64 a0_3) := (blk_cell B3.out 3).trans rfl
    have c3_4 : wr.cell? ⟨g3, 4, none⟩ = some (.int .i64 a0_4) := (blk_cell B3.out 4).trans rfl
    have c4_0 : wr.cell? ⟨g4, 0, none⟩ = some (.int .u8 a1_0) := (blk_cell B4.out 0).trans rfl
    have c4_1 : wr.cell? ⟨g4, 1, none⟩ = some (.int .u8 a1_1) := (blk_cell B4.out 1).trans rfl
    have c4_2 : wr.cell? ⟨g4, 2, none⟩ = some (.int .u8 a1_2) := (blk_cell B4.out 2).trans rfl
    have c4_3 : wr.cell? ⟨g4, 3, none⟩ = some (.int .u8 a1_3) := (blk_cell B4.out 3).trans rfl
    have c5_0 : wr.cell? ⟨g5, 0, none⟩ = some (.int .u64 a2_0) := (blk_cell B5.out 0).trans rfl
    have c5_1 : wr.cell? ⟨g5, 1, none⟩ = some (.int .u64 a2_1) := (blk_cell B5.out 1).trans rfl
    by_cases hlt : i < NN
    rotate_left
    · go_wp2_with (first | (go_at_call 12; (with_reducible refine (HNd.out _).mono ?_); rintro e w8 ⟨rfl, hbk⟩; clear c3_0 c3_1 c3_2 c3_3 c3_4; clear c4_0 c4_1 c4_2 c4_3; clear c5_0 c5_1; have n_HA := Aside0.mk (HA.out.below hbk); have n_B3 := Aside0.mk (blk_below B3.out hbk); have n_B4 := Aside0.mk (blk_below B4.out hbk); have n_B5 := Aside0.mk (blk_below B5.out hbk); have n_HB := Aside0.mk (below_step HB.out hbk); clear HA B3 B4 B5 HB; have HA := n_HA; have B3 := n_B3; have B4 := n_B4; have B5 := n_B5; have HB := n_HB; clear n_HA n_B3 n_B4 n_B5 n_HB; have c3_0 : w8.cell? ⟨g3, 0, none⟩ = some (.int .i64 a0_0) := (blk_cell B3.out 0).trans rfl; have c3_1 : w8.cell? ⟨g3, 1, none⟩ = some (.int .i64 a0_1) := (blk_cell B3.out 1).trans rfl; have c3_2 : w8.cell? ⟨g3, 2, none⟩ = some (.int .i64 a0_2) := (blk_cell B3.out 2).trans rfl; have c3_3 : w8.cell? ⟨g3, 3, none⟩ = some (.int .i64 a0_3) := (blk_cell B3.out 3).trans rfl; have c3_4 : w8.cell? ⟨g3, 4, none⟩ = some (.int .i64 a0_4) := (blk_cell B3.out 4).trans rfl; have c4_0 : w8.cell? ⟨g4, 0, none⟩ = some (.int .u8 a1_0) := (blk_cell B4.out 0).trans rfl; have c4_1 : w8.cell? ⟨g4, 1, none⟩ = some (.int .u8 a1_1) := (blk_cell B4.out 1).trans rfl; have c4_2 : w8.cell? ⟨g4, 2, none⟩ = some (.int .u8 a1_2) := (blk_cell B4.out 2).trans rfl; have c4_3 : w8.cell? ⟨g4, 3, none⟩ = some (.int .u8 a1_3) := (blk_cell B4.out 3).trans rfl; have c5_0 : w8.cell? ⟨g5, 0, none⟩ = some (.int .u64 a2_0) := (blk_cell B5.out 0).trans rfl; have c5_1 : w8.cell? ⟨g5, 1, none⟩ = some (.int .u64 a2_1) := (blk_cell B5.out 1).trans rfl; clear hbk))
      clear c3_0 c3_1 c3_2 c3_3 c3_4 c4_0 c4_1 c4_2 c4_3 c5_0 c5_1
      clear hlt HJ HK
      go_loopg [14] (OO).toNat (fun kq v13 wr => ∃ (i st : Int), v13 = .int .i64 i ∧ Aside0 (0 ≤ i ∧ i ≤ OO) ∧ Aside0 ((OO - i).toNat ≤ kq) ∧ Aside0 (WAt wr pw gc gw bk ⟨a0_0, a0_1, a0_2, a0_3, a0_4⟩ ws3 st) ∧ Aside0 (wr.heap[g3]? = some (.cells #[.int .i64 a0_0, .int .i64 a0_1, .int .i64 a0_2, .int .i64 a0_3, .int .i64 a0_4] 23 (0, 0))) ∧ Aside0 (wr.heap[g4]? = some (.cells #[.int .u8 a1_0, .int .u8 a1_1, .int .u8 a1_2, .int .u8 a1_3] 43 (0, 0))) ∧ Aside0 (wr.heap[g5]? = some (.cells #[.int .u64 a2_0, .int .u64 a2_1] 44 (0, 0))) ∧ Aside0 (Below w.heap.size w wr))
      case atStart => exact ⟨0, _, rfl, ⟨by have := HNB.out; omega⟩, ⟨by omega⟩, HA, B3, B4, B5, HB⟩
      case round =>
        clear HB HA B3 B4 B5
        obtain ⟨i, st, rfl, HJ, HK, HA, B3, B4, B5, HB⟩ := hrel
        have c3_0 : wr.cell? ⟨g3, 0, none⟩ = some (.int .i64 a0_0) := (blk_cell B3.out 0).trans rfl
        have c3_1 : wr.cell? ⟨g3, 1, none⟩ = some (.int .i64 a0_1) := (blk_cell B3.out 1).trans rfl
        have c3_2 : wr.cell? ⟨g3, 2, none⟩ = some (.int .i64 a0_2) := (blk_cell B3.out 2).trans rfl
        have c3_3 : wr.cell? ⟨g3, 3, none⟩ = some (.int .i64 a0_3) := (blk_cell B3.out 3).trans rfl
        have c3_4 : wr.cell? ⟨g3, 4, none⟩ = some (.int .i64 a0_4) := (blk_cell B3.out 4).trans rfl
        have c4_0 : wr.cell? ⟨g4, 0, none⟩ = some (.int .u8 a1_0) := (blk_cell B4.out 0).trans rfl
        have c4_1 : wr.cell? ⟨g4, 1, none⟩ = some (.int .u8 a1_1) := (blk_cell B4.out 1).trans rfl
        have c4_2 : wr.cell? ⟨g4, 2, none⟩ = some (.int .u8 a1_2) := (blk_cell B4.out 2).trans rfl
        have c4_3 : wr.cell? ⟨g4, 3, none⟩ = some (.int .u8 a1_3) := (blk_cell B4.out 3).trans rfl
        have c5_0 : wr.cell? ⟨g5, 0, none⟩ = some (.int .u64 a2_0) := (blk_cell B5.out 0).trans rfl
        have c5_1 : wr.cell? ⟨g5, 1, none⟩ = some (.int .u64 a2_1) := (blk_cell B5.out 1).trans rfl
        by_cases hlt : i < OO
        rotate_left
        · go_wp2_with (first | (go_at_call 13; (with_reducible refine (HOp.out _).mono ?_); rintro e w9 ⟨rfl, hbk⟩; clear c3_0 c3_1 c3_2 c3_3 c3_4; clear c4_0 c4_1 c4_2 c4_3; clear c5_0 c5_1; have n_HA := Aside0.mk (HA.out.below hbk); have n_B3 := Aside0.mk (blk_below B3.out hbk); have n_B4 := Aside0.mk (blk_below B4.out hbk); have n_B5 := Aside0.mk (blk_below B5.out hbk); have n_HB := Aside0.mk (below_step HB.out hbk); clear HA B3 B4 B5 HB; have HA := n_HA; have B3 := n_B3; have B4 := n_B4; have B5 := n_B5; have HB := n_HB; clear n_HA n_B3 n_B4 n_B5 n_HB; have c3_0 : w9.cell? ⟨g3, 0, none⟩ = some (.int .i64 a0_0) := (blk_cell B3.out 0).trans rfl; have c3_1 : w9.cell? ⟨g3, 1, none⟩ = some (.int .i64 a0_1) := (blk_cell B3.out 1).trans rfl; have c3_2 : w9.cell? ⟨g3, 2, none⟩ = some (.int .i64 a0_2) := (blk_cell B3.out 2).trans rfl; have c3_3 : w9.cell? ⟨g3, 3, none⟩ = some (.int .i64 a0_3) := (blk_cell B3.out 3).trans rfl; have c3_4 : w9.cell? ⟨g3, 4, none⟩ = some (.int .i64 a0_4) := (blk_cell B3.out 4).trans rfl; have c4_0 : w9.cell? ⟨g4, 0, none⟩ = some (.int .u8 a1_0) := (blk_cell B4.out 0).trans rfl; have c4_1 : w9.cell? ⟨g4, 1, none⟩ = some (.int .u8 a1_1) := (blk_cell B4.out 1).trans rfl; have c4_2 : w9.cell? ⟨g4, 2, none⟩ = some (.int .u8 a1_2) := (blk_cell B4.out 2).trans rfl; have c4_3 : w9.cell? ⟨g4, 3, none⟩ = some (.int .u8 a1_3) := (blk_cell B4.out 3).trans rfl; have c5_0 : w9.cell? ⟨g5, 0, none⟩ = some (.int .u64 a2_0) := (blk_cell B5.out 0).trans rfl; have c5_1 : w9.cell? ⟨g5, 1, none⟩ = some (.int .u64 a2_1) := (blk_cell B5.out 1).trans rfl; clear hbk))
          clear c3_0 c3_1 c3_2 c3_3 c3_4 c4_0 c4_1 c4_2 c4_3 c5_0 c5_1
          clear hlt HJ HK
          go_loopg [15] (a0_0).toNat (fun kq v13 wr => ∃ (i st : Int), v13 = .int .i64 i ∧ Aside0 (0 ≤ i ∧ i ≤ a0_0) ∧ Aside0 ((a0_0 - i).toNat ≤ kq) ∧ Aside0 (WAt wr pw gc gw bk ⟨a0_0, a0_1, a0_2, a0_3, a0_4⟩ ws3 st) ∧ Aside0 (wr.heap[g3]? = some (.cells #[.int .i64 a0_0, .int .i64 a0_1, .int .i64 a0_2, .int .i64 a0_3, .int .i64 a0_4] 23 (0, 0))) ∧ Aside0 (wr.heap[g4]? = some (.cells #[.int .u8 a1_0, .int .u8 a1_1, .int .u8 a1_2, .int .u8 a1_3] 43 (0, 0))) ∧ Aside0 (wr.heap[g5]? = some (.cells #[.int .u64 a2_0, .int .u64 a2_1] 44 (0, 0))) ∧ Aside0 (Below w.heap.size w wr))
          case atStart => exact ⟨0, _, rfl, ⟨by have := HNB.out; omega⟩, ⟨by omega⟩, HA, B3, B4, B5, HB⟩
          case round =>
            clear HB HA B3 B4 B5
            obtain ⟨i, st, rfl, HJ, HK, HA, B3, B4, B5, HB⟩ := hrel
            have c3_0 : wr.cell? ⟨g3, 0, none⟩ = some (.int .i64 a0_0) := (blk_cell B3.out 0).trans rfl
            have c3_1 : wr.cell? ⟨g3, 1, none⟩ = some (.int .i64 a0_1) := (blk_cell B3.out 1).trans rfl
            have c3_2 : wr.cell? ⟨g3, 2, none⟩ = some (.int .i64 a0_2) := (blk_cell B3.out 2).trans rfl
            have c3_3 : wr.cell? ⟨g3, 3, none⟩ = some (.int .i64 a0_3) := (blk_cell B3.out 3).trans rfl
            have c3_4 : wr.cell? ⟨g3, 4, none⟩ = some (.int .i64 a0_4) := (blk_cell B3.out 4).trans rfl
            have c4_0 : wr.cell? ⟨g4, 0, none⟩ = some (.int .u8 a1_0) := (blk_cell B4.out 0).trans rfl
            have c4_1 : wr.cell? ⟨g4, 1, none⟩ = some (.int .u8 a1_1) := (blk_cell B4.out 1).trans rfl
            have c4_2 : wr.cell? ⟨g4, 2, none⟩ = some (.int .u8 a1_2) := (blk_cell B4.out 2).trans rfl
            have c4_3 : wr.cell? ⟨g4, 3, none⟩ = some (.int .u8 a1_3) := (blk_cell B4.out 3).trans rfl
            have c5_0 : wr.cell? ⟨g5, 0, none⟩ = some (.int .u64 a2_0) := (blk_cell B5.out 0).trans rfl
            have c5_1 : wr.cell? ⟨g5, 1, none⟩ = some (.int .u64 a2_1) := (blk_cell B5.out 1).trans rfl
            by_cases hlt : i < a0_0
            rotate_left
            · go_upto_region 28 with fail
              clear c3_0 c3_1 c3_2 c3_3 c3_4 c4_0 c4_1 c4_2 c4_3 c5_0 c5_1
              have n_HA := Aside0.mk (HA.out.drew)
              have n_B3 := Aside0.mk (blk_drew B3.out)
              have n_B4 := Aside0.mk (blk_drew B4.out)
              have n_B5 := Aside0.mk (blk_drew B5.out)
              have n_HB := Aside0.mk (below_drew1 HB.out)
              clear HA B3 B4 B5 HB
              have HA := n_HA
              have B3 := n_B3
              have B4 := n_B4
              have B5 := n_B5
              have HB := n_HB
              clear n_HA n_B3 n_B4 n_B5 n_HB
              refine start_ (n := 27) (S := fun w' => w'.cell? ⟨g5, 0, none⟩ = some (.int .u64 a2_0) ∧ w'.cell? ⟨g5, 1, none⟩ = some (.int .u64 a2_1) ∧ w'.cell? ⟨g4, 3, none⟩ = some (.int .u8 a1_3)) (ds := []) #[false, false, false, false, false, false, false, false, false, false, false, false, false, false, false, false, false, false, false, false, false, false, false, false, false, false, false] (by kernel_rfl) rfl rfl ⟨((blk_cell B5.out 0).trans rfl), ((blk_cell B5.out 1).trans rfl), ((blk_cell B4.out 3).trans rfl)⟩ (fun hHeld => ?_); refine with_tabW wap.tab28 wap.bits28 (fun HT_ HW_ => ?_)
              generalize wr.drew = W1 at HA B3 B4 B5 HB hHeld ⊢
              refine pure_ (i := 0) (N := some 107) (v := ?_) (a' := ?_) (wap_lb 27 1) rfl rfl (any_of HT_.out (by kernel_rfl)) (fun _ _ _ h => h) (Or.inl ⟨by rfl, ?_⟩) ?_ ?_; rotate_left
              · intro w'; go_simp; with_reducible rfl
              rotate_left
              · simp only [Act.put, List.setIfInBounds_toArray, List.set_cons_zero, List.set_cons_succ, i64_w, i32_w]; rfl
              refine pure_ (i := 1) (N := some 108) (v := ?_) (a' := ?_) (wap_lb 27 3) rfl rfl (any_of HT_.out (by kernel_rfl)) (fun _ _ _ h => h) (Or.inl ⟨by rfl, ?_⟩) ?_ ?_; rotate_left
              · intro w'; go_simp; with_reducible rfl
              rotate_left
              · simp only [Act.put, List.setIfInBounds_toArray, List.set_cons_zero, List.set_cons_succ, i64_w, i32_w]; rfl
              refine pure_ (i := 2) (N := some 109) (v := ?_) (a' := ?_) (wap_lb 27 7) rfl rfl (any_of HT_.out (by kernel_rfl)) (fun _ _ _ h => h) (Or.inl ⟨by rfl, ?_⟩) ?_ ?_; rotate_left
              · intro w'; go_simp; with_reducible rfl
              rotate_left
              · simp only [Act.put, List.setIfInBounds_toArray, List.set_cons_zero, List.set_cons_succ, i64_w, i32_w]; rfl
              refine pure_ (i := 3) (N := some 110) (v := ?_) (a' := ?_) (wap_lb 27 15) rfl rfl (any_of HT_.out (by kernel_rfl)) (fun _ _ _ h => h) (Or.inl ⟨by rfl, ?_⟩) ?_ ?_; rotate_left
              · intro w'; go_simp; with_reducible rfl
              rotate_left
              · simp only [Act.put, List.setIfInBounds_toArray, List.set_cons_zero, List.set_cons_succ, i64_w, i32_w]; rfl
              refine pure_ (i := 5) (N := some 112) (v := ?_) (a' := ?_) (wap_lb 27 47) rfl rfl (any_of HT_.out (by kernel_rfl)) (fun _ _ _ h => h) (Or.inl ⟨by rfl, ?_⟩) ?_ ?_; rotate_left
              · intro w'; go_simp; with_reducible rfl
              rotate_left
              · simp only [Act.put, List.setIfInBounds_toArray, List.set_cons_zero, List.set_cons_succ, i64_w, i32_w]; rfl
              refine take_ (i := 6) (N := some 113) (v := ?_) (a' := ?_) (wap_lb 27 111) rfl rfl (take_ofW HT_.out HW_.out (by kernel_rfl)) (fun _ _ _ h => h) (Or.inl ⟨by rfl, ?_⟩) hHeld ?_ ?_; rotate_left
              · rintro w' ⟨s0, s1, s2⟩; go_simp; with_reducible rfl
              rotate_left
              · simp only [Act.put, List.setIfInBounds_toArray, List.set_cons_zero, List.set_cons_succ, i64_w, i32_w]; rfl
              refine one_ (i := 4) (N := some 111) (wap_lb 27 127) rfl rfl (one_of HT_.out (by kernel_rfl)) (by decide) (fun K hK => ?_)
              refine goes_ Try.func18 (by kernel_rfl) rfl #[.pointer (some ⟨pw, 0, none⟩), .int .i64 xn] (by rfl) rfl rfl (by (try simp only [List.map_toArray, List.map_cons, List.map_nil]); first | done | rfl) ?_
              with_reducible refine (FN2.out _ pw gc gw bk _ xn HD.out.1.1 HD.out.1.2 rfl HA.out).mono ?_
              rintro e u6 ⟨st1, rfl, hA, hT⟩
              refine ⟨_, rfl, ?_⟩
              have hgn := HGN.out
              have n_B3 := Aside0.mk (blk_touch B3.out hT (fun e => e.elim hgn.2.1.1 hgn.2.1.2))
              have n_B4 := Aside0.mk (blk_touch B4.out hT (fun e => e.elim hgn.2.2.1.1 hgn.2.2.1.2))
              have n_B5 := Aside0.mk (blk_touch B5.out hT (fun e => e.elim hgn.2.2.2.1 hgn.2.2.2.2))
              have n_HB := Aside0.mk (HB.out.trans (hT.below HB.out.size (fun k hk => by rcases hk with rfl | rfl <;> omega)))
              clear HA B3 B4 B5 HB hgn
              have HA := Aside0.mk hA
              have B3 := n_B3
              have B4 := n_B4
              have B5 := n_B5
              have HB := n_HB
              clear n_B3 n_B4 n_B5 n_HB hA hT
              refine hK.out _ _ ⟨((blk_cell B5.out 0).trans rfl), ((blk_cell B5.out 1).trans rfl), ((blk_cell B4.out 3).trans rfl)⟩ (fun hHeld => ?_)
              clear hK K
              refine norm_ (a' := ?_) ?_ ?_
              rotate_left
              · show Act.put _ (some 111) _ = _
                simp only [Act.put, List.setIfInBounds_toArray, List.set_cons_zero, List.set_cons_succ, i64_w, i32_w]
                rfl
              refine pure_ (i := 7) (N := some 114) (v := ?_) (a' := ?_) (wap_lb 27 255) rfl rfl (any_of HT_.out (by kernel_rfl)) (fun _ _ _ h => h) (Or.inl ⟨by rfl, ?_⟩) ?_ ?_; rotate_left
              · intro w'; go_simp; with_reducible rfl
              rotate_left
              · simp only [Act.put, List.setIfInBounds_toArray, List.set_cons_zero, List.set_cons_succ, i64_w, i32_w]; rfl
              refine pure_ (i := 8) (N := some 115) (v := ?_) (a' := ?_) (wap_lb 27 511) rfl rfl (any_of HT_.out (by kernel_rfl)) (fun _ _ _ h => h) (Or.inl ⟨by rfl, ?_⟩) ?_ ?_; rotate_left
              · intro w'; go_simp; with_reducible rfl
              rotate_left
              · simp only [Act.put, List.setIfInBounds_toArray, List.set_cons_zero, List.set_cons_succ, i64_w, i32_w]; rfl
              refine pure_ (i := 9) (N := some 116) (v := ?_) (a' := ?_) (wap_lb 27 1023) rfl rfl (any_of HT_.out (by kernel_rfl)) (fun _ _ _ h => h) (Or.inl ⟨by rfl, ?_⟩) ?_ ?_; rotate_left
              · intro w'; go_simp; with_reducible rfl
              rotate_left
              · simp only [Act.put, List.setIfInBounds_toArray, List.set_cons_zero, List.set_cons_succ, i64_w, i32_w]; rfl
              refine pure_ (i := 10) (N := some 117) (v := ?_) (a' := ?_) (wap_lb 27 2047) rfl rfl (any_of HT_.out (by kernel_rfl)) (fun _ _ _ h => h) (Or.inl ⟨by rfl, ?_⟩) ?_ ?_; rotate_left
              · intro w'; go_simp; with_reducible rfl
              rotate_left
              · simp only [Act.put, List.setIfInBounds_toArray, List.set_cons_zero, List.set_cons_succ, i64_w, i32_w]; rfl
              refine pure_ (i := 11) (N := some 118) (v := ?_) (a' := ?_) (wap_lb 27 4095) rfl rfl (any_of HT_.out (by kernel_rfl)) (fun _ _ _ h => h) (Or.inl ⟨by rfl, ?_⟩) ?_ ?_; rotate_left
              · intro w'; go_simp; with_reducible rfl
              rotate_left
              · simp only [Act.put, List.setIfInBounds_toArray, List.set_cons_zero, List.set_cons_succ, i64_w, i32_w]; rfl
              refine pure_ (i := 13) (N := some 120) (v := ?_) (a' := ?_) (wap_lb 27 12287) rfl rfl (any_of HT_.out (by kernel_rfl)) (fun _ _ _ h => h) (Or.inl ⟨by rfl, ?_⟩) ?_ ?_; rotate_left
              · intro w'; go_simp; with_reducible rfl
              rotate_left
              · simp only [Act.put, List.setIfInBounds_toArray, List.set_cons_zero, List.set_cons_succ, i64_w, i32_w]; rfl
              refine take_ (i := 14) (N := some 121) (v := ?_) (a' := ?_) (wap_lb 27 28671) rfl rfl (take_ofW HT_.out HW_.out (by kernel_rfl)) (fun _ _ _ h => h) (Or.inl ⟨by rfl, ?_⟩) hHeld ?_ ?_; rotate_left
              · rintro w' ⟨s0, s1, s2⟩; go_simp; with_reducible rfl
              rotate_left
              · simp only [Act.put, List.setIfInBounds_toArray, List.set_cons_zero, List.set_cons_succ, i64_w, i32_w]; rfl
              refine one_ (i := 12) (N := some 119) (wap_lb 27 32767) rfl rfl (one_of HT_.out (by kernel_rfl)) (by decide) (fun K hK => ?_)
              refine goes_ Try.func19 (by kernel_rfl) rfl #[.pointer (some ⟨pw, 0, none⟩), .int .i64 xo] (by rfl) rfl rfl (by (try simp only [List.map_toArray, List.map_cons, List.map_nil]); first | done | rfl) ?_
              with_reducible refine (FW2.out _ pw gc gw bk _ xo HD.out.2.1.1 HD.out.2.1.2 rfl HA.out).mono ?_
              rintro e u7 ⟨st1, rfl, hA, hT⟩
              refine ⟨_, rfl, ?_⟩
              have hgn := HGN.out
              have n_B3 := Aside0.mk (blk_touch B3.out hT (fun e => e.elim hgn.2.1.1 hgn.2.1.2))
              have n_B4 := Aside0.mk (blk_touch B4.out hT (fun e => e.elim hgn.2.2.1.1 hgn.2.2.1.2))
              have n_B5 := Aside0.mk (blk_touch B5.out hT (fun e => e.elim hgn.2.2.2.1 hgn.2.2.2.2))
              have n_HB := Aside0.mk (HB.out.trans (hT.below HB.out.size (fun k hk => by rcases hk with rfl | rfl <;> omega)))
              clear HA B3 B4 B5 HB hgn
              have HA := Aside0.mk hA
              have B3 := n_B3
              have B4 := n_B4
              have B5 := n_B5
              have HB := n_HB
              clear n_B3 n_B4 n_B5 n_HB hA hT
              refine hK.out _ _ ⟨((blk_cell B5.out 0).trans rfl), ((blk_cell B5.out 1).trans rfl), ((blk_cell B4.out 3).trans rfl)⟩ (fun hHeld => ?_)
              clear hK K
              refine norm_ (a' := ?_) ?_ ?_
              rotate_left
              · show Act.put _ (some 119) _ = _
                simp only [Act.put, List.setIfInBounds_toArray, List.set_cons_zero, List.set_cons_succ, i64_w, i32_w]
                rfl
              refine pure_ (i := 15) (N := some 122) (v := ?_) (a' := ?_) (wap_lb 27 65535) rfl rfl (any_of HT_.out (by kernel_rfl)) (fun _ _ _ h => h) (Or.inl ⟨by rfl, ?_⟩) ?_ ?_; rotate_left
              · intro w'; go_simp; with_reducible rfl
              rotate_left
              · simp only [Act.put, List.setIfInBounds_toArray, List.set_cons_zero, List.set_cons_succ, i64_w, i32_w]; rfl
              refine pure_ (i := 16) (N := some 123) (v := ?_) (a' := ?_) (wap_lb 27 131071) rfl rfl (any_of HT_.out (by kernel_rfl)) (fun _ _ _ h => h) (Or.inl ⟨by rfl, ?_⟩) ?_ ?_; rotate_left
              · intro w'; go_simp; with_reducible rfl
              rotate_left
              · simp only [Act.put, List.setIfInBounds_toArray, List.set_cons_zero, List.set_cons_succ, i64_w, i32_w]; rfl
              refine pure_ (i := 17) (N := some 124) (v := ?_) (a' := ?_) (wap_lb 27 262143) rfl rfl (any_of HT_.out (by kernel_rfl)) (fun _ _ _ h => h) (Or.inl ⟨by rfl, ?_⟩) ?_ ?_; rotate_left
              · intro w'; go_simp; with_reducible rfl
              rotate_left
              · simp only [Act.put, List.setIfInBounds_toArray, List.set_cons_zero, List.set_cons_succ, i64_w, i32_w]; rfl
              refine pure_ (i := 18) (N := some 125) (v := ?_) (a' := ?_) (wap_lb 27 524287) rfl rfl (any_of HT_.out (by kernel_rfl)) (fun _ _ _ h => h) (Or.inl ⟨by rfl, ?_⟩) ?_ ?_; rotate_left
              · intro w'; go_simp; with_reducible rfl
              rotate_left
              · simp only [Act.put, List.setIfInBounds_toArray, List.set_cons_zero, List.set_cons_succ, i64_w, i32_w]; rfl
              refine pure_ (i := 19) (N := some 126) (v := ?_) (a' := ?_) (wap_lb 27 1048575) rfl rfl (any_of HT_.out (by kernel_rfl)) (fun _ _ _ h => h) (Or.inl ⟨by rfl, ?_⟩) ?_ ?_; rotate_left
              · intro w'; go_simp; with_reducible rfl
              rotate_left
              · simp only [Act.put, List.setIfInBounds_toArray, List.set_cons_zero, List.set_cons_succ, i64_w, i32_w]; rfl
              refine pure_ (i := 21) (N := some 128) (v := ?_) (a' := ?_) (wap_lb 27 3145727) rfl rfl (any_of HT_.out (by kernel_rfl)) (fun _ _ _ h => h) (Or.inl ⟨by rfl, ?_⟩) ?_ ?_; rotate_left
              · intro w'; go_simp; with_reducible rfl
              rotate_left
              · simp only [Act.put, List.setIfInBounds_toArray, List.set_cons_zero, List.set_cons_succ, i64_w, i32_w]; rfl
              refine take_ (i := 22) (N := some 129) (v := ?_) (a' := ?_) (wap_lb 27 7340031) rfl rfl (take_ofW HT_.out HW_.out (by kernel_rfl)) (fun _ _ _ h => h) (Or.inl ⟨by rfl, ?_⟩) hHeld ?_ ?_; rotate_left
              · rintro w' ⟨s0, s1, s2⟩; go_simp; with_reducible rfl
              rotate_left
              · simp only [Act.put, List.setIfInBounds_toArray, List.set_cons_zero, List.set_cons_succ, i64_w, i32_w]; rfl
              refine pure_ (i := 23) (N := some 130) (v := ?_) (a' := ?_) (wap_lb 27 15728639) rfl rfl (any_of HT_.out (by kernel_rfl)) (fun _ _ _ h => h) (Or.inl ⟨by rfl, ?_⟩) ?_ ?_; rotate_left
              · intro w'; go_simp; with_reducible rfl
              rotate_left
              · simp only [Act.put, List.setIfInBounds_toArray, List.set_cons_zero, List.set_cons_succ, i64_w, i32_w]; rfl
              refine one_ (i := 20) (N := some 127) (wap_lb 27 16777215) rfl rfl (one_of HT_.out (by kernel_rfl)) (by decide) (fun K hK => ?_)
              refine goes_ Try.func20 (by kernel_rfl) rfl #[.pointer (some ⟨pw, 0, none⟩), .int .i64 xt] (by rfl) rfl rfl (by (try simp only [List.map_toArray, List.map_cons, List.map_nil]); first | done | rfl) ?_
              with_reducible refine (FA2.out _ pw gc gw bk _ xt HD.out.2.2.1 HD.out.2.2.2 rfl HA.out).mono ?_
              rintro e u8 ⟨st1, rfl, hA, hT⟩
              refine ⟨_, rfl, ?_⟩
              have hgn := HGN.out
              have n_B3 := Aside0.mk (blk_touch B3.out hT (fun e => e.elim hgn.2.1.1 hgn.2.1.2))
              have n_B4 := Aside0.mk (blk_touch B4.out hT (fun e => e.elim hgn.2.2.1.1 hgn.2.2.1.2))
              have n_B5 := Aside0.mk (blk_touch B5.out hT (fun e => e.elim hgn.2.2.2.1 hgn.2.2.2.2))
              have n_HB := Aside0.mk (HB.out.trans (hT.below HB.out.size (fun k hk => by rcases hk with rfl | rfl <;> omega)))
              clear HA B3 B4 B5 HB hgn
              have HA := Aside0.mk hA
              have B3 := n_B3
              have B4 := n_B4
              have B5 := n_B5
              have HB := n_HB
              clear n_B3 n_B4 n_B5 n_HB hA hT
              refine hK.out _ _ ⟨((blk_cell B5.out 0).trans rfl), ((blk_cell B5.out 1).trans rfl), ((blk_cell B4.out 3).trans rfl)⟩ (fun hHeld => ?_)
              clear hK K
              refine norm_ (a' := ?_) ?_ ?_
              rotate_left
              · show Act.put _ (some 127) _ = _
                simp only [Act.put, List.setIfInBounds_toArray, List.set_cons_zero, List.set_cons_succ, i64_w, i32_w]
                rfl
              refine pure_ (i := 24) (N := some 131) (v := ?_) (a' := ?_) (wap_lb 27 33554431) rfl rfl (any_of HT_.out (by kernel_rfl)) (fun _ _ _ h => h) (Or.inl ⟨by rfl, ?_⟩) ?_ ?_; rotate_left
              · intro w'; go_simp; with_reducible rfl
              rotate_left
              · simp only [Act.put, List.setIfInBounds_toArray, List.set_cons_zero, List.set_cons_succ, i64_w, i32_w]; rfl
              refine pure_ (i := 25) (N := some 132) (v := ?_) (a' := ?_) (wap_lb 27 67108863) rfl rfl (any_of HT_.out (by kernel_rfl)) (fun _ _ _ h => h) (Or.inl ⟨by rfl, ?_⟩) ?_ ?_; rotate_left
              · intro w'; go_simp; with_reducible rfl
              rotate_left
              · simp only [Act.put, List.setIfInBounds_toArray, List.set_cons_zero, List.set_cons_succ, i64_w, i32_w]; rfl
              refine pure_ (i := 26) (N := some 6) (v := ?_) (a' := ?_) (wap_lb 27 134217727) rfl rfl (any_of HT_.out (by kernel_rfl)) (fun _ _ _ h => h) (Or.inl ⟨by rfl, ?_⟩) ?_ ?_; rotate_left
              · intro w'; go_simp; with_reducible rfl
              rotate_left
              · simp only [Act.put, List.setIfInBounds_toArray, List.set_cons_zero, List.set_cons_succ, i64_w, i32_w]; rfl
              refine done_ (done_of HT_.out (by kernel_rfl)) ?_
              go_wp2
              go_ret
              exact ⟨by first | rfl | (simp [*]; done), HB.out⟩
            · by_cases hd : i = xt
              · have q1 : (i == xt) = true := beq_iff_eq.mpr hd
                have q2 : (i != xt) = false := by rw [hd]; exact bne_self_eq_false _
                have HI := Aside0.mk (And.intro hlt hd)
                clear hd
                go_wp2_with (first | fail)
                go_roundg ((a0_0 - (i + 1)).toNat)
                case measure => have := HI.out; have := HK.out; have := HJ.out; omega
                case rel =>
                  have hj := HJ.out
                  have hi := HI.out
                  have hnb := HNB.out
                  exact ⟨i + 1, _, by rw [show wrap64 (i + 1) = i + 1 from by unfold wrap64; omega], ⟨by omega⟩, ⟨by omega⟩, HA, B3, B4, B5, HB⟩
              · have q1 : (i == xt) = false := beq_eq_false_iff_ne.mpr hd
                have q2 : (i != xt) = true := bne_iff_ne.mpr hd
                have HI := Aside0.mk (And.intro hlt hd)
                clear hd
                go_wp2_with (first | fail | (go_at_call 20; (with_reducible refine (FA1.out _ pw gc gw bk _ i HJ.out.1 HI.out.1 HI.out.2 HA.out).mono ?_); rintro e w12 ⟨st1, rfl, hA, hT⟩; have hgn := HGN.out; have n_B3 := Aside0.mk (blk_touch B3.out hT (fun e => e.elim hgn.2.1.1 hgn.2.1.2)); have n_B4 := Aside0.mk (blk_touch B4.out hT (fun e => e.elim hgn.2.2.1.1 hgn.2.2.1.2)); have n_B5 := Aside0.mk (blk_touch B5.out hT (fun e => e.elim hgn.2.2.2.1 hgn.2.2.2.2)); have n_HB := Aside0.mk (HB.out.trans (hT.below HB.out.size (fun k hk => by rcases hk with rfl | rfl <;> omega))); clear HA B3 B4 B5 HB hgn; clear c3_0 c3_1 c3_2 c3_3 c3_4; clear c4_0 c4_1 c4_2 c4_3; clear c5_0 c5_1; have HA := Aside0.mk hA; have B3 := n_B3; have B4 := n_B4; have B5 := n_B5; have HB := n_HB; clear n_B3 n_B4 n_B5 n_HB hA hT; have c3_0 : w12.cell? ⟨g3, 0, none⟩ = some (.int .i64 a0_0) := (blk_cell B3.out 0).trans rfl; have c3_1 : w12.cell? ⟨g3, 1, none⟩ = some (.int .i64 a0_1) := (blk_cell B3.out 1).trans rfl; have c3_2 : w12.cell? ⟨g3, 2, none⟩ = some (.int .i64 a0_2) := (blk_cell B3.out 2).trans rfl; have c3_3 : w12.cell? ⟨g3, 3, none⟩ = some (.int .i64 a0_3) := (blk_cell B3.out 3).trans rfl; have c3_4 : w12.cell? ⟨g3, 4, none⟩ = some (.int .i64 a0_4) := (blk_cell B3.out 4).trans rfl; have c4_0 : w12.cell? ⟨g4, 0, none⟩ = some (.int .u8 a1_0) := (blk_cell B4.out 0).trans rfl; have c4_1 : w12.cell? ⟨g4, 1, none⟩ = some (.int .u8 a1_1) := (blk_cell B4.out 1).trans rfl; have c4_2 : w12.cell? ⟨g4, 2, none⟩ = some (.int .u8 a1_2) := (blk_cell B4.out 2).trans rfl; have c4_3 : w12.cell? ⟨g4, 3, none⟩ = some (.int .u8 a1_3) := (blk_cell B4.out 3).trans rfl; have c5_0 : w12.cell? ⟨g5, 0, none⟩ = some (.int .u64 a2_0) := (blk_cell B5.out 0).trans rfl; have c5_1 : w12.cell? ⟨g5, 1, none⟩ = some (.int .u64 a2_1) := (blk_cell B5.out 1).trans rfl; skip))
                go_roundg ((a0_0 - (i + 1)).toNat)
                case measure => have := HI.out; have := HK.out; have := HJ.out; omega
                case rel =>
                  have hj := HJ.out
                  have hi := HI.out
                  have hnb := HNB.out
                  exact ⟨i + 1, _, by rw [show wrap64 (i + 1) = i + 1 from by unfold wrap64; omega], ⟨by omega⟩, ⟨by omega⟩, HA, B3, B4, B5, HB⟩
        · by_cases hd : i = xo
          · have q1 : (i == xo) = true := beq_iff_eq.mpr hd
            have q2 : (i != xo) = false := by rw [hd]; exact bne_self_eq_false _
            have HI := Aside0.mk (And.intro hlt hd)
            clear hd
            go_wp2_with (first | (go_at_call 13; (with_reducible refine (HOp.out _).mono ?_); rintro e w9 ⟨rfl, hbk⟩; clear c3_0 c3_1 c3_2 c3_3 c3_4; clear c4_0 c4_1 c4_2 c4_3; clear c5_0 c5_1; have n_HA := Aside0.mk (HA.out.below hbk); have n_B3 := Aside0.mk (blk_below B3.out hbk); have n_B4 := Aside0.mk (blk_below B4.out hbk); have n_B5 := Aside0.mk (blk_below B5.out hbk); have n_HB := Aside0.mk (below_step HB.out hbk); clear HA B3 B4 B5 HB; have HA := n_HA; have B3 := n_B3; have B4 := n_B4; have B5 := n_B5; have HB := n_HB; clear n_HA n_B3 n_B4 n_B5 n_HB; have c3_0 : w9.cell? ⟨g3, 0, none⟩ = some (.int .i64 a0_0) := (blk_cell B3.out 0).trans rfl; have c3_1 : w9.cell? ⟨g3, 1, none⟩ = some (.int .i64 a0_1) := (blk_cell B3.out 1).trans rfl; have c3_2 : w9.cell? ⟨g3, 2, none⟩ = some (.int .i64 a0_2) := (blk_cell B3.out 2).trans rfl; have c3_3 : w9.cell? ⟨g3, 3, none⟩ = some (.int .i64 a0_3) := (blk_cell B3.out 3).trans rfl; have c3_4 : w9.cell? ⟨g3, 4, none⟩ = some (.int .i64 a0_4) := (blk_cell B3.out 4).trans rfl; have c4_0 : w9.cell? ⟨g4, 0, none⟩ = some (.int .u8 a1_0) := (blk_cell B4.out 0).trans rfl; have c4_1 : w9.cell? ⟨g4, 1, none⟩ = some (.int .u8 a1_1) := (blk_cell B4.out 1).trans rfl; have c4_2 : w9.cell? ⟨g4, 2, none⟩ = some (.int .u8 a1_2) := (blk_cell B4.out 2).trans rfl; have c4_3 : w9.cell? ⟨g4, 3, none⟩ = some (.int .u8 a1_3) := (blk_cell B4.out 3).trans rfl; have c5_0 : w9.cell? ⟨g5, 0, none⟩ = some (.int .u64 a2_0) := (blk_cell B5.out 0).trans rfl; have c5_1 : w9.cell? ⟨g5, 1, none⟩ = some (.int .u64 a2_1) := (blk_cell B5.out 1).trans rfl; clear hbk))
            go_roundg ((OO - (i + 1)).toNat)
            case measure => have := HI.out; have := HK.out; have := HJ.out; omega
            case rel =>
              have hj := HJ.out
              have hi := HI.out
              have hnb := HNB.out
              exact ⟨i + 1, _, by rw [show wrap64 (i + 1) = i + 1 from by unfold wrap64; omega], ⟨by omega⟩, ⟨by omega⟩, HA, B3, B4, B5, HB⟩
          · have q1 : (i == xo) = false := beq_eq_false_iff_ne.mpr hd
            have q2 : (i != xo) = true := bne_iff_ne.mpr hd
            have HI := Aside0.mk (And.intro hlt hd)
            clear hd
            go_wp2_with (first | (go_at_call 13; (with_reducible refine (HOp.out _).mono ?_); rintro e w9 ⟨rfl, hbk⟩; clear c3_0 c3_1 c3_2 c3_3 c3_4; clear c4_0 c4_1 c4_2 c4_3; clear c5_0 c5_1; have n_HA := Aside0.mk (HA.out.below hbk); have n_B3 := Aside0.mk (blk_below B3.out hbk); have n_B4 := Aside0.mk (blk_below B4.out hbk); have n_B5 := Aside0.mk (blk_below B5.out hbk); have n_HB := Aside0.mk (below_step HB.out hbk); clear HA B3 B4 B5 HB; have HA := n_HA; have B3 := n_B3; have B4 := n_B4; have B5 := n_B5; have HB := n_HB; clear n_HA n_B3 n_B4 n_B5 n_HB; have c3_0 : w9.cell? ⟨g3, 0, none⟩ = some (.int .i64 a0_0) := (blk_cell B3.out 0).trans rfl; have c3_1 : w9.cell? ⟨g3, 1, none⟩ = some (.int .i64 a0_1) := (blk_cell B3.out 1).trans rfl; have c3_2 : w9.cell? ⟨g3, 2, none⟩ = some (.int .i64 a0_2) := (blk_cell B3.out 2).trans rfl; have c3_3 : w9.cell? ⟨g3, 3, none⟩ = some (.int .i64 a0_3) := (blk_cell B3.out 3).trans rfl; have c3_4 : w9.cell? ⟨g3, 4, none⟩ = some (.int .i64 a0_4) := (blk_cell B3.out 4).trans rfl; have c4_0 : w9.cell? ⟨g4, 0, none⟩ = some (.int .u8 a1_0) := (blk_cell B4.out 0).trans rfl; have c4_1 : w9.cell? ⟨g4, 1, none⟩ = some (.int .u8 a1_1) := (blk_cell B4.out 1).trans rfl; have c4_2 : w9.cell? ⟨g4, 2, none⟩ = some (.int .u8 a1_2) := (blk_cell B4.out 2).trans rfl; have c4_3 : w9.cell? ⟨g4, 3, none⟩ = some (.int .u8 a1_3) := (blk_cell B4.out 3).trans rfl; have c5_0 : w9.cell? ⟨g5, 0, none⟩ = some (.int .u64 a2_0) := (blk_cell B5.out 0).trans rfl; have c5_1 : w9.cell? ⟨g5, 1, none⟩ = some (.int .u64 a2_1) := (blk_cell B5.out 1).trans rfl; clear hbk) | (go_at_call 19; (with_reducible refine (FW1.out _ pw gc gw bk _ i HJ.out.1 HI.out.1 HI.out.2 HA.out).mono ?_); rintro e w11 ⟨st1, rfl, hA, hT⟩; have hgn := HGN.out; have n_B3 := Aside0.mk (blk_touch B3.out hT (fun e => e.elim hgn.2.1.1 hgn.2.1.2)); have n_B4 := Aside0.mk (blk_touch B4.out hT (fun e => e.elim hgn.2.2.1.1 hgn.2.2.1.2)); have n_B5 := Aside0.mk (blk_touch B5.out hT (fun e => e.elim hgn.2.2.2.1 hgn.2.2.2.2)); have n_HB := Aside0.mk (HB.out.trans (hT.below HB.out.size (fun k hk => by rcases hk with rfl | rfl <;> omega))); clear HA B3 B4 B5 HB hgn; clear c3_0 c3_1 c3_2 c3_3 c3_4; clear c4_0 c4_1 c4_2 c4_3; clear c5_0 c5_1; have HA := Aside0.mk hA; have B3 := n_B3; have B4 := n_B4; have B5 := n_B5; have HB := n_HB; clear n_B3 n_B4 n_B5 n_HB hA hT; have c3_0 : w11.cell? ⟨g3, 0, none⟩ = some (.int .i64 a0_0) := (blk_cell B3.out 0).trans rfl; have c3_1 : w11.cell? ⟨g3, 1, none⟩ = some (.int .i64 a0_1) := (blk_cell B3.out 1).trans rfl; have c3_2 : w11.cell? ⟨g3, 2, none⟩ = some (.int .i64 a0_2) := (blk_cell B3.out 2).trans rfl; have c3_3 : w11.cell? ⟨g3, 3, none⟩ = some (.int .i64 a0_3) := (blk_cell B3.out 3).trans rfl; have c3_4 : w11.cell? ⟨g3, 4, none⟩ = some (.int .i64 a0_4) := (blk_cell B3.out 4).trans rfl; have c4_0 : w11.cell? ⟨g4, 0, none⟩ = some (.int .u8 a1_0) := (blk_cell B4.out 0).trans rfl; have c4_1 : w11.cell? ⟨g4, 1, none⟩ = some (.int .u8 a1_1) := (blk_cell B4.out 1).trans rfl; have c4_2 : w11.cell? ⟨g4, 2, none⟩ = some (.int .u8 a1_2) := (blk_cell B4.out 2).trans rfl; have c4_3 : w11.cell? ⟨g4, 3, none⟩ = some (.int .u8 a1_3) := (blk_cell B4.out 3).trans rfl; have c5_0 : w11.cell? ⟨g5, 0, none⟩ = some (.int .u64 a2_0) := (blk_cell B5.out 0).trans rfl; have c5_1 : w11.cell? ⟨g5, 1, none⟩ = some (.int .u64 a2_1) := (blk_cell B5.out 1).trans rfl; skip))
            go_roundg ((OO - (i + 1)).toNat)
            case measure => have := HI.out; have := HK.out; have := HJ.out; omega
            case rel =>
              have hj := HJ.out
              have hi := HI.out
              have hnb := HNB.out
              exact ⟨i + 1, _, by rw [show wrap64 (i + 1) = i + 1 from by unfold wrap64; omega], ⟨by omega⟩, ⟨by omega⟩, HA, B3, B4, B5, HB⟩
    · by_cases hd : i = xn
      · have q1 : (i == xn) = true := beq_iff_eq.mpr hd
        have q2 : (i != xn) = false := by rw [hd]; exact bne_self_eq_false _
        have HI := Aside0.mk (And.intro hlt hd)
        clear hd
        go_wp2_with (first | (go_at_call 12; (with_reducible refine (HNd.out _).mono ?_); rintro e w8 ⟨rfl, hbk⟩; clear c3_0 c3_1 c3_2 c3_3 c3_4; clear c4_0 c4_1 c4_2 c4_3; clear c5_0 c5_1; have n_HA := Aside0.mk (HA.out.below hbk); have n_B3 := Aside0.mk (blk_below B3.out hbk); have n_B4 := Aside0.mk (blk_below B4.out hbk); have n_B5 := Aside0.mk (blk_below B5.out hbk); have n_HB := Aside0.mk (below_step HB.out hbk); clear HA B3 B4 B5 HB; have HA := n_HA; have B3 := n_B3; have B4 := n_B4; have B5 := n_B5; have HB := n_HB; clear n_HA n_B3 n_B4 n_B5 n_HB; have c3_0 : w8.cell? ⟨g3, 0, none⟩ = some (.int .i64 a0_0) := (blk_cell B3.out 0).trans rfl; have c3_1 : w8.cell? ⟨g3, 1, none⟩ = some (.int .i64 a0_1) := (blk_cell B3.out 1).trans rfl; have c3_2 : w8.cell? ⟨g3, 2, none⟩ = some (.int .i64 a0_2) := (blk_cell B3.out 2).trans rfl; have c3_3 : w8.cell? ⟨g3, 3, none⟩ = some (.int .i64 a0_3) := (blk_cell B3.out 3).trans rfl; have c3_4 : w8.cell? ⟨g3, 4, none⟩ = some (.int .i64 a0_4) := (blk_cell B3.out 4).trans rfl; have c4_0 : w8.cell? ⟨g4, 0, none⟩ = some (.int .u8 a1_0) := (blk_cell B4.out 0).trans rfl; have c4_1 : w8.cell? ⟨g4, 1, none⟩ = some (.int .u8 a1_1) := (blk_cell B4.out 1).trans rfl; have c4_2 : w8.cell? ⟨g4, 2, none⟩ = some (.int .u8 a1_2) := (blk_cell B4.out 2).trans rfl; have c4_3 : w8.cell? ⟨g4, 3, none⟩ = some (.int .u8 a1_3) := (blk_cell B4.out 3).trans rfl; have c5_0 : w8.cell? ⟨g5, 0, none⟩ = some (.int .u64 a2_0) := (blk_cell B5.out 0).trans rfl; have c5_1 : w8.cell? ⟨g5, 1, none⟩ = some (.int .u64 a2_1) := (blk_cell B5.out 1).trans rfl; clear hbk))
        go_roundg ((NN - (i + 1)).toNat)
        case measure => have := HI.out; have := HK.out; have := HJ.out; omega
        case rel =>
          have hj := HJ.out
          have hi := HI.out
          have hnb := HNB.out
          exact ⟨i + 1, _, by rw [show wrap64 (i + 1) = i + 1 from by unfold wrap64; omega], ⟨by omega⟩, ⟨by omega⟩, HA, B3, B4, B5, HB⟩
      · have q1 : (i == xn) = false := beq_eq_false_iff_ne.mpr hd
        have q2 : (i != xn) = true := bne_iff_ne.mpr hd
        have HI := Aside0.mk (And.intro hlt hd)
        clear hd
        go_wp2_with (first | (go_at_call 12; (with_reducible refine (HNd.out _).mono ?_); rintro e w8 ⟨rfl, hbk⟩; clear c3_0 c3_1 c3_2 c3_3 c3_4; clear c4_0 c4_1 c4_2 c4_3; clear c5_0 c5_1; have n_HA := Aside0.mk (HA.out.below hbk); have n_B3 := Aside0.mk (blk_below B3.out hbk); have n_B4 := Aside0.mk (blk_below B4.out hbk); have n_B5 := Aside0.mk (blk_below B5.out hbk); have n_HB := Aside0.mk (below_step HB.out hbk); clear HA B3 B4 B5 HB; have HA := n_HA; have B3 := n_B3; have B4 := n_B4; have B5 := n_B5; have HB := n_HB; clear n_HA n_B3 n_B4 n_B5 n_HB; have c3_0 : w8.cell? ⟨g3, 0, none⟩ = some (.int .i64 a0_0) := (blk_cell B3.out 0).trans rfl; have c3_1 : w8.cell? ⟨g3, 1, none⟩ = some (.int .i64 a0_1) := (blk_cell B3.out 1).trans rfl; have c3_2 : w8.cell? ⟨g3, 2, none⟩ = some (.int .i64 a0_2) := (blk_cell B3.out 2).trans rfl; have c3_3 : w8.cell? ⟨g3, 3, none⟩ = some (.int .i64 a0_3) := (blk_cell B3.out 3).trans rfl; have c3_4 : w8.cell? ⟨g3, 4, none⟩ = some (.int .i64 a0_4) := (blk_cell B3.out 4).trans rfl; have c4_0 : w8.cell? ⟨g4, 0, none⟩ = some (.int .u8 a1_0) := (blk_cell B4.out 0).trans rfl; have c4_1 : w8.cell? ⟨g4, 1, none⟩ = some (.int .u8 a1_1) := (blk_cell B4.out 1).trans rfl; have c4_2 : w8.cell? ⟨g4, 2, none⟩ = some (.int .u8 a1_2) := (blk_cell B4.out 2).trans rfl; have c4_3 : w8.cell? ⟨g4, 3, none⟩ = some (.int .u8 a1_3) := (blk_cell B4.out 3).trans rfl; have c5_0 : w8.cell? ⟨g5, 0, none⟩ = some (.int .u64 a2_0) := (blk_cell B5.out 0).trans rfl; have c5_1 : w8.cell? ⟨g5, 1, none⟩ = some (.int .u64 a2_1) := (blk_cell B5.out 1).trans rfl; clear hbk) | (go_at_call 18; (with_reducible refine (FN1.out _ pw gc gw bk _ i HJ.out.1 HI.out.1 HI.out.2 HA.out).mono ?_); rintro e w10 ⟨st1, rfl, hA, hT⟩; have hgn := HGN.out; have n_B3 := Aside0.mk (blk_touch B3.out hT (fun e => e.elim hgn.2.1.1 hgn.2.1.2)); have n_B4 := Aside0.mk (blk_touch B4.out hT (fun e => e.elim hgn.2.2.1.1 hgn.2.2.1.2)); have n_B5 := Aside0.mk (blk_touch B5.out hT (fun e => e.elim hgn.2.2.2.1 hgn.2.2.2.2)); have n_HB := Aside0.mk (HB.out.trans (hT.below HB.out.size (fun k hk => by rcases hk with rfl | rfl <;> omega))); clear HA B3 B4 B5 HB hgn; clear c3_0 c3_1 c3_2 c3_3 c3_4; clear c4_0 c4_1 c4_2 c4_3; clear c5_0 c5_1; have HA := Aside0.mk hA; have B3 := n_B3; have B4 := n_B4; have B5 := n_B5; have HB := n_HB; clear n_B3 n_B4 n_B5 n_HB hA hT; have c3_0 : w10.cell? ⟨g3, 0, none⟩ = some (.int .i64 a0_0) := (blk_cell B3.out 0).trans rfl; have c3_1 : w10.cell? ⟨g3, 1, none⟩ = some (.int .i64 a0_1) := (blk_cell B3.out 1).trans rfl; have c3_2 : w10.cell? ⟨g3, 2, none⟩ = some (.int .i64 a0_2) := (blk_cell B3.out 2).trans rfl; have c3_3 : w10.cell? ⟨g3, 3, none⟩ = some (.int .i64 a0_3) := (blk_cell B3.out 3).trans rfl; have c3_4 : w10.cell? ⟨g3, 4, none⟩ = some (.int .i64 a0_4) := (blk_cell B3.out 4).trans rfl; have c4_0 : w10.cell? ⟨g4, 0, none⟩ = some (.int .u8 a1_0) := (blk_cell B4.out 0).trans rfl; have c4_1 : w10.cell? ⟨g4, 1, none⟩ = some (.int .u8 a1_1) := (blk_cell B4.out 1).trans rfl; have c4_2 : w10.cell? ⟨g4, 2, none⟩ = some (.int .u8 a1_2) := (blk_cell B4.out 2).trans rfl; have c4_3 : w10.cell? ⟨g4, 3, none⟩ = some (.int .u8 a1_3) := (blk_cell B4.out 3).trans rfl; have c5_0 : w10.cell? ⟨g5, 0, none⟩ = some (.int .u64 a2_0) := (blk_cell B5.out 0).trans rfl; have c5_1 : w10.cell? ⟨g5, 1, none⟩ = some (.int .u64 a2_1) := (blk_cell B5.out 1).trans rfl; skip))
        go_roundg ((NN - (i + 1)).toNat)
        case measure => have := HI.out; have := HK.out; have := HJ.out; omega
        case rel =>
          have hj := HJ.out
          have hi := HI.out
          have hnb := HNB.out
          exact ⟨i + 1, _, by rw [show wrap64 (i + 1) = i + 1 from by unfold wrap64; omega], ⟨by omega⟩, ⟨by omega⟩, HA, B3, B4, B5, HB⟩


end Go.Proofs.Ytpcmoclohepdiag.PWorldApart
