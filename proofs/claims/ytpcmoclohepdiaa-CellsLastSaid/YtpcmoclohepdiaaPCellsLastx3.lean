-- Written by a program of this session: a variant of the print that takes proofs by hand (wip/tools/mkprint.py)
import Derived.Test.YtpcmoclohepdiaaPCellsLastx0
import Derived.Test.YtpcmoclohepdiaaPCellsLastx1
import Derived.Test.YtpcmoclohepdiaaPCellsLastx2
namespace Go.Proofs.Ytpcmoclohepdiaa.PCellsLast
open Go.RowKit Go.Proofs.YtpcmoclohepdiaaW.PrintWords Go.Proofs.YtpcmoclohepdiaaW.PrintLast Go.Proofs.YtpcmoclohepdiaaW.PrintMore
attribute [local go_sem] max2_int min2_int max_two min_two max_three min_three max_four min_four   -- for this text's walks alone
set_option linter.unusedVariables false
set_option linter.unusedSimpArgs false

/-! ### corrielaw06_CellsLast: function 5 (by hand) -/
theorem cel_field (a : Option Addr) (n c : Nat) (s : Int) (w : World) : (Instr.field 27 (.agg #[.slice a n c, .int .i64 s]) 0).run Try.prog w = .ok (.slice a n c) w := by kernel_rfl
theorem cel_refnew (a0 : Int) : corrieref06_New.f a0 = some (List.replicate (cNew a0) 0, 0) := by
  unfold corrieref06_New.f cNew
  by_cases h1 : a0 < 0
  · rw [if_pos h1, if_pos (.inl h1)]
    rfl
  · by_cases h2 : a0 > 1048576
    · rw [if_neg h1, if_pos h2, if_pos (.inr h2)]
      rfl
    · rw [if_neg h1, if_neg h2, if_pos (by omega), if_pos (by omega), if_neg (by omega)]
theorem cel_zero (n : Nat) (at_ : Int) : cRd (List.replicate n 0) at_ = 0 := by
  unfold cRd
  split
  · simp only [List.getD, List.getElem?_replicate]
    split <;> rfl
  · rfl
def dV (ws : List Int) (a0 a1 : Int) : Int := if Int.tmod a0 4 = 0 then cRd ws a1 else if Int.tmod a0 4 = 1 then 0 else if Int.tmod a0 4 = 2 then 0 else cRd ws a1
def dB (ws : List Int) (a0 a1 a2 : Int) : Bool := if Int.tmod a0 4 = 2 then cSwB ws a1 a2 else false
def dW (ws : List Int) (a0 a1 a2 a3 : Int) : List Int := if Int.tmod a0 4 = 1 then cPutW ws a1 a3 else if Int.tmod a0 4 = 2 then cSwW ws a1 a2 a3 else ws
def dSt (ws : List Int) (st a0 a1 : Int) : Int := if Int.tmod a0 4 = 0 then cSt ws st a1 else if Int.tmod a0 4 = 1 then cSt ws st a1 else if Int.tmod a0 4 = 2 then cSt ws st a1 else st
set_option maxHeartbeats 8000000 in
set_option maxRecDepth 100000 in
theorem cel_do (gc gw : Nat) (ws : List Int) (st : Int) (a0 a1 a2 a3 : Int) (W : World) (h : CellsAt W gc gw ws st) :
    Calls Try.prog 19 #[.pointer (some ⟨gc, 0, none⟩), .agg #[.int .u8 a0, .int .i64 a1, .int .u64 a2, .int .u64 a3]] W fun e w' => e = .returned (.tuple #[.int .u64 (dV ws a0 a1), .bool (dB ws a0 a1 a2)]) ∧ CellsAt w' gc gw (dW ws a0 a1 a2 a3) (dSt ws st a0 a1) ∧ Touch (fun k => k = gc ∨ k = gw) W w' := by
  by_cases q0 : Int.tmod a0 4 = 0
  · have b0 : (Int.tmod a0 4 == 0) = true := beq_iff_eq.mpr q0
    have n1 : ¬ Int.tmod a0 4 = 1 := by omega
    have n2 : ¬ Int.tmod a0 4 = 2 := by omega
    unfold dV dB dW dSt
    rw [if_pos q0, if_neg n2, if_neg n1, if_neg n2, if_pos q0]
    clear q0 n1 n2
    go_enter Try.func19, Try.ntmps19
    go_wp2_with (first | (go_at_call 15; (with_reducible refine (cel_Load gc gw ws st a1 _ (h.below (below_alloc (Below.refl _ _) _))).mono ?_); rintro e w1 ⟨rfl, hA, hT⟩; have HA := Aside0.mk hA; have HT := Aside0.mk (((Touch.refl (fun k => k = gc ∨ k = gw) W).alloc _).trans hT); clear hA hT))
    go_ret2
    exact ⟨by first | rfl | (simp; done), HA.out, HT.out⟩
  · have b0 : (Int.tmod a0 4 == 0) = false := beq_eq_false_iff_ne.mpr q0
    by_cases q1 : Int.tmod a0 4 = 1
    · have b1 : (Int.tmod a0 4 == 1) = true := beq_iff_eq.mpr q1
      have n2 : ¬ Int.tmod a0 4 = 2 := by omega
      unfold dV dB dW dSt
      rw [if_neg q0, if_pos q1, if_neg n2, if_pos q1, if_neg q0, if_pos q1]
      clear q0 q1 n2
      go_enter Try.func19, Try.ntmps19
      go_wp2_with (first | (go_at_call 18; (with_reducible refine (cel_Store gc gw ws st a1 a3 _ (h.below (below_alloc (Below.refl _ _) _))).mono ?_); rintro e w1 ⟨rfl, hA, hT⟩; have HA := Aside0.mk hA; have HT := Aside0.mk (((Touch.refl (fun k => k = gc ∨ k = gw) W).alloc _).trans hT); clear hA hT))
      go_ret2
      exact ⟨by first | rfl | (simp; done), HA.out, HT.out⟩
    · have b1 : (Int.tmod a0 4 == 1) = false := beq_eq_false_iff_ne.mpr q1
      by_cases q2 : Int.tmod a0 4 = 2
      · have b2 : (Int.tmod a0 4 == 2) = true := beq_iff_eq.mpr q2
        unfold dV dB dW dSt
        rw [if_neg q0, if_neg q1, if_pos q2, if_pos q2, if_neg q1, if_pos q2, if_neg q0, if_neg q1, if_pos q2]
        clear q0 q1 q2
        go_enter Try.func19, Try.ntmps19
        go_wp2_with (first | (go_at_call 17; (with_reducible refine (cel_Swap gc gw ws st a1 a2 a3 _ (h.below (below_alloc (Below.refl _ _) _))).mono ?_); rintro e w1 ⟨rfl, hA, hT⟩; have HA := Aside0.mk hA; have HT := Aside0.mk (((Touch.refl (fun k => k = gc ∨ k = gw) W).alloc _).trans hT); clear hA hT))
        go_ret2
        exact ⟨by first | rfl | (simp; done), HA.out, HT.out⟩
      · have b2 : (Int.tmod a0 4 == 2) = false := beq_eq_false_iff_ne.mpr q2
        unfold dV dB dW dSt
        rw [if_neg q0, if_neg q1, if_neg q2, if_neg q2, if_neg q1, if_neg q2, if_neg q0, if_neg q1, if_neg q2]
        clear q0 q1 q2
        have HA := Aside0.mk (h.below (below_alloc (Below.refl W.heap.size W) (.cells #[.int .u8 a0, .int .i64 a1, .int .u64 a2, .int .u64 a3] 47)))
        have HT := Aside0.mk ((Touch.refl (fun k => k = gc ∨ k = gw) W).alloc (.cells #[.int .u8 a0, .int .i64 a1, .int .u64 a2, .int .u64 a3] 47))
        go_enter Try.func19, Try.ntmps19
        go_wp2_with (first | (go_at_call 10; (with_reducible refine (cel_Peek gc gw ws st a1 _ (h.below (below_alloc (Below.refl _ _) _))).mono ?_); rintro e w1 ⟨rfl, rfl⟩))
        go_ret2
        exact ⟨by first | rfl | (simp; done), HA.out, HT.out⟩
theorem rd_getD (ws : List Int) (i : Int) : rd ws i = ws.getD i.toNat 0 := rfl
theorem cel_rload (ws : List Int) (st a1 : Int) : corrieref06_Load.f ws st a1 = some (ws, cSt ws st a1, cRd ws a1) := by
  unfold corrieref06_Load.f cSt cRd cInb
  by_cases h1 : a1 < 0
  · rw [if_pos h1]; simp; omega
  · by_cases h2 : a1 ≥ (ws.length : Int)
    · rw [if_neg h1, if_pos h2]; simp; omega
    · rw [if_neg h1, if_neg h2, if_pos (by omega), if_pos (by omega), if_pos (decide_eq_true (by omega)), if_pos (decide_eq_true (by omega))]; rfl
theorem cel_rpeek (ws : List Int) (st a1 : Int) : corrieref06_Peek.f ws st a1 = some (cRd ws a1) := by
  unfold corrieref06_Peek.f cRd cInb
  by_cases h1 : a1 < 0
  · rw [if_pos h1]; simp; omega
  · by_cases h2 : a1 ≥ (ws.length : Int)
    · rw [if_neg h1, if_pos h2]; simp; omega
    · rw [if_neg h1, if_neg h2, if_pos (by omega), if_pos (by omega), if_pos (decide_eq_true (by omega))]; rfl
theorem cel_rstore (ws : List Int) (hl : ws.length ≤ 1000000) (st a1 a3 : Int) : corrieref06_Store.f ws st a1 a3 = some (cPutW ws a1 a3, cSt ws st a1) := by
  unfold corrieref06_Store.f cPutW cSt cInb
  by_cases h1 : a1 < 0
  · rw [if_pos h1]; simp; omega
  · by_cases h2 : a1 ≥ (ws.length : Int)
    · rw [if_neg h1, if_pos h2]; simp; omega
    · rw [if_neg h1, if_neg h2, if_pos (decide_eq_true (by omega)), if_pos (decide_eq_true (by omega))]
      simp only [Option.bind_some, List.length_nil, List.nil_append, Nat.zero_add]
      rw [if_pos (by omega)]
      rw [if_pos (by omega), if_pos (by omega)]
theorem cel_rswap (ws : List Int) (hl : ws.length ≤ 1000000) (st a1 a2 a3 : Int) : corrieref06_Swap.f 1 ws st a1 a2 a3 = some (cSwW ws a1 a2 a3, cSt ws st a1, cSwB ws a1 a2) := by
  unfold corrieref06_Swap.f
  simp only [corrieref06_Swap.j0]
  by_cases h1 : a1 < 0
  · have q : cInb ws a1 = false := decide_eq_false (by omega)
    have e : cSwB ws a1 a2 = false := by unfold cSwB; rw [q]; rfl
    rw [if_pos h1, if_pos trivial]
    unfold cSwW cSt
    rw [e, q]
    rfl
  · rw [if_neg h1]
    by_cases h2 : a1 ≥ (ws.length : Int)
    · have q : cInb ws a1 = false := decide_eq_false (by omega)
      have e : cSwB ws a1 a2 = false := by unfold cSwB; rw [q]; rfl
      rw [if_pos (decide_eq_true h2)]
      unfold cSwW cSt
      rw [e, q]
      rfl
    · have q : cInb ws a1 = true := decide_eq_true (by omega)
      have e3 : cRd ws a1 = rd ws a1 := by unfold cRd; rw [q]; rfl
      rw [if_neg (by rw [decide_eq_false h2]; decide), if_pos (by omega), if_pos (by omega)]
      by_cases c : rd ws a1 = a2
      · have e : cSwB ws a1 a2 = true := by unfold cSwB; rw [q, e3, decide_eq_true c]; rfl
        rw [if_pos c, cel_rstore ws hl]
        unfold cSwW cPutW
        rw [e, q]
        rfl
      · have e : cSwB ws a1 a2 = false := by unfold cSwB; rw [q, e3, decide_eq_false c]; rfl
        rw [if_neg c]
        unfold cSwW cSt
        rw [e, q]
        rfl
theorem cel_rdo (ws : List Int) (hl : ws.length ≤ 1000000) (st a0 a1 a2 a3 : Int) : corrieref06_Do.f 1 ws st a0 a1 a2 a3 = some (dW ws a0 a1 a2 a3, dSt ws st a0 a1, dV ws a0 a1, dB ws a0 a1 a2) := by
  unfold corrieref06_Do.f dW dSt dV dB
  by_cases q0 : Int.tmod a0 4 = 0
  · have n1 : ¬ Int.tmod a0 4 = 1 := by omega
    have n2 : ¬ Int.tmod a0 4 = 2 := by omega
    simp only [if_pos q0, if_neg n1, if_neg n2, cel_rload, Option.bind_some]
  · by_cases q1 : Int.tmod a0 4 = 1
    · have n2 : ¬ Int.tmod a0 4 = 2 := by omega
      simp only [if_neg q0, if_pos q1, if_neg n2, cel_rstore ws hl, Option.bind_some]
    · by_cases q2 : Int.tmod a0 4 = 2
      · simp only [if_neg q0, if_neg q1, if_pos q2, cel_rswap ws hl, Option.bind_some]
      · simp only [if_neg q0, if_neg q1, if_neg q2, cel_rpeek, Option.bind_some]
theorem dW_len (ws : List Int) (a0 a1 a2 a3 : Int) : (dW ws a0 a1 a2 a3).length = ws.length := by
  unfold dW cPutW cSwW
  repeat' split
  all_goals simp
def crn_lb (n m : Nat) : Array Bool := ((List.range n).map (fun i => m.testBit i)).toArray
def cel_run.T7 : Bool × List (List Nat × List Nat) := (true, [([], []), ([], []), ([], []), ([1, 2], [1, 2]), ([3], [3]), ([0, 4], [0, 4]), ([5], [5]), ([6], [6]), ([6], [6]), ([6], [6]), ([], []), ([10, 7, 5, 0, 1, 2, 3, 4, 5, 6, 7, 10], [7, 10]), ([8, 11, 0, 1, 2, 3, 4, 5, 6, 7, 8, 10, 11], [8]), ([9, 12, 0, 1, 2, 3, 4, 5, 6, 7, 8, 9, 10, 11, 12], [9])])
def cel_run.B7 : List Nat := [0, 0, 0, 6, 14, 31, 63, 127, 127, 127, 0, 1279, 3583, 8191]
theorem cel_run.tab7 : rtab .any (opsOf Try.f9 7) = cel_run.T7 := by kernel_rfl
theorem cel_run.bits7 : waitsOk cel_run.T7.2 cel_run.B7 = true := by kernel_rfl
def cel_run.T9 : Bool × List (List Nat × List Nat) := (true, [([], []), ([], []), ([0, 1], [0, 1]), ([2], [2]), ([3], [3]), ([3], [3]), ([4, 5, 3], [3, 4, 5]), ([3, 6], [3, 6]), ([7, 3], [7]), ([8], [8]), ([9, 8, 8], [8, 9]), ([8], [8]), ([11, 8], [8, 11]), ([10, 12, 8], [8, 10, 12]), ([8, 13], [8, 13])])
def cel_run.B9 : List Nat := [0, 0, 3, 7, 15, 15, 63, 127, 255, 511, 1023, 511, 2559, 8191, 16383]
theorem cel_run.tab9 : rtab .any (opsOf Try.f9 9) = cel_run.T9 := by kernel_rfl
theorem cel_run.bits9 : waitsOk cel_run.T9.2 cel_run.B9 = true := by kernel_rfl
def cel_run.T11 : Bool × List (List Nat × List Nat) := (true, [([], []), ([], []), ([0, 0], [0]), ([1, 2, 0, 1, 2], [1]), ([3, 0, 1, 2, 3], [])])
def cel_run.B11 : List Nat := [0, 0, 1, 7, 15]
theorem cel_run.tab11 : rtab .any (opsOf Try.f9 11) = cel_run.T11 := by kernel_rfl
theorem cel_run.bits11 : waitsOk cel_run.T11.2 cel_run.B11 = true := by kernel_rfl
def cStep (s : List Int × Int) (a : S47) : List Int × Int := (dW s.1 a.f0 a.f1 a.f2 a.f3, dSt s.1 s.2 a.f0 a.f1)
def cRun (n : Nat) (l : List S47) : List Int × Int := l.foldl cStep (List.replicate n 0, 0)
theorem cRun_len (n : Nat) (l : List S47) : (cRun n l).1.length = n := by
  have key : ∀ (l : List S47) (s : List Int × Int), (l.foldl cStep s).1.length = s.1.length := by
    intro l
    induction l with
    | nil => intro s; rfl
    | cons a l ih => intro s; rw [List.foldl_cons, ih]; exact dW_len _ _ _ _ _
  unfold cRun
  rw [key, List.length_replicate]
theorem crn_tct {P : Program} {fn : Func} {t p u : Tmp} {ty : TypeId} (h : fn.results = #[.tmp t, .cell p ty, .tmp u]) (tmps : Array Value) (w : World) (g : Nat) (t0 : TypeId) (cs : Array Value) (fr : Nat × Nat) (d : TypeDesc)
    (hp : tmps.getD p undef = .pointer (some ⟨g, 0, none⟩)) (hg : w.heap[g]? = some (.cells cs t0 fr))
    (hu : P.underlying ty = some d) (hd : (match d with | .struct _ | .array _ _ => true | _ => false) = true) (hi : (P.info? ty).map (·.size) = some cs.size) :
    (results fn tmps).run P w = .ok (.tuple #[tmps.getD t undef, .agg cs, tmps.getD u undef]) w := by
  have hp' : tmps[p]?.getD undef = .pointer (some ⟨g, 0, none⟩) := by simpa using hp
  simp [results, h, hp', asAddr, run_loadVar_row w g t0 ty cs fr d hg hu hd hi]
set_option maxHeartbeats 8000000 in
set_option maxRecDepth 100000 in
theorem cel_run.law (A1 : Option Addr) (c1 : Nat) (l : List S47) (a0 : Int) (n : Nat) (W : World) (hr1 : Kd.C k47 W A1 l.length l) (hn : cNew (wrap64 (1 + (wrap64 a0).tmod 6)) = n) (hn6 : n ≤ 6) (hl : l.length ≤ 40) :
    Calls Try.prog 9 #[.int .u8 a0, .slice A1 l.length c1] W fun e w' => ∃ gc gw A c, e = .returned (.tuple #[.pointer (some ⟨gc, 0, none⟩), .agg #[.slice A n c, .int .i64 (cRun n l).2], .bool true]) ∧ CellsAt w' gc gw (cRun n l).1 (cRun n l).2 ∧ Kd.R (Kd.int .u64) 30 w' W.heap.size (fun k => k ≠ gc ∧ k ≠ gw) (.slice A n c) (cRun n l).1 ∧ W.heap.size ≤ gc ∧ W.heap.size ≤ gw ∧ Below W.heap.size W w' := by
  have HR1 := Aside0.mk hr1
  have HL := Aside0.mk hl
  have HN6 := Aside0.mk hn6
  have HB := Aside0.mk (Below.refl W.heap.size W)
  clear hr1 hl hn6
  have HN0 := Aside0.mk (show ∀ w : World, Calls Try.prog 13 #[.int .i64 (wrap64 (1 + (wrap64 a0).tmod 6))] w (fun e w' => ∃ gc gw, e = .returned (.pointer (some ⟨gc, 0, none⟩)) ∧ CellsAt w' gc gw (List.replicate n 0) 0 ∧ w.heap.size ≤ gw ∧ w.heap.size ≤ gc ∧ Below w.heap.size w w') from fun w => by rw [← hn]; exact cel_New _ w)
  have HR0 := Aside0.mk (show ∀ w : World, Calls Try.prog 14 #[.int .i64 (wrap64 (1 + (wrap64 a0).tmod 6))] w (fun e w' => ∃ A c, e = .returned (.agg #[.slice A n c, .int .i64 0]) ∧ Kd.R (Kd.int .u64) 30 w' w.heap.size (fun k => w.heap.size ≤ k ∧ k < w'.heap.size) (.slice A n c) (List.replicate n 0) ∧ Below w.heap.size w w') from fun w => (corrieref06_New.calls _ _ _ w (cel_refnew _)).mono (fun e w' h => by
    obtain ⟨v0, rfl, hR, hb⟩ := h
    rw [hn] at hR
    obtain ⟨A, c, rfl, _, _⟩ := Kd.R_reads hR
    rw [List.length_replicate] at *
    exact ⟨A, c, rfl, Kd.R_mono (Kd.R_bound hR) (fun k hk => ⟨hk.2.1, hk.2.2.1⟩), hb⟩))
  clear hn
  go_enter Try.func9, Try.ntmps9
  go_wp2_with (first | (go_at_call 13; (with_reducible refine (HN0.out _).mono ?_); rintro e w1 ⟨gc, gw, rfl, hA, hg1, hg2, hb⟩; have HC := Aside0.mk hA; have B5 := Aside0.mk (blk_below (g := W.heap.size) (o := .cells #[.slice none 0 0, .int .i64 0] 27 (0, 0)) (blk_new W _) hb); have HG := Aside0.mk (show W.heap.size + 1 ≤ gc ∧ W.heap.size + 1 ≤ gw from by simp at hg1 hg2; omega); clear HB; have HB := Aside0.mk (below_step (below_alloc (Below.refl W.heap.size W) _) hb); clear hA hg1 hg2 hb) | (go_at_call 14; (with_reducible refine (HR0.out _).mono ?_); rintro e w2 ⟨A, c, rfl, hR, hb⟩; have HRR := Aside0.mk hR; have HLT := Aside0.mk (show gc < w1.heap.size ∧ gw < w1.heap.size ∧ W.heap.size < w1.heap.size ∧ w1.heap.size ≤ w2.heap.size from ⟨HC.out.lt.1, HC.out.lt.2, blk_lt B5.out, hb.size⟩); have n_ := Aside0.mk (HC.out.below hb); clear HC; have HC := n_; clear n_; have n_ := Aside0.mk (blk_below (g := W.heap.size) (o := .cells #[.slice none 0 0, .int .i64 0] 27 (0, 0)) B5.out hb); clear B5; have B5 := n_; clear n_; have n_ := Aside0.mk (below_step HB.out hb); clear HB hR hb; have HB := n_; clear n_))
  have HD := Aside0.mk (show w2.heap.size ≠ gc ∧ w2.heap.size ≠ gw ∧ W.heap.size ≠ gc ∧ W.heap.size ≠ gw ∧ W.heap.size ≠ w2.heap.size from by have := HLT.out; have := HG.out; omega)
  have HN8 := Aside0.mk (show W.heap.size ≤ w2.heap.size from by have := HLT.out; have := HG.out; omega)
  go_loopg [9] l.length (fun kq v9 wr => ∃ (i : Nat) (ws : List Int) (st : Int) (Av : Option Addr) (cv : Nat), v9 = .int .i64 i ∧ Aside0 (i ≤ l.length) ∧ Aside0 (l.length - i ≤ kq) ∧ Aside0 (cRun n (l.take i) = (ws, st)) ∧ Aside0 (ws.length = n) ∧ Aside0 (CellsAt wr gc gw ws st) ∧ Aside0 (wr.heap[w2.heap.size]? = some (.cells #[.slice Av n cv, .int .i64 st] 27 (0, 0))) ∧ Aside0 (wr.heap[W.heap.size]? = some (.cells #[.slice none 0 0, .int .i64 0] 27 (0, 0))) ∧ Aside0 (Kd.R (Kd.int .u64) 30 wr W.heap.size (fun k => (k ≠ gc ∧ k ≠ gw ∧ k ≠ W.heap.size ∧ k ≠ w2.heap.size)) (.slice Av n cv) ws) ∧ Aside0 (Below W.heap.size W wr))
  case atStart => exact ⟨0, List.replicate n 0, 0, A, c, rfl, ⟨Nat.zero_le _⟩, ⟨by omega⟩, ⟨rfl⟩, ⟨List.length_replicate⟩, ⟨HC.out.below (below_alloc (Below.refl _ _) _)⟩, ⟨blk_new w2 _⟩, ⟨blk_below B5.out (below_alloc (Below.refl _ _) _)⟩, ⟨Kd.R_alloc (Kd.R_lower (Kd.R_mono HRR.out (fun k hk => by have := HLT.out; have := HG.out; omega)) (by have := HB.out.size; have := HLT.out; omega)) _⟩, ⟨below_alloc HB.out _⟩⟩
  case round =>
    clear HB HC B5 HRR
    obtain ⟨i, ws, st, Av, cv, rfl, HJ, HK, HRN, HWL, HC, B8, B5, HRR, HB⟩ := hrel
    by_cases hlt : i < l.length
    · have hltb : (i : Int) < (l.length : Int) := by omega
      have HLTI := Aside0.mk hlt
      obtain ⟨ad, e4, hW0, hW1, hW2, hW3⟩ := at_T47 HR1.out (i : Int) (by omega) (by omega)
      cases e4
      have HX := Aside0.mk (show rd_T47 l (i : Int) = l[i] from by unfold rd_T47; simp [List.getD, hlt])
      simp only [Int.toNat_natCast] at hW0 hW1 hW2 hW3
      generalize rd_T47 l (i : Int) = x at hW0 hW1 hW2 hW3 HX
      have HFO := Aside0.mk (show cRun n (l.take (i + 1)) = ((dW ws x.f0 x.f1 x.f2 x.f3), (dSt ws st x.f0 x.f1)) from by
        have h1 : l.take (i + 1) = l.take i ++ [x] := by rw [List.take_add_one, List.getElem?_eq_getElem hlt, ← HX.out]; rfl
        have h2 := HRN.out
        unfold cRun at h2 ⊢
        rw [h1, List.foldl_append, h2]
        rfl)
      have hx0 := pw_cell_below HB.out hW0
      have hx1 := pw_cell_below HB.out hW1
      have hx2 := pw_cell_below HB.out hW2
      have hx3 := pw_cell_below HB.out hW3
      go_upto_region 7 with (first | (go_at_call 19; (with_reducible refine (cel_do gc gw ws st x.f0 x.f1 x.f2 x.f3 _ HC.out).mono ?_); rintro e w4 ⟨rfl, hA, hT⟩; have n1_ := Aside0.mk ((hT.block _ (blk_lt B8.out) (fun h => h.elim HD.out.1 HD.out.2.1)).trans B8.out); have n2_ := Aside0.mk ((hT.block _ (blk_lt B5.out) (fun h => h.elim HD.out.2.2.1 HD.out.2.2.2.1)).trans B5.out); have n3_ := Aside0.mk (Kd.R_step HRR.out (fun k hk hlt => hT.block k hlt (fun h => h.elim hk.1 hk.2.1))); have n4_ := Aside0.mk (HB.out.trans (hT.below HB.out.size (fun k hk => by have := HG.out; omega))); clear HC B8 B5 HRR HB; have HC := Aside0.mk hA; have B8 := n1_; have B5 := n2_; have HRR := n3_; have HB := n4_; clear n1_ n2_ n3_ n4_ hA hT hx0 hx1 hx2 hx3))
      have n1_ := Aside0.mk (show CellsAt w4.drew gc gw (dW ws x.f0 x.f1 x.f2 x.f3) (dSt ws st x.f0 x.f1) from ⟨HC.out.c, HC.out.w, HC.out.ne⟩)
      have n2_ := Aside0.mk (show w4.drew.heap[w2.heap.size]? = some (.cells #[.slice Av n cv, .int .i64 st] 27 (0, 0)) from B8.out)
      have n3_ := Aside0.mk (show w4.drew.heap[W.heap.size]? = some (.cells #[.slice none 0 0, .int .i64 0] 27 (0, 0)) from B5.out)
      have n4_ := Aside0.mk (Kd.R_mono (Kd.R_bound (Kd.R_drew HRR.out)) (fun k hk => And.intro hk.1 hk.2.2.1))
      have n5_ := Aside0.mk (below_drew1 HB.out)
      clear HC B8 B5 HRR HB
      have HC := n1_
      have B8 := n2_
      have B5 := n3_
      have HRR := n4_
      have HB := n5_
      clear n1_ n2_ n3_ n4_ n5_
      refine start_ (n := 14) (S := fun w' => w'.cell? ⟨w2.heap.size, 0, none⟩ = some (.slice Av n cv) ∧ w'.cell? ⟨w2.heap.size, 1, none⟩ = some (.int .i64 st) ∧ w'.cell? (ad.add (i * 4)) = some (.int .u8 x.f0) ∧ w'.cell? ⟨(ad.add (i * 4)).block, (ad.add (i * 4)).off + 1, none⟩ = some (.int .i64 x.f1) ∧ w'.cell? ⟨(ad.add (i * 4)).block, (ad.add (i * 4)).off + 2, none⟩ = some (.int .u64 x.f2) ∧ w'.cell? ⟨(ad.add (i * 4)).block, (ad.add (i * 4)).off + 3, none⟩ = some (.int .u64 x.f3)) (ds := [11]) #[false, false, false, false, false, false, false, false, false, false, false, false, false, false] (by kernel_rfl) rfl rfl ⟨((blk_cell B8.out 0).trans rfl), ((blk_cell B8.out 1).trans rfl), (pw_cell_below HB.out hW0), (pw_cell_below HB.out hW1), (pw_cell_below HB.out hW2), (pw_cell_below HB.out hW3)⟩ (fun hHeld => ?_); refine with_tabW cel_run.tab7 cel_run.bits7 (fun HT_ HW_ => ?_)
      generalize w4.drew = W1 at HC B8 B5 HRR HB hHeld ⊢
      refine pure_ (i := 1) (N := some 42) (v := ?_) (a' := ?_) (crn_lb 14 2) rfl rfl (any_of HT_.out (by kernel_rfl)) (fun _ _ _ h => h) (Or.inl ⟨by rfl, ?_⟩) ?_ ?_; rotate_left
      · intro w'; go_simp; with_reducible rfl
      rotate_left
      · simp only [Act.put, List.setIfInBounds_toArray, List.set_cons_zero, List.set_cons_succ, i64_w, i32_w]; rfl
      refine pure_ (i := 2) (N := some 43) (v := ?_) (a' := ?_) (crn_lb 14 6) rfl rfl (any_of HT_.out (by kernel_rfl)) (fun _ _ _ h => h) (Or.inl ⟨by rfl, ?_⟩) ?_ ?_; rotate_left
      · intro w'; go_simp; with_reducible rfl
      rotate_left
      · simp only [Act.put, List.setIfInBounds_toArray, List.set_cons_zero, List.set_cons_succ, i64_w, i32_w]; rfl
      refine pure_ (i := 3) (N := some 44) (v := ?_) (a' := ?_) (crn_lb 14 14) rfl rfl (any_of HT_.out (by kernel_rfl)) (fun _ _ _ h => h) (Or.inl ⟨by rfl, ?_⟩) ?_ ?_; rotate_left
      · intro w'; go_simp; with_reducible rfl
      rotate_left
      · simp only [Act.put, List.setIfInBounds_toArray, List.set_cons_zero, List.set_cons_succ, i64_w, i32_w]; rfl
      refine take_ (i := 0) (N := some 41) (v := ?_) (a' := ?_) (crn_lb 14 15) rfl rfl (take_ofW HT_.out HW_.out (by kernel_rfl)) (fun _ _ _ h => h) (Or.inl ⟨by rfl, ?_⟩) hHeld ?_ ?_; rotate_left
      · rintro w' ⟨s0, s1, s2, s3, s4, s5⟩; go_simp; with_reducible rfl
      rotate_left
      · simp only [Act.put, List.setIfInBounds_toArray, List.set_cons_zero, List.set_cons_succ, i64_w, i32_w]; rfl
      refine take_ (i := 4) (N := some 45) (v := ?_) (a' := ?_) (crn_lb 14 31) rfl rfl (take_ofW HT_.out HW_.out (by kernel_rfl)) (fun _ _ _ h => h) (Or.inl ⟨by rfl, ?_⟩) hHeld ?_ ?_; rotate_left
      · rintro w' ⟨s0, s1, s2, s3, s4, s5⟩; go_simp; with_reducible rfl
      rotate_left
      · simp only [Act.put, List.setIfInBounds_toArray, List.set_cons_zero, List.set_cons_succ, i64_w, i32_w]; rfl
      refine join_ (σ := Option Addr × Nat × Nat) 3 (crn_lb 14 2047) (fun s => [(46, .tuple #[.agg #[.slice s.1 n s.2.1, .int .i64 (dSt ws st x.f0 x.f1)], .int .u64 (dV ws x.f0 x.f1), .bool (dB ws x.f0 x.f1 x.f2)]), (40, .tuple #[.agg #[.slice s.1 n s.2.1, .int .i64 (dSt ws st x.f0 x.f1)], .int .u64 (dV ws x.f0 x.f1), .bool (dB ws x.f0 x.f1 x.f2)]), (47, .agg #[.slice s.1 n s.2.1, .int .i64 (dSt ws st x.f0 x.f1)]), (48, .int .u64 (dV ws x.f0 x.f1)), (49, .bool (dB ws x.f0 x.f1 x.f2)), (12, .pointer (some ⟨s.2.2, 0, none⟩))]) (fun s w' => Aside0 (CellsAt w' gc gw (dW ws x.f0 x.f1 x.f2 x.f3) (dSt ws st x.f0 x.f1)) ∧ Aside0 (w'.heap[w2.heap.size]? = some (.cells #[.slice Av n cv, .int .i64 st] 27 (0, 0))) ∧ Aside0 (w'.heap[W.heap.size]? = some (.cells #[.slice none 0 0, .int .i64 0] 27 (0, 0))) ∧ Aside0 (w'.heap[s.2.2]? = some (.cells #[.slice none 0 0, .int .i64 0] 27 (0, 0))) ∧ Aside0 (Kd.R (Kd.int .u64) 30 w' W.heap.size (fun k => (k ≠ gc ∧ k ≠ gw ∧ k ≠ W.heap.size ∧ k ≠ w2.heap.size) ∧ k ≠ s.2.2) (.slice s.1 n s.2.1) (dW ws x.f0 x.f1 x.f2 x.f3)) ∧ Aside0 (W.heap.size ≤ s.2.2 ∧ s.2.2 ≠ gc ∧ s.2.2 ≠ gw ∧ s.2.2 ≠ W.heap.size ∧ s.2.2 ≠ w2.heap.size) ∧ Aside0 (Below W.heap.size W w')) ?_ ?_
      rotate_left
      · intro hCont
        refine two_ (i := 5) (j := 10) (Ni := some 46) (Nj := some 12) (crn_lb 14 63) (crn_lb 14 1055) rfl rfl rfl rfl (two_of HT_.out (by kernel_rfl)) (by decide) (by decide) (fun K hK => ?_) (fun K hK => ?_)
        · skip
          refine goes_ Try.func20 (by kernel_rfl) rfl #[.agg #[.slice Av n cv, .int .i64 st], .agg #[.int .u8 x.f0, .int .i64 x.f1, .int .u64 x.f2, .int .u64 x.f3]] (by rfl) rfl rfl (by (try simp only [List.map_toArray, List.map_cons, List.map_nil]); first | done | rfl) ?_
          with_reducible refine (corrieref06_Do.calls 1 _ (.slice Av n cv) ws st x.f0 x.f1 x.f2 x.f3 (dW ws x.f0 x.f1 x.f2 x.f3) (dSt ws st x.f0 x.f1) (dV ws x.f0 x.f1) (dB ws x.f0 x.f1 x.f2) W _ HB.out HRR.out (cel_rdo ws (by have := HWL.out; have := HN6.out; omega) st x.f0 x.f1 x.f2 x.f3)).mono ?_
          rintro e w5 ⟨v1, rfl, hR1, hb1, hk1⟩
          obtain ⟨Aq, cq, rfl⟩ := (show ∃ A c, v1 = .slice A n c from by obtain ⟨A, c, h⟩ := Kd.R_slice hR1; exact ⟨A, c, by rw [h, dW_len, HWL.out]⟩)
          refine ⟨_, rfl, ?_⟩
          have hlc := HC.out.lt
          have hl8 := blk_lt B8.out
          have hl5 := blk_lt B5.out
          have n1_ := Aside0.mk (show CellsAt w5 gc gw _ _ from ⟨(hk1.2 _ (blk_lt HC.out.c) (fun h => h.1.1 rfl)).trans HC.out.c, (hk1.2 _ (blk_lt HC.out.w) (fun h => h.1.2.1 rfl)).trans HC.out.w, HC.out.ne⟩)
          have n2_ := Aside0.mk ((hk1.2 _ hl8 (fun h => h.1.2.2.2 rfl)).trans B8.out)
          have n3_ := Aside0.mk ((hk1.2 _ hl5 (fun h => h.1.2.2.1 rfl)).trans B5.out)
          have n5_ := Aside0.mk (Kd.R_mono hR1 (ok' := fun k => (k ≠ gc ∧ k ≠ gw ∧ k ≠ W.heap.size ∧ k ≠ w2.heap.size)) (fun k hk => by omega))
          have HK5 := Aside0.mk hk1.1
          clear HC B8 B5 HRR HB hlc hl8 hl5 hR1 hk1
          have HC := n1_
          have B8 := n2_
          have B5 := n3_
          have HRR := n5_
          have HB := Aside0.mk hb1
          clear n1_ n2_ n3_ n5_ hb1
          refine hK.out _ _ ⟨((blk_cell B8.out 0).trans rfl), ((blk_cell B8.out 1).trans rfl), (pw_cell_below HB.out hW0), (pw_cell_below HB.out hW1), (pw_cell_below HB.out hW2), (pw_cell_below HB.out hW3)⟩ (fun hHeld => ?_)
          clear hK K
          refine norm_ (a' := ?_) ?_ ?_
          rotate_left
          · show Act.put _ (some 46) _ = _
            simp only [Act.put, List.setIfInBounds_toArray, List.set_cons_zero, List.set_cons_succ, i64_w, i32_w]
            rfl
          refine pure_ (i := 6) (N := some 40) (v := ?_) (a' := ?_) (crn_lb 14 127) rfl rfl (any_of HT_.out (by kernel_rfl)) (fun _ _ _ h => h) (Or.inl ⟨by rfl, ?_⟩) ?_ ?_; rotate_left
          · intro w'; go_simp; with_reducible rfl
          rotate_left
          · simp only [Act.put, List.setIfInBounds_toArray, List.set_cons_zero, List.set_cons_succ, i64_w, i32_w]; rfl
          refine pure_ (i := 7) (N := some 47) (v := ?_) (a' := ?_) (crn_lb 14 255) rfl rfl (any_of HT_.out (by kernel_rfl)) (fun _ _ _ h => h) (Or.inl ⟨by rfl, ?_⟩) ?_ ?_; rotate_left
          · intro w'; go_simp; with_reducible rfl
          rotate_left
          · simp only [Act.put, List.setIfInBounds_toArray, List.set_cons_zero, List.set_cons_succ, i64_w, i32_w]; rfl
          refine pure_ (i := 8) (N := some 48) (v := ?_) (a' := ?_) (crn_lb 14 511) rfl rfl (any_of HT_.out (by kernel_rfl)) (fun _ _ _ h => h) (Or.inl ⟨by rfl, ?_⟩) ?_ ?_; rotate_left
          · intro w'; go_simp; with_reducible rfl
          rotate_left
          · simp only [Act.put, List.setIfInBounds_toArray, List.set_cons_zero, List.set_cons_succ, i64_w, i32_w]; rfl
          refine pure_ (i := 9) (N := some 49) (v := ?_) (a' := ?_) (crn_lb 14 1023) rfl rfl (any_of HT_.out (by kernel_rfl)) (fun _ _ _ h => h) (Or.inl ⟨by rfl, ?_⟩) ?_ ?_; rotate_left
          · intro w'; go_simp; with_reducible rfl
          rotate_left
          · simp only [Act.put, List.setIfInBounds_toArray, List.set_cons_zero, List.set_cons_succ, i64_w, i32_w]; rfl
          refine one_ (i := 10) (N := some 12) (crn_lb 14 2047) rfl rfl (one_of HT_.out (by kernel_rfl)) (by decide) (fun K hK => ?_)
          refine value_ (w1 := ?_) (v := ?_) (by rfl) rfl ?_ ?_
          rotate_left 2
          · go_simp
            constructor
            · rfl
            · rfl
          have hlc := HC.out.lt
          have hl8 := blk_lt B8.out
          have hl5 := blk_lt B5.out
          have n1_ := Aside0.mk (HC.out.below (below_alloc (Below.refl _ _) (.cells #[.slice none 0 0, .int .i64 0] 27)))
          have n2_ := Aside0.mk (blk_below B8.out (below_alloc (Below.refl _ _) (.cells #[.slice none 0 0, .int .i64 0] 27)))
          have n3_ := Aside0.mk (blk_below B5.out (below_alloc (Below.refl _ _) (.cells #[.slice none 0 0, .int .i64 0] 27)))
          have n5_ := Aside0.mk (Kd.R_alloc (Kd.R_mono (Kd.R_bound HRR.out) (ok' := fun k => (k ≠ gc ∧ k ≠ gw ∧ k ≠ W.heap.size ∧ k ≠ w2.heap.size) ∧ k ≠ w5.heap.size) (fun k hk => by omega)) (.cells #[.slice none 0 0, .int .i64 0] 27))
          have n6_ := Aside0.mk (below_alloc HB.out (.cells #[.slice none 0 0, .int .i64 0] 27))
          have B12 := Aside0.mk (blk_new w5 (.cells #[.slice none 0 0, .int .i64 0] 27))
          have HG12 := Aside0.mk (show W1.heap.size ≤ w5.heap.size ∧ W.heap.size ≤ w5.heap.size ∧ w5.heap.size ≠ gc ∧ w5.heap.size ≠ gw ∧ w5.heap.size ≠ W.heap.size ∧ w5.heap.size ≠ w2.heap.size from by have := HB.out.size; have := HK5.out; omega)
          clear HC B8 B5 HRR HB hlc hl8 hl5 HK5
          have HC := n1_
          have B8 := n2_
          have B5 := n3_
          have HRR := n5_
          have HB := n6_
          clear n1_ n2_ n3_ n5_ n6_
          generalize w5.alloc (.cells #[.slice none 0 0, .int .i64 0] 27) = w10 at HC B8 B5 HRR HB B12 ⊢
          generalize w5.heap.size = g12 at HG12 B12 HRR ⊢
          refine hK.out _ _ ⟨((blk_cell B8.out 0).trans rfl), ((blk_cell B8.out 1).trans rfl), (pw_cell_below HB.out hW0), (pw_cell_below HB.out hW1), (pw_cell_below HB.out hW2), (pw_cell_below HB.out hW3)⟩ (fun hHeld => ?_)
          clear hK K
          refine norm_ (a' := ?_) ?_ ?_
          rotate_left
          · show Act.put _ (some 12) _ = _
            simp only [Act.put, List.setIfInBounds_toArray, List.set_cons_zero, List.set_cons_succ, i64_w, i32_w]
            rfl
          exact norm_ (by simp only [putAll, Act.put, List.setIfInBounds_toArray, List.set_cons_zero, List.set_cons_succ]) (hCont (Aq, cq, g12) _ ⟨HC, B8, B5, B12, HRR, ⟨HG12.out.2⟩, HB⟩)
        · skip
          refine value_ (w1 := ?_) (v := ?_) (by rfl) rfl ?_ ?_
          rotate_left 2
          · go_simp
            constructor
            · rfl
            · rfl
          have hlc := HC.out.lt
          have hl8 := blk_lt B8.out
          have hl5 := blk_lt B5.out
          have n1_ := Aside0.mk (HC.out.below (below_alloc (Below.refl _ _) (.cells #[.slice none 0 0, .int .i64 0] 27)))
          have n2_ := Aside0.mk (blk_below B8.out (below_alloc (Below.refl _ _) (.cells #[.slice none 0 0, .int .i64 0] 27)))
          have n3_ := Aside0.mk (blk_below B5.out (below_alloc (Below.refl _ _) (.cells #[.slice none 0 0, .int .i64 0] 27)))
          have n5_ := Aside0.mk (Kd.R_alloc HRR.out (.cells #[.slice none 0 0, .int .i64 0] 27))
          have n6_ := Aside0.mk (below_alloc HB.out (.cells #[.slice none 0 0, .int .i64 0] 27))
          have B12 := Aside0.mk (blk_new W1 (.cells #[.slice none 0 0, .int .i64 0] 27))
          have HG12 := Aside0.mk (show W1.heap.size ≤ W1.heap.size ∧ W.heap.size ≤ W1.heap.size ∧ W1.heap.size ≠ gc ∧ W1.heap.size ≠ gw ∧ W1.heap.size ≠ W.heap.size ∧ W1.heap.size ≠ w2.heap.size from by have := HB.out.size; omega)
          clear HC B8 B5 HRR HB hlc hl8 hl5
          have HC := n1_
          have B8 := n2_
          have B5 := n3_
          have HRR := n5_
          have HB := n6_
          clear n1_ n2_ n3_ n5_ n6_
          generalize W1.alloc (.cells #[.slice none 0 0, .int .i64 0] 27) = w10 at HC B8 B5 HRR HB B12 ⊢
          generalize W1.heap.size = g12 at HG12 B12 HRR ⊢
          refine hK.out _ _ ⟨((blk_cell B8.out 0).trans rfl), ((blk_cell B8.out 1).trans rfl), (pw_cell_below HB.out hW0), (pw_cell_below HB.out hW1), (pw_cell_below HB.out hW2), (pw_cell_below HB.out hW3)⟩ (fun hHeld => ?_)
          clear hK K
          refine norm_ (a' := ?_) ?_ ?_
          rotate_left
          · show Act.put _ (some 12) _ = _
            simp only [Act.put, List.setIfInBounds_toArray, List.set_cons_zero, List.set_cons_succ, i64_w, i32_w]
            rfl
          refine one_ (i := 5) (N := some 46) (crn_lb 14 1087) rfl rfl (one_of HT_.out (by kernel_rfl)) (by decide) (fun K hK => ?_)
          refine goes_ Try.func20 (by kernel_rfl) rfl #[.agg #[.slice Av n cv, .int .i64 st], .agg #[.int .u8 x.f0, .int .i64 x.f1, .int .u64 x.f2, .int .u64 x.f3]] (by rfl) rfl rfl (by (try simp only [List.map_toArray, List.map_cons, List.map_nil]); first | done | rfl) ?_
          with_reducible refine (corrieref06_Do.calls 1 _ (.slice Av n cv) ws st x.f0 x.f1 x.f2 x.f3 (dW ws x.f0 x.f1 x.f2 x.f3) (dSt ws st x.f0 x.f1) (dV ws x.f0 x.f1) (dB ws x.f0 x.f1 x.f2) W _ HB.out HRR.out (cel_rdo ws (by have := HWL.out; have := HN6.out; omega) st x.f0 x.f1 x.f2 x.f3)).mono ?_
          rintro e w5 ⟨v1, rfl, hR1, hb1, hk1⟩
          obtain ⟨Aq, cq, rfl⟩ := (show ∃ A c, v1 = .slice A n c from by obtain ⟨A, c, h⟩ := Kd.R_slice hR1; exact ⟨A, c, by rw [h, dW_len, HWL.out]⟩)
          refine ⟨_, rfl, ?_⟩
          have hlc := HC.out.lt
          have hl8 := blk_lt B8.out
          have hl5 := blk_lt B5.out
          have n1_ := Aside0.mk (show CellsAt w5 gc gw _ _ from ⟨(hk1.2 _ (blk_lt HC.out.c) (fun h => h.1.1 rfl)).trans HC.out.c, (hk1.2 _ (blk_lt HC.out.w) (fun h => h.1.2.1 rfl)).trans HC.out.w, HC.out.ne⟩)
          have n2_ := Aside0.mk ((hk1.2 _ hl8 (fun h => h.1.2.2.2 rfl)).trans B8.out)
          have n3_ := Aside0.mk ((hk1.2 _ hl5 (fun h => h.1.2.2.1 rfl)).trans B5.out)
          have hl12 := blk_lt B12.out
          have n4_ := Aside0.mk ((hk1.2 _ hl12 (fun h => by have := h.2; have := HG12.out; omega)).trans B12.out)
          have n5_ := Aside0.mk (Kd.R_mono hR1 (ok' := fun k => (k ≠ gc ∧ k ≠ gw ∧ k ≠ W.heap.size ∧ k ≠ w2.heap.size) ∧ k ≠ g12) (fun k hk => by have := HG12.out; omega))
          clear HC B8 B5 HRR HB B12 hl12 hlc hl8 hl5 hR1 hk1
          have HC := n1_
          have B8 := n2_
          have B5 := n3_
          have HRR := n5_
          have HB := Aside0.mk hb1
          clear n1_ n2_ n3_ n5_ hb1
          have B12 := n4_
          clear n4_
          refine hK.out _ _ ⟨((blk_cell B8.out 0).trans rfl), ((blk_cell B8.out 1).trans rfl), (pw_cell_below HB.out hW0), (pw_cell_below HB.out hW1), (pw_cell_below HB.out hW2), (pw_cell_below HB.out hW3)⟩ (fun hHeld => ?_)
          clear hK K
          refine norm_ (a' := ?_) ?_ ?_
          rotate_left
          · show Act.put _ (some 46) _ = _
            simp only [Act.put, List.setIfInBounds_toArray, List.set_cons_zero, List.set_cons_succ, i64_w, i32_w]
            rfl
          refine pure_ (i := 6) (N := some 40) (v := ?_) (a' := ?_) (crn_lb 14 1151) rfl rfl (any_of HT_.out (by kernel_rfl)) (fun _ _ _ h => h) (Or.inl ⟨by rfl, ?_⟩) ?_ ?_; rotate_left
          · intro w'; go_simp; with_reducible rfl
          rotate_left
          · simp only [Act.put, List.setIfInBounds_toArray, List.set_cons_zero, List.set_cons_succ, i64_w, i32_w]; rfl
          refine pure_ (i := 7) (N := some 47) (v := ?_) (a' := ?_) (crn_lb 14 1279) rfl rfl (any_of HT_.out (by kernel_rfl)) (fun _ _ _ h => h) (Or.inl ⟨by rfl, ?_⟩) ?_ ?_; rotate_left
          · intro w'; go_simp; with_reducible rfl
          rotate_left
          · simp only [Act.put, List.setIfInBounds_toArray, List.set_cons_zero, List.set_cons_succ, i64_w, i32_w]; rfl
          refine pure_ (i := 8) (N := some 48) (v := ?_) (a' := ?_) (crn_lb 14 1535) rfl rfl (any_of HT_.out (by kernel_rfl)) (fun _ _ _ h => h) (Or.inl ⟨by rfl, ?_⟩) ?_ ?_; rotate_left
          · intro w'; go_simp; with_reducible rfl
          rotate_left
          · simp only [Act.put, List.setIfInBounds_toArray, List.set_cons_zero, List.set_cons_succ, i64_w, i32_w]; rfl
          refine pure_ (i := 9) (N := some 49) (v := ?_) (a' := ?_) (crn_lb 14 2047) rfl rfl (any_of HT_.out (by kernel_rfl)) (fun _ _ _ h => h) (Or.inl ⟨by rfl, ?_⟩) ?_ ?_; rotate_left
          · intro w'; go_simp; with_reducible rfl
          rotate_left
          · simp only [Act.put, List.setIfInBounds_toArray, List.set_cons_zero, List.set_cons_succ, i64_w, i32_w]; rfl
          exact norm_ (by simp only [putAll, Act.put, List.setIfInBounds_toArray, List.set_cons_zero, List.set_cons_succ]) (hCont (Aq, cq, g12) _ ⟨HC, B8, B5, B12, HRR, ⟨HG12.out.2⟩, HB⟩)
      clear HC B8 B5 HRR HB hHeld
      rintro ⟨Aq, cq, g12⟩ w6 ⟨HC, B8, B5, B12, HRR, HG12, HB⟩
      have hHeld := (show w6.cell? ⟨w2.heap.size, 0, none⟩ = some (.slice Av n cv) ∧ w6.cell? ⟨w2.heap.size, 1, none⟩ = some (.int .i64 st) ∧ w6.cell? (ad.add (i * 4)) = some (.int .u8 x.f0) ∧ w6.cell? ⟨(ad.add (i * 4)).block, (ad.add (i * 4)).off + 1, none⟩ = some (.int .i64 x.f1) ∧ w6.cell? ⟨(ad.add (i * 4)).block, (ad.add (i * 4)).off + 2, none⟩ = some (.int .u64 x.f2) ∧ w6.cell? ⟨(ad.add (i * 4)).block, (ad.add (i * 4)).off + 3, none⟩ = some (.int .u64 x.f3) from ⟨((blk_cell B8.out 0).trans rfl), ((blk_cell B8.out 1).trans rfl), (pw_cell_below HB.out hW0), (pw_cell_below HB.out hW1), (pw_cell_below HB.out hW2), (pw_cell_below HB.out hW3)⟩)
      refine norm_ (a' := ?_) ?_ ?_
      rotate_left
      · simp only [putAll, Act.put, List.setIfInBounds_toArray, List.set_cons_zero, List.set_cons_succ]
        rfl
      refine last_ (i := 11) (N := none) (crn_lb 14 4095) rfl rfl (one_of HT_.out (by kernel_rfl)) (by decide) (fun K hK => ?_)
      have c12_0 : w6.cell? ⟨g12, 0, none⟩ = some (.slice none 0 0) := (blk_cell B12.out 0).trans rfl
      have c12_1 : w6.cell? ⟨g12, 1, none⟩ = some (.int .i64 0) := (blk_cell B12.out 1).trans rfl
      have f12_0 : w6.frozen? ⟨g12, 0, none⟩ = false := by simp [World.frozen?, B12.out]
      have f12_1 : w6.frozen? ⟨g12, 1, none⟩ = false := by simp [World.frozen?, B12.out]
      refine skip_ (w1 := ?_) (by rfl) rfl ?_ ?_
      rotate_left
      · go_simp
        rfl
      clear c12_0 c12_1 f12_0 f12_1
      refine hK.out _ _ ?_
      clear hK K
      refine pure_ (i := 12) (N := some 13) (v := ?_) (a' := ?_) (crn_lb 14 8191) rfl rfl (any_of HT_.out (by kernel_rfl)) (fun _ _ _ h => h) (Or.inl ⟨by rfl, ?_⟩) ?_ ?_; rotate_left
      · intro w'; go_simp; with_reducible rfl
      rotate_left
      · simp only [Act.put, List.setIfInBounds_toArray, List.set_cons_zero, List.set_cons_succ, i64_w, i32_w]; rfl
      refine pure_ (i := 13) (N := some 14) (v := ?_) (a' := ?_) (crn_lb 14 16383) rfl rfl (any_of HT_.out (by kernel_rfl)) (fun _ _ _ h => h) (Or.inl ⟨by rfl, ?_⟩) ?_ ?_; rotate_left
      · intro w'; go_simp; with_reducible rfl
      rotate_left
      · simp only [Act.put, List.setIfInBounds_toArray, List.set_cons_zero, List.set_cons_succ, i64_w, i32_w]; rfl
      refine done_ (done_of HT_.out (by kernel_rfl)) ?_
      have hg := HG12.out
      have hd := HD.out
      obtain ⟨W7, hW7⟩ : ∃ W_, (w6.setCell ⟨g12, 0, none⟩ (.slice Aq n cq)).setCell ⟨g12, 1, none⟩ (.int .i64 (dSt ws st x.f0 x.f1)) = W_ := ⟨_, rfl⟩
      rw [hW7]
      have n0_ := Aside0.mk (show CellsAt W7 gc gw (dW ws x.f0 x.f1 x.f2 x.f3) (dSt ws st x.f0 x.f1) from by rw [← hW7]; exact (HC.out.far hg.2.1 hg.2.2.1 _).far hg.2.1 hg.2.2.1 _)
      have n1_ := Aside0.mk (show W7.heap[w2.heap.size]? = some (.cells #[.slice Av n cv, .int .i64 st] 27 (0, 0)) from by rw [← hW7]; exact cel_far (cel_far B8.out (Ne.symm hg.2.2.2.2) _) (Ne.symm hg.2.2.2.2) _)
      have n2_ := Aside0.mk (show W7.heap[W.heap.size]? = some (.cells #[.slice none 0 0, .int .i64 0] 27 (0, 0)) from by rw [← hW7]; exact cel_far (cel_far B5.out (Ne.symm hg.2.2.2.1) _) (Ne.symm hg.2.2.2.1) _)
      have n3_ := Aside0.mk (show W7.heap[g12]? = some (.cells #[.slice Aq n cq, .int .i64 (dSt ws st x.f0 x.f1)] 27 (0, 0)) from by rw [← hW7]; exact cel_put (cel_put B12.out _) _)
      have n4_ := Aside0.mk (show Kd.R (Kd.int .u64) 30 W7 W.heap.size (fun k => (k ≠ gc ∧ k ≠ gw ∧ k ≠ W.heap.size ∧ k ≠ w2.heap.size)) (.slice Aq n cq) (dW ws x.f0 x.f1 x.f2 x.f3) from by rw [← hW7]; exact Kd.R_mono (Kd.R_far (Kd.R_far HRR.out (fun k hk => hk.2) _) (fun k hk => hk.2) _) (fun k hk => hk.1))
      have n5_ := Aside0.mk (show Below W.heap.size W W7 from by rw [← hW7]; exact (HB.out.setCell (p := ⟨g12, 0, none⟩) hg.1 _).setCell (p := ⟨g12, 1, none⟩) hg.1 _)
      clear HC B8 B5 B12 HRR HB hW7
      have HC := n0_
      have B8 := n1_
      have B5 := n2_
      have B12 := n3_
      have HRR := n4_
      have HB := n5_
      clear n0_ n1_ n2_ n3_ n4_ n5_
      have c12_0 : W7.cell? ⟨g12, 0, none⟩ = some (.slice Aq n cq) := (blk_cell B12.out 0).trans rfl
      have c12_1 : W7.cell? ⟨g12, 1, none⟩ = some (.int .i64 (dSt ws st x.f0 x.f1)) := (blk_cell B12.out 1).trans rfl
      have f12_0 : W7.frozen? ⟨g12, 0, none⟩ = false := by simp [World.frozen?, B12.out]
      have f12_1 : W7.frozen? ⟨g12, 1, none⟩ = false := by simp [World.frozen?, B12.out]
      have c8_0 : W7.cell? ⟨w2.heap.size, 0, none⟩ = some (.slice Av n cv) := (blk_cell B8.out 0).trans rfl
      have c8_1 : W7.cell? ⟨w2.heap.size, 1, none⟩ = some (.int .i64 st) := (blk_cell B8.out 1).trans rfl
      have f8_0 : W7.frozen? ⟨w2.heap.size, 0, none⟩ = false := by simp [World.frozen?, B8.out]
      have f8_1 : W7.frozen? ⟨w2.heap.size, 1, none⟩ = false := by simp [World.frozen?, B8.out]
      go_upto_region 9 with fail
      clear c12_0 c12_1 f12_0 f12_1 c8_0 c8_1 f8_0 f8_1
      obtain ⟨W8, hW8⟩ : ∃ W_, (W7.setCell ⟨w2.heap.size, 0, none⟩ (.slice Aq n cq)).setCell ⟨w2.heap.size, 1, none⟩ (.int .i64 (dSt ws st x.f0 x.f1)) = W_ := ⟨_, rfl⟩
      rw [hW8]
      have n0_ := Aside0.mk (show CellsAt W8.drew gc gw (dW ws x.f0 x.f1 x.f2 x.f3) (dSt ws st x.f0 x.f1) from by rw [← hW8]; exact (show CellsAt ((W7.setCell ⟨w2.heap.size, 0, none⟩ (.slice Aq n cq)).setCell ⟨w2.heap.size, 1, none⟩ (.int .i64 (dSt ws st x.f0 x.f1))).drew gc gw (dW ws x.f0 x.f1 x.f2 x.f3) (dSt ws st x.f0 x.f1) from by have h1 : CellsAt ((W7.setCell ⟨w2.heap.size, 0, none⟩ (.slice Aq n cq)).setCell ⟨w2.heap.size, 1, none⟩ (.int .i64 (dSt ws st x.f0 x.f1))) gc gw (dW ws x.f0 x.f1 x.f2 x.f3) (dSt ws st x.f0 x.f1) := (HC.out.far hd.1 hd.2.1 _).far hd.1 hd.2.1 _; exact ⟨h1.c, h1.w, h1.ne⟩))
      have n1_ := Aside0.mk (show W8.drew.heap[w2.heap.size]? = some (.cells #[.slice Aq n cq, .int .i64 (dSt ws st x.f0 x.f1)] 27 (0, 0)) from by rw [← hW8]; exact (show ((W7.setCell ⟨w2.heap.size, 0, none⟩ (.slice Aq n cq)).setCell ⟨w2.heap.size, 1, none⟩ (.int .i64 (dSt ws st x.f0 x.f1))).drew.heap[w2.heap.size]? = _ from cel_put (cel_put B8.out _) _))
      have n2_ := Aside0.mk (show W8.drew.heap[W.heap.size]? = some (.cells #[.slice none 0 0, .int .i64 0] 27 (0, 0)) from by rw [← hW8]; exact (show ((W7.setCell ⟨w2.heap.size, 0, none⟩ (.slice Aq n cq)).setCell ⟨w2.heap.size, 1, none⟩ (.int .i64 (dSt ws st x.f0 x.f1))).drew.heap[W.heap.size]? = _ from cel_far (cel_far B5.out hd.2.2.2.2 _) hd.2.2.2.2 _))
      have n3_ := Aside0.mk (show Kd.R (Kd.int .u64) 30 W8.drew W.heap.size (fun k => (k ≠ gc ∧ k ≠ gw ∧ k ≠ W.heap.size ∧ k ≠ w2.heap.size)) (.slice Aq n cq) (dW ws x.f0 x.f1 x.f2 x.f3) from by rw [← hW8]; exact Kd.R_drew (Kd.R_far (Kd.R_far HRR.out (fun k hk => hk.2.2.2) _) (fun k hk => hk.2.2.2) _))
      have n4_ := Aside0.mk (show Below W.heap.size W W8.drew from by rw [← hW8]; exact below_drew1 ((HB.out.setCell (p := ⟨w2.heap.size, 0, none⟩) HN8.out _).setCell (p := ⟨w2.heap.size, 1, none⟩) HN8.out _))
      clear HC B8 B5 B12 HRR HB hW8
      have HC := n0_
      have B8 := n1_
      have B5 := n2_
      have HRR := n3_
      have HB := n4_
      clear n0_ n1_ n2_ n3_ n4_
      refine start_ (n := 15) (S := fun w' => w'.cell? ⟨w2.heap.size, 1, none⟩ = some (.int .i64 (dSt ws st x.f0 x.f1))) (ds := []) #[false, false, false, false, false, false, false, false, false, false, false, false, false, false, false] (by kernel_rfl) rfl rfl (((blk_cell B8.out 1).trans rfl)) (fun hHeld => ?_); refine with_tabW cel_run.tab9 cel_run.bits9 (fun HT_ HW_ => ?_)
      generalize W8.drew = W9 at HC B8 B5 HRR HB hHeld ⊢
      refine pure_ (i := 0) (N := some 51) (v := ?_) (a' := ?_) (crn_lb 15 1) rfl rfl (any_of HT_.out (by kernel_rfl)) (fun _ _ _ h => h) (Or.inl ⟨by rfl, ?_⟩) ?_ ?_; rotate_left
      · intro w'; go_simp; with_reducible rfl
      rotate_left
      · simp only [Act.put, List.setIfInBounds_toArray, List.set_cons_zero, List.set_cons_succ, i64_w, i32_w]; rfl
      refine pure_ (i := 1) (N := some 52) (v := ?_) (a' := ?_) (crn_lb 15 3) rfl rfl (any_of HT_.out (by kernel_rfl)) (fun _ _ _ h => h) (Or.inl ⟨by rfl, ?_⟩) ?_ ?_; rotate_left
      · intro w'; go_simp; with_reducible rfl
      rotate_left
      · simp only [Act.put, List.setIfInBounds_toArray, List.set_cons_zero, List.set_cons_succ, i64_w, i32_w]; rfl
      refine pure_ (i := 2) (N := some 53) (v := ?_) (a' := ?_) (crn_lb 15 7) rfl rfl (any_of HT_.out (by kernel_rfl)) (fun _ _ _ h => h) (Or.inl ⟨by rfl, ?_⟩) ?_ ?_; rotate_left
      · intro w'; go_simp; with_reducible rfl
      rotate_left
      · simp only [Act.put, List.setIfInBounds_toArray, List.set_cons_zero, List.set_cons_succ, i64_w, i32_w]; rfl
      refine pure_ (i := 3) (N := some 54) (v := ?_) (a' := ?_) (crn_lb 15 15) rfl rfl (any_of HT_.out (by kernel_rfl)) (fun _ _ _ h => h) (Or.inl ⟨by rfl, ?_⟩) ?_ ?_; rotate_left
      · intro w'; go_simp; with_reducible rfl
      rotate_left
      · simp only [Act.put, List.setIfInBounds_toArray, List.set_cons_zero, List.set_cons_succ, i64_w, i32_w]; rfl
      refine pure_ (i := 4) (N := some 55) (v := ?_) (a' := ?_) (crn_lb 15 31) rfl rfl (any_of HT_.out (by kernel_rfl)) (fun _ _ _ h => h) (Or.inl ⟨by rfl, ?_⟩) ?_ ?_; rotate_left
      · intro w'; go_simp; with_reducible rfl
      rotate_left
      · simp only [Act.put, List.setIfInBounds_toArray, List.set_cons_zero, List.set_cons_succ, i64_w, i32_w]; rfl
      refine pure_ (i := 5) (N := some 56) (v := ?_) (a' := ?_) (crn_lb 15 63) rfl rfl (any_of HT_.out (by kernel_rfl)) (fun _ _ _ h => h) (Or.inl ⟨by rfl, ?_⟩) ?_ ?_; rotate_left
      · intro w'; go_simp; with_reducible rfl
      rotate_left
      · simp only [Act.put, List.setIfInBounds_toArray, List.set_cons_zero, List.set_cons_succ, i64_w, i32_w]; rfl
      refine pure_ (i := 6) (N := some 57) (v := ?_) (a' := ?_) (crn_lb 15 127) rfl rfl (any_of HT_.out (by kernel_rfl)) (fun _ _ _ h => h) (Or.inl ⟨by rfl, ?_⟩) ?_ ?_; rotate_left
      · intro w'; go_simp; with_reducible rfl
      rotate_left
      · simp only [Act.put, List.setIfInBounds_toArray, List.set_cons_zero, List.set_cons_succ, i64_w, i32_w]; rfl
      refine pure_ (i := 7) (N := some 58) (v := ?_) (a' := ?_) (crn_lb 15 255) rfl rfl (any_of HT_.out (by kernel_rfl)) (fun _ _ _ h => h) (Or.inl ⟨by rfl, ?_⟩) ?_ ?_; rotate_left
      · intro w'; go_simp; with_reducible rfl
      rotate_left
      · simp only [Act.put, List.setIfInBounds_toArray, List.set_cons_zero, List.set_cons_succ, i64_w, i32_w]; rfl
      refine pure_ (i := 8) (N := some 59) (v := ?_) (a' := ?_) (crn_lb 15 511) rfl rfl (any_of HT_.out (by kernel_rfl)) (fun _ _ _ h => h) (Or.inl ⟨by rfl, ?_⟩) ?_ ?_; rotate_left
      · intro w'; go_simp; with_reducible rfl
      rotate_left
      · simp only [Act.put, List.setIfInBounds_toArray, List.set_cons_zero, List.set_cons_succ, i64_w, i32_w]; rfl
      refine pure_ (i := 9) (N := some 60) (v := ?_) (a' := ?_) (crn_lb 15 1023) rfl rfl (any_of HT_.out (by kernel_rfl)) (fun _ _ _ h => h) (Or.inl ⟨by rfl, ?_⟩) ?_ ?_; rotate_left
      · intro w'; go_simp; with_reducible rfl
      rotate_left
      · simp only [Act.put, List.setIfInBounds_toArray, List.set_cons_zero, List.set_cons_succ, i64_w, i32_w]; rfl
      refine pure_ (i := 11) (N := some 62) (v := ?_) (a' := ?_) (crn_lb 15 3071) rfl rfl (any_of HT_.out (by kernel_rfl)) (fun _ _ _ h => h) (Or.inl ⟨by rfl, ?_⟩) ?_ ?_; rotate_left
      · intro w'; go_simp; with_reducible rfl
      rotate_left
      · simp only [Act.put, List.setIfInBounds_toArray, List.set_cons_zero, List.set_cons_succ, i64_w, i32_w]; rfl
      refine take_ (i := 12) (N := some 63) (v := ?_) (a' := ?_) (crn_lb 15 7167) rfl rfl (take_ofW HT_.out HW_.out (by kernel_rfl)) (fun _ _ _ h => h) (Or.inl ⟨by rfl, ?_⟩) hHeld ?_ ?_; rotate_left
      · intro w' s0; go_simp; with_reducible rfl
      rotate_left
      · simp only [Act.put, List.setIfInBounds_toArray, List.set_cons_zero, List.set_cons_succ, i64_w, i32_w]; rfl
      refine one_ (i := 10) (N := some 61) (crn_lb 15 8191) rfl rfl (one_of HT_.out (by kernel_rfl)) (by decide) (fun K hK => ?_)
      refine goes_ Try.func16 (by kernel_rfl) rfl #[.pointer (some ⟨gc, 0, none⟩)] (by rfl) rfl rfl (by (try simp only [List.map_toArray, List.map_cons, List.map_nil]); first | done | rfl) ?_
      with_reducible refine (cel_Steps gc gw (dW ws x.f0 x.f1 x.f2 x.f3) (dSt ws st x.f0 x.f1) _ HC.out).mono ?_
      rintro e w9 ⟨rfl, rfl⟩
      refine ⟨_, rfl, ?_⟩
      refine hK.out _ _ (hHeld) (fun hHeld => ?_)
      clear hK K
      refine norm_ (a' := ?_) ?_ ?_
      rotate_left
      · show Act.put _ (some 61) _ = _
        simp only [Act.put, List.setIfInBounds_toArray, List.set_cons_zero, List.set_cons_succ, i64_w, i32_w]
        rfl
      refine pure_ (i := 13) (N := some 64) (v := ?_) (a' := ?_) (crn_lb 15 16383) rfl rfl (any_of HT_.out (by kernel_rfl)) (fun _ _ _ h => h) (Or.inl ⟨by rfl, ?_⟩) ?_ ?_; rotate_left
      · intro w'; go_simp; with_reducible rfl
      rotate_left
      · simp only [Act.put, List.setIfInBounds_toArray, List.set_cons_zero, List.set_cons_succ, i64_w, i32_w]; rfl
      refine pure_ (i := 14) (N := some 65) (v := ?_) (a' := ?_) (crn_lb 15 32767) rfl rfl (any_of HT_.out (by kernel_rfl)) (fun _ _ _ h => h) (Or.inl ⟨by rfl, ?_⟩) ?_ ?_; rotate_left
      · intro w'; go_simp; with_reducible rfl
      rotate_left
      · simp only [Act.put, List.setIfInBounds_toArray, List.set_cons_zero, List.set_cons_succ, i64_w, i32_w]; rfl
      refine done_ (done_of HT_.out (by kernel_rfl)) ?_
      go_wp2
      go_roundg (l.length - (i + 1))
      case measure => have := HLTI.out; have := HK.out; omega
      case rel =>
        have hlt := HLTI.out
        have hle := HL.out
        exact ⟨i + 1, (dW ws x.f0 x.f1 x.f2 x.f3), (dSt ws st x.f0 x.f1), Aq, cq, by rw [show wrap64 ((i : Int) + 1) = ((i + 1 : Nat) : Int) from by unfold wrap64; omega], ⟨by omega⟩, ⟨by omega⟩, HFO, ⟨by rw [dW_len]; exact HWL.out⟩, HC, B8, B5, HRR, HB⟩
    · have hj : i = l.length := by have := HJ.out; omega
      subst hj
      have hnlt : ¬ ((l.length : Int) < (l.length : Int)) := by omega
      rw [List.take_length] at HRN
      have hd := HD.out
      go_upto_region 11 with fail
      have n1_ := Aside0.mk (show CellsAt wr.drew gc gw ws st from ⟨HC.out.c, HC.out.w, HC.out.ne⟩)
      have n2_ := Aside0.mk (show wr.drew.heap[w2.heap.size]? = some (.cells #[.slice Av n cv, .int .i64 st] 27 (0, 0)) from B8.out)
      have n3_ := Aside0.mk (show wr.drew.heap[W.heap.size]? = some (.cells #[.slice none 0 0, .int .i64 0] 27 (0, 0)) from B5.out)
      have n4_ := Aside0.mk (Kd.R_drew HRR.out)
      have n5_ := Aside0.mk (below_drew1 HB.out)
      clear HC B8 B5 HRR HB
      have HC := n1_
      have B8 := n2_
      have B5 := n3_
      have HRR := n4_
      have HB := n5_
      clear n1_ n2_ n3_ n4_ n5_
      refine start_ (n := 5) (S := fun w' => w'.cell? ⟨w2.heap.size, 0, none⟩ = some (.slice Av n cv) ∧ w'.cell? ⟨w2.heap.size, 1, none⟩ = some (.int .i64 st)) (ds := [3]) #[false, false, false, false, false] (by kernel_rfl) rfl rfl ⟨((blk_cell B8.out 0).trans rfl), ((blk_cell B8.out 1).trans rfl)⟩ (fun hHeld => ?_); refine with_tabW cel_run.tab11 cel_run.bits11 (fun HT_ HW_ => ?_)
      generalize wr.drew = W1 at HC B8 B5 HRR HB hHeld ⊢
      refine pure_ (i := 0) (N := some 68) (v := ?_) (a' := ?_) (crn_lb 5 1) rfl rfl (any_of HT_.out (by kernel_rfl)) (fun _ _ _ h => h) (Or.inl ⟨by rfl, ?_⟩) ?_ ?_; rotate_left
      · intro w'; go_simp; with_reducible rfl
      rotate_left
      · simp only [Act.put, List.setIfInBounds_toArray, List.set_cons_zero, List.set_cons_succ, i64_w, i32_w]; rfl
      refine pure_ (i := 2) (N := some 4) (v := ?_) (a' := ?_) (crn_lb 5 5) rfl rfl (any_of HT_.out (by kernel_rfl)) (fun _ _ _ h => h) (Or.inl ⟨by rfl, ?_⟩) ?_ ?_; rotate_left
      · intro w'; go_simp; with_reducible rfl
      rotate_left
      · simp only [Act.put, List.setIfInBounds_toArray, List.set_cons_zero, List.set_cons_succ, i64_w, i32_w]; rfl
      refine take_ (i := 1) (N := some 69) (v := ?_) (a' := ?_) (crn_lb 5 7) rfl rfl (take_ofW HT_.out HW_.out (by kernel_rfl)) (fun _ _ _ h => h) (Or.inl ⟨by rfl, ?_⟩) hHeld ?_ ?_; rotate_left
      · rintro w' ⟨s0, s1⟩; go_simp; with_reducible rfl
      rotate_left
      · simp only [Act.put, List.setIfInBounds_toArray, List.set_cons_zero, List.set_cons_succ, i64_w, i32_w]; rfl
      refine last_ (i := 3) (N := none) (crn_lb 5 15) rfl rfl (one_of HT_.out (by kernel_rfl)) (by decide) (fun K hK => ?_)
      have c5_0 : W1.cell? ⟨W.heap.size, 0, none⟩ = some (.slice none 0 0) := (blk_cell B5.out 0).trans rfl
      have c5_1 : W1.cell? ⟨W.heap.size, 1, none⟩ = some (.int .i64 0) := (blk_cell B5.out 1).trans rfl
      have f5_0 : W1.frozen? ⟨W.heap.size, 0, none⟩ = false := by simp [World.frozen?, B5.out]
      have f5_1 : W1.frozen? ⟨W.heap.size, 1, none⟩ = false := by simp [World.frozen?, B5.out]
      refine skip_ (w1 := ?_) (by rfl) rfl ?_ ?_
      rotate_left
      · go_simp
        rfl
      clear c5_0 c5_1 f5_0 f5_1
      refine hK.out _ _ ?_
      clear hK K
      refine pure_ (i := 4) (N := some 6) (v := ?_) (a' := ?_) (crn_lb 5 31) rfl rfl (any_of HT_.out (by kernel_rfl)) (fun _ _ _ h => h) (Or.inl ⟨by rfl, ?_⟩) ?_ ?_; rotate_left
      · intro w'; go_simp; with_reducible rfl
      rotate_left
      · simp only [Act.put, List.setIfInBounds_toArray, List.set_cons_zero, List.set_cons_succ, i64_w, i32_w]; rfl
      refine done_ (done_of HT_.out (by kernel_rfl)) ?_
      go_wp2
      refine bodyPost_ret (crn_tct rfl _ _ W.heap.size 27 #[.slice Av n cv, .int .i64 st] (0, 0) _ rfl (cel_put (cel_put B5.out _) _) Try.underlying27 rfl (by kernel_rfl)) rfl ?_
      have hn2 : W.heap.size ≤ W.heap.size := Nat.le_refl _
      refine ⟨gc, gw, Av, cv, by rw [HRN.out]; rfl, ?_, ?_, by have := HG.out; omega, by have := HG.out; omega, (HB.out.setCell (p := ⟨W.heap.size, 0, none⟩) hn2 _).setCell (p := ⟨W.heap.size, 1, none⟩) hn2 _⟩
      · rw [HRN.out]
        exact (HC.out.far hd.2.2.1 hd.2.2.2.1 _).far hd.2.2.1 hd.2.2.2.1 _
      · rw [HRN.out]
        exact Kd.R_mono (Kd.R_far (Kd.R_far HRR.out (fun k hk => hk.2.2.1) _) (fun k hk => hk.2.2.1) _) (fun k hk => ⟨hk.1, hk.2.1⟩)
def corrielaw06_CellsLast.T12 : Bool × List (List Nat × List Nat) := (true, [([], []), ([0], [0]), ([1], [1]), ([1, 2], [1, 2]), ([3, 1], [3]), ([4], [4]), ([5, 4], [4, 5]), ([4, 6], [4, 6]), ([7, 4], [7]), ([8], [8]), ([8], [8]), ([9, 10, 8], [8, 9, 10]), ([8, 11], [8, 11]), ([12, 8], [12]), ([13], [13]), ([13], [13]), ([15, 13], [13, 15]), ([14, 16, 13], [13, 14, 16]), ([13, 17], [13, 17]), ([18, 13], [18]), ([19], [19]), ([19, 20], [19, 20]), ([21, 19], [21]), ([22], [22]), ([22], [22]), ([23, 24, 22, 22], [22, 23, 24]), ([22], [22]), ([26, 22], [22, 26]), ([25, 27, 22], [22, 25, 27]), ([22, 28], [22, 28]), ([29, 25, 0, 1, 2, 3, 4, 5, 6, 7, 8, 9, 10, 11, 12, 13, 14, 15, 16, 17, 18, 19, 20, 21, 22, 23, 24, 25, 26, 27, 28, 29], [29])])
def corrielaw06_CellsLast.B12 : List Nat := [0, 1, 3, 7, 15, 31, 63, 127, 255, 511, 511, 2047, 4095, 8191, 16383, 16383, 49151, 131071, 262143, 524287, 1048575, 2097151, 4194303, 8388607, 8388607, 33554431, 8388607, 75497471, 268435455, 536870911, 1073741823]
theorem corrielaw06_CellsLast.tab12 : rtab .any (opsOf Try.f5 12) = corrielaw06_CellsLast.T12 := by kernel_rfl
theorem corrielaw06_CellsLast.bits12 : waitsOk corrielaw06_CellsLast.T12.2 corrielaw06_CellsLast.B12 = true := by kernel_rfl
def cla_lb (n m : Nat) : Array Bool := ((List.range n).map (fun i => m.testBit i)).toArray
def corrielaw06_CellsLast.f (a0 : Int) (l1 : List S47) (a2_0 a2_1 : Int) : Option Bool := if cNew (wrap64 (1 + (wrap64 a0).tmod 6)) ≤ 6 ∧ 0 < cNew (wrap64 (1 + (wrap64 a0).tmod 6)) ∧ 0 ≤ wrap64 a0 then some true else none
theorem cla_rd (ws : List Int) (i : Nat) (hi : i < ws.length) : cInb ws (i : Int) = true ∧ cRd ws (i : Int) = ws.getD i 0 := by
  have q : cInb ws (i : Int) = true := decide_eq_true (by omega)
  exact ⟨q, by unfold cRd; rw [q]; rfl⟩
theorem cla_set (ws : List Int) (i : Nat) (hi : i < ws.length) (b : Int) : (ws.set i b).getD i 0 = b := by
  simp [List.getD, hi]
theorem cla_ne (v : Int) : ¬ v = IntKind.u64.wrap (v + 1) := by
  simp only [IntKind.wrap, IntKind.bits, IntKind.signed]
  simp
  omega
set_option maxHeartbeats 8000000 in
set_option maxRecDepth 100000 in
theorem corrielaw06_CellsLast.calls (a0 : Int) (A1 : Option Addr) (c1 : Nat) (l1 : List S47) (a2_0 : Int) (a2_1 : Int) (r : Bool) (w : World) (hr1 : Kd.C k47 w A1 l1.length l1) (hc1 : l1.length ≤ c1) (h : corrielaw06_CellsLast.f a0 l1 a2_0 a2_1 = some r) :
    Calls Try.prog 5 #[.int .u8 a0, .slice A1 l1.length c1, .agg #[.int .u64 a2_0, .int .u64 a2_1]] w fun e w' => e = .returned (.bool r) ∧ Below w.heap.size w w' := by
  have HR1 := Aside0.mk hr1
  clear hr1 hc1
  have HB := Aside0.mk (Below.refl w.heap.size w)
  unfold corrielaw06_CellsLast.f at h
  by_cases hn6 : cNew (wrap64 (1 + (wrap64 a0).tmod 6)) ≤ 6 ∧ 0 < cNew (wrap64 (1 + (wrap64 a0).tmod 6)) ∧ 0 ≤ wrap64 a0
  rotate_left
  · rw [if_neg hn6] at h
    cases h
  rw [if_pos hn6] at h
  obtain rfl := Option.some.inj h
  obtain ⟨n, hn⟩ : ∃ n, cNew (wrap64 (1 + (wrap64 a0).tmod 6)) = n := ⟨_, rfl⟩
  rw [hn] at hn6
  have HNN := Aside0.mk hn
  have HN6 := Aside0.mk hn6.1
  have HP := Aside0.mk hn6.2
  clear h hn hn6
  by_cases hl : (40 : Int) < (l1.length : Int)
  · skip
    go_enter Try.func5, Try.ntmps5
    go_wp2_with (first | (go_at_call 8; (with_reducible refine (corrielaw06_awake.calls true _ rfl).mono ?_); rintro e w0 ⟨rfl, hb⟩; have B5 := Aside0.mk (show w0.heap[w.heap.size]? = some (.cells #[.int .u64 a2_0, .int .u64 a2_1] 38 (0, 0)) from blk_below (blk_new w _) hb); have n_ := Aside0.mk (below_step (below_alloc HB.out _) hb); clear HB hb; have HB := n_; clear n_))
    go_ret
    exact ⟨by first | rfl | (simp; done), HB.out⟩
  · have HL := Aside0.mk (show l1.length ≤ 40 from by omega)
    go_enter Try.func5, Try.ntmps5
    go_upto_region 5 with (first | (go_at_call 8; (with_reducible refine (corrielaw06_awake.calls true _ rfl).mono ?_); rintro e w0 ⟨rfl, hb⟩; have B5 := Aside0.mk (show w0.heap[w.heap.size]? = some (.cells #[.int .u64 a2_0, .int .u64 a2_1] 38 (0, 0)) from blk_below (blk_new w _) hb); have n_ := Aside0.mk (below_step (below_alloc HB.out _) hb); clear HB hb; have HB := n_; clear n_) | (go_at_call 9; (with_reducible refine (cel_run.law A1 c1 l1 a0 n _ (Kd.C_below HR1.out HB.out) HNN.out HN6.out HL.out).mono ?_); rintro e w1 ⟨gc, gw, A, c, rfl, hA, hR, hg1, hg2, hb⟩; have HC := Aside0.mk hA; have HWL := Aside0.mk (cRun_len n l1); have HCW := Aside0.mk (Kd.R_reads' hR).2.2; have HCC := Aside0.mk (Kd.R_reads' hR).2.1; have hl5 := blk_lt B5.out; have HN := Aside0.mk (show w.heap.size < gc ∧ w.heap.size < gw from by omega); have n_ := Aside0.mk (show w1.heap[w.heap.size]? = some (.cells #[.int .u64 a2_0, .int .u64 a2_1] 38 (0, 0)) from blk_below B5.out hb); clear B5 hl5; have B5 := n_; clear n_; have n_ := Aside0.mk (below_step HB.out hb); clear HB; have HB := n_; clear n_ hA hR hg1 hg2 hb))
    generalize (cRun n l1).1 = ws at HC HWL HCW HCC ⊢
    generalize (cRun n l1).2 = st at HC ⊢
    obtain ⟨W5, hW5⟩ : ∃ W5, w1.alloc (.cells #[.slice A n c, .int .i64 st] 27) = W5 := ⟨_, rfl⟩
    rw [hW5]
    have n1_ := Aside0.mk (show CellsAt W5 gc gw ws st from by rw [← hW5]; exact HC.out.below (below_alloc (Below.refl _ _) _))
    have n2_ := Aside0.mk (show W5.heap[w.heap.size]? = some (.cells #[.int .u64 a2_0, .int .u64 a2_1] 38 (0, 0)) from by rw [← hW5]; exact blk_below B5.out (below_alloc (Below.refl _ _) _))
    have n3_ := Aside0.mk (show Below w.heap.size w W5 from by rw [← hW5]; exact below_alloc HB.out _)
    have c9_0 : W5.cell? ⟨w1.heap.size, 0, none⟩ = some (.slice A n c) := by rw [← hW5]; exact (blk_cell (blk_new w1 (.cells #[.slice A n c, .int .i64 st] 27)) 0).trans rfl
    clear HC B5 HB HCW HCC hW5
    have HC := n1_
    have B5 := n2_
    have HB := n3_
    clear n1_ n2_ n3_
    have c5_0 : W5.cell? ⟨w.heap.size, 0, none⟩ = some (.int .u64 a2_0) := (blk_cell B5.out 0).trans rfl; have c5_1 : W5.cell? ⟨w.heap.size, 1, none⟩ = some (.int .u64 a2_1) := (blk_cell B5.out 1).trans rfl
    have hnz : ¬ (n : Int) = 0 := by have := HP.out; omega
    obtain ⟨i, hi⟩ : ∃ i : Nat, (wrap64 a0).tmod (n : Int) = (i : Int) := ⟨((wrap64 a0).tmod (n : Int)).toNat, by have h1 := HP.out; rw [Int.tmod_eq_emod_of_nonneg h1.2]; have h2 := Int.emod_nonneg (wrap64 a0) (show (n : Int) ≠ 0 from by omega); omega⟩
    have HI := Aside0.mk (show i < ws.length from by
      have h1 := HP.out
      rw [Int.tmod_eq_emod_of_nonneg h1.2] at hi
      have h2 := Int.emod_lt_of_pos (wrap64 a0) (show 0 < (n : Int) from by omega)
      rw [HWL.out]
      omega)
    obtain ⟨v, hv⟩ : ∃ v, ws.getD i 0 = v := ⟨_, rfl⟩
    have HV := Aside0.mk hv
    clear hv
    have HPK := Aside0.mk (show ∀ (W : World) (st : Int), CellsAt W gc gw ws st → Calls Try.prog 10 #[.pointer (some ⟨gc, 0, none⟩), .int .i64 (i : Int)] W (fun e w' => e = .returned (.int .u64 v) ∧ w' = W) from fun W st h => by
      have h2 := cel_Peek gc gw ws st (i : Int) W h
      rw [(cla_rd ws i HI.out).2, HV.out] at h2
      exact h2)
    have H1 := Aside0.mk (show ∀ (W : World) (st : Int), CellsAt W gc gw ws st → Calls Try.prog 17 #[.pointer (some ⟨gc, 0, none⟩), .int .i64 (i : Int), .int .u64 (IntKind.u64.wrap (v + 1)), .int .u64 a2_0] W (fun e w' => e = .returned (.bool false) ∧ (∃ s, CellsAt w' gc gw ws s) ∧ Touch (fun k => k = gc ∨ k = gw) W w') from fun W st h => by
      have h2 := cel_Swap gc gw ws st (i : Int) (IntKind.u64.wrap (v + 1)) a2_0 W h
      rw [show cSwW ws (i : Int) (IntKind.u64.wrap (v + 1)) a2_0 = ws from by unfold cSwW; rw [show cSwB ws (i : Int) (IntKind.u64.wrap (v + 1)) = false from by unfold cSwB; rw [(cla_rd ws i HI.out).1, (cla_rd ws i HI.out).2, HV.out, decide_eq_false (cla_ne v)]; rfl]; rfl] at h2
      rw [show cSwB ws (i : Int) (IntKind.u64.wrap (v + 1)) = false from by unfold cSwB; rw [(cla_rd ws i HI.out).1, (cla_rd ws i HI.out).2, HV.out, decide_eq_false (cla_ne v)]; rfl] at h2
      exact h2.mono (fun e w' h => ⟨h.1, ⟨_, h.2.1⟩, h.2.2⟩))
    have H2 := Aside0.mk (show ∀ (W : World) (st : Int), CellsAt W gc gw ws st → Calls Try.prog 15 #[.pointer (some ⟨gc, 0, none⟩), .int .i64 (i : Int)] W (fun e w' => e = .returned (.int .u64 v) ∧ (∃ s, CellsAt w' gc gw ws s) ∧ Touch (fun k => k = gc ∨ k = gw) W w') from fun W st h => by
      have h2 := cel_Load gc gw ws st (i : Int) W h
      rw [show cRd ws (i : Int) = v from by rw [(cla_rd ws i HI.out).2, HV.out]] at h2
      exact h2.mono (fun e w' h => ⟨h.1, ⟨_, h.2.1⟩, h.2.2⟩))
    have H3 := Aside0.mk (show ∀ (W : World) (st : Int), CellsAt W gc gw ws st → Calls Try.prog 18 #[.pointer (some ⟨gc, 0, none⟩), .int .i64 (i : Int), .int .u64 a2_0] W (fun e w' => e = .returned (.tuple #[]) ∧ (∃ s, CellsAt w' gc gw (ws.set i a2_0) s) ∧ Touch (fun k => k = gc ∨ k = gw) W w') from fun W st h => by
      have h2 := cel_Store gc gw ws st (i : Int) a2_0 W h
      rw [show cPutW ws (i : Int) a2_0 = (ws.set i a2_0) from by unfold cPutW; rw [(cla_rd ws i HI.out).1]; rfl] at h2
      exact h2.mono (fun e w' h => ⟨h.1, ⟨_, h.2.1⟩, h.2.2⟩))
    have H4 := Aside0.mk (show ∀ (W : World) (st : Int), CellsAt W gc gw (ws.set i a2_0) st → Calls Try.prog 15 #[.pointer (some ⟨gc, 0, none⟩), .int .i64 (i : Int)] W (fun e w' => e = .returned (.int .u64 a2_0) ∧ (∃ s, CellsAt w' gc gw (ws.set i a2_0) s) ∧ Touch (fun k => k = gc ∨ k = gw) W w') from fun W st h => by
      have h2 := cel_Load gc gw (ws.set i a2_0) st (i : Int) W h
      rw [show cRd (ws.set i a2_0) (i : Int) = a2_0 from by rw [(cla_rd _ i (show i < (ws.set i a2_0).length from by rw [List.length_set]; exact HI.out)).2, cla_set ws i HI.out]] at h2
      exact h2.mono (fun e w' h => ⟨h.1, ⟨_, h.2.1⟩, h.2.2⟩))
    have H5 := Aside0.mk (show ∀ (W : World) (st : Int), CellsAt W gc gw (ws.set i a2_0) st → Calls Try.prog 17 #[.pointer (some ⟨gc, 0, none⟩), .int .i64 (i : Int), .int .u64 a2_0, .int .u64 a2_1] W (fun e w' => e = .returned (.bool true) ∧ (∃ s, CellsAt w' gc gw (ws.set i a2_1) s) ∧ Touch (fun k => k = gc ∨ k = gw) W w') from fun W st h => by
      have h2 := cel_Swap gc gw (ws.set i a2_0) st (i : Int) a2_0 a2_1 W h
      rw [show cSwW (ws.set i a2_0) (i : Int) a2_0 a2_1 = (ws.set i a2_1) from by unfold cSwW; rw [show cSwB (ws.set i a2_0) (i : Int) a2_0 = true from by unfold cSwB; rw [(cla_rd _ i (show i < (ws.set i a2_0).length from by rw [List.length_set]; exact HI.out)).1, (cla_rd _ i (show i < (ws.set i a2_0).length from by rw [List.length_set]; exact HI.out)).2, cla_set ws i HI.out, decide_eq_true rfl]; rfl]; simp] at h2
      rw [show cSwB (ws.set i a2_0) (i : Int) a2_0 = true from by unfold cSwB; rw [(cla_rd _ i (show i < (ws.set i a2_0).length from by rw [List.length_set]; exact HI.out)).1, (cla_rd _ i (show i < (ws.set i a2_0).length from by rw [List.length_set]; exact HI.out)).2, cla_set ws i HI.out, decide_eq_true rfl]; rfl] at h2
      exact h2.mono (fun e w' h => ⟨h.1, ⟨_, h.2.1⟩, h.2.2⟩))
    have H6 := Aside0.mk (show ∀ (W : World) (st : Int), CellsAt W gc gw (ws.set i a2_1) st → Calls Try.prog 15 #[.pointer (some ⟨gc, 0, none⟩), .int .i64 (i : Int)] W (fun e w' => e = .returned (.int .u64 a2_1) ∧ (∃ s, CellsAt w' gc gw (ws.set i a2_1) s) ∧ Touch (fun k => k = gc ∨ k = gw) W w') from fun W st h => by
      have h2 := cel_Load gc gw (ws.set i a2_1) st (i : Int) W h
      rw [show cRd (ws.set i a2_1) (i : Int) = a2_1 from by rw [(cla_rd _ i (show i < (ws.set i a2_1).length from by rw [List.length_set]; exact HI.out)).2, cla_set ws i HI.out]] at h2
      exact h2.mono (fun e w' h => ⟨h.1, ⟨_, h.2.1⟩, h.2.2⟩))
    go_upto_region 12 with (first | (go_at_call 10; (with_reducible refine (HPK.out _ _ HC.out).mono ?_); rintro e wp ⟨rfl, rfl⟩) | (go_at_call 17; (with_reducible refine (H1.out _ _ HC.out).mono ?_); rintro e x1 ⟨rfl, ⟨s_, hA⟩, hT⟩; have n1_ := Aside0.mk hA; have n2_ := Aside0.mk (show x1.heap[w.heap.size]? = some (.cells #[.int .u64 a2_0, .int .u64 a2_1] 38 (0, 0)) from (hT.block _ (blk_lt B5.out) (fun h => h.elim (by have := HN.out; omega) (by have := HN.out; omega))).trans B5.out); have n3_ := Aside0.mk (HB.out.trans (hT.below HB.out.size (fun k hk => by have := HN.out; omega))); clear HC B5 HB c5_0 c5_1; have HC := n1_; have B5 := n2_; have HB := n3_; clear n1_ n2_ n3_ hA hT; have c5_0 : x1.cell? ⟨w.heap.size, 0, none⟩ = some (.int .u64 a2_0) := (blk_cell B5.out 0).trans rfl; have c5_1 : x1.cell? ⟨w.heap.size, 1, none⟩ = some (.int .u64 a2_1) := (blk_cell B5.out 1).trans rfl) | (go_at_call 15; (with_reducible refine (H2.out _ _ HC.out).mono ?_); rintro e x2 ⟨rfl, ⟨s_, hA⟩, hT⟩; have n1_ := Aside0.mk hA; have n2_ := Aside0.mk (show x2.heap[w.heap.size]? = some (.cells #[.int .u64 a2_0, .int .u64 a2_1] 38 (0, 0)) from (hT.block _ (blk_lt B5.out) (fun h => h.elim (by have := HN.out; omega) (by have := HN.out; omega))).trans B5.out); have n3_ := Aside0.mk (HB.out.trans (hT.below HB.out.size (fun k hk => by have := HN.out; omega))); clear HC B5 HB c5_0 c5_1; have HC := n1_; have B5 := n2_; have HB := n3_; clear n1_ n2_ n3_ hA hT; have c5_0 : x2.cell? ⟨w.heap.size, 0, none⟩ = some (.int .u64 a2_0) := (blk_cell B5.out 0).trans rfl; have c5_1 : x2.cell? ⟨w.heap.size, 1, none⟩ = some (.int .u64 a2_1) := (blk_cell B5.out 1).trans rfl) | (go_at_call 18; (with_reducible refine (H3.out _ _ HC.out).mono ?_); rintro e x3 ⟨rfl, ⟨s_, hA⟩, hT⟩; have n1_ := Aside0.mk hA; have n2_ := Aside0.mk (show x3.heap[w.heap.size]? = some (.cells #[.int .u64 a2_0, .int .u64 a2_1] 38 (0, 0)) from (hT.block _ (blk_lt B5.out) (fun h => h.elim (by have := HN.out; omega) (by have := HN.out; omega))).trans B5.out); have n3_ := Aside0.mk (HB.out.trans (hT.below HB.out.size (fun k hk => by have := HN.out; omega))); clear HC B5 HB c5_0 c5_1; have HC := n1_; have B5 := n2_; have HB := n3_; clear n1_ n2_ n3_ hA hT; have c5_0 : x3.cell? ⟨w.heap.size, 0, none⟩ = some (.int .u64 a2_0) := (blk_cell B5.out 0).trans rfl; have c5_1 : x3.cell? ⟨w.heap.size, 1, none⟩ = some (.int .u64 a2_1) := (blk_cell B5.out 1).trans rfl) | (go_at_call 15; (with_reducible refine (H4.out _ _ HC.out).mono ?_); rintro e x4 ⟨rfl, ⟨s_, hA⟩, hT⟩; have n1_ := Aside0.mk hA; have n2_ := Aside0.mk (show x4.heap[w.heap.size]? = some (.cells #[.int .u64 a2_0, .int .u64 a2_1] 38 (0, 0)) from (hT.block _ (blk_lt B5.out) (fun h => h.elim (by have := HN.out; omega) (by have := HN.out; omega))).trans B5.out); have n3_ := Aside0.mk (HB.out.trans (hT.below HB.out.size (fun k hk => by have := HN.out; omega))); clear HC B5 HB c5_0 c5_1; have HC := n1_; have B5 := n2_; have HB := n3_; clear n1_ n2_ n3_ hA hT; have c5_0 : x4.cell? ⟨w.heap.size, 0, none⟩ = some (.int .u64 a2_0) := (blk_cell B5.out 0).trans rfl; have c5_1 : x4.cell? ⟨w.heap.size, 1, none⟩ = some (.int .u64 a2_1) := (blk_cell B5.out 1).trans rfl) | (go_at_call 17; (with_reducible refine (H5.out _ _ HC.out).mono ?_); rintro e x5 ⟨rfl, ⟨s_, hA⟩, hT⟩; have n1_ := Aside0.mk hA; have n2_ := Aside0.mk (show x5.heap[w.heap.size]? = some (.cells #[.int .u64 a2_0, .int .u64 a2_1] 38 (0, 0)) from (hT.block _ (blk_lt B5.out) (fun h => h.elim (by have := HN.out; omega) (by have := HN.out; omega))).trans B5.out); have n3_ := Aside0.mk (HB.out.trans (hT.below HB.out.size (fun k hk => by have := HN.out; omega))); clear HC B5 HB c5_0 c5_1; have HC := n1_; have B5 := n2_; have HB := n3_; clear n1_ n2_ n3_ hA hT; have c5_0 : x5.cell? ⟨w.heap.size, 0, none⟩ = some (.int .u64 a2_0) := (blk_cell B5.out 0).trans rfl; have c5_1 : x5.cell? ⟨w.heap.size, 1, none⟩ = some (.int .u64 a2_1) := (blk_cell B5.out 1).trans rfl))
    clear c5_0 c5_1 c9_0
    have n2_ := Aside0.mk (show x5.drew.heap[w.heap.size]? = some (.cells #[.int .u64 a2_0, .int .u64 a2_1] 38 (0, 0)) from B5.out)
    have n1_ := Aside0.mk (show CellsAt x5.drew gc gw _ _ from ⟨HC.out.c, HC.out.w, HC.out.ne⟩)
    have n3_ := Aside0.mk (below_drew1 HB.out)
    clear HC B5 HB
    have HC := n1_
    have B5 := n2_
    have HB := n3_
    clear n1_ n2_ n3_
    refine start_ (n := 31) (S := fun w' => w'.cell? ⟨w.heap.size, 0, none⟩ = some (.int .u64 a2_0) ∧ w'.cell? ⟨w.heap.size, 1, none⟩ = some (.int .u64 a2_1)) (ds := []) #[false, false, false, false, false, false, false, false, false, false, false, false, false, false, false, false, false, false, false, false, false, false, false, false, false, false, false, false, false, false, false] (by kernel_rfl) rfl rfl ⟨((blk_cell B5.out 0).trans rfl), ((blk_cell B5.out 1).trans rfl)⟩ (fun hHeld => ?_); refine with_tabW corrielaw06_CellsLast.tab12 corrielaw06_CellsLast.bits12 (fun HT_ HW_ => ?_)
    generalize x5.drew = W1 at HC B5 HB hHeld ⊢
    refine pure_ (i := 0) (N := some 63) (v := ?_) (a' := ?_) (cla_lb 31 1) rfl rfl (any_of HT_.out (by kernel_rfl)) (fun _ _ _ h => h) (Or.inl ⟨by rfl, ?_⟩) ?_ ?_; rotate_left
    · intro w'; go_simp; with_reducible rfl
    rotate_left
    · simp only [Act.put, List.setIfInBounds_toArray, List.set_cons_zero, List.set_cons_succ, i64_w, i32_w]; rfl
    refine pure_ (i := 1) (N := some 64) (v := ?_) (a' := ?_) (cla_lb 31 3) rfl rfl (any_of HT_.out (by kernel_rfl)) (fun _ _ _ h => h) (Or.inl ⟨by rfl, ?_⟩) ?_ ?_; rotate_left
    · intro w'; go_simp; with_reducible rfl
    rotate_left
    · simp only [Act.put, List.setIfInBounds_toArray, List.set_cons_zero, List.set_cons_succ, i64_w, i32_w]; rfl
    refine pure_ (i := 2) (N := some 65) (v := ?_) (a' := ?_) (cla_lb 31 7) rfl rfl (any_of HT_.out (by kernel_rfl)) (fun _ _ _ h => h) (Or.inl ⟨by rfl, ?_⟩) ?_ ?_; rotate_left
    · intro w'; go_simp; with_reducible rfl
    rotate_left
    · simp only [Act.put, List.setIfInBounds_toArray, List.set_cons_zero, List.set_cons_succ, i64_w, i32_w]; rfl
    refine pure_ (i := 3) (N := some 66) (v := ?_) (a' := ?_) (cla_lb 31 15) rfl rfl (any_of HT_.out (by kernel_rfl)) (fun _ _ _ h => h) (Or.inl ⟨by rfl, ?_⟩) ?_ ?_; rotate_left
    · intro w'; go_simp; with_reducible rfl
    rotate_left
    · simp only [Act.put, List.setIfInBounds_toArray, List.set_cons_zero, List.set_cons_succ, i64_w, i32_w]; rfl
    refine pure_ (i := 4) (N := some 67) (v := ?_) (a' := ?_) (cla_lb 31 31) rfl rfl (any_of HT_.out (by kernel_rfl)) (fun _ _ _ h => h) (Or.inl ⟨by rfl, ?_⟩) ?_ ?_; rotate_left
    · intro w'; go_simp; with_reducible rfl
    rotate_left
    · simp only [Act.put, List.setIfInBounds_toArray, List.set_cons_zero, List.set_cons_succ, i64_w, i32_w]; rfl
    refine pure_ (i := 5) (N := some 68) (v := ?_) (a' := ?_) (cla_lb 31 63) rfl rfl (any_of HT_.out (by kernel_rfl)) (fun _ _ _ h => h) (Or.inl ⟨by rfl, ?_⟩) ?_ ?_; rotate_left
    · intro w'; go_simp; with_reducible rfl
    rotate_left
    · simp only [Act.put, List.setIfInBounds_toArray, List.set_cons_zero, List.set_cons_succ, i64_w, i32_w]; rfl
    refine pure_ (i := 6) (N := some 69) (v := ?_) (a' := ?_) (cla_lb 31 127) rfl rfl (any_of HT_.out (by kernel_rfl)) (fun _ _ _ h => h) (Or.inl ⟨by rfl, ?_⟩) ?_ ?_; rotate_left
    · intro w'; go_simp; with_reducible rfl
    rotate_left
    · simp only [Act.put, List.setIfInBounds_toArray, List.set_cons_zero, List.set_cons_succ, i64_w, i32_w]; rfl
    refine pure_ (i := 7) (N := some 70) (v := ?_) (a' := ?_) (cla_lb 31 255) rfl rfl (any_of HT_.out (by kernel_rfl)) (fun _ _ _ h => h) (Or.inl ⟨by rfl, ?_⟩) ?_ ?_; rotate_left
    · intro w'; go_simp; with_reducible rfl
    rotate_left
    · simp only [Act.put, List.setIfInBounds_toArray, List.set_cons_zero, List.set_cons_succ, i64_w, i32_w]; rfl
    refine pure_ (i := 8) (N := some 71) (v := ?_) (a' := ?_) (cla_lb 31 511) rfl rfl (any_of HT_.out (by kernel_rfl)) (fun _ _ _ h => h) (Or.inl ⟨by rfl, ?_⟩) ?_ ?_; rotate_left
    · intro w'; go_simp; with_reducible rfl
    rotate_left
    · simp only [Act.put, List.setIfInBounds_toArray, List.set_cons_zero, List.set_cons_succ, i64_w, i32_w]; rfl
    refine pure_ (i := 9) (N := some 72) (v := ?_) (a' := ?_) (cla_lb 31 1023) rfl rfl (any_of HT_.out (by kernel_rfl)) (fun _ _ _ h => h) (Or.inl ⟨by rfl, ?_⟩) ?_ ?_; rotate_left
    · intro w'; go_simp; with_reducible rfl
    rotate_left
    · simp only [Act.put, List.setIfInBounds_toArray, List.set_cons_zero, List.set_cons_succ, i64_w, i32_w]; rfl
    refine pure_ (i := 10) (N := some 73) (v := ?_) (a' := ?_) (cla_lb 31 2047) rfl rfl (any_of HT_.out (by kernel_rfl)) (fun _ _ _ h => h) (Or.inl ⟨by rfl, ?_⟩) ?_ ?_; rotate_left
    · intro w'; go_simp; with_reducible rfl
    rotate_left
    · simp only [Act.put, List.setIfInBounds_toArray, List.set_cons_zero, List.set_cons_succ, i64_w, i32_w]; rfl
    refine pure_ (i := 11) (N := some 74) (v := ?_) (a' := ?_) (cla_lb 31 4095) rfl rfl (any_of HT_.out (by kernel_rfl)) (fun _ _ _ h => h) (Or.inl ⟨by rfl, ?_⟩) ?_ ?_; rotate_left
    · intro w'; go_simp; with_reducible rfl
    rotate_left
    · simp only [Act.put, List.setIfInBounds_toArray, List.set_cons_zero, List.set_cons_succ, i64_w, i32_w]; rfl
    refine pure_ (i := 12) (N := some 75) (v := ?_) (a' := ?_) (cla_lb 31 8191) rfl rfl (any_of HT_.out (by kernel_rfl)) (fun _ _ _ h => h) (Or.inl ⟨by rfl, ?_⟩) ?_ ?_; rotate_left
    · intro w'; go_simp; with_reducible rfl
    rotate_left
    · simp only [Act.put, List.setIfInBounds_toArray, List.set_cons_zero, List.set_cons_succ, i64_w, i32_w]; rfl
    refine pure_ (i := 13) (N := some 76) (v := ?_) (a' := ?_) (cla_lb 31 16383) rfl rfl (any_of HT_.out (by kernel_rfl)) (fun _ _ _ h => h) (Or.inl ⟨by rfl, ?_⟩) ?_ ?_; rotate_left
    · intro w'; go_simp; with_reducible rfl
    rotate_left
    · simp only [Act.put, List.setIfInBounds_toArray, List.set_cons_zero, List.set_cons_succ, i64_w, i32_w]; rfl
    refine pure_ (i := 14) (N := some 77) (v := ?_) (a' := ?_) (cla_lb 31 32767) rfl rfl (any_of HT_.out (by kernel_rfl)) (fun _ _ _ h => h) (Or.inl ⟨by rfl, ?_⟩) ?_ ?_; rotate_left
    · intro w'; go_simp; with_reducible rfl
    rotate_left
    · simp only [Act.put, List.setIfInBounds_toArray, List.set_cons_zero, List.set_cons_succ, i64_w, i32_w]; rfl
    refine pure_ (i := 15) (N := some 78) (v := ?_) (a' := ?_) (cla_lb 31 65535) rfl rfl (any_of HT_.out (by kernel_rfl)) (fun _ _ _ h => h) (Or.inl ⟨by rfl, ?_⟩) ?_ ?_; rotate_left
    · intro w'; go_simp; with_reducible rfl
    rotate_left
    · simp only [Act.put, List.setIfInBounds_toArray, List.set_cons_zero, List.set_cons_succ, i64_w, i32_w]; rfl
    refine take_ (i := 16) (N := some 79) (v := ?_) (a' := ?_) (cla_lb 31 131071) rfl rfl (take_ofW HT_.out HW_.out (by kernel_rfl)) (fun _ _ _ h => h) (Or.inl ⟨by rfl, ?_⟩) hHeld ?_ ?_; rotate_left
    · rintro w' ⟨s0, s1⟩; go_simp; with_reducible rfl
    rotate_left
    · simp only [Act.put, List.setIfInBounds_toArray, List.set_cons_zero, List.set_cons_succ, i64_w, i32_w]; rfl
    refine pure_ (i := 17) (N := some 80) (v := ?_) (a' := ?_) (cla_lb 31 262143) rfl rfl (any_of HT_.out (by kernel_rfl)) (fun _ _ _ h => h) (Or.inl ⟨by rfl, ?_⟩) ?_ ?_; rotate_left
    · intro w'; go_simp; with_reducible rfl
    rotate_left
    · simp only [Act.put, List.setIfInBounds_toArray, List.set_cons_zero, List.set_cons_succ, i64_w, i32_w]; rfl
    refine pure_ (i := 18) (N := some 81) (v := ?_) (a' := ?_) (cla_lb 31 524287) rfl rfl (any_of HT_.out (by kernel_rfl)) (fun _ _ _ h => h) (Or.inl ⟨by rfl, ?_⟩) ?_ ?_; rotate_left
    · intro w'; go_simp; with_reducible rfl
    rotate_left
    · simp only [Act.put, List.setIfInBounds_toArray, List.set_cons_zero, List.set_cons_succ, i64_w, i32_w]; rfl
    refine pure_ (i := 19) (N := some 82) (v := ?_) (a' := ?_) (cla_lb 31 1048575) rfl rfl (any_of HT_.out (by kernel_rfl)) (fun _ _ _ h => h) (Or.inl ⟨by rfl, ?_⟩) ?_ ?_; rotate_left
    · intro w'; go_simp; with_reducible rfl
    rotate_left
    · simp only [Act.put, List.setIfInBounds_toArray, List.set_cons_zero, List.set_cons_succ, i64_w, i32_w]; rfl
    refine pure_ (i := 20) (N := some 83) (v := ?_) (a' := ?_) (cla_lb 31 2097151) rfl rfl (any_of HT_.out (by kernel_rfl)) (fun _ _ _ h => h) (Or.inl ⟨by rfl, ?_⟩) ?_ ?_; rotate_left
    · intro w'; go_simp; with_reducible rfl
    rotate_left
    · simp only [Act.put, List.setIfInBounds_toArray, List.set_cons_zero, List.set_cons_succ, i64_w, i32_w]; rfl
    refine pure_ (i := 21) (N := some 84) (v := ?_) (a' := ?_) (cla_lb 31 4194303) rfl rfl (any_of HT_.out (by kernel_rfl)) (fun _ _ _ h => h) (Or.inl ⟨by rfl, ?_⟩) ?_ ?_; rotate_left
    · intro w'; go_simp; with_reducible rfl
    rotate_left
    · simp only [Act.put, List.setIfInBounds_toArray, List.set_cons_zero, List.set_cons_succ, i64_w, i32_w]; rfl
    refine pure_ (i := 22) (N := some 85) (v := ?_) (a' := ?_) (cla_lb 31 8388607) rfl rfl (any_of HT_.out (by kernel_rfl)) (fun _ _ _ h => h) (Or.inl ⟨by rfl, ?_⟩) ?_ ?_; rotate_left
    · intro w'; go_simp; with_reducible rfl
    rotate_left
    · simp only [Act.put, List.setIfInBounds_toArray, List.set_cons_zero, List.set_cons_succ, i64_w, i32_w]; rfl
    refine pure_ (i := 23) (N := some 86) (v := ?_) (a' := ?_) (cla_lb 31 16777215) rfl rfl (any_of HT_.out (by kernel_rfl)) (fun _ _ _ h => h) (Or.inl ⟨by rfl, ?_⟩) ?_ ?_; rotate_left
    · intro w'; go_simp; with_reducible rfl
    rotate_left
    · simp only [Act.put, List.setIfInBounds_toArray, List.set_cons_zero, List.set_cons_succ, i64_w, i32_w]; rfl
    refine pure_ (i := 24) (N := some 87) (v := ?_) (a' := ?_) (cla_lb 31 33554431) rfl rfl (any_of HT_.out (by kernel_rfl)) (fun _ _ _ h => h) (Or.inl ⟨by rfl, ?_⟩) ?_ ?_; rotate_left
    · intro w'; go_simp; with_reducible rfl
    rotate_left
    · simp only [Act.put, List.setIfInBounds_toArray, List.set_cons_zero, List.set_cons_succ, i64_w, i32_w]; rfl
    refine pure_ (i := 26) (N := some 89) (v := ?_) (a' := ?_) (cla_lb 31 100663295) rfl rfl (any_of HT_.out (by kernel_rfl)) (fun _ _ _ h => h) (Or.inl ⟨by rfl, ?_⟩) ?_ ?_; rotate_left
    · intro w'; go_simp; with_reducible rfl
    rotate_left
    · simp only [Act.put, List.setIfInBounds_toArray, List.set_cons_zero, List.set_cons_succ, i64_w, i32_w]; rfl
    refine take_ (i := 27) (N := some 90) (v := ?_) (a' := ?_) (cla_lb 31 234881023) rfl rfl (take_ofW HT_.out HW_.out (by kernel_rfl)) (fun _ _ _ h => h) (Or.inl ⟨by rfl, ?_⟩) hHeld ?_ ?_; rotate_left
    · rintro w' ⟨s0, s1⟩; go_simp; with_reducible rfl
    rotate_left
    · simp only [Act.put, List.setIfInBounds_toArray, List.set_cons_zero, List.set_cons_succ, i64_w, i32_w]; rfl
    refine one_ (i := 25) (N := some 88) (cla_lb 31 268435455) rfl rfl (one_of HT_.out (by kernel_rfl)) (by decide) (fun K hK => ?_)
    refine goes_ Try.func15 (by kernel_rfl) rfl #[.pointer (some ⟨gc, 0, none⟩), .int .i64 (i : Int)] (by rfl) rfl rfl (by (try simp only [List.map_toArray, List.map_cons, List.map_nil]); first | done | rfl) ?_
    with_reducible refine (H6.out _ _ HC.out).mono ?_
    rintro e x6 ⟨rfl, ⟨s_, hA⟩, hT⟩
    refine ⟨_, rfl, ?_⟩
    have n2_ := Aside0.mk (show x6.heap[w.heap.size]? = some (.cells #[.int .u64 a2_0, .int .u64 a2_1] 38 (0, 0)) from (hT.block _ (blk_lt B5.out) (fun h => h.elim (by have := HN.out; omega) (by have := HN.out; omega))).trans B5.out)
    have n3_ := Aside0.mk (HB.out.trans (hT.below HB.out.size (fun k hk => by have := HN.out; omega)))
    clear HC B5 HB hA hT
    have B5 := n2_
    have HB := n3_
    clear n2_ n3_
    refine hK.out _ _ ⟨((blk_cell B5.out 0).trans rfl), ((blk_cell B5.out 1).trans rfl)⟩ (fun hHeld => ?_)
    clear hK K
    refine norm_ (a' := ?_) ?_ ?_
    rotate_left
    · show Act.put _ (some 88) _ = _
      simp only [Act.put, List.setIfInBounds_toArray, List.set_cons_zero, List.set_cons_succ, i64_w, i32_w]
      rfl
    refine pure_ (i := 28) (N := some 91) (v := ?_) (a' := ?_) (cla_lb 31 536870911) rfl rfl (any_of HT_.out (by kernel_rfl)) (fun _ _ _ h => h) (Or.inl ⟨by rfl, ?_⟩) ?_ ?_; rotate_left
    · intro w'; go_simp; with_reducible rfl
    rotate_left
    · simp only [Act.put, List.setIfInBounds_toArray, List.set_cons_zero, List.set_cons_succ, i64_w, i32_w]; rfl
    refine pure_ (i := 29) (N := some 92) (v := ?_) (a' := ?_) (cla_lb 31 1073741823) rfl rfl (any_of HT_.out (by kernel_rfl)) (fun _ _ _ h => h) (Or.inl ⟨by rfl, ?_⟩) ?_ ?_; rotate_left
    · intro w'; go_simp; with_reducible rfl
    rotate_left
    · simp only [Act.put, List.setIfInBounds_toArray, List.set_cons_zero, List.set_cons_succ, i64_w, i32_w]; rfl
    refine pure_ (i := 30) (N := some 6) (v := ?_) (a' := ?_) (cla_lb 31 2147483647) rfl rfl (any_of HT_.out (by kernel_rfl)) (fun _ _ _ h => h) (Or.inl ⟨by rfl, ?_⟩) ?_ ?_; rotate_left
    · intro w'; go_simp; with_reducible rfl
    rotate_left
    · simp only [Act.put, List.setIfInBounds_toArray, List.set_cons_zero, List.set_cons_succ, i64_w, i32_w]; rfl
    refine done_ (done_of HT_.out (by kernel_rfl)) ?_
    go_wp2
    go_ret
    exact ⟨by first | rfl | (simp; done), HB.out⟩


end Go.Proofs.Ytpcmoclohepdiaa.PCellsLast
