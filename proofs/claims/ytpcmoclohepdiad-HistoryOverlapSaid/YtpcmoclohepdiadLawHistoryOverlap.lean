-- Written by a program of this session (wip/tools/rowgen.py)
import Derived.Test.YtpcmoclohepdiadRows
import Derived.Test.YtpcmoclohepdiadStmHistoryOverlap
import Derived.Test.YtpcmoclohepdiadPureHistoryOverlap
import Derived.Test.YtpcmoclohepdiadOpen
import Derived.WalkKit
import Derived.ProofKit
import Derived.OpenShut
import Derived.ShutString
import Derived.ChangeOld
import Derived.Below
import Derived.SizedLaws
namespace Go.Proofs.Ytpcmoclohepdiad.historyOverlap
open Go.ChangeShapes Go.WideShapes Go.ChangeAt Go.RowKit Go.Proofs.Ytpcmoclohepdiad.Open Go.Proofs.Ytpcmoclohepdiad.PHistoryOverlap Go.Proofs.YtpcmoclohepdiadW.PrintWords
set_option linter.unusedVariables false
set_option linter.unusedSimpArgs false
theorem own : ownKnob Try.prog.godebug = none := by kernel_rfl
theorem laidOut : laidOutB Try.prog = true := by kernel_rfl
theorem open0 : Opens Try.prog (Kd.pair (Kd.int .i64) (Kd.pair (Kd.int .i64) (Kd.pair (Kd.int .i64) (Kd.pair (Kd.int .i64) (Kd.pair (Kd.int .i64) (Kd.pair (Kd.pair (Kd.int .i64) (Kd.pair (Kd.int .u64) (Kd.pair (Kd.int .u64) (Kd.int .i64)))) (Kd.pair (Kd.int .i64) (Kd.pair Kd.bool (Kd.pair (Kd.int .u64) (Kd.slice 49 k49)))))))))) 31 (fun v => ((Lit.int .i64 v.1).wf = true ∧ (Lit.int .i64 v.2.1).wf = true ∧ (Lit.int .i64 v.2.2.1).wf = true ∧ (Lit.int .i64 v.2.2.2.1).wf = true ∧ (Lit.int .i64 v.2.2.2.2.1).wf = true ∧ ((Lit.int .i64 v.2.2.2.2.2.1.1).wf = true ∧ (Lit.int .u64 v.2.2.2.2.2.1.2.1).wf = true ∧ (Lit.int .u64 v.2.2.2.2.2.1.2.2.1).wf = true ∧ (Lit.int .i64 v.2.2.2.2.2.1.2.2.2).wf = true) ∧ ((Lit.int .i64 v.2.2.2.2.2.2.1).wf = true ∧ True ∧ (Lit.int .u64 v.2.2.2.2.2.2.2.2.1).wf = true ∧ (∀ x_ ∈ v.2.2.2.2.2.2.2.2.2, ((Lit.int .u64 x_.f0).wf = true ∧ (Lit.int .u64 x_.f1).wf = true))))) :=
  (opens_struct Try.underlying31 (by kernel_rfl) (by kernel_rfl) (opens_pair (opens_int Try.underlying3) (opens_pair (opens_int Try.underlying3) (opens_pair (opens_int Try.underlying3) (opens_pair (opens_int Try.underlying3) (opens_pair (opens_int Try.underlying3) (opens_pair (opens_struct Try.underlying25 (by kernel_rfl) (by kernel_rfl) (opens_pair (opens_int Try.underlying3) (opens_pair (opens_int Try.underlying23) (opens_pair (opens_int Try.underlying23) (opens_one (opens_int Try.underlying3)))))) (opens_one (opens_struct Try.underlying29 (by kernel_rfl) (by kernel_rfl) (opens_pair (opens_int Try.underlying26) (opens_pair (opens_bool Try.underlying4) (opens_pair (opens_int Try.underlying23) (opens_one (opens_slice Try.underlying27 (by kernel_rfl) (opens_iso _ (fun x => ⟨x.1, x.2⟩) (fun _ => rfl) (opens_struct Try.underlying49 (by kernel_rfl) (by kernel_rfl) (opens_pair (opens_int Try.underlying23) (opens_one (opens_int Try.underlying23)))))))))))))))))))
theorem open1 : Opens Try.prog (Kd.pair (Kd.int .i64) (Kd.pair (Kd.int .i64) (Kd.pair (Kd.int .i64) (Kd.pair (Kd.int .i64) (Kd.pair (Kd.int .i64) (Kd.pair (Kd.pair (Kd.int .i64) (Kd.pair (Kd.int .u64) (Kd.pair (Kd.int .u64) (Kd.int .i64)))) (Kd.pair (Kd.int .i64) (Kd.pair Kd.bool (Kd.pair (Kd.int .u64) (Kd.slice 49 k49)))))))))) 31 (fun v => ((Lit.int .i64 v.1).wf = true ∧ (Lit.int .i64 v.2.1).wf = true ∧ (Lit.int .i64 v.2.2.1).wf = true ∧ (Lit.int .i64 v.2.2.2.1).wf = true ∧ (Lit.int .i64 v.2.2.2.2.1).wf = true ∧ ((Lit.int .i64 v.2.2.2.2.2.1.1).wf = true ∧ (Lit.int .u64 v.2.2.2.2.2.1.2.1).wf = true ∧ (Lit.int .u64 v.2.2.2.2.2.1.2.2.1).wf = true ∧ (Lit.int .i64 v.2.2.2.2.2.1.2.2.2).wf = true) ∧ ((Lit.int .i64 v.2.2.2.2.2.2.1).wf = true ∧ True ∧ (Lit.int .u64 v.2.2.2.2.2.2.2.2.1).wf = true ∧ (∀ x_ ∈ v.2.2.2.2.2.2.2.2.2, ((Lit.int .u64 x_.f0).wf = true ∧ (Lit.int .u64 x_.f1).wf = true))))) :=
  (opens_struct Try.underlying31 (by kernel_rfl) (by kernel_rfl) (opens_pair (opens_int Try.underlying3) (opens_pair (opens_int Try.underlying3) (opens_pair (opens_int Try.underlying3) (opens_pair (opens_int Try.underlying3) (opens_pair (opens_int Try.underlying3) (opens_pair (opens_struct Try.underlying25 (by kernel_rfl) (by kernel_rfl) (opens_pair (opens_int Try.underlying3) (opens_pair (opens_int Try.underlying23) (opens_pair (opens_int Try.underlying23) (opens_one (opens_int Try.underlying3)))))) (opens_one (opens_struct Try.underlying29 (by kernel_rfl) (by kernel_rfl) (opens_pair (opens_int Try.underlying26) (opens_pair (opens_bool Try.underlying4) (opens_pair (opens_int Try.underlying23) (opens_one (opens_slice Try.underlying27 (by kernel_rfl) (opens_iso _ (fun x => ⟨x.1, x.2⟩) (fun _ => rfl) (opens_struct Try.underlying49 (by kernel_rfl) (by kernel_rfl) (opens_pair (opens_int Try.underlying23) (opens_one (opens_int Try.underlying23)))))))))))))))))))
set_option maxRecDepth 100000 in
set_option maxHeartbeats 1000000 in
theorem lifted (os : Os) (started : os.Started) (H : Type) (enc : TypeId × Value → H) :
    ReturnsInHanded {} Try.checked os 7 .any (Rows.historyOverlapSpec.pre6 enc Try.prog Try.f7 Rows.historyOverlapRow.domain false) (Rows.historyOverlapSpec.post enc Try.prog Try.f7 false true false false) := by
  refine returnsInHanded_of_change_sized (C := Try.checked) own started (by kernel_rfl) Try.func7
    (ChangeSpec.witness6 (enc := enc) (C := Try.checked) false ⟨#[], #[.agg #[.int .i64 0, .int .i64 0, .int .i64 0, .int .i64 0, .int .i64 0, .int .i64 0, .int .u64 0, .int .u64 0, .int .i64 0, .int .i64 0, .bool false, .int .u64 0, .slice none 0 0], .agg #[.int .i64 0, .int .i64 0, .int .i64 0, .int .i64 0, .int .i64 0, .int .i64 0, .int .u64 0, .int .u64 0, .int .i64 0, .int .i64 0, .bool false, .int .u64 0, .slice none 0 0]], []⟩ 8 (by kernel_rfl) (by kernel_rfl) (by kernel_rfl) (by kernel_rfl)) ?_
  intro W base args ds gs before hval0 hW hcnd hsz0 _
  have hval : ∀ (j : Nat) t v, Try.f7.params[j]? = some t → args[j]? = some v → Value.okWide Try.prog W .any base t v := hval0
  have hW' := hW
  obtain ⟨p, q, hA0, hV, rfl, hfz, hnd⟩ := hW
  have hA : DataW.TrodAll enc Try.prog W 0 (fun _ => true) true Try.f7.params.toList args.toList ds p := hA0
  rw [Try.params7] at hA hval
  obtain ⟨v0, vs0, d0, ds0, p0, q0, hargs, rfl, rfl, h0, r0⟩ := trodAll_cons hA
  obtain ⟨v1, vs1, d1, ds1, p1, q1, rfl, rfl, rfl, h1, r1⟩ := trodAll_cons r0
  obtain ⟨rfl, rfl, rfl⟩ := trodAll_nil r1
  obtain rfl : args = #[v0, v1] := by cases args; simp_all
  obtain ⟨rfl, rfl⟩ := trodVars_none hV
  have k0 := h0
  have lt0 : ∀ x ∈ p0, x.block < W.heap.size := by obtain ⟨m, hm⟩ := k0; exact DataW.trod_lt m _ _ _ hm
  obtain ⟨fuel0, hf0⟩ := h0
  obtain ⟨b0, hk0, w0⟩ := open0 hf0
  obtain ⟨cs0, rfl, _⟩ := okWide_struct Try.underlying31 (hval 0 31 v0 rfl rfl)
  obtain ⟨L0, hL0⟩ : ∃ L, L = (Value.agg cs0).cells.toList := ⟨_, rfl⟩
  rw [← hL0] at hk0
  obtain ⟨x0_0, y0_0, rfl, u0_0, r0_0⟩ := hk0
  obtain ⟨x0_1, y0_1, rfl, u0_1, r0_1⟩ := r0_0
  obtain ⟨x0_2, y0_2, rfl, u0_2, r0_2⟩ := r0_1
  obtain ⟨x0_3, y0_3, rfl, u0_3, r0_3⟩ := r0_2
  obtain ⟨x0_4, y0_4, rfl, u0_4, r0_4⟩ := r0_3
  obtain ⟨x0_5, y0_5, rfl, u0_5, r0_5⟩ := r0_4
  obtain ⟨x0_6, y0_6, rfl, u0_6, r0_6⟩ := u0_5
  obtain ⟨x0_7, y0_7, rfl, u0_7, r0_7⟩ := r0_6
  obtain ⟨x0_8, y0_8, rfl, u0_8, r0_8⟩ := r0_7
  obtain ⟨x0_9, y0_9, rfl, u0_9, r0_9⟩ := r0_5
  obtain ⟨x0_10, y0_10, rfl, u0_10, r0_10⟩ := r0_9
  obtain ⟨x0_11, y0_11, rfl, u0_11, r0_11⟩ := r0_10
  have q0_0 : _ = [Value.int .i64 b0.1] := u0_0
  have q0_1 : _ = [Value.int .i64 b0.2.1] := u0_1
  have q0_2 : _ = [Value.int .i64 b0.2.2.1] := u0_2
  have q0_3 : _ = [Value.int .i64 b0.2.2.2.1] := u0_3
  have q0_4 : _ = [Value.int .i64 b0.2.2.2.2.1] := u0_4
  have q0_5 : _ = [Value.int .i64 b0.2.2.2.2.2.1.1] := u0_6
  have q0_6 : _ = [Value.int .u64 b0.2.2.2.2.2.1.2.1] := u0_7
  have q0_7 : _ = [Value.int .u64 b0.2.2.2.2.2.1.2.2.1] := u0_8
  have q0_8 : _ = [Value.int .i64 b0.2.2.2.2.2.1.2.2.2] := r0_8
  have q0_9 : _ = [Value.int .i64 b0.2.2.2.2.2.2.1] := u0_9
  have q0_10 : _ = [Value.bool b0.2.2.2.2.2.2.2.1] := u0_10
  have q0_11 : _ = [Value.int .u64 b0.2.2.2.2.2.2.2.2.1] := u0_11
  obtain ⟨A0_12, c0_12, q0_12, hc0_12, hr0_12⟩ := r0_11
  simp only [q0_0, q0_1, q0_2, q0_3, q0_4, q0_5, q0_6, q0_7, q0_8, q0_9, q0_10, q0_11, q0_12, List.cons_append, List.nil_append, List.append_nil] at hL0
  have hv0 : Value.agg cs0 = .agg #[.int .i64 b0.1, .int .i64 b0.2.1, .int .i64 b0.2.2.1, .int .i64 b0.2.2.2.1, .int .i64 b0.2.2.2.2.1, .int .i64 b0.2.2.2.2.2.1.1, .int .u64 b0.2.2.2.2.2.1.2.1, .int .u64 b0.2.2.2.2.2.1.2.2.1, .int .i64 b0.2.2.2.2.2.1.2.2.2, .int .i64 b0.2.2.2.2.2.2.1, .bool b0.2.2.2.2.2.2.2.1, .int .u64 b0.2.2.2.2.2.2.2.2.1, .slice A0_12 (b0.2.2.2.2.2.2.2.2.2).length c0_12] := agg_of hL0.symm
  rw [hv0] at k0
  have k1 := h1
  have lt1 : ∀ x ∈ p1, x.block < W.heap.size := by obtain ⟨m, hm⟩ := k1; exact DataW.trod_lt m _ _ _ hm
  obtain ⟨fuel1, hf1⟩ := h1
  obtain ⟨b1, hk1, w1⟩ := open1 hf1
  obtain ⟨cs1, rfl, _⟩ := okWide_struct Try.underlying31 (hval 1 31 v1 rfl rfl)
  obtain ⟨L1, hL1⟩ : ∃ L, L = (Value.agg cs1).cells.toList := ⟨_, rfl⟩
  rw [← hL1] at hk1
  obtain ⟨x1_0, y1_0, rfl, u1_0, r1_0⟩ := hk1
  obtain ⟨x1_1, y1_1, rfl, u1_1, r1_1⟩ := r1_0
  obtain ⟨x1_2, y1_2, rfl, u1_2, r1_2⟩ := r1_1
  obtain ⟨x1_3, y1_3, rfl, u1_3, r1_3⟩ := r1_2
  obtain ⟨x1_4, y1_4, rfl, u1_4, r1_4⟩ := r1_3
  obtain ⟨x1_5, y1_5, rfl, u1_5, r1_5⟩ := r1_4
  obtain ⟨x1_6, y1_6, rfl, u1_6, r1_6⟩ := u1_5
  obtain ⟨x1_7, y1_7, rfl, u1_7, r1_7⟩ := r1_6
  obtain ⟨x1_8, y1_8, rfl, u1_8, r1_8⟩ := r1_7
  obtain ⟨x1_9, y1_9, rfl, u1_9, r1_9⟩ := r1_5
  obtain ⟨x1_10, y1_10, rfl, u1_10, r1_10⟩ := r1_9
  obtain ⟨x1_11, y1_11, rfl, u1_11, r1_11⟩ := r1_10
  have q1_0 : _ = [Value.int .i64 b1.1] := u1_0
  have q1_1 : _ = [Value.int .i64 b1.2.1] := u1_1
  have q1_2 : _ = [Value.int .i64 b1.2.2.1] := u1_2
  have q1_3 : _ = [Value.int .i64 b1.2.2.2.1] := u1_3
  have q1_4 : _ = [Value.int .i64 b1.2.2.2.2.1] := u1_4
  have q1_5 : _ = [Value.int .i64 b1.2.2.2.2.2.1.1] := u1_6
  have q1_6 : _ = [Value.int .u64 b1.2.2.2.2.2.1.2.1] := u1_7
  have q1_7 : _ = [Value.int .u64 b1.2.2.2.2.2.1.2.2.1] := u1_8
  have q1_8 : _ = [Value.int .i64 b1.2.2.2.2.2.1.2.2.2] := r1_8
  have q1_9 : _ = [Value.int .i64 b1.2.2.2.2.2.2.1] := u1_9
  have q1_10 : _ = [Value.bool b1.2.2.2.2.2.2.2.1] := u1_10
  have q1_11 : _ = [Value.int .u64 b1.2.2.2.2.2.2.2.2.1] := u1_11
  obtain ⟨A1_12, c1_12, q1_12, hc1_12, hr1_12⟩ := r1_11
  simp only [q1_0, q1_1, q1_2, q1_3, q1_4, q1_5, q1_6, q1_7, q1_8, q1_9, q1_10, q1_11, q1_12, List.cons_append, List.nil_append, List.append_nil] at hL1
  have hv1 : Value.agg cs1 = .agg #[.int .i64 b1.1, .int .i64 b1.2.1, .int .i64 b1.2.2.1, .int .i64 b1.2.2.2.1, .int .i64 b1.2.2.2.2.1, .int .i64 b1.2.2.2.2.2.1.1, .int .u64 b1.2.2.2.2.2.1.2.1, .int .u64 b1.2.2.2.2.2.1.2.2.1, .int .i64 b1.2.2.2.2.2.1.2.2.2, .int .i64 b1.2.2.2.2.2.2.1, .bool b1.2.2.2.2.2.2.2.1, .int .u64 b1.2.2.2.2.2.2.2.2.1, .slice A1_12 (b1.2.2.2.2.2.2.2.2.2).length c1_12] := agg_of hL1.symm
  rw [hv1] at k1
  clear hA0 hval0 hsz0 hcnd
  have hP : corrielaw19_HistoryOverlap.Pure := Pure.HistoryOverlap
  obtain ⟨k, h⟩ := hP (b0.1) (b0.2.1) (b0.2.2.1) (b0.2.2.2.1) (b0.2.2.2.2.1) (b0.2.2.2.2.2.1.1) (b0.2.2.2.2.2.1.2.1) (b0.2.2.2.2.2.1.2.2.1) (b0.2.2.2.2.2.1.2.2.2) (b0.2.2.2.2.2.2.1) (b0.2.2.2.2.2.2.2.1) (b0.2.2.2.2.2.2.2.2.1) (b0.2.2.2.2.2.2.2.2.2) (b1.1) (b1.2.1) (b1.2.2.1) (b1.2.2.2.1) (b1.2.2.2.2.1) (b1.2.2.2.2.2.1.1) (b1.2.2.2.2.2.1.2.1) (b1.2.2.2.2.2.1.2.2.1) (b1.2.2.2.2.2.1.2.2.2) (b1.2.2.2.2.2.2.1) (b1.2.2.2.2.2.2.2.1) (b1.2.2.2.2.2.2.2.2.1) (b1.2.2.2.2.2.2.2.2.2) w0.1 w0.2.1 w0.2.2.1 w0.2.2.2.1 w0.2.2.2.2.1 w0.2.2.2.2.2.1.1 w0.2.2.2.2.2.1.2.1 w0.2.2.2.2.2.1.2.2.1 w0.2.2.2.2.2.1.2.2.2 w0.2.2.2.2.2.2.1 w0.2.2.2.2.2.2.2.2.1 hr0_12.2.1 (by first | exact w0.2.2.2.2.2.2.2.2.2 | trivial) w1.1 w1.2.1 w1.2.2.1 w1.2.2.2.1 w1.2.2.2.2.1 w1.2.2.2.2.2.1.1 w1.2.2.2.2.2.1.2.1 w1.2.2.2.2.2.1.2.2.1 w1.2.2.2.2.2.1.2.2.2 w1.2.2.2.2.2.2.1 w1.2.2.2.2.2.2.2.2.1 hr1_12.2.1 (by first | exact w1.2.2.2.2.2.2.2.2.2 | trivial)
  have hC := corrielaw19_HistoryOverlap.calls (k := k) (a0_0 := b0.1) (a0_1 := b0.2.1) (a0_2 := b0.2.2.1) (a0_3 := b0.2.2.2.1) (a0_4 := b0.2.2.2.2.1) (a0_5 := b0.2.2.2.2.2.1.1) (a0_6 := b0.2.2.2.2.2.1.2.1) (a0_7 := b0.2.2.2.2.2.1.2.2.1) (a0_8 := b0.2.2.2.2.2.1.2.2.2) (a0_9 := b0.2.2.2.2.2.2.1) (a0_10 := b0.2.2.2.2.2.2.2.1) (a0_11 := b0.2.2.2.2.2.2.2.2.1) (A0_12 := A0_12) (c0_12 := c0_12) (l0_12 := b0.2.2.2.2.2.2.2.2.2) (hr0_12 := hr0_12) (hc0_12 := hc0_12) (a1_0 := b1.1) (a1_1 := b1.2.1) (a1_2 := b1.2.2.1) (a1_3 := b1.2.2.2.1) (a1_4 := b1.2.2.2.2.1) (a1_5 := b1.2.2.2.2.2.1.1) (a1_6 := b1.2.2.2.2.2.1.2.1) (a1_7 := b1.2.2.2.2.2.1.2.2.1) (a1_8 := b1.2.2.2.2.2.1.2.2.2) (a1_9 := b1.2.2.2.2.2.2.1) (a1_10 := b1.2.2.2.2.2.2.2.1) (a1_11 := b1.2.2.2.2.2.2.2.2.1) (A1_12 := A1_12) (c1_12 := c1_12) (l1_12 := b1.2.2.2.2.2.2.2.2.2) (hr1_12 := hr1_12) (hc1_12 := hc1_12) (r := true) (w := W) (h := h)
  rw [hv0, hv1] at hW' ⊢
  refine hC.mono fun e W' hh => ?_
  obtain ⟨he, hd⟩ := hh
  have bel : Below W.heap.size W W' := hd
  subst he
  exact ⟨_, rfl, _, _, _, [], _, [], hW', trodAll_mk1 (shut_bool Try.underlying4 _), (trodAll_cons_mk (Below.trod laidOut (by kernel_rfl) (of_decide_eq_true (by kernel_rfl)) k0 bel lt0) (trodAll_cons_mk (Below.trod laidOut (by kernel_rfl) (of_decide_eq_true (by kernel_rfl)) k1 bel lt1) trodAll_mk0)), rfl, bel.frame _, fun h => by cases h⟩
theorem over : Rows.historyOverlapRow.holds Try.pinned (OpenSpec.ofChange Rows.historyOverlapSpec) :=
  OpenClaim.holds_of_wide 7 Try.f7 rfl rfl rfl rfl rfl rfl rfl ⟨rfl, rfl, rfl, rfl, rfl⟩ rfl rfl rfl rfl rfl (by kernel_rfl) Try.func7 (by kernel_rfl)
    (of_decide_eq_true (by kernel_rfl)) (by unfold Func.isWrapper; first | (rw [if_pos (by decide +kernel)]; kernel_rfl) | (rw [if_neg (by decide +kernel)]; exact ⟨rfl, rfl⟩))
    (fun os started H enc _ => lifted os started H enc)
theorem proved : Rows.HistoryOverlapSaid := over
#print axioms proved
end Go.Proofs.Ytpcmoclohepdiad.historyOverlap
namespace Go.Proofs.Ytpcmoclohepdiad
/-- The row, under a short name, for the claim. -/
theorem historyOverlap_holds : Rows.HistoryOverlapSaid := historyOverlap.proved
end Go.Proofs.Ytpcmoclohepdiad
