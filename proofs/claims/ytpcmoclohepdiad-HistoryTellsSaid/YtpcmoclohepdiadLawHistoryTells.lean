-- Written by a program of this session (wip/tools/rowgen.py)
import Derived.Test.YtpcmoclohepdiadRows
import Derived.Test.YtpcmoclohepdiadStmHistoryTells
import Derived.Test.YtpcmoclohepdiadPureHistoryTells
import Derived.Test.YtpcmoclohepdiadOpen
import Derived.WalkKit
import Derived.ProofKit
import Derived.OpenShut
import Derived.ShutString
import Derived.ChangeOld
import Derived.Below
import Derived.SizedLaws
namespace Go.Proofs.Ytpcmoclohepdiad.historyTells
open Go.ChangeShapes Go.WideShapes Go.ChangeAt Go.RowKit Go.Proofs.Ytpcmoclohepdiad.Open Go.Proofs.Ytpcmoclohepdiad.PHistoryTells Go.Proofs.YtpcmoclohepdiadW.PrintWords
set_option linter.unusedVariables false
set_option linter.unusedSimpArgs false
theorem own : ownKnob Try.prog.godebug = none := by kernel_rfl
theorem laidOut : laidOutB Try.prog = true := by kernel_rfl
theorem open0 : Opens Try.prog (Kd.slice 31 k31) 22 (fun v => (∀ y_ ∈ v, ((Lit.int .i64 y_.f0).wf = true ∧ (Lit.int .i64 y_.f1).wf = true ∧ (Lit.int .i64 y_.f2).wf = true ∧ (Lit.int .i64 y_.f3).wf = true ∧ (Lit.int .i64 y_.f4).wf = true ∧ ((Lit.int .i64 y_.f5.f0).wf = true ∧ (Lit.int .u64 y_.f5.f1).wf = true ∧ (Lit.int .u64 y_.f5.f2).wf = true ∧ (Lit.int .i64 y_.f5.f3).wf = true) ∧ ((Lit.int .i64 y_.f6.f0).wf = true ∧ True ∧ (Lit.int .u64 y_.f6.f2).wf = true ∧ (∀ x_ ∈ y_.f6.f3, ((Lit.int .u64 x_.f0).wf = true ∧ (Lit.int .u64 x_.f1).wf = true)))))) :=
  (opens_slice Try.underlying22 (by kernel_rfl) (opens_iso _ (fun x => ⟨x.1, x.2.1, x.2.2.1, x.2.2.2.1, x.2.2.2.2.1, x.2.2.2.2.2.1, x.2.2.2.2.2.2⟩) (fun _ => rfl) (opens_struct Try.underlying31 (by kernel_rfl) (by kernel_rfl) (opens_pair (opens_int Try.underlying3) (opens_pair (opens_int Try.underlying3) (opens_pair (opens_int Try.underlying3) (opens_pair (opens_int Try.underlying3) (opens_pair (opens_int Try.underlying3) (opens_pair (opens_iso _ (fun x => ⟨x.1, x.2.1, x.2.2.1, x.2.2.2⟩) (fun _ => rfl) (opens_struct Try.underlying25 (by kernel_rfl) (by kernel_rfl) (opens_pair (opens_int Try.underlying3) (opens_pair (opens_int Try.underlying23) (opens_pair (opens_int Try.underlying23) (opens_one (opens_int Try.underlying3))))))) (opens_one (opens_iso _ (fun x => ⟨x.1, x.2.1, x.2.2.1, x.2.2.2⟩) (fun _ => rfl) (opens_struct Try.underlying29 (by kernel_rfl) (by kernel_rfl) (opens_pair (opens_int Try.underlying26) (opens_pair (opens_bool Try.underlying4) (opens_pair (opens_int Try.underlying23) (opens_one (opens_slice Try.underlying27 (by kernel_rfl) (opens_iso _ (fun x => ⟨x.1, x.2⟩) (fun _ => rfl) (opens_struct Try.underlying49 (by kernel_rfl) (by kernel_rfl) (opens_pair (opens_int Try.underlying23) (opens_one (opens_int Try.underlying23))))))))))))))))))))))
theorem open2 : Opens Try.prog (Kd.pair (Kd.int .i64) (Kd.pair (Kd.int .i64) (Kd.pair (Kd.int .i64) (Kd.pair (Kd.int .i64) (Kd.pair (Kd.int .i64) (Kd.pair (Kd.pair (Kd.int .i64) (Kd.pair (Kd.int .u64) (Kd.pair (Kd.int .u64) (Kd.int .i64)))) (Kd.pair (Kd.int .i64) (Kd.pair Kd.bool (Kd.pair (Kd.int .u64) (Kd.slice 49 k49)))))))))) 31 (fun v => ((Lit.int .i64 v.1).wf = true ∧ (Lit.int .i64 v.2.1).wf = true ∧ (Lit.int .i64 v.2.2.1).wf = true ∧ (Lit.int .i64 v.2.2.2.1).wf = true ∧ (Lit.int .i64 v.2.2.2.2.1).wf = true ∧ ((Lit.int .i64 v.2.2.2.2.2.1.1).wf = true ∧ (Lit.int .u64 v.2.2.2.2.2.1.2.1).wf = true ∧ (Lit.int .u64 v.2.2.2.2.2.1.2.2.1).wf = true ∧ (Lit.int .i64 v.2.2.2.2.2.1.2.2.2).wf = true) ∧ ((Lit.int .i64 v.2.2.2.2.2.2.1).wf = true ∧ True ∧ (Lit.int .u64 v.2.2.2.2.2.2.2.2.1).wf = true ∧ (∀ x_ ∈ v.2.2.2.2.2.2.2.2.2, ((Lit.int .u64 x_.f0).wf = true ∧ (Lit.int .u64 x_.f1).wf = true))))) :=
  (opens_struct Try.underlying31 (by kernel_rfl) (by kernel_rfl) (opens_pair (opens_int Try.underlying3) (opens_pair (opens_int Try.underlying3) (opens_pair (opens_int Try.underlying3) (opens_pair (opens_int Try.underlying3) (opens_pair (opens_int Try.underlying3) (opens_pair (opens_struct Try.underlying25 (by kernel_rfl) (by kernel_rfl) (opens_pair (opens_int Try.underlying3) (opens_pair (opens_int Try.underlying23) (opens_pair (opens_int Try.underlying23) (opens_one (opens_int Try.underlying3)))))) (opens_one (opens_struct Try.underlying29 (by kernel_rfl) (by kernel_rfl) (opens_pair (opens_int Try.underlying26) (opens_pair (opens_bool Try.underlying4) (opens_pair (opens_int Try.underlying23) (opens_one (opens_slice Try.underlying27 (by kernel_rfl) (opens_iso _ (fun x => ⟨x.1, x.2⟩) (fun _ => rfl) (opens_struct Try.underlying49 (by kernel_rfl) (by kernel_rfl) (opens_pair (opens_int Try.underlying23) (opens_one (opens_int Try.underlying23)))))))))))))))))))
set_option maxRecDepth 100000 in
set_option maxHeartbeats 1000000 in
theorem lifted (os : Os) (started : os.Started) (H : Type) (enc : TypeId × Value → H) :
    ReturnsInHanded {} Try.checked os 3 .any (Rows.historyTellsSpec.pre6 enc Try.prog Try.f3 Rows.historyTellsRow.domain false) (Rows.historyTellsSpec.post enc Try.prog Try.f3 false true false false) := by
  refine returnsInHanded_of_change_sized (C := Try.checked) own started (by kernel_rfl) Try.func3
    (ChangeSpec.witness6 (enc := enc) (C := Try.checked) false ⟨#[], #[.slice none 0 0, .int .i64 0, .agg #[.int .i64 0, .int .i64 0, .int .i64 0, .int .i64 0, .int .i64 0, .int .i64 0, .int .u64 0, .int .u64 0, .int .i64 0, .int .i64 0, .bool false, .int .u64 0, .slice none 0 0]], []⟩ 8 (by kernel_rfl) (by kernel_rfl) (by kernel_rfl) (by kernel_rfl)) ?_
  intro W base args ds gs before hval0 hW hcnd hsz0 _
  have hval : ∀ (j : Nat) t v, Try.f3.params[j]? = some t → args[j]? = some v → Value.okWide Try.prog W .any base t v := hval0
  have hW' := hW
  obtain ⟨p, q, hA0, hV, rfl, hfz, hnd⟩ := hW
  have hA : DataW.TrodAll enc Try.prog W 0 (fun _ => true) true Try.f3.params.toList args.toList ds p := hA0
  rw [Try.params3] at hA hval
  obtain ⟨v0, vs0, d0, ds0, p0, q0, hargs, rfl, rfl, h0, r0⟩ := trodAll_cons hA
  obtain ⟨v1, vs1, d1, ds1, p1, q1, rfl, rfl, rfl, h1, r1⟩ := trodAll_cons r0
  obtain ⟨v2, vs2, d2, ds2, p2, q2, rfl, rfl, rfl, h2, r2⟩ := trodAll_cons r1
  obtain ⟨rfl, rfl, rfl⟩ := trodAll_nil r2
  obtain rfl : args = #[v0, v1, v2] := by cases args; simp_all
  obtain ⟨rfl, rfl⟩ := trodVars_none hV
  have k0 := h0
  have lt0 : ∀ x ∈ p0, x.block < W.heap.size := by obtain ⟨m, hm⟩ := k0; exact DataW.trod_lt m _ _ _ hm
  obtain ⟨fuel0, hf0⟩ := h0
  obtain ⟨l0, hk0, w0⟩ := open0 hf0
  obtain ⟨A0, len0, c0, rfl⟩ := okWide_slice Try.underlying22 (hval 0 22 v0 rfl rfl)
  obtain ⟨A0', c0', hv0, hc0, hr0⟩ := hk0
  simp only [Value.cells, List.cons.injEq, and_true, Value.slice.injEq] at hv0
  obtain ⟨rfl, rfl, rfl⟩ := hv0
  have k1 := h1
  have lt1 : ∀ x ∈ p1, x.block < W.heap.size := by obtain ⟨m, hm⟩ := k1; exact DataW.trod_lt m _ _ _ hm
  obtain ⟨a1, rfl, rfl, rfl, w1⟩ := open_int Try.underlying3 (hval 1 3 v1 rfl rfl) h1
  have k2 := h2
  have lt2 : ∀ x ∈ p2, x.block < W.heap.size := by obtain ⟨m, hm⟩ := k2; exact DataW.trod_lt m _ _ _ hm
  obtain ⟨fuel2, hf2⟩ := h2
  obtain ⟨b2, hk2, w2⟩ := open2 hf2
  obtain ⟨cs2, rfl, _⟩ := okWide_struct Try.underlying31 (hval 2 31 v2 rfl rfl)
  obtain ⟨L2, hL2⟩ : ∃ L, L = (Value.agg cs2).cells.toList := ⟨_, rfl⟩
  rw [← hL2] at hk2
  obtain ⟨x2_0, y2_0, rfl, u2_0, r2_0⟩ := hk2
  obtain ⟨x2_1, y2_1, rfl, u2_1, r2_1⟩ := r2_0
  obtain ⟨x2_2, y2_2, rfl, u2_2, r2_2⟩ := r2_1
  obtain ⟨x2_3, y2_3, rfl, u2_3, r2_3⟩ := r2_2
  obtain ⟨x2_4, y2_4, rfl, u2_4, r2_4⟩ := r2_3
  obtain ⟨x2_5, y2_5, rfl, u2_5, r2_5⟩ := r2_4
  obtain ⟨x2_6, y2_6, rfl, u2_6, r2_6⟩ := u2_5
  obtain ⟨x2_7, y2_7, rfl, u2_7, r2_7⟩ := r2_6
  obtain ⟨x2_8, y2_8, rfl, u2_8, r2_8⟩ := r2_7
  obtain ⟨x2_9, y2_9, rfl, u2_9, r2_9⟩ := r2_5
  obtain ⟨x2_10, y2_10, rfl, u2_10, r2_10⟩ := r2_9
  obtain ⟨x2_11, y2_11, rfl, u2_11, r2_11⟩ := r2_10
  have q2_0 : _ = [Value.int .i64 b2.1] := u2_0
  have q2_1 : _ = [Value.int .i64 b2.2.1] := u2_1
  have q2_2 : _ = [Value.int .i64 b2.2.2.1] := u2_2
  have q2_3 : _ = [Value.int .i64 b2.2.2.2.1] := u2_3
  have q2_4 : _ = [Value.int .i64 b2.2.2.2.2.1] := u2_4
  have q2_5 : _ = [Value.int .i64 b2.2.2.2.2.2.1.1] := u2_6
  have q2_6 : _ = [Value.int .u64 b2.2.2.2.2.2.1.2.1] := u2_7
  have q2_7 : _ = [Value.int .u64 b2.2.2.2.2.2.1.2.2.1] := u2_8
  have q2_8 : _ = [Value.int .i64 b2.2.2.2.2.2.1.2.2.2] := r2_8
  have q2_9 : _ = [Value.int .i64 b2.2.2.2.2.2.2.1] := u2_9
  have q2_10 : _ = [Value.bool b2.2.2.2.2.2.2.2.1] := u2_10
  have q2_11 : _ = [Value.int .u64 b2.2.2.2.2.2.2.2.2.1] := u2_11
  obtain ⟨A2_12, c2_12, q2_12, hc2_12, hr2_12⟩ := r2_11
  simp only [q2_0, q2_1, q2_2, q2_3, q2_4, q2_5, q2_6, q2_7, q2_8, q2_9, q2_10, q2_11, q2_12, List.cons_append, List.nil_append, List.append_nil] at hL2
  have hv2 : Value.agg cs2 = .agg #[.int .i64 b2.1, .int .i64 b2.2.1, .int .i64 b2.2.2.1, .int .i64 b2.2.2.2.1, .int .i64 b2.2.2.2.2.1, .int .i64 b2.2.2.2.2.2.1.1, .int .u64 b2.2.2.2.2.2.1.2.1, .int .u64 b2.2.2.2.2.2.1.2.2.1, .int .i64 b2.2.2.2.2.2.1.2.2.2, .int .i64 b2.2.2.2.2.2.2.1, .bool b2.2.2.2.2.2.2.2.1, .int .u64 b2.2.2.2.2.2.2.2.2.1, .slice A2_12 (b2.2.2.2.2.2.2.2.2.2).length c2_12] := agg_of hL2.symm
  rw [hv2] at k2
  clear hA0 hval0 hsz0 hcnd
  have hP : corrielaw19_HistoryTells.Pure := Pure.HistoryTells
  obtain ⟨k, h⟩ := hP l0 a1 (b2.1) (b2.2.1) (b2.2.2.1) (b2.2.2.2.1) (b2.2.2.2.2.1) (b2.2.2.2.2.2.1.1) (b2.2.2.2.2.2.1.2.1) (b2.2.2.2.2.2.1.2.2.1) (b2.2.2.2.2.2.1.2.2.2) (b2.2.2.2.2.2.2.1) (b2.2.2.2.2.2.2.2.1) (b2.2.2.2.2.2.2.2.2.1) (b2.2.2.2.2.2.2.2.2.2) hr0.2.1 w0 w1 w2.1 w2.2.1 w2.2.2.1 w2.2.2.2.1 w2.2.2.2.2.1 w2.2.2.2.2.2.1.1 w2.2.2.2.2.2.1.2.1 w2.2.2.2.2.2.1.2.2.1 w2.2.2.2.2.2.1.2.2.2 w2.2.2.2.2.2.2.1 w2.2.2.2.2.2.2.2.2.1 hr2_12.2.1 (by first | exact w2.2.2.2.2.2.2.2.2.2 | trivial)
  have hC := corrielaw19_HistoryTells.calls (k := k) (A0 := A0) (c0 := c0) (l0 := l0) (hr0 := hr0) (hc0 := hc0) (a1 := a1) (a2_0 := b2.1) (a2_1 := b2.2.1) (a2_2 := b2.2.2.1) (a2_3 := b2.2.2.2.1) (a2_4 := b2.2.2.2.2.1) (a2_5 := b2.2.2.2.2.2.1.1) (a2_6 := b2.2.2.2.2.2.1.2.1) (a2_7 := b2.2.2.2.2.2.1.2.2.1) (a2_8 := b2.2.2.2.2.2.1.2.2.2) (a2_9 := b2.2.2.2.2.2.2.1) (a2_10 := b2.2.2.2.2.2.2.2.1) (a2_11 := b2.2.2.2.2.2.2.2.2.1) (A2_12 := A2_12) (c2_12 := c2_12) (l2_12 := b2.2.2.2.2.2.2.2.2.2) (hr2_12 := hr2_12) (hc2_12 := hc2_12) (r := true) (w := W) (h := h)
  rw [hv2] at hW' ⊢
  refine hC.mono fun e W' hh => ?_
  obtain ⟨he, hd⟩ := hh
  have bel : Below W.heap.size W W' := hd
  subst he
  exact ⟨_, rfl, _, _, _, [], _, [], hW', trodAll_mk1 (shut_bool Try.underlying4 _), (trodAll_cons_mk (Below.trod laidOut (by kernel_rfl) (of_decide_eq_true (by kernel_rfl)) k0 bel lt0) (trodAll_cons_mk (Below.trod laidOut (by kernel_rfl) (of_decide_eq_true (by kernel_rfl)) k1 bel lt1) (trodAll_cons_mk (Below.trod laidOut (by kernel_rfl) (of_decide_eq_true (by kernel_rfl)) k2 bel lt2) trodAll_mk0))), rfl, bel.frame _, fun h => by cases h⟩
theorem over : Rows.historyTellsRow.holds Try.pinned (OpenSpec.ofChange Rows.historyTellsSpec) :=
  OpenClaim.holds_of_wide 3 Try.f3 rfl rfl rfl rfl rfl rfl rfl ⟨rfl, rfl, rfl, rfl, rfl⟩ rfl rfl rfl rfl rfl (by kernel_rfl) Try.func3 (by kernel_rfl)
    (of_decide_eq_true (by kernel_rfl)) (by unfold Func.isWrapper; first | (rw [if_pos (by decide +kernel)]; kernel_rfl) | (rw [if_neg (by decide +kernel)]; exact ⟨rfl, rfl⟩))
    (fun os started H enc _ => lifted os started H enc)
theorem proved : Rows.HistoryTellsSaid := over
#print axioms proved
end Go.Proofs.Ytpcmoclohepdiad.historyTells
namespace Go.Proofs.Ytpcmoclohepdiad
/-- The row, under a short name, for the claim. -/
theorem historyTells_holds : Rows.HistoryTellsSaid := historyTells.proved
end Go.Proofs.Ytpcmoclohepdiad
