-- Written by a program of this session (wip/tools/rowgen.py)
import Derived.Test.YtbhakljebcmocaaRows
import Derived.Test.YtbhakljebcmocaaStmBoundKeeps
import Derived.Test.YtbhakljebcmocaaPureBoundKeeps
import Derived.Test.YtbhakljebcmocaaOpen
import Derived.WalkKit
import Derived.ProofKit
import Derived.OpenShut
import Derived.ShutString
import Derived.ChangeOld
import Derived.Below
import Derived.SizedLaws
namespace Go.Proofs.Ytbhakljebcmocaa.boundKeeps
open Go.ChangeShapes Go.WideShapes Go.ChangeAt Go.RowKit Go.Proofs.Ytbhakljebcmocaa.Open Go.Proofs.Ytbhakljebcmocaa.PBoundKeeps Go.Proofs.YtbhakljebcmocaaW.PrintWords
set_option linter.unusedVariables false
set_option linter.unusedSimpArgs false
theorem own : ownKnob Try.prog.godebug = none := by kernel_rfl
theorem laidOut : laidOutB Try.prog = true := by kernel_rfl
theorem open0 : Opens Try.prog (Kd.pair (Kd.int .i64) (Kd.pair (Kd.int .i64) (Kd.pair (Kd.int .i64) (Kd.pair (Kd.int .i64) (Kd.int .i64))))) 23 (fun v => ((Lit.int .i64 v.1).wf = true ∧ (Lit.int .i64 v.2.1).wf = true ∧ (Lit.int .i64 v.2.2.1).wf = true ∧ (Lit.int .i64 v.2.2.2.1).wf = true ∧ (Lit.int .i64 v.2.2.2.2).wf = true)) :=
  (opens_struct Try.underlying23 (by kernel_rfl) (by kernel_rfl) (opens_pair (opens_int Try.underlying3) (opens_pair (opens_int Try.underlying3) (opens_pair (opens_int Try.underlying3) (opens_pair (opens_int Try.underlying3) (opens_one (opens_int Try.underlying3)))))))
theorem open1 : Opens Try.prog (Kd.slice 58 (Kd.slice 48 k48)) 24 (fun v => (∀ y_ ∈ v, (∀ x_ ∈ y_, ((Lit.int .i64 x_.f0).wf = true ∧ (Lit.int .u64 x_.f1).wf = true ∧ (Lit.int .u64 x_.f2).wf = true ∧ (Lit.int .i64 x_.f3).wf = true)))) :=
  (opens_slice Try.underlying24 (by kernel_rfl) (opens_slice Try.underlying58 (by kernel_rfl) (opens_iso _ (fun x => ⟨x.1, x.2.1, x.2.2.1, x.2.2.2⟩) (fun _ => rfl) (opens_struct Try.underlying48 (by kernel_rfl) (by kernel_rfl) (opens_pair (opens_int Try.underlying3) (opens_pair (opens_int Try.underlying46) (opens_pair (opens_int Try.underlying46) (opens_one (opens_int Try.underlying3)))))))))
theorem open2 : Opens Try.prog (Kd.slice 3 (Kd.int .i64)) 25 (fun v => (∀ x_ ∈ v, (Lit.int .i64 x_).wf = true)) :=
  (opens_slice Try.underlying25 (by kernel_rfl) (opens_int Try.underlying3))
set_option maxRecDepth 100000 in
set_option maxHeartbeats 1000000 in
theorem lifted (os : Os) (started : os.Started) (H : Type) (enc : TypeId × Value → H) :
    ReturnsInHanded {} Try.checked os 3 .any (Rows.boundKeepsSpec.pre6 enc Try.prog Try.f3 Rows.boundKeepsRow.domain false) (Rows.boundKeepsSpec.post enc Try.prog Try.f3 false true false false) := by
  refine returnsInHanded_of_change_sized (C := Try.checked) own started (by kernel_rfl) Try.func3
    (ChangeSpec.witness6 (enc := enc) (C := Try.checked) false ⟨#[], #[.agg #[.int .i64 0, .int .i64 0, .int .i64 0, .int .i64 0, .int .i64 0], .slice none 0 0, .slice none 0 0], []⟩ 8 (by kernel_rfl) (by kernel_rfl) (by kernel_rfl) (by kernel_rfl)) ?_
  intro W base args ds gs before hval0 hW hcnd hsz0 _
  have hval : ∀ (j : Nat) t v, Try.f3.params[j]? = some t → args[j]? = some v → Value.okWide Try.prog W .any base t v := hval0
  have hW' := hW
  obtain ⟨p, q, hA0, hV, rfl, hfz, hnd⟩ := hW
  have hA : DataW.TrodAll enc Try.prog W 0 (fun _ => true) true Try.f3.params.toList args.toList ds p := hA0
  rw [Try.params3] at hA hval
  obtain ⟨v0, vs0, d0, ds0, p0, q0, hargs, rfl, rfl, h0, r0⟩ := trodAll_cons hA
  obtain ⟨v1, vs1, d1, ds1, p1, q1, rfl, rfl, rfl, h1, r1⟩ := trodAll_cons r0
  obtain ⟨v2, vs2, d2, ds2, p2, q2, rfl, rfl, rfl, h2, r2⟩ := trodAll_cons r1
  obtain ⟨rfl, rfl, rfl⟩ := trodAll_nil r2
  obtain rfl : args = #[v0, v1, v2] := by cases args; simp_all
  obtain ⟨rfl, rfl⟩ := trodVars_none hV
  have k0 := h0
  have lt0 : ∀ x ∈ p0, x.block < W.heap.size := by obtain ⟨m, hm⟩ := k0; exact DataW.trod_lt m _ _ _ hm
  obtain ⟨fuel0, hf0⟩ := h0
  obtain ⟨b0, hk0, w0⟩ := open0 hf0
  obtain ⟨cs0, rfl, _⟩ := okWide_struct Try.underlying23 (hval 0 23 v0 rfl rfl)
  obtain ⟨L0, hL0⟩ : ∃ L, L = (Value.agg cs0).cells.toList := ⟨_, rfl⟩
  rw [← hL0] at hk0
  obtain ⟨x0_0, y0_0, rfl, u0_0, r0_0⟩ := hk0
  obtain ⟨x0_1, y0_1, rfl, u0_1, r0_1⟩ := r0_0
  obtain ⟨x0_2, y0_2, rfl, u0_2, r0_2⟩ := r0_1
  obtain ⟨x0_3, y0_3, rfl, u0_3, r0_3⟩ := r0_2
  have q0_0 : _ = [Value.int .i64 b0.1] := u0_0
  have q0_1 : _ = [Value.int .i64 b0.2.1] := u0_1
  have q0_2 : _ = [Value.int .i64 b0.2.2.1] := u0_2
  have q0_3 : _ = [Value.int .i64 b0.2.2.2.1] := u0_3
  have q0_4 : _ = [Value.int .i64 b0.2.2.2.2] := r0_3
  simp only [q0_0, q0_1, q0_2, q0_3, q0_4, List.cons_append, List.nil_append, List.append_nil] at hL0
  have hv0 : Value.agg cs0 = .agg #[.int .i64 b0.1, .int .i64 b0.2.1, .int .i64 b0.2.2.1, .int .i64 b0.2.2.2.1, .int .i64 b0.2.2.2.2] := agg_of hL0.symm
  rw [hv0] at k0
  have k1 := h1
  have lt1 : ∀ x ∈ p1, x.block < W.heap.size := by obtain ⟨m, hm⟩ := k1; exact DataW.trod_lt m _ _ _ hm
  obtain ⟨fuel1, hf1⟩ := h1
  obtain ⟨l1, hk1, w1⟩ := open1 hf1
  obtain ⟨A1, len1, c1, rfl⟩ := okWide_slice Try.underlying24 (hval 1 24 v1 rfl rfl)
  obtain ⟨A1', c1', hv1, hc1, hr1⟩ := hk1
  simp only [Value.cells, List.cons.injEq, and_true, Value.slice.injEq] at hv1
  obtain ⟨rfl, rfl, rfl⟩ := hv1
  have k2 := h2
  have lt2 : ∀ x ∈ p2, x.block < W.heap.size := by obtain ⟨m, hm⟩ := k2; exact DataW.trod_lt m _ _ _ hm
  obtain ⟨fuel2, hf2⟩ := h2
  obtain ⟨l2, hk2, w2⟩ := open2 hf2
  obtain ⟨A2, len2, c2, rfl⟩ := okWide_slice Try.underlying25 (hval 2 25 v2 rfl rfl)
  obtain ⟨A2', c2', hv2, hc2, hr2⟩ := hk2
  simp only [Value.cells, List.cons.injEq, and_true, Value.slice.injEq] at hv2
  obtain ⟨rfl, rfl, rfl⟩ := hv2
  clear hA0 hval0 hsz0 hcnd
  have hP : corrielaw23_BoundKeeps.Pure := Pure.BoundKeeps
  have h := hP (b0.1) (b0.2.1) (b0.2.2.1) (b0.2.2.2.1) (b0.2.2.2.2) l1 l2 w0.1 w0.2.1 w0.2.2.1 w0.2.2.2.1 w0.2.2.2.2 hr1.2.1 w1 hr2.2.1 w2
  have hC := corrielaw23_BoundKeeps.calls (a0_0 := b0.1) (a0_1 := b0.2.1) (a0_2 := b0.2.2.1) (a0_3 := b0.2.2.2.1) (a0_4 := b0.2.2.2.2) (A1 := A1) (c1 := c1) (l1 := l1) (hr1 := hr1) (hc1 := hc1) (A2 := A2) (c2 := c2) (l2 := l2) (hr2 := hr2) (hc2 := hc2) (r := true) (w := W) (h := h)
  rw [hv0] at hW' ⊢
  refine hC.mono fun e W' hh => ?_
  obtain ⟨he, hd⟩ := hh
  have bel : Below W.heap.size W W' := hd
  subst he
  exact ⟨_, rfl, _, _, _, [], _, [], hW', trodAll_mk1 (shut_bool Try.underlying4 _), (trodAll_cons_mk (Below.trod laidOut (by kernel_rfl) (of_decide_eq_true (by kernel_rfl)) k0 bel lt0) (trodAll_cons_mk (Below.trod laidOut (by kernel_rfl) (of_decide_eq_true (by kernel_rfl)) k1 bel lt1) (trodAll_cons_mk (Below.trod laidOut (by kernel_rfl) (of_decide_eq_true (by kernel_rfl)) k2 bel lt2) trodAll_mk0))), rfl, bel.frame _, fun h => by cases h⟩
theorem over : Rows.boundKeepsRow.holds Try.pinned (OpenSpec.ofChange Rows.boundKeepsSpec) :=
  OpenClaim.holds_of_wide 3 Try.f3 rfl rfl rfl rfl rfl rfl rfl ⟨rfl, rfl, rfl, rfl, rfl⟩ rfl rfl rfl rfl rfl (by kernel_rfl) Try.func3 (by kernel_rfl)
    (of_decide_eq_true (by kernel_rfl)) (by unfold Func.isWrapper; first | (rw [if_pos (by decide +kernel)]; kernel_rfl) | (rw [if_neg (by decide +kernel)]; exact ⟨rfl, rfl⟩))
    (fun os started H enc _ => lifted os started H enc)
theorem proved : Rows.BoundKeepsSaid := over
#print axioms proved
end Go.Proofs.Ytbhakljebcmocaa.boundKeeps
namespace Go.Proofs.Ytbhakljebcmocaa
/-- The row, under a short name, for the claim. -/
theorem boundKeeps_holds : Rows.BoundKeepsSaid := boundKeeps.proved
end Go.Proofs.Ytbhakljebcmocaa
