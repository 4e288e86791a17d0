-- Written by a program of this session (wip/tools/rowgen.py)
import Derived.Test.YtcleoahoppggmaaRows
import Derived.Test.YtcleoahoppggmaaStmLinPending
import Derived.Test.YtcleoahoppggmaaPureLinPending
import Derived.Test.YtcleoahoppggmaaOpen
import Derived.WalkKit
import Derived.ProofKit
import Derived.OpenShut
import Derived.ShutString
import Derived.ChangeOld
import Derived.Below
import Derived.SizedLaws
namespace Go.Proofs.Ytcleoahoppggmaa.linPending
open Go.ChangeShapes Go.WideShapes Go.ChangeAt Go.RowKit Go.Proofs.Ytcleoahoppggmaa.Open Go.Proofs.Ytcleoahoppggmaa.PLinPending Go.Proofs.YtcleoahoppggmaaW.PrintWords
set_option linter.unusedVariables false
set_option linter.unusedSimpArgs false
theorem own : ownKnob Try.prog.godebug = none := by kernel_rfl
theorem laidOut : laidOutB Try.prog = true := by kernel_rfl
theorem open0 : Opens Try.prog (Kd.slice 44 k44) 36 (fun v => (∀ y_ ∈ v, ((Lit.int .i64 y_.f0).wf = true ∧ (Lit.int .i64 y_.f1).wf = true ∧ (Lit.int .i64 y_.f2).wf = true ∧ (Lit.int .i64 y_.f3).wf = true ∧ (Lit.int .i64 y_.f4).wf = true ∧ ((Lit.int .i64 y_.f5.f0).wf = true ∧ (Lit.int .u64 y_.f5.f1).wf = true ∧ (Lit.int .u64 y_.f5.f2).wf = true ∧ (Lit.int .i64 y_.f5.f3).wf = true) ∧ ((Lit.int .i64 y_.f6.f0).wf = true ∧ True ∧ (Lit.int .u64 y_.f6.f2).wf = true ∧ (∀ x_ ∈ y_.f6.f3, ((Lit.int .u64 x_.f0).wf = true ∧ (Lit.int .u64 x_.f1).wf = true)))))) :=
  (opens_slice Try.underlying36 (by kernel_rfl) (opens_iso _ (fun x => ⟨x.1, x.2.1, x.2.2.1, x.2.2.2.1, x.2.2.2.2.1, x.2.2.2.2.2.1, x.2.2.2.2.2.2⟩) (fun _ => rfl) (opens_struct Try.underlying44 (by kernel_rfl) (by kernel_rfl) (opens_pair (opens_int Try.underlying3) (opens_pair (opens_int Try.underlying3) (opens_pair (opens_int Try.underlying3) (opens_pair (opens_int Try.underlying3) (opens_pair (opens_int Try.underlying3) (opens_pair (opens_iso _ (fun x => ⟨x.1, x.2.1, x.2.2.1, x.2.2.2⟩) (fun _ => rfl) (opens_struct Try.underlying25 (by kernel_rfl) (by kernel_rfl) (opens_pair (opens_int Try.underlying3) (opens_pair (opens_int Try.underlying23) (opens_pair (opens_int Try.underlying23) (opens_one (opens_int Try.underlying3))))))) (opens_one (opens_iso _ (fun x => ⟨x.1, x.2.1, x.2.2.1, x.2.2.2⟩) (fun _ => rfl) (opens_struct Try.underlying30 (by kernel_rfl) (by kernel_rfl) (opens_pair (opens_int Try.underlying28) (opens_pair (opens_bool Try.underlying4) (opens_pair (opens_int Try.underlying23) (opens_one (opens_slice Try.underlying22 (by kernel_rfl) (opens_iso _ (fun x => ⟨x.1, x.2⟩) (fun _ => rfl) (opens_struct Try.underlying53 (by kernel_rfl) (by kernel_rfl) (opens_pair (opens_int Try.underlying23) (opens_one (opens_int Try.underlying23))))))))))))))))))))))
theorem open1 : Opens Try.prog (Kd.pair (Kd.int .i64) (Kd.pair (Kd.int .u64) (Kd.pair (Kd.int .u64) (Kd.int .i64)))) 25 (fun v => ((Lit.int .i64 v.1).wf = true ∧ (Lit.int .u64 v.2.1).wf = true ∧ (Lit.int .u64 v.2.2.1).wf = true ∧ (Lit.int .i64 v.2.2.2).wf = true)) :=
  (opens_struct Try.underlying25 (by kernel_rfl) (by kernel_rfl) (opens_pair (opens_int Try.underlying3) (opens_pair (opens_int Try.underlying23) (opens_pair (opens_int Try.underlying23) (opens_one (opens_int Try.underlying3))))))
set_option maxRecDepth 100000 in
set_option maxHeartbeats 1000000 in
theorem lifted (os : Os) (started : os.Started) (H : Type) (enc : TypeId × Value → H) :
    ReturnsInHanded {} Try.checked os 6 .any (Rows.linPendingSpec.pre6 enc Try.prog Try.f6 Rows.linPendingRow.domain false) (Rows.linPendingSpec.post enc Try.prog Try.f6 false true false false) := by
  refine returnsInHanded_of_change_sized (C := Try.checked) own started (by kernel_rfl) Try.func6
    (ChangeSpec.witness6 (enc := enc) (C := Try.checked) false ⟨#[], #[.slice none 0 0, .agg #[.int .i64 0, .int .u64 0, .int .u64 0, .int .i64 0], .int .u8 0], []⟩ 8 (by kernel_rfl) (by kernel_rfl) (by kernel_rfl) (by kernel_rfl)) ?_
  intro W base args ds gs before hval0 hW hcnd hsz0 _
  have hval : ∀ (j : Nat) t v, Try.f6.params[j]? = some t → args[j]? = some v → Value.okWide Try.prog W .any base t v := hval0
  have hW' := hW
  obtain ⟨p, q, hA0, hV, rfl, hfz, hnd⟩ := hW
  have hA : DataW.TrodAll enc Try.prog W 0 (fun _ => true) true Try.f6.params.toList args.toList ds p := hA0
  rw [Try.params6] at hA hval
  obtain ⟨v0, vs0, d0, ds0, p0, q0, hargs, rfl, rfl, h0, r0⟩ := trodAll_cons hA
  obtain ⟨v1, vs1, d1, ds1, p1, q1, rfl, rfl, rfl, h1, r1⟩ := trodAll_cons r0
  obtain ⟨v2, vs2, d2, ds2, p2, q2, rfl, rfl, rfl, h2, r2⟩ := trodAll_cons r1
  obtain ⟨rfl, rfl, rfl⟩ := trodAll_nil r2
  obtain rfl : args = #[v0, v1, v2] := by cases args; simp_all
  obtain ⟨rfl, rfl⟩ := trodVars_none hV
  have k0 := h0
  have lt0 : ∀ x ∈ p0, x.block < W.heap.size := by obtain ⟨m, hm⟩ := k0; exact DataW.trod_lt m _ _ _ hm
  obtain ⟨fuel0, hf0⟩ := h0
  obtain ⟨l0, hk0, w0⟩ := open0 hf0
  obtain ⟨A0, len0, c0, rfl⟩ := okWide_slice Try.underlying36 (hval 0 36 v0 rfl rfl)
  obtain ⟨A0', c0', hv0, hc0, hr0⟩ := hk0
  simp only [Value.cells, List.cons.injEq, and_true, Value.slice.injEq] at hv0
  obtain ⟨rfl, rfl, rfl⟩ := hv0
  have k1 := h1
  have lt1 : ∀ x ∈ p1, x.block < W.heap.size := by obtain ⟨m, hm⟩ := k1; exact DataW.trod_lt m _ _ _ hm
  obtain ⟨fuel1, hf1⟩ := h1
  obtain ⟨b1, hk1, w1⟩ := open1 hf1
  obtain ⟨cs1, rfl, _⟩ := okWide_struct Try.underlying25 (hval 1 25 v1 rfl rfl)
  obtain ⟨L1, hL1⟩ : ∃ L, L = (Value.agg cs1).cells.toList := ⟨_, rfl⟩
  rw [← hL1] at hk1
  obtain ⟨x1_0, y1_0, rfl, u1_0, r1_0⟩ := hk1
  obtain ⟨x1_1, y1_1, rfl, u1_1, r1_1⟩ := r1_0
  obtain ⟨x1_2, y1_2, rfl, u1_2, r1_2⟩ := r1_1
  have q1_0 : _ = [Value.int .i64 b1.1] := u1_0
  have q1_1 : _ = [Value.int .u64 b1.2.1] := u1_1
  have q1_2 : _ = [Value.int .u64 b1.2.2.1] := u1_2
  have q1_3 : _ = [Value.int .i64 b1.2.2.2] := r1_2
  simp only [q1_0, q1_1, q1_2, q1_3, List.cons_append, List.nil_append, List.append_nil] at hL1
  have hv1 : Value.agg cs1 = .agg #[.int .i64 b1.1, .int .u64 b1.2.1, .int .u64 b1.2.2.1, .int .i64 b1.2.2.2] := agg_of hL1.symm
  rw [hv1] at k1
  have k2 := h2
  have lt2 : ∀ x ∈ p2, x.block < W.heap.size := by obtain ⟨m, hm⟩ := k2; exact DataW.trod_lt m _ _ _ hm
  obtain ⟨a2, rfl, rfl, rfl, w2⟩ := open_int Try.underlying5 (hval 2 5 v2 rfl rfl) h2
  clear hA0 hval0 hsz0 hcnd
  have hP : corrielaw21_LinPending.Pure := Pure.LinPending
  have h := hP l0 (b1.1) (b1.2.1) (b1.2.2.1) (b1.2.2.2) a2 hr0.2.1 w0 w1.1 w1.2.1 w1.2.2.1 w1.2.2.2 w2
  have hC := corrielaw21_LinPending.calls (A0 := A0) (c0 := c0) (l0 := l0) (hr0 := hr0) (hc0 := hc0) (a1_0 := b1.1) (a1_1 := b1.2.1) (a1_2 := b1.2.2.1) (a1_3 := b1.2.2.2) (a2 := a2) (r := true) (w := W) (h := h)
  rw [hv1] at hW' ⊢
  refine hC.mono fun e W' hh => ?_
  obtain ⟨he, hd⟩ := hh
  have bel : Below W.heap.size W W' := hd
  subst he
  exact ⟨_, rfl, _, _, _, [], _, [], hW', trodAll_mk1 (shut_bool Try.underlying4 _), (trodAll_cons_mk (Below.trod laidOut (by kernel_rfl) (of_decide_eq_true (by kernel_rfl)) k0 bel lt0) (trodAll_cons_mk (Below.trod laidOut (by kernel_rfl) (of_decide_eq_true (by kernel_rfl)) k1 bel lt1) (trodAll_cons_mk (Below.trod laidOut (by kernel_rfl) (of_decide_eq_true (by kernel_rfl)) k2 bel lt2) trodAll_mk0))), rfl, bel.frame _, fun h => by cases h⟩
theorem over : Rows.linPendingRow.holds Try.pinned (OpenSpec.ofChange Rows.linPendingSpec) :=
  OpenClaim.holds_of_wide 6 Try.f6 rfl rfl rfl rfl rfl rfl rfl ⟨rfl, rfl, rfl, rfl, rfl⟩ rfl rfl rfl rfl rfl (by kernel_rfl) Try.func6 (by kernel_rfl)
    (of_decide_eq_true (by kernel_rfl)) (by unfold Func.isWrapper; first | (rw [if_pos (by decide +kernel)]; kernel_rfl) | (rw [if_neg (by decide +kernel)]; exact ⟨rfl, rfl⟩))
    (fun os started H enc _ => lifted os started H enc)
theorem proved : Rows.LinPendingSaid := over
#print axioms proved
end Go.Proofs.Ytcleoahoppggmaa.linPending
namespace Go.Proofs.Ytcleoahoppggmaa
/-- The row, under a short name, for the claim. -/
theorem linPending_holds : Rows.LinPendingSaid := linPending.proved
end Go.Proofs.Ytcleoahoppggmaa
