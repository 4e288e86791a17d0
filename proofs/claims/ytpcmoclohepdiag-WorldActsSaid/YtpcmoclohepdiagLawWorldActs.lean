-- Written by a program of this session (wip/tools/rowgen.py)
import Derived.Test.YtpcmoclohepdiagRows
import Derived.Test.YtpcmoclohepdiagStmWorldActs
import Derived.Test.YtpcmoclohepdiagPureWorldActs
import Derived.Test.YtpcmoclohepdiagOpen
import Derived.WalkKit
import Derived.ProofKit
import Derived.OpenShut
import Derived.ShutString
import Derived.ChangeOld
import Derived.Below
import Derived.SizedLaws
namespace Go.Proofs.Ytpcmoclohepdiag.worldActs
open Go.ChangeShapes Go.WideShapes Go.ChangeAt Go.RowKit Go.Proofs.Ytpcmoclohepdiag.Open Go.Proofs.Ytpcmoclohepdiag.PWorldActs Go.Proofs.YtpcmoclohepdiagW.PrintWords
set_option linter.unusedVariables false
set_option linter.unusedSimpArgs false
theorem own : ownKnob Try.prog.godebug = none := by kernel_rfl
theorem laidOut : laidOutB Try.prog = true := by kernel_rfl
theorem open0 : Opens Try.prog (Kd.pair (Kd.int .i64) (Kd.pair (Kd.int .i64) (Kd.pair (Kd.int .i64) (Kd.pair (Kd.int .i64) (Kd.int .i64))))) 23 (fun v => ((Lit.int .i64 v.1).wf = true ∧ (Lit.int .i64 v.2.1).wf = true ∧ (Lit.int .i64 v.2.2.1).wf = true ∧ (Lit.int .i64 v.2.2.2.1).wf = true ∧ (Lit.int .i64 v.2.2.2.2).wf = true)) :=
  (opens_struct Try.underlying23 (by kernel_rfl) (by kernel_rfl) (opens_pair (opens_int Try.underlying3) (opens_pair (opens_int Try.underlying3) (opens_pair (opens_int Try.underlying3) (opens_pair (opens_int Try.underlying3) (opens_one (opens_int Try.underlying3)))))))
theorem open1 : Opens Try.prog (Kd.slice 27 k27) 66 (fun v => (∀ x_ ∈ v, ((Lit.int .u8 x_.f0).wf = true ∧ (Lit.int .i64 x_.f1).wf = true ∧ (Lit.int .u16 x_.f2).wf = true ∧ (Lit.int .u64 x_.f3).wf = true ∧ (Lit.int .u64 x_.f4).wf = true))) :=
  (opens_slice Try.underlying66 (by kernel_rfl) (opens_iso _ (fun x => ⟨x.1, x.2.1, x.2.2.1, x.2.2.2.1, x.2.2.2.2⟩) (fun _ => rfl) (opens_struct Try.underlying27 (by kernel_rfl) (by kernel_rfl) (opens_pair (opens_int Try.underlying5) (opens_pair (opens_int Try.underlying3) (opens_pair (opens_int Try.underlying24) (opens_pair (opens_int Try.underlying25) (opens_one (opens_int Try.underlying25)))))))))
set_option maxRecDepth 100000 in
set_option maxHeartbeats 1000000 in
theorem lifted (os : Os) (started : os.Started) (H : Type) (enc : TypeId × Value → H) :
    ReturnsInHanded {} Try.checked os 6 .any (Rows.worldActsSpec.pre6 enc Try.prog Try.f6 Rows.worldActsRow.domain false) (Rows.worldActsSpec.post enc Try.prog Try.f6 false true false false) := by
  refine returnsInHanded_of_change_sized (C := Try.checked) own started (by kernel_rfl) Try.func6
    (ChangeSpec.witness6 (enc := enc) (C := Try.checked) false ⟨#[], #[.agg #[.int .i64 0, .int .i64 0, .int .i64 0, .int .i64 0, .int .i64 0], .slice none 0 0], []⟩ 8 (by kernel_rfl) (by kernel_rfl) (by kernel_rfl) (by kernel_rfl)) ?_
  intro W base args ds gs before hval0 hW hcnd hsz0 _
  have hval : ∀ (j : Nat) t v, Try.f6.params[j]? = some t → args[j]? = some v → Value.okWide Try.prog W .any base t v := hval0
  have hW' := hW
  obtain ⟨p, q, hA0, hV, rfl, hfz, hnd⟩ := hW
  have hA : DataW.TrodAll enc Try.prog W 0 (fun _ => true) true Try.f6.params.toList args.toList ds p := hA0
  rw [Try.params6] at hA hval
  obtain ⟨v0, vs0, d0, ds0, p0, q0, hargs, rfl, rfl, h0, r0⟩ := trodAll_cons hA
  obtain ⟨v1, vs1, d1, ds1, p1, q1, rfl, rfl, rfl, h1, r1⟩ := trodAll_cons r0
  obtain ⟨rfl, rfl, rfl⟩ := trodAll_nil r1
  obtain rfl : args = #[v0, v1] := by cases args; simp_all
  obtain ⟨rfl, rfl⟩ := trodVars_none hV
  have k0 := h0
  have lt0 : ∀ x ∈ p0, x.block < W.heap.size := by obtain ⟨m, hm⟩ := k0; exact DataW.trod_lt m _ _ _ hm
  obtain ⟨fuel0, hf0⟩ := h0
  obtain ⟨b0, hk0, w0⟩ := open0 hf0
  obtain ⟨cs0, rfl, _⟩ := okWide_struct Try.underlying23 (hval 0 23 v0 rfl rfl)
  obtain ⟨L0, hL0⟩ : ∃ L, L = (Value.agg cs0).cells.toList := ⟨_, rfl⟩
  rw [← hL0] at hk0
  obtain ⟨x0_0, y0_0, rfl, u0_0, r0_0⟩ := hk0
  obtain ⟨x0_1, y0_1, rfl, u0_1, r0_1⟩ := r0_0
  obtain ⟨x0_2, y0_2, rfl, u0_2, r0_2⟩ := r0_1
  obtain ⟨x0_3, y0_3, rfl, u0_3, r0_3⟩ := r0_2
  have q0_0 : _ = [Value.int .i64 b0.1] := u0_0
  have q0_1 : _ = [Value.int .i64 b0.2.1] := u0_1
  have q0_2 : _ = [Value.int .i64 b0.2.2.1] := u0_2
  have q0_3 : _ = [Value.int .i64 b0.2.2.2.1] := u0_3
  have q0_4 : _ = [Value.int .i64 b0.2.2.2.2] := r0_3
  simp only [q0_0, q0_1, q0_2, q0_3, q0_4, List.cons_append, List.nil_append, List.append_nil] at hL0
  have hv0 : Value.agg cs0 = .agg #[.int .i64 b0.1, .int .i64 b0.2.1, .int .i64 b0.2.2.1, .int .i64 b0.2.2.2.1, .int .i64 b0.2.2.2.2] := agg_of hL0.symm
  rw [hv0] at k0
  have k1 := h1
  have lt1 : ∀ x ∈ p1, x.block < W.heap.size := by obtain ⟨m, hm⟩ := k1; exact DataW.trod_lt m _ _ _ hm
  obtain ⟨fuel1, hf1⟩ := h1
  obtain ⟨l1, hk1, w1⟩ := open1 hf1
  obtain ⟨A1, len1, c1, rfl⟩ := okWide_slice Try.underlying66 (hval 1 66 v1 rfl rfl)
  obtain ⟨A1', c1', hv1, hc1, hr1⟩ := hk1
  simp only [Value.cells, List.cons.injEq, and_true, Value.slice.injEq] at hv1
  obtain ⟨rfl, rfl, rfl⟩ := hv1
  clear hA0 hval0 hsz0 hcnd
  have hP : corrielaw08_WorldActs.Pure := Pure.WorldActs
  have h := hP (b0.1) (b0.2.1) (b0.2.2.1) (b0.2.2.2.1) (b0.2.2.2.2) l1 w0.1 w0.2.1 w0.2.2.1 w0.2.2.2.1 w0.2.2.2.2 hr1.2.1 w1
  have hC := corrielaw08_WorldActs.calls (a0_0 := b0.1) (a0_1 := b0.2.1) (a0_2 := b0.2.2.1) (a0_3 := b0.2.2.2.1) (a0_4 := b0.2.2.2.2) (A1 := A1) (c1 := c1) (l1 := l1) (hr1 := hr1) (hc1 := hc1) (r := true) (w := W) (h := h)
  rw [hv0] at hW' ⊢
  refine hC.mono fun e W' hh => ?_
  obtain ⟨he, hd⟩ := hh
  have bel : Below W.heap.size W W' := hd
  subst he
  exact ⟨_, rfl, _, _, _, [], _, [], hW', trodAll_mk1 (shut_bool Try.underlying4 _), (trodAll_cons_mk (Below.trod laidOut (by kernel_rfl) (of_decide_eq_true (by kernel_rfl)) k0 bel lt0) (trodAll_cons_mk (Below.trod laidOut (by kernel_rfl) (of_decide_eq_true (by kernel_rfl)) k1 bel lt1) trodAll_mk0)), rfl, bel.frame _, fun h => by cases h⟩
theorem over : Rows.worldActsRow.holds Try.pinned (OpenSpec.ofChange Rows.worldActsSpec) :=
  OpenClaim.holds_of_wide 6 Try.f6 rfl rfl rfl rfl rfl rfl rfl ⟨rfl, rfl, rfl, rfl, rfl⟩ rfl rfl rfl rfl rfl (by kernel_rfl) Try.func6 (by kernel_rfl)
    (of_decide_eq_true (by kernel_rfl)) (by unfold Func.isWrapper; first | (rw [if_pos (by decide +kernel)]; kernel_rfl) | (rw [if_neg (by decide +kernel)]; exact ⟨rfl, rfl⟩))
    (fun os started H enc _ => lifted os started H enc)
theorem proved : Rows.WorldActsSaid := over
#print axioms proved
end Go.Proofs.Ytpcmoclohepdiag.worldActs
namespace Go.Proofs.Ytpcmoclohepdiag
/-- The row, under a short name, for the claim. -/
theorem worldActs_holds : Rows.WorldActsSaid := worldActs.proved
end Go.Proofs.Ytpcmoclohepdiag
