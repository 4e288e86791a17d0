-- Written by a program of this session (wip/tools/rowgen.py)
import Derived.Test.YtcleoahoppggmaaRows
import Derived.Test.YtcleoahoppggmaaStmLinAlone
import Derived.Test.YtcleoahoppggmaaPureLinAlone
import Derived.Test.YtcleoahoppggmaaOpen
import Derived.WalkKit
import Derived.ProofKit
import Derived.OpenShut
import Derived.ShutString
import Derived.ChangeOld
import Derived.Below
import Derived.SizedLaws
namespace Go.Proofs.Ytcleoahoppggmaa.linAlone
open Go.ChangeShapes Go.WideShapes Go.ChangeAt Go.RowKit Go.Proofs.Ytcleoahoppggmaa.Open Go.Proofs.Ytcleoahoppggmaa.PLinAlone Go.Proofs.YtcleoahoppggmaaW.PrintWords
set_option linter.unusedVariables false
set_option linter.unusedSimpArgs false
theorem own : ownKnob Try.prog.godebug = none := by kernel_rfl
theorem laidOut : laidOutB Try.prog = true := by kernel_rfl
theorem open0 : Opens Try.prog (Kd.slice 25 k25) 47 (fun v => (∀ x_ ∈ v, ((Lit.int .i64 x_.f0).wf = true ∧ (Lit.int .u64 x_.f1).wf = true ∧ (Lit.int .u64 x_.f2).wf = true ∧ (Lit.int .i64 x_.f3).wf = true))) :=
  (opens_slice Try.underlying47 (by kernel_rfl) (opens_iso _ (fun x => ⟨x.1, x.2.1, x.2.2.1, x.2.2.2⟩) (fun _ => rfl) (opens_struct Try.underlying25 (by kernel_rfl) (by kernel_rfl) (opens_pair (opens_int Try.underlying3) (opens_pair (opens_int Try.underlying23) (opens_pair (opens_int Try.underlying23) (opens_one (opens_int Try.underlying3))))))))
theorem open1 : Opens Try.prog (Kd.slice 30 k30) 48 (fun v => (∀ y_ ∈ v, ((Lit.int .i64 y_.f0).wf = true ∧ True ∧ (Lit.int .u64 y_.f2).wf = true ∧ (∀ x_ ∈ y_.f3, ((Lit.int .u64 x_.f0).wf = true ∧ (Lit.int .u64 x_.f1).wf = true))))) :=
  (opens_slice Try.underlying48 (by kernel_rfl) (opens_iso _ (fun x => ⟨x.1, x.2.1, x.2.2.1, x.2.2.2⟩) (fun _ => rfl) (opens_struct Try.underlying30 (by kernel_rfl) (by kernel_rfl) (opens_pair (opens_int Try.underlying28) (opens_pair (opens_bool Try.underlying4) (opens_pair (opens_int Try.underlying23) (opens_one (opens_slice Try.underlying22 (by kernel_rfl) (opens_iso _ (fun x => ⟨x.1, x.2⟩) (fun _ => rfl) (opens_struct Try.underlying53 (by kernel_rfl) (by kernel_rfl) (opens_pair (opens_int Try.underlying23) (opens_one (opens_int Try.underlying23)))))))))))))
set_option maxRecDepth 100000 in
set_option maxHeartbeats 1000000 in
theorem lifted (os : Os) (started : os.Started) (H : Type) (enc : TypeId × Value → H) :
    ReturnsInHanded {} Try.checked os 5 .any (Rows.linAloneSpec.pre6 enc Try.prog Try.f5 Rows.linAloneRow.domain false) (Rows.linAloneSpec.post enc Try.prog Try.f5 false true false false) := by
  refine returnsInHanded_of_change_sized (C := Try.checked) own started (by kernel_rfl) Try.func5
    (ChangeSpec.witness6 (enc := enc) (C := Try.checked) false ⟨#[], #[.slice none 0 0, .slice none 0 0], []⟩ 8 (by kernel_rfl) (by kernel_rfl) (by kernel_rfl) (by kernel_rfl)) ?_
  intro W base args ds gs before hval0 hW hcnd hsz0 _
  have hval : ∀ (j : Nat) t v, Try.f5.params[j]? = some t → args[j]? = some v → Value.okWide Try.prog W .any base t v := hval0
  have hW' := hW
  obtain ⟨p, q, hA0, hV, rfl, hfz, hnd⟩ := hW
  have hA : DataW.TrodAll enc Try.prog W 0 (fun _ => true) true Try.f5.params.toList args.toList ds p := hA0
  rw [Try.params5] at hA hval
  obtain ⟨v0, vs0, d0, ds0, p0, q0, hargs, rfl, rfl, h0, r0⟩ := trodAll_cons hA
  obtain ⟨v1, vs1, d1, ds1, p1, q1, rfl, rfl, rfl, h1, r1⟩ := trodAll_cons r0
  obtain ⟨rfl, rfl, rfl⟩ := trodAll_nil r1
  obtain rfl : args = #[v0, v1] := by cases args; simp_all
  obtain ⟨rfl, rfl⟩ := trodVars_none hV
  have k0 := h0
  have lt0 : ∀ x ∈ p0, x.block < W.heap.size := by obtain ⟨m, hm⟩ := k0; exact DataW.trod_lt m _ _ _ hm
  obtain ⟨fuel0, hf0⟩ := h0
  obtain ⟨l0, hk0, w0⟩ := open0 hf0
  obtain ⟨A0, len0, c0, rfl⟩ := okWide_slice Try.underlying47 (hval 0 47 v0 rfl rfl)
  obtain ⟨A0', c0', hv0, hc0, hr0⟩ := hk0
  simp only [Value.cells, List.cons.injEq, and_true, Value.slice.injEq] at hv0
  obtain ⟨rfl, rfl, rfl⟩ := hv0
  have k1 := h1
  have lt1 : ∀ x ∈ p1, x.block < W.heap.size := by obtain ⟨m, hm⟩ := k1; exact DataW.trod_lt m _ _ _ hm
  obtain ⟨fuel1, hf1⟩ := h1
  obtain ⟨l1, hk1, w1⟩ := open1 hf1
  obtain ⟨A1, len1, c1, rfl⟩ := okWide_slice Try.underlying48 (hval 1 48 v1 rfl rfl)
  obtain ⟨A1', c1', hv1, hc1, hr1⟩ := hk1
  simp only [Value.cells, List.cons.injEq, and_true, Value.slice.injEq] at hv1
  obtain ⟨rfl, rfl, rfl⟩ := hv1
  clear hA0 hval0 hsz0 hcnd
  have hP : corrielaw21_LinAlone.Pure := Pure.LinAlone
  have h := hP l0 l1 hr0.2.1 w0 hr1.2.1 w1
  have hC := corrielaw21_LinAlone.calls (A0 := A0) (c0 := c0) (l0 := l0) (hr0 := hr0) (hc0 := hc0) (A1 := A1) (c1 := c1) (l1 := l1) (hr1 := hr1) (hc1 := hc1) (r := true) (w := W) (h := h)
  refine hC.mono fun e W' hh => ?_
  obtain ⟨he, hd⟩ := hh
  have bel : Below W.heap.size W W' := hd
  subst he
  exact ⟨_, rfl, _, _, _, [], _, [], hW', trodAll_mk1 (shut_bool Try.underlying4 _), (trodAll_cons_mk (Below.trod laidOut (by kernel_rfl) (of_decide_eq_true (by kernel_rfl)) k0 bel lt0) (trodAll_cons_mk (Below.trod laidOut (by kernel_rfl) (of_decide_eq_true (by kernel_rfl)) k1 bel lt1) trodAll_mk0)), rfl, bel.frame _, fun h => by cases h⟩
theorem over : Rows.linAloneRow.holds Try.pinned (OpenSpec.ofChange Rows.linAloneSpec) :=
  OpenClaim.holds_of_wide 5 Try.f5 rfl rfl rfl rfl rfl rfl rfl ⟨rfl, rfl, rfl, rfl, rfl⟩ rfl rfl rfl rfl rfl (by kernel_rfl) Try.func5 (by kernel_rfl)
    (of_decide_eq_true (by kernel_rfl)) (by unfold Func.isWrapper; first | (rw [if_pos (by decide +kernel)]; kernel_rfl) | (rw [if_neg (by decide +kernel)]; exact ⟨rfl, rfl⟩))
    (fun os started H enc _ => lifted os started H enc)
theorem proved : Rows.LinAloneSaid := over
#print axioms proved
end Go.Proofs.Ytcleoahoppggmaa.linAlone
namespace Go.Proofs.Ytcleoahoppggmaa
/-- The row, under a short name, for the claim. -/
theorem linAlone_holds : Rows.LinAloneSaid := linAlone.proved
end Go.Proofs.Ytcleoahoppggmaa
