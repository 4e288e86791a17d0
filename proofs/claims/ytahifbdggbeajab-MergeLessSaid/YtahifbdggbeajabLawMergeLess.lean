-- Written by a program of this session (wip/tools/rowgen.py)
import Derived.Test.YtahifbdggbeajabRows
import Derived.Test.YtahifbdggbeajabStmMergeLess
import Derived.Test.YtahifbdggbeajabPureMergeLess
import Derived.Test.YtahifbdggbeajabOpen
import Derived.WalkKit
import Derived.ProofKit
import Derived.OpenShut
import Derived.ShutString
import Derived.ChangeOld
import Derived.Below
import Derived.SizedLaws
namespace Go.Proofs.Ytahifbdggbeajab.mergeLess
open Go.ChangeShapes Go.WideShapes Go.ChangeAt Go.RowKit Go.Proofs.Ytahifbdggbeajab.Open Go.Proofs.Ytahifbdggbeajab.PMergeLess Go.Proofs.YtahifbdggbeajabW.PrintWords
set_option linter.unusedVariables false
set_option linter.unusedSimpArgs false
theorem own : ownKnob Try.prog.godebug = none := by kernel_rfl
theorem laidOut : laidOutB Try.prog = true := by kernel_rfl
theorem open0 : Opens Try.prog (Kd.slice 25 (Kd.slice 32 k32)) 22 (fun v => (∀ y_ ∈ v, (∀ x_ ∈ y_, ((Lit.int .u64 x_.f0).wf = true ∧ (Lit.int .u64 x_.f1).wf = true)))) :=
  (opens_slice Try.underlying22 (by kernel_rfl) (opens_slice Try.underlying25 (by kernel_rfl) (opens_iso _ (fun x => ⟨x.1, x.2⟩) (fun _ => rfl) (opens_struct Try.underlying32 (by kernel_rfl) (by kernel_rfl) (opens_pair (opens_int Try.underlying30) (opens_one (opens_int Try.underlying30)))))))
theorem open1 : Opens Try.prog (Kd.pair (Kd.int .u8) (Kd.int .u8)) 35 (fun v => ((Lit.int .u8 v.1).wf = true ∧ (Lit.int .u8 v.2).wf = true)) :=
  (opens_array Try.underlying35 (by kernel_rfl) (by kernel_rfl) (opens_pair (opens_int Try.underlying5) (opens_one (opens_int Try.underlying5))))
set_option maxRecDepth 100000 in
set_option maxHeartbeats 1000000 in
theorem lifted (os : Os) (started : os.Started) (H : Type) (enc : TypeId × Value → H) :
    ReturnsInHanded {} Try.checked os 6 .any (Rows.mergeLessSpec.pre6 enc Try.prog Try.f6 Rows.mergeLessRow.domain false) (Rows.mergeLessSpec.post enc Try.prog Try.f6 false true false false) := by
  refine returnsInHanded_of_change_sized (C := Try.checked) own started (by kernel_rfl) Try.func6
    (ChangeSpec.witness6 (enc := enc) (C := Try.checked) false ⟨#[], #[.slice none 0 0, .agg #[.int .u8 0, .int .u8 0]], []⟩ 8 (by kernel_rfl) (by kernel_rfl) (by kernel_rfl) (by kernel_rfl)) ?_
  intro W base args ds gs before hval0 hW hcnd hsz0 _
  have hval : ∀ (j : Nat) t v, Try.f6.params[j]? = some t → args[j]? = some v → Value.okWide Try.prog W .any base t v := hval0
  have hW' := hW
  obtain ⟨p, q, hA0, hV, rfl, hfz, hnd⟩ := hW
  have hA : DataW.TrodAll enc Try.prog W 0 (fun _ => true) true Try.f6.params.toList args.toList ds p := hA0
  rw [Try.params6] at hA hval
  obtain ⟨v0, vs0, d0, ds0, p0, q0, hargs, rfl, rfl, h0, r0⟩ := trodAll_cons hA
  obtain ⟨v1, vs1, d1, ds1, p1, q1, rfl, rfl, rfl, h1, r1⟩ := trodAll_cons r0
  obtain ⟨rfl, rfl, rfl⟩ := trodAll_nil r1
  obtain rfl : args = #[v0, v1] := by cases args; simp_all
  obtain ⟨rfl, rfl⟩ := trodVars_none hV
  have k0 := h0
  have lt0 : ∀ x ∈ p0, x.block < W.heap.size := by obtain ⟨m, hm⟩ := k0; exact DataW.trod_lt m _ _ _ hm
  obtain ⟨fuel0, hf0⟩ := h0
  obtain ⟨l0, hk0, w0⟩ := open0 hf0
  obtain ⟨A0, len0, c0, rfl⟩ := okWide_slice Try.underlying22 (hval 0 22 v0 rfl rfl)
  obtain ⟨A0', c0', hv0, hc0, hr0⟩ := hk0
  simp only [Value.cells, List.cons.injEq, and_true, Value.slice.injEq] at hv0
  obtain ⟨rfl, rfl, rfl⟩ := hv0
  have k1 := h1
  have lt1 : ∀ x ∈ p1, x.block < W.heap.size := by obtain ⟨m, hm⟩ := k1; exact DataW.trod_lt m _ _ _ hm
  obtain ⟨fuel1, hf1⟩ := h1
  obtain ⟨b1, hk1, w1⟩ := open1 hf1
  obtain ⟨cs1, rfl, _⟩ := okWide_array Try.underlying35 (hval 1 35 v1 rfl rfl)
  obtain ⟨L1, hL1⟩ : ∃ L, L = (Value.agg cs1).cells.toList := ⟨_, rfl⟩
  rw [← hL1] at hk1
  obtain ⟨x1_0, y1_0, rfl, u1_0, r1_0⟩ := hk1
  have q1_0 : _ = [Value.int .u8 b1.1] := u1_0
  have q1_1 : _ = [Value.int .u8 b1.2] := r1_0
  simp only [q1_0, q1_1, List.cons_append, List.nil_append, List.append_nil] at hL1
  have hv1 : Value.agg cs1 = .agg #[.int .u8 b1.1, .int .u8 b1.2] := agg_of hL1.symm
  rw [hv1] at k1
  clear hA0 hval0 hsz0 hcnd
  have hP : corrielaw17_MergeLess.Pure := Pure.MergeLess
  obtain ⟨k, h⟩ := hP l0 (b1.1) (b1.2) hr0.2.1 w0 w1.1 w1.2
  have hC := corrielaw17_MergeLess.calls (k := k) (A0 := A0) (c0 := c0) (l0 := l0) (hr0 := hr0) (hc0 := hc0) (a1_0 := b1.1) (a1_1 := b1.2) (r := true) (w := W) (h := h)
  rw [hv1] at hW' ⊢
  refine hC.mono fun e W' hh => ?_
  obtain ⟨he, hd⟩ := hh
  have bel : Below W.heap.size W W' := hd
  subst he
  exact ⟨_, rfl, _, _, _, [], _, [], hW', trodAll_mk1 (shut_bool Try.underlying4 _), (trodAll_cons_mk (Below.trod laidOut (by kernel_rfl) (of_decide_eq_true (by kernel_rfl)) k0 bel lt0) (trodAll_cons_mk (Below.trod laidOut (by kernel_rfl) (of_decide_eq_true (by kernel_rfl)) k1 bel lt1) trodAll_mk0)), rfl, bel.frame _, fun h => by cases h⟩
theorem over : Rows.mergeLessRow.holds Try.pinned (OpenSpec.ofChange Rows.mergeLessSpec) :=
  OpenClaim.holds_of_wide 6 Try.f6 rfl rfl rfl rfl rfl rfl rfl ⟨rfl, rfl, rfl, rfl, rfl⟩ rfl rfl rfl rfl rfl (by kernel_rfl) Try.func6 (by kernel_rfl)
    (of_decide_eq_true (by kernel_rfl)) (by unfold Func.isWrapper; first | (rw [if_pos (by decide +kernel)]; kernel_rfl) | (rw [if_neg (by decide +kernel)]; exact ⟨rfl, rfl⟩))
    (fun os started H enc _ => lifted os started H enc)
theorem proved : Rows.MergeLessSaid := over
#print axioms proved
end Go.Proofs.Ytahifbdggbeajab.mergeLess
namespace Go.Proofs.Ytahifbdggbeajab
/-- The row, under a short name, for the claim. -/
theorem mergeLess_holds : Rows.MergeLessSaid := mergeLess.proved
end Go.Proofs.Ytahifbdggbeajab
