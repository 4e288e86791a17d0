-- Written by a program of this session (wip/tools/rowgen.py)
import Derived.Test.YtpcmoclohepdiafRows
import Derived.Test.YtpcmoclohepdiafStmBookNobody
import Derived.Test.YtpcmoclohepdiafPureBookNobody
import Derived.Test.YtpcmoclohepdiafOpen
import Derived.WalkKit
import Derived.ProofKit
import Derived.OpenShut
import Derived.ShutString
import Derived.ChangeOld
import Derived.Below
import Derived.SizedLaws
namespace Go.Proofs.Ytpcmoclohepdiaf.bookNobody
open Go.ChangeShapes Go.WideShapes Go.ChangeAt Go.RowKit Go.Proofs.Ytpcmoclohepdiaf.Open Go.Proofs.Ytpcmoclohepdiaf.PBookNobody Go.Proofs.YtpcmoclohepdiafW.PrintWords
set_option linter.unusedVariables false
set_option linter.unusedSimpArgs false
theorem own : ownKnob Try.prog.godebug = none := by kernel_rfl
theorem laidOut : laidOutB Try.prog = true := by kernel_rfl
theorem open1 : Opens Try.prog (Kd.pair (Kd.int .i64) (Kd.pair (Kd.int .u64) (Kd.pair (Kd.int .u64) (Kd.int .i64)))) 38 (fun v => ((Lit.int .i64 v.1).wf = true ∧ (Lit.int .u64 v.2.1).wf = true ∧ (Lit.int .u64 v.2.2.1).wf = true ∧ (Lit.int .i64 v.2.2.2).wf = true)) :=
  (opens_struct Try.underlying38 (by kernel_rfl) (by kernel_rfl) (opens_pair (opens_int Try.underlying3) (opens_pair (opens_int Try.underlying36) (opens_pair (opens_int Try.underlying36) (opens_one (opens_int Try.underlying3))))))
set_option maxRecDepth 100000 in
set_option maxHeartbeats 1000000 in
theorem lifted (os : Os) (started : os.Started) (H : Type) (enc : TypeId × Value → H) :
    ReturnsInHanded {} Try.checked os 7 .any (Rows.bookNobodySpec.pre6 enc Try.prog Try.f7 Rows.bookNobodyRow.domain false) (Rows.bookNobodySpec.post enc Try.prog Try.f7 false true false false) := by
  refine returnsInHanded_of_change_sized (C := Try.checked) own started (by kernel_rfl) Try.func7
    (ChangeSpec.witness6 (enc := enc) (C := Try.checked) false ⟨#[], #[.int .i64 0, .agg #[.int .i64 0, .int .u64 0, .int .u64 0, .int .i64 0]], []⟩ 8 (by kernel_rfl) (by kernel_rfl) (by kernel_rfl) (by kernel_rfl)) ?_
  intro W base args ds gs before hval0 hW hcnd hsz0 _
  have hval : ∀ (j : Nat) t v, Try.f7.params[j]? = some t → args[j]? = some v → Value.okWide Try.prog W .any base t v := hval0
  have hW' := hW
  obtain ⟨p, q, hA0, hV, rfl, hfz, hnd⟩ := hW
  have hA : DataW.TrodAll enc Try.prog W 0 (fun _ => true) true Try.f7.params.toList args.toList ds p := hA0
  rw [Try.params7] at hA hval
  obtain ⟨v0, vs0, d0, ds0, p0, q0, hargs, rfl, rfl, h0, r0⟩ := trodAll_cons hA
  obtain ⟨v1, vs1, d1, ds1, p1, q1, rfl, rfl, rfl, h1, r1⟩ := trodAll_cons r0
  obtain ⟨rfl, rfl, rfl⟩ := trodAll_nil r1
  obtain rfl : args = #[v0, v1] := by cases args; simp_all
  obtain ⟨rfl, rfl⟩ := trodVars_none hV
  have k0 := h0
  have lt0 : ∀ x ∈ p0, x.block < W.heap.size := by obtain ⟨m, hm⟩ := k0; exact DataW.trod_lt m _ _ _ hm
  obtain ⟨a0, rfl, rfl, rfl, w0⟩ := open_int Try.underlying3 (hval 0 3 v0 rfl rfl) h0
  have k1 := h1
  have lt1 : ∀ x ∈ p1, x.block < W.heap.size := by obtain ⟨m, hm⟩ := k1; exact DataW.trod_lt m _ _ _ hm
  obtain ⟨fuel1, hf1⟩ := h1
  obtain ⟨b1, hk1, w1⟩ := open1 hf1
  obtain ⟨cs1, rfl, _⟩ := okWide_struct Try.underlying38 (hval 1 38 v1 rfl rfl)
  obtain ⟨L1, hL1⟩ : ∃ L, L = (Value.agg cs1).cells.toList := ⟨_, rfl⟩
  rw [← hL1] at hk1
  obtain ⟨x1_0, y1_0, rfl, u1_0, r1_0⟩ := hk1
  obtain ⟨x1_1, y1_1, rfl, u1_1, r1_1⟩ := r1_0
  obtain ⟨x1_2, y1_2, rfl, u1_2, r1_2⟩ := r1_1
  have q1_0 : _ = [Value.int .i64 b1.1] := u1_0
  have q1_1 : _ = [Value.int .u64 b1.2.1] := u1_1
  have q1_2 : _ = [Value.int .u64 b1.2.2.1] := u1_2
  have q1_3 : _ = [Value.int .i64 b1.2.2.2] := r1_2
  simp only [q1_0, q1_1, q1_2, q1_3, List.cons_append, List.nil_append, List.append_nil] at hL1
  have hv1 : Value.agg cs1 = .agg #[.int .i64 b1.1, .int .u64 b1.2.1, .int .u64 b1.2.2.1, .int .i64 b1.2.2.2] := agg_of hL1.symm
  rw [hv1] at k1
  clear hA0 hval0 hsz0 hcnd
  have hP : corrielaw07_BookNobody.Pure := Pure.BookNobody
  have h := hP a0 (b1.1) (b1.2.1) (b1.2.2.1) (b1.2.2.2) w0 w1.1 w1.2.1 w1.2.2.1 w1.2.2.2
  have hC := corrielaw07_BookNobody.calls (a0 := a0) (a1_0 := b1.1) (a1_1 := b1.2.1) (a1_2 := b1.2.2.1) (a1_3 := b1.2.2.2) (r := true) (w := W) (h := h)
  rw [hv1] at hW' ⊢
  refine hC.mono fun e W' hh => ?_
  obtain ⟨he, hd⟩ := hh
  have bel : Below W.heap.size W W' := hd
  subst he
  exact ⟨_, rfl, _, _, _, [], _, [], hW', trodAll_mk1 (shut_bool Try.underlying4 _), (trodAll_cons_mk (Below.trod laidOut (by kernel_rfl) (of_decide_eq_true (by kernel_rfl)) k0 bel lt0) (trodAll_cons_mk (Below.trod laidOut (by kernel_rfl) (of_decide_eq_true (by kernel_rfl)) k1 bel lt1) trodAll_mk0)), rfl, bel.frame _, fun h => by cases h⟩
theorem over : Rows.bookNobodyRow.holds Try.pinned (OpenSpec.ofChange Rows.bookNobodySpec) :=
  OpenClaim.holds_of_wide 7 Try.f7 rfl rfl rfl rfl rfl rfl rfl ⟨rfl, rfl, rfl, rfl, rfl⟩ rfl rfl rfl rfl rfl (by kernel_rfl) Try.func7 (by kernel_rfl)
    (of_decide_eq_true (by kernel_rfl)) (by unfold Func.isWrapper; first | (rw [if_pos (by decide +kernel)]; kernel_rfl) | (rw [if_neg (by decide +kernel)]; exact ⟨rfl, rfl⟩))
    (fun os started H enc _ => lifted os started H enc)
theorem proved : Rows.BookNobodySaid := over
#print axioms proved
end Go.Proofs.Ytpcmoclohepdiaf.bookNobody
namespace Go.Proofs.Ytpcmoclohepdiaf
/-- The row, under a short name, for the claim. -/
theorem bookNobody_holds : Rows.BookNobodySaid := bookNobody.proved
end Go.Proofs.Ytpcmoclohepdiaf
