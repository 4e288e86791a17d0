-- Written by a program of this session (wip/tools/rowgen.py)
import Derived.Test.YtpcmoclohepdiaaRows
import Derived.Test.YtpcmoclohepdiaaStmCellsLast
import Derived.Test.YtpcmoclohepdiaaPureCellsLast
import Derived.Test.YtpcmoclohepdiaaOpen
import Derived.WalkKit
import Derived.ProofKit
import Derived.OpenShut
import Derived.ShutString
import Derived.ChangeOld
import Derived.Below
import Derived.SizedLaws
namespace Go.Proofs.Ytpcmoclohepdiaa.cellsLast
open Go.ChangeShapes Go.WideShapes Go.ChangeAt Go.RowKit Go.Proofs.Ytpcmoclohepdiaa.Open Go.Proofs.Ytpcmoclohepdiaa.PCellsLast Go.Proofs.YtpcmoclohepdiaaW.PrintWords
set_option linter.unusedVariables false
set_option linter.unusedSimpArgs false
theorem own : ownKnob Try.prog.godebug = none := by kernel_rfl
theorem laidOut : laidOutB Try.prog = true := by kernel_rfl
theorem open1 : Opens Try.prog (Kd.slice 47 k47) 22 (fun v => (∀ x_ ∈ v, ((Lit.int .u8 x_.f0).wf = true ∧ (Lit.int .i64 x_.f1).wf = true ∧ (Lit.int .u64 x_.f2).wf = true ∧ (Lit.int .u64 x_.f3).wf = true))) :=
  (opens_slice Try.underlying22 (by kernel_rfl) (opens_iso _ (fun x => ⟨x.1, x.2.1, x.2.2.1, x.2.2.2⟩) (fun _ => rfl) (opens_struct Try.underlying47 (by kernel_rfl) (by kernel_rfl) (opens_pair (opens_int Try.underlying5) (opens_pair (opens_int Try.underlying3) (opens_pair (opens_int Try.underlying30) (opens_one (opens_int Try.underlying30))))))))
theorem open2 : Opens Try.prog (Kd.pair (Kd.int .u64) (Kd.int .u64)) 38 (fun v => ((Lit.int .u64 v.1).wf = true ∧ (Lit.int .u64 v.2).wf = true)) :=
  (opens_array Try.underlying38 (by kernel_rfl) (by kernel_rfl) (opens_pair (opens_int Try.underlying30) (opens_one (opens_int Try.underlying30))))
set_option maxRecDepth 100000 in
set_option maxHeartbeats 1000000 in
theorem lifted (os : Os) (started : os.Started) (H : Type) (enc : TypeId × Value → H) :
    ReturnsInHanded {} Try.checked os 5 .any (Rows.cellsLastSpec.pre6 enc Try.prog Try.f5 Rows.cellsLastRow.domain false) (Rows.cellsLastSpec.post enc Try.prog Try.f5 false true false false) := by
  refine returnsInHanded_of_change_sized (C := Try.checked) own started (by kernel_rfl) Try.func5
    (ChangeSpec.witness6 (enc := enc) (C := Try.checked) false ⟨#[], #[.int .u8 0, .slice none 0 0, .agg #[.int .u64 0, .int .u64 0]], []⟩ 8 (by kernel_rfl) (by kernel_rfl) (by kernel_rfl) (by kernel_rfl)) ?_
  intro W base args ds gs before hval0 hW hcnd hsz0 _
  have hval : ∀ (j : Nat) t v, Try.f5.params[j]? = some t → args[j]? = some v → Value.okWide Try.prog W .any base t v := hval0
  have hW' := hW
  obtain ⟨p, q, hA0, hV, rfl, hfz, hnd⟩ := hW
  have hA : DataW.TrodAll enc Try.prog W 0 (fun _ => true) true Try.f5.params.toList args.toList ds p := hA0
  rw [Try.params5] at hA hval
  obtain ⟨v0, vs0, d0, ds0, p0, q0, hargs, rfl, rfl, h0, r0⟩ := trodAll_cons hA
  obtain ⟨v1, vs1, d1, ds1, p1, q1, rfl, rfl, rfl, h1, r1⟩ := trodAll_cons r0
  obtain ⟨v2, vs2, d2, ds2, p2, q2, rfl, rfl, rfl, h2, r2⟩ := trodAll_cons r1
  obtain ⟨rfl, rfl, rfl⟩ := trodAll_nil r2
  obtain rfl : args = #[v0, v1, v2] := by cases args; simp_all
  obtain ⟨rfl, rfl⟩ := trodVars_none hV
  have k0 := h0
  have lt0 : ∀ x ∈ p0, x.block < W.heap.size := by obtain ⟨m, hm⟩ := k0; exact DataW.trod_lt m _ _ _ hm
  obtain ⟨a0, rfl, rfl, rfl, w0⟩ := open_int Try.underlying5 (hval 0 5 v0 rfl rfl) h0
  have k1 := h1
  have lt1 : ∀ x ∈ p1, x.block < W.heap.size := by obtain ⟨m, hm⟩ := k1; exact DataW.trod_lt m _ _ _ hm
  obtain ⟨fuel1, hf1⟩ := h1
  obtain ⟨l1, hk1, w1⟩ := open1 hf1
  obtain ⟨A1, len1, c1, rfl⟩ := okWide_slice Try.underlying22 (hval 1 22 v1 rfl rfl)
  obtain ⟨A1', c1', hv1, hc1, hr1⟩ := hk1
  simp only [Value.cells, List.cons.injEq, and_true, Value.slice.injEq] at hv1
  obtain ⟨rfl, rfl, rfl⟩ := hv1
  have k2 := h2
  have lt2 : ∀ x ∈ p2, x.block < W.heap.size := by obtain ⟨m, hm⟩ := k2; exact DataW.trod_lt m _ _ _ hm
  obtain ⟨fuel2, hf2⟩ := h2
  obtain ⟨b2, hk2, w2⟩ := open2 hf2
  obtain ⟨cs2, rfl, _⟩ := okWide_array Try.underlying38 (hval 2 38 v2 rfl rfl)
  obtain ⟨L2, hL2⟩ : ∃ L, L = (Value.agg cs2).cells.toList := ⟨_, rfl⟩
  rw [← hL2] at hk2
  obtain ⟨x2_0, y2_0, rfl, u2_0, r2_0⟩ := hk2
  have q2_0 : _ = [Value.int .u64 b2.1] := u2_0
  have q2_1 : _ = [Value.int .u64 b2.2] := r2_0
  simp only [q2_0, q2_1, List.cons_append, List.nil_append, List.append_nil] at hL2
  have hv2 : Value.agg cs2 = .agg #[.int .u64 b2.1, .int .u64 b2.2] := agg_of hL2.symm
  rw [hv2] at k2
  clear hA0 hval0 hsz0 hcnd
  have hP : corrielaw06_CellsLast.Pure := Pure.CellsLast
  have h := hP a0 l1 (b2.1) (b2.2) w0 hr1.2.1 w1 w2.1 w2.2
  have hC := corrielaw06_CellsLast.calls (a0 := a0) (A1 := A1) (c1 := c1) (l1 := l1) (hr1 := hr1) (hc1 := hc1) (a2_0 := b2.1) (a2_1 := b2.2) (r := true) (w := W) (h := h)
  rw [hv2] at hW' ⊢
  refine hC.mono fun e W' hh => ?_
  obtain ⟨he, hd⟩ := hh
  have bel : Below W.heap.size W W' := hd
  subst he
  exact ⟨_, rfl, _, _, _, [], _, [], hW', trodAll_mk1 (shut_bool Try.underlying4 _), (trodAll_cons_mk (Below.trod laidOut (by kernel_rfl) (of_decide_eq_true (by kernel_rfl)) k0 bel lt0) (trodAll_cons_mk (Below.trod laidOut (by kernel_rfl) (of_decide_eq_true (by kernel_rfl)) k1 bel lt1) (trodAll_cons_mk (Below.trod laidOut (by kernel_rfl) (of_decide_eq_true (by kernel_rfl)) k2 bel lt2) trodAll_mk0))), rfl, bel.frame _, fun h => by cases h⟩
theorem over : Rows.cellsLastRow.holds Try.pinned (OpenSpec.ofChange Rows.cellsLastSpec) :=
  OpenClaim.holds_of_wide 5 Try.f5 rfl rfl rfl rfl rfl rfl rfl ⟨rfl, rfl, rfl, rfl, rfl⟩ rfl rfl rfl rfl rfl (by kernel_rfl) Try.func5 (by kernel_rfl)
    (of_decide_eq_true (by kernel_rfl)) (by unfold Func.isWrapper; first | (rw [if_pos (by decide +kernel)]; kernel_rfl) | (rw [if_neg (by decide +kernel)]; exact ⟨rfl, rfl⟩))
    (fun os started H enc _ => lifted os started H enc)
theorem proved : Rows.CellsLastSaid := over
#print axioms proved
end Go.Proofs.Ytpcmoclohepdiaa.cellsLast
namespace Go.Proofs.Ytpcmoclohepdiaa
/-- The row, under a short name, for the claim. -/
theorem cellsLast_holds : Rows.CellsLastSaid := cellsLast.proved
end Go.Proofs.Ytpcmoclohepdiaa
