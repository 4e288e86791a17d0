/- Chapter 8, WorldSteps. -/
import Derived.Test.YtpcmoclohepdiagStmWorldSteps
namespace Go.Proofs.Ytpcmoclohepdiag.Pure
open Go.RowKit Go.Proofs.Ytpcmoclohepdiag.PWorldSteps Go.Proofs.YtpcmoclohepdiagW.PrintWords
theorem u8_bounds (a : Int) (ha : (Lit.int .u8 a).wf = true) : 0 ≤ a ∧ a ≤ 255 := by
  simp only [Lit.wf, IntKind.min, IntKind.max, IntKind.signed, IntKind.bits, Bool.and_eq_true] at ha
  exact ⟨by simpa using ha.1, by simpa using ha.2⟩
theorem WorldSteps : Go.Proofs.Ytpcmoclohepdiag.PWorldSteps.corrielaw08_WorldSteps.Pure := by
  unfold corrielaw08_WorldSteps.Pure
  intro a0_0 a0_1 a0_2 a0_3 a0_4 a1_0 a1_1 a1_2 a1_3 a1_4 _ _ _ _ _ h1 _ _ _ _
  unfold corrielaw08_WorldSteps.f
  rw [if_pos (u8_bounds a1_0 h1)]
end Go.Proofs.Ytpcmoclohepdiag.Pure
