/- Chapter 8, WorldNew. -/
import Derived.Test.YtpcmoclohepdiagStmWorldNew
namespace Go.Proofs.Ytpcmoclohepdiag.Pure
open Go.RowKit Go.Proofs.Ytpcmoclohepdiag.PWorldNew Go.Proofs.YtpcmoclohepdiagW.PrintWords
theorem u8_bounds (a : Int) (ha : (Lit.int .u8 a).wf = true) : 0 ≤ a ∧ a ≤ 255 := by
  simp only [Lit.wf, IntKind.min, IntKind.max, IntKind.signed, IntKind.bits, Bool.and_eq_true] at ha
  exact ⟨by simpa using ha.1, by simpa using ha.2⟩
theorem WorldNew : Go.Proofs.Ytpcmoclohepdiag.PWorldNew.corrielaw08_WorldNew.Pure := by
  unfold corrielaw08_WorldNew.Pure
  intro a0_0 a0_1 a0_2 a0_3 a0_4 a1 _ _ _ _ _ h1
  unfold corrielaw08_WorldNew.f
  rw [if_pos (u8_bounds a1 h1)]
end Go.Proofs.Ytpcmoclohepdiag.Pure
