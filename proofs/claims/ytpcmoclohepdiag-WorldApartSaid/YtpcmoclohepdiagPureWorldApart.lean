/- Chapter 8, WorldApart. -/
import Derived.Test.YtpcmoclohepdiagStmWorldApart
namespace Go.Proofs.Ytpcmoclohepdiag.Pure
open Go.RowKit Go.Proofs.Ytpcmoclohepdiag.PWorldApart Go.Proofs.YtpcmoclohepdiagW.PrintWords
theorem u8_bounds (a : Int) (ha : (Lit.int .u8 a).wf = true) : 0 ≤ a ∧ a ≤ 255 := by
  simp only [Lit.wf, IntKind.min, IntKind.max, IntKind.signed, IntKind.bits, Bool.and_eq_true] at ha
  exact ⟨by simpa using ha.1, by simpa using ha.2⟩
theorem WorldApart : Go.Proofs.Ytpcmoclohepdiag.PWorldApart.corrielaw08_WorldApart.Pure := by
  unfold corrielaw08_WorldApart.Pure
  intro a0_0 a0_1 a0_2 a0_3 a0_4 a1_0 a1_1 a1_2 a1_3 a2_0 a2_1 _ _ _ _ _ h0 h1 h2 h3 _ _
  have b0 := u8_bounds _ h0
  have b1 := u8_bounds _ h1
  have b2 := u8_bounds _ h2
  have b3 := u8_bounds _ h3
  unfold corrielaw08_WorldApart.f
  rw [if_pos ⟨b0.1, b1.1, b2.1, b3.1, b0.2, b1.2, b2.2, b3.2⟩]
end Go.Proofs.Ytpcmoclohepdiag.Pure
