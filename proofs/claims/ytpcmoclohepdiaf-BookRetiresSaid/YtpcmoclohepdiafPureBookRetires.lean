/- Chapter 7, BookRetires. -/
import Derived.Test.YtpcmoclohepdiafStmBookRetires
namespace Go.Proofs.Ytpcmoclohepdiaf.Pure
open Go.RowKit Go.Proofs.Ytpcmoclohepdiaf.PBookRetires Go.Proofs.YtpcmoclohepdiafW.PrintWords
theorem u8_bounds (a : Int) (ha : (Lit.int .u8 a).wf = true) : 0 ≤ a ∧ a ≤ 255 := by
  simp only [Lit.wf, IntKind.min, IntKind.max, IntKind.signed, IntKind.bits, Bool.and_eq_true] at ha
  exact ⟨by simpa using ha.1, by simpa using ha.2⟩
theorem BookRetires : Go.Proofs.Ytpcmoclohepdiaf.PBookRetires.corrielaw07_BookRetires.Pure := by
  unfold corrielaw07_BookRetires.Pure
  intro a0_0 a0_1 a0_2 a0_3 a0_4 a1 a2 _ _ _ _ _ h1 h2
  unfold corrielaw07_BookRetires.f
  have b1 := u8_bounds a1 h1
  have b2 := u8_bounds a2 h2
  rw [if_pos ⟨b1.1, b1.2, b2.1, b2.2⟩]
end Go.Proofs.Ytpcmoclohepdiaf.Pure
