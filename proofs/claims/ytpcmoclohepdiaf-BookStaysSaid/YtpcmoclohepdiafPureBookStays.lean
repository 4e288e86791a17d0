/- Chapter 7, BookStays. -/
import Derived.Test.YtpcmoclohepdiafStmBookStays
namespace Go.Proofs.Ytpcmoclohepdiaf.Pure
open Go.RowKit Go.Proofs.Ytpcmoclohepdiaf.PBookStays Go.Proofs.YtpcmoclohepdiafW.PrintWords
theorem BookStays : Go.Proofs.Ytpcmoclohepdiaf.PBookStays.corrielaw07_BookStays.Pure := by
  unfold corrielaw07_BookStays.Pure
  intro a0_0 a0_1 a0_2 a0_3 a0_4 l1 l2 _ _ _ _ _ _ hw1 _ hw2
  unfold corrielaw07_BookStays.f
  rw [if_pos ⟨List.all_eq_true.mpr (fun a ha => (hw1 a ha).2.2.1), List.all_eq_true.mpr (fun a ha => (hw2 a ha).2.2.1)⟩]
end Go.Proofs.Ytpcmoclohepdiaf.Pure
