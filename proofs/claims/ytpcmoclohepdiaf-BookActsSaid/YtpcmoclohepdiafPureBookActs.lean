/- Chapter 7, BookActs. -/
import Derived.Test.YtpcmoclohepdiafStmBookActs
namespace Go.Proofs.Ytpcmoclohepdiaf.Pure
open Go.RowKit Go.Proofs.Ytpcmoclohepdiaf.PBookActs Go.Proofs.YtpcmoclohepdiafW.PrintWords
theorem BookActs : Go.Proofs.Ytpcmoclohepdiaf.PBookActs.corrielaw07_BookActs.Pure := by
  unfold corrielaw07_BookActs.Pure
  intro a0_0 a0_1 a0_2 a0_3 a0_4 l1 _ _ _ _ _ _ hw
  unfold corrielaw07_BookActs.f
  rw [if_pos (List.all_eq_true.mpr (fun a ha => (hw a ha).2.2.1))]
end Go.Proofs.Ytpcmoclohepdiaf.Pure
