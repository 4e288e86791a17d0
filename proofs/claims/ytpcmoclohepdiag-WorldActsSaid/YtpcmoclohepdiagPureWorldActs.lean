/- Chapter 8, WorldActs. -/
import Derived.Test.YtpcmoclohepdiagStmWorldActs
namespace Go.Proofs.Ytpcmoclohepdiag.Pure
open Go.RowKit Go.Proofs.Ytpcmoclohepdiag.PWorldActs Go.Proofs.YtpcmoclohepdiagW.PrintWords
theorem WorldActs : Go.Proofs.Ytpcmoclohepdiag.PWorldActs.corrielaw08_WorldActs.Pure := by
  unfold corrielaw08_WorldActs.Pure
  intro a0_0 a0_1 a0_2 a0_3 a0_4 l1 _ _ _ _ _ _ hw
  unfold corrielaw08_WorldActs.f
  rw [if_pos (by
    rw [List.all_eq_true]
    exact fun x hx => (hw x hx).1)]
end Go.Proofs.Ytpcmoclohepdiag.Pure
