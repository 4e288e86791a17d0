/- Chapter 23, BoundKeeps. -/
import Derived.Test.YtbhakljebcmocaaStmBoundKeeps
namespace Go.Proofs.Ytbhakljebcmocaa.Pure
open Go.RowKit Go.Proofs.Ytbhakljebcmocaa.PBoundKeeps Go.Proofs.YtbhakljebcmocaaW.PrintWords
theorem BoundKeeps : Go.Proofs.Ytbhakljebcmocaa.PBoundKeeps.corrielaw23_BoundKeeps.Pure := by
  unfold corrielaw23_BoundKeeps.Pure
  intros
  rfl
end Go.Proofs.Ytbhakljebcmocaa.Pure
