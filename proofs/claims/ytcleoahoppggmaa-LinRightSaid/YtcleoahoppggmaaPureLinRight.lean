/- Chapter 21, LinRight. -/
import Derived.Test.YtcleoahoppggmaaStmLinRight
namespace Go.Proofs.Ytcleoahoppggmaa.Pure
open Go.RowKit Go.Proofs.Ytcleoahoppggmaa.PLinRight Go.Proofs.YtcleoahoppggmaaW.PrintWords
theorem LinRight : Go.Proofs.Ytcleoahoppggmaa.PLinRight.corrielaw21_LinRight.Pure := by
  unfold corrielaw21_LinRight.Pure
  intros
  rfl
end Go.Proofs.Ytcleoahoppggmaa.Pure
