/- Chapter 21, LinApply. -/
import Derived.Test.YtcleoahoppggmaaStmLinApply
namespace Go.Proofs.Ytcleoahoppggmaa.Pure
open Go.RowKit Go.Proofs.Ytcleoahoppggmaa.PLinApply Go.Proofs.YtcleoahoppggmaaW.PrintWords
theorem LinApply : Go.Proofs.Ytcleoahoppggmaa.PLinApply.corrielaw21_LinApply.Pure := by
  unfold corrielaw21_LinApply.Pure
  intros
  rfl
end Go.Proofs.Ytcleoahoppggmaa.Pure
