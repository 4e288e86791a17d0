/- Chapter 21, LinAlone. -/
import Derived.Test.YtcleoahoppggmaaStmLinAlone
namespace Go.Proofs.Ytcleoahoppggmaa.Pure
open Go.RowKit Go.Proofs.Ytcleoahoppggmaa.PLinAlone Go.Proofs.YtcleoahoppggmaaW.PrintWords
theorem LinAlone : Go.Proofs.Ytcleoahoppggmaa.PLinAlone.corrielaw21_LinAlone.Pure := by
  unfold corrielaw21_LinAlone.Pure
  intros
  rfl
end Go.Proofs.Ytcleoahoppggmaa.Pure
