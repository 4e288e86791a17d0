/- Chapter 21, LinPending. -/
import Derived.Test.YtcleoahoppggmaaStmLinPending
namespace Go.Proofs.Ytcleoahoppggmaa.Pure
open Go.RowKit Go.Proofs.Ytcleoahoppggmaa.PLinPending Go.Proofs.YtcleoahoppggmaaW.PrintWords
theorem LinPending : Go.Proofs.Ytcleoahoppggmaa.PLinPending.corrielaw21_LinPending.Pure := by
  unfold corrielaw21_LinPending.Pure
  intros
  rename_i h
  unfold corrielaw21_LinPending.f
  have hmin : IntKind.u8.min = 0 := rfl
  have hmax : IntKind.u8.max = 255 := rfl
  simp only [Lit.wf, Bool.and_eq_true, decide_eq_true_eq, hmin, hmax] at h
  rw [if_pos h]
end Go.Proofs.Ytcleoahoppggmaa.Pure
