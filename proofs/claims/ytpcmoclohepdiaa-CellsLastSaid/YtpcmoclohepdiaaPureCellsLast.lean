/- Chapter 6, CellsLast: a word is the one that was laid last: what is stored is loaded; a swap that is refused changes nothing. -/
import Derived.Test.YtpcmoclohepdiaaStmCellsLast
namespace Go.Proofs.Ytpcmoclohepdiaa.Pure
open Go.RowKit Go.Proofs.Ytpcmoclohepdiaa.PCellsLast Go.Proofs.YtpcmoclohepdiaaW.PrintWords
set_option linter.unusedSimpArgs false
set_option linter.unusedVariables false
theorem CellsLast_n (a0 : Int) (ha : (Lit.int .u8 a0).wf = true) : cNew (wrap64 (1 + (wrap64 a0).tmod 6)) ≤ 6 ∧ 0 < cNew (wrap64 (1 + (wrap64 a0).tmod 6)) ∧ 0 ≤ wrap64 a0 := by
  have h : 0 ≤ a0 ∧ a0 ≤ 255 := by
    simp only [Lit.wf, IntKind.min, IntKind.max, IntKind.signed, IntKind.bits, Bool.and_eq_true, decide_eq_true_eq] at ha
    exact ⟨by simpa using ha.1, by simpa using ha.2⟩
  have e1 : wrap64 a0 = a0 := by unfold wrap64; omega
  have e2 : wrap64 (1 + (wrap64 a0).tmod 6) = 1 + a0 % 6 := by
    rw [e1, Int.tmod_eq_emod_of_nonneg h.1]
    unfold wrap64
    omega
  rw [e2]
  unfold cNew
  refine ⟨by split <;> omega, by split <;> omega, by omega⟩
theorem CellsLast : Go.Proofs.Ytpcmoclohepdiaa.PCellsLast.corrielaw06_CellsLast.Pure := by
  unfold corrielaw06_CellsLast.Pure
  intro a0 l1 a2_0 a2_1 ha
  intros
  unfold corrielaw06_CellsLast.f
  rw [if_pos (CellsLast_n a0 ha)]
end Go.Proofs.Ytpcmoclohepdiaa.Pure
