/- Chapter 6, CellsActs: whatever is done to 1 to 6 cells: what each act tells, and how many steps there were; and all words at the end. -/
import Derived.Test.YtpcmoclohepdiaaStmCellsActs
namespace Go.Proofs.Ytpcmoclohepdiaa.Pure
open Go.RowKit Go.Proofs.Ytpcmoclohepdiaa.PCellsActs Go.Proofs.YtpcmoclohepdiaaW.PrintWords
set_option linter.unusedSimpArgs false
theorem CellsActs_n (a0 : Int) (ha : (Lit.int .u8 a0).wf = true) : cNew (wrap64 (1 + (wrap64 a0).tmod 6)) ≤ 6 := by
  have h : 0 ≤ a0 ∧ a0 ≤ 255 := by
    simp only [Lit.wf, IntKind.min, IntKind.max, IntKind.signed, IntKind.bits, Bool.and_eq_true, decide_eq_true_eq] at ha
    exact ⟨by simpa using ha.1, by simpa using ha.2⟩
  have e1 : wrap64 a0 = a0 := by unfold wrap64; omega
  have e2 : wrap64 (1 + (wrap64 a0).tmod 6) = 1 + a0 % 6 := by
    rw [e1, Int.tmod_eq_emod_of_nonneg h.1]
    unfold wrap64
    omega
  rw [e2]
  unfold cNew
  split <;> omega
theorem CellsActs : Go.Proofs.Ytpcmoclohepdiaa.PCellsActs.corrielaw06_CellsActs.Pure := by
  unfold corrielaw06_CellsActs.Pure
  intro a0 l1 ha hl hw
  unfold corrielaw06_CellsActs.f
  rw [if_pos (CellsActs_n a0 ha)]
end Go.Proofs.Ytpcmoclohepdiaa.Pure
