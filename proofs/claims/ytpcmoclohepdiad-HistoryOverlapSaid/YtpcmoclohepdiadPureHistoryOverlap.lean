/- Chapter 19, HistoryOverlap: an insert overlaps itself, and what it overlaps overlaps it. -/
import Derived.Test.YtpcmoclohepdiadStmHistoryOverlap
namespace Go.Proofs.Ytpcmoclohepdiad.Pure.HistoryOverlap
open Go.RowKit Go.Proofs.Ytpcmoclohepdiad.PHistoryOverlap Go.Proofs.YtpcmoclohepdiadW.PrintWords Go.Proofs.YtpcmoclohepdiadW.PrintLast Go.Proofs.YtpcmoclohepdiadW.PrintMore
set_option linter.unusedVariables false
set_option linter.unusedSimpArgs false
set_option maxHeartbeats 2000000
abbrev E := S31
theorem w1 : wrap64 (0 + 1) = 1 := by unfold wrap64; decide
theorem one (e x : E) : hin_c.l0 e 3 [x] 0 0 = some (if history_Inserts1.f x e = true then 1 else 0) := by
  have r : rd_T31 [x] 0 = x := rfl
  simp only [hin_c.l0, r, w1]
  cases history_Inserts1.f x e <;> simp
theorem none_ (e : E) : hin_c.l0 e 3 [] 0 0 = some 0 := by
  simp [hin_c.l0]
theorem self (a : E) (ha : a.f5.f0 = 1) (h : ¬ (a.f3 ≥ 0 ∧ a.f3 < a.f2)) : history_Inserts1.f a a = true := by
  unfold history_Inserts1.f hin_Bf.f
  rw [if_pos ha]
  by_cases h1 : a.f3 ≥ 0
  · have h2 : ¬ a.f3 < a.f2 := fun h2 => h ⟨h1, h2⟩
    simp [h1, h2]
  · simp [h1]
theorem sym (a b : E) (ha : a.f5.f0 = 1) (hb : b.f5.f0 = 1) : history_Inserts1.f a b = history_Inserts1.f b a := by
  unfold history_Inserts1.f
  rw [if_pos ha, if_pos hb]
  cases hin_Bf.f a b <;> cases hin_Bf.f b a <;> rfl
theorem law (a b : E) : corrielaw19_HistoryOverlap.g 3 a b = some true := by
  unfold corrielaw19_HistoryOverlap.g
  by_cases h : a.f3 ≥ 0 ∧ a.f3 < a.f2
  · rw [if_pos h]
  · rw [if_neg h]
    simp only [one, none_, Option.bind_some]
    rw [if_pos ?_]
    refine ⟨?_, ?_, trivial⟩
    · exact if_pos (self ⟨a.f0, a.f1, a.f2, a.f3, a.f4, ⟨1, a.f5.f1, a.f5.f2, a.f5.f3⟩, a.f6⟩ rfl h)
    · rw [sym ⟨a.f0, a.f1, a.f2, a.f3, a.f4, ⟨1, a.f5.f1, a.f5.f2, a.f5.f3⟩, a.f6⟩ ⟨b.f0, b.f1, b.f2, b.f3, b.f4, ⟨1, b.f5.f1, b.f5.f2, b.f5.f3⟩, b.f6⟩ rfl rfl]
theorem proof : corrielaw19_HistoryOverlap.Pure := by
  unfold corrielaw19_HistoryOverlap.Pure
  intros
  exact ⟨3, law _ _⟩
end Go.Proofs.Ytpcmoclohepdiad.Pure.HistoryOverlap
namespace Go.Proofs.Ytpcmoclohepdiad.Pure
theorem HistoryOverlap : Go.Proofs.Ytpcmoclohepdiad.PHistoryOverlap.corrielaw19_HistoryOverlap.Pure := HistoryOverlap.proof
end Go.Proofs.Ytpcmoclohepdiad.Pure
