/- Chapter 19, HistoryOrder: of three events that don't end ahead of their begins: which are before others: never each other, and what is before one that is before another one is before that. -/
import Derived.Test.YtpcmoclohepdiadStmHistoryOrder
namespace Go.Proofs.Ytpcmoclohepdiad.Pure.HistoryOrder
open Go.RowKit Go.Proofs.Ytpcmoclohepdiad.PHistoryOrder Go.Proofs.YtpcmoclohepdiadW.PrintWords Go.Proofs.YtpcmoclohepdiadW.PrintLast Go.Proofs.YtpcmoclohepdiadW.PrintMore
set_option linter.unusedVariables false
set_option linter.unusedSimpArgs false
set_option maxHeartbeats 2000000
theorem bf (a b c : Int) : (if a ≥ 0 then some (decide (b < c)) else some false) = some (decide (a ≥ 0 ∧ b < c)) := by
  by_cases h : a ≥ 0 <;> simp [h]
theorem proof : corrielaw19_HistoryOrder.Pure := by
  unfold corrielaw19_HistoryOrder.Pure
  intros
  refine ⟨1, ?_⟩
  unfold corrielaw19_HistoryOrder.f
  simp only [corrielaw19_awake.f, history_Before.f, corrieref19_Before.f, corrielaw19_HistoryOrder.j0, Option.bind_some]
  simp only [bf, Option.bind_some, beq_self_eq_true, if_true]
  repeat' (first | (split; skip) | (simp only [Option.bind_some, beq_self_eq_true, if_true]))
  all_goals try simp only [Option.bind_some, beq_self_eq_true, if_true, Option.some.injEq]
  all_goals first
    | rfl
    | (exfalso; (try simp only [decide_eq_true_eq, decide_eq_false_iff_not, beq_iff_eq, Bool.not_eq_true] at *); omega)
    | (refine decide_eq_true ?_; (try simp only [decide_eq_true_eq, decide_eq_false_iff_not, beq_iff_eq, Bool.not_eq_true] at *); omega)
end Go.Proofs.Ytpcmoclohepdiad.Pure.HistoryOrder
namespace Go.Proofs.Ytpcmoclohepdiad.Pure
theorem HistoryOrder : Go.Proofs.Ytpcmoclohepdiad.PHistoryOrder.corrielaw19_HistoryOrder.Pure := HistoryOrder.proof
end Go.Proofs.Ytpcmoclohepdiad.Pure
