/- Chapter 1, RefMarks: a reference that is marked is still of its node, and cannot be marked twice; it is another one, if it was not marked. -/
import Derived.Test.YtahifbdggbeajaaPRefMarksx1
import Derived.Test.YtahifbdggbeajaaPlainBits
namespace Go.Proofs.Ytahifbdggbeajaa.Pure
open Go.RowKit Go.Proofs.Ytahifbdggbeajaa.PRefMarks Go.Proofs.Ytahifbdggbeajaa.Plain Go.Proofs.YtahifbdggbeajaaW.PrintWords Go.Proofs.YtahifbdggbeajaaW.PrintLast
theorem RefMarks : corrielaw01_RefMarks.Pure := by
  intro a hw
  have hb := bounds_u64 hw
  have ha : corrielaw01_awake.f = some true := by decide +kernel
  unfold corrielaw01_RefMarks.f ref_Index.f ref_Marked.f ref_Mark.f
  rw [ha]
  simp only [Option.bind_some, if_true, or_one hb.1 hb.2, and_one hb.1 hb.2]
  obtain ⟨m, hm⟩ : ∃ m, m = a + 1 - a % 2 := ⟨_, rfl⟩
  rw [← hm, and_one (by omega) (by omega), or_one (by omega) (by omega)]
  rw [if_pos (by simp; omega), if_pos (by rw [show m / 2 = a / 2 by omega]), if_pos (by omega)]
  by_cases c : a % 2 = 0
  · simp [c]; omega
  · simp [show a % 2 = 1 by omega]; omega
end Go.Proofs.Ytahifbdggbeajaa.Pure
