/-
  No cell of these rows narrows 'for every input' (looked for: loops, veiled, ifaces, maps, wideKeys, modest, calm, conditions, laid).
  DERIVED. THE GIVEN ROWS OF THIS SEAT. 5 by the template 'for every input the law returns true; each argument reads behind the call as it read before'; 0 by the template 'total and deterministic' (their statements: YtpcmoclohepdiacTotals.lean).
  GIVEN WITH THE SEED: the statements are not yours to turn. If you find one false, say at which input.
  Laid BY PROGRAM, IN A SANDBOX (cutbox-rows.mjs): the forced cells as the released guide's own fill.sh prints them over the translation edd10a503c5e1380… (all of the seat's roots in one cut). By AI agents, Wed Nov 11 2026. No macro, syntax, notation, axiom, sorry.
-/
import Derived.Test.YtpcmoclohepdiacChecked
import GoSem.Claim
import GoSem.ClaimJoined
import GoSem.ClaimMapViews
import Derived.JoinedTies
import Derived.KernelRfl
namespace Go.Proofs.Ytpcmoclohepdiac
/- THE CELL 'sum', in the pinned program and in every row, IS THE sha256 OF THE DUMP (.gsa) THAT YtpcmoclohepdiacProg.lean LOADS. Nothing in Lean hashes anything: it is a label: what it is worth is what the hold of that sum in a sandbox is worth. -/
noncomputable def Try.pinned : Pinned := { name := "ytpcmoclohepdiac", sum := "edd10a503c5e1380842b99ee3ebcaffbe06ef086edfc163caf7b2d87ce0511b5", checked := Try.checked }
namespace Rows
def none {H : Type} : Left H := { results := [], args := [] }

/-- 'corrielaw04.ConfMay': WHATEVER THE INPUT: true; the input reads as it did. -/
def confMaySpec : ChangeSpec := { name := "confMay", fn := fun _ => fun
  | [d] => { results := [.lit (.bool true)], args := [d] }
  | _ => none }
def confMayRow : OpenClaim := { program := "ytpcmoclohepdiac", sum := "edd10a503c5e1380842b99ee3ebcaffbe06ef086edfc163caf7b2d87ce0511b5", func := "corrie/corrielaw04.ConfMay", spec := "confMay", apart := false }
def ConfMaySaid : Prop := confMayRow.holds Try.pinned (OpenSpec.ofChange confMaySpec)

/-- ITS FALSE NEIGHBOUR: 'it returns false'. Refute it at one input. -/
def confMayWrong : ChangeSpec := { name := "confMay", fn := fun _ => fun
  | [d] => { results := [.lit (.bool false)], args := [d] }
  | _ => none }
def ConfMayWrongFalsely : Prop := confMayRow.holds Try.pinned (OpenSpec.ofChange confMayWrong)

/-- 'corrielaw04.ConfTells': WHATEVER THE INPUT: true; the input reads as it did. -/
def confTellsSpec : ChangeSpec := { name := "confTells", fn := fun _ => fun
  | [d] => { results := [.lit (.bool true)], args := [d] }
  | _ => none }
def confTellsRow : OpenClaim := { program := "ytpcmoclohepdiac", sum := "edd10a503c5e1380842b99ee3ebcaffbe06ef086edfc163caf7b2d87ce0511b5", func := "corrie/corrielaw04.ConfTells", spec := "confTells", apart := false }
def ConfTellsSaid : Prop := confTellsRow.holds Try.pinned (OpenSpec.ofChange confTellsSpec)

/-- ITS FALSE NEIGHBOUR: 'it returns false'. Refute it at one input. -/
def confTellsWrong : ChangeSpec := { name := "confTells", fn := fun _ => fun
  | [d] => { results := [.lit (.bool false)], args := [d] }
  | _ => none }
def ConfTellsWrongFalsely : Prop := confTellsRow.holds Try.pinned (OpenSpec.ofChange confTellsWrong)

/-- 'corrielaw04.ConfLess': WHATEVER THE INPUT: true; the input reads as it did. -/
def confLessSpec : ChangeSpec := { name := "confLess", fn := fun _ => fun
  | [d1, d2, d3] => { results := [.lit (.bool true)], args := [d1, d2, d3] }
  | _ => none }
def confLessRow : OpenClaim := { program := "ytpcmoclohepdiac", sum := "edd10a503c5e1380842b99ee3ebcaffbe06ef086edfc163caf7b2d87ce0511b5", func := "corrie/corrielaw04.ConfLess", spec := "confLess", apart := false }
def ConfLessSaid : Prop := confLessRow.holds Try.pinned (OpenSpec.ofChange confLessSpec)

/-- ITS FALSE NEIGHBOUR: 'it returns false'. Refute it at one input. -/
def confLessWrong : ChangeSpec := { name := "confLess", fn := fun _ => fun
  | [d1, d2, d3] => { results := [.lit (.bool false)], args := [d1, d2, d3] }
  | _ => none }
def ConfLessWrongFalsely : Prop := confLessRow.holds Try.pinned (OpenSpec.ofChange confLessWrong)

/-- 'corrielaw04.ConfCounts': WHATEVER THE INPUT: true; the input reads as it did. -/
def confCountsSpec : ChangeSpec := { name := "confCounts", fn := fun _ => fun
  | [d] => { results := [.lit (.bool true)], args := [d] }
  | _ => none }
def confCountsRow : OpenClaim := { program := "ytpcmoclohepdiac", sum := "edd10a503c5e1380842b99ee3ebcaffbe06ef086edfc163caf7b2d87ce0511b5", func := "corrie/corrielaw04.ConfCounts", spec := "confCounts", apart := false }
def ConfCountsSaid : Prop := confCountsRow.holds Try.pinned (OpenSpec.ofChange confCountsSpec)

/-- ITS FALSE NEIGHBOUR: 'it returns false'. Refute it at one input. -/
def confCountsWrong : ChangeSpec := { name := "confCounts", fn := fun _ => fun
  | [d] => { results := [.lit (.bool false)], args := [d] }
  | _ => none }
def ConfCountsWrongFalsely : Prop := confCountsRow.holds Try.pinned (OpenSpec.ofChange confCountsWrong)

/-- 'corrielaw04.ConfFree': WHATEVER THE INPUT: true; the input reads as it did. -/
def confFreeSpec : ChangeSpec := { name := "confFree", fn := fun _ => fun
  | [d1, d2] => { results := [.lit (.bool true)], args := [d1, d2] }
  | _ => none }
def confFreeRow : OpenClaim := { program := "ytpcmoclohepdiac", sum := "edd10a503c5e1380842b99ee3ebcaffbe06ef086edfc163caf7b2d87ce0511b5", func := "corrie/corrielaw04.ConfFree", spec := "confFree", apart := false }
def ConfFreeSaid : Prop := confFreeRow.holds Try.pinned (OpenSpec.ofChange confFreeSpec)

/-- ITS FALSE NEIGHBOUR: 'it returns false'. Refute it at one input. -/
def confFreeWrong : ChangeSpec := { name := "confFree", fn := fun _ => fun
  | [d1, d2] => { results := [.lit (.bool false)], args := [d1, d2] }
  | _ => none }
def ConfFreeWrongFalsely : Prop := confFreeRow.holds Try.pinned (OpenSpec.ofChange confFreeWrong)

/- THE SECOND FORM. 'bulk': how many values and letters a reading holds, each counted each time it is reached (what is shared counts as often as it is met; a slice's spare places count too). A statement '..UptoSaid' is the law's where the arguments, and the package variables that the reading takes, are together of bulk at most 1048576: NARROWER than '..Said'. Prove '..Said' where nothing that the law and all that it calls make is longer than what came in: it says more and counts as full. Else prove '..UptoSaid'. A law counts once. -/
mutual
def uptoBulk {H : Type} : DataW H → Nat
  | .lit (.string bytes) => bytes.length + 1
  | .lit _ => 1
  | .nil => 1
  | .ptr d => uptoBulk d + 1
  | .slice elems spare => uptoBulkAll elems + uptoBulkAll spare + 1
  | .agg parts => uptoBulkAll parts + 1
  | .iface _ d => uptoBulk d + 1
  | .map entries => uptoBulkEntries entries + 1
  | .held _ => 1
def uptoBulkAll {H : Type} : List (DataW H) → Nat
  | [] => 0
  | d :: r => uptoBulk d + uptoBulkAll r
def uptoBulkEntries {H : Type} : List (Lit × DataW H) → Nat
  | [] => 0
  | x :: r => uptoBulkEntry x + uptoBulkEntries r
def uptoBulkEntry {H : Type} : Lit × DataW H → Nat
  | (.string bytes, d) => bytes.length + uptoBulk d + 1
  | (_, d) => uptoBulk d + 1
 end
def uptoSmall : (H : Type) → List (DataW H) → Bool := fun _ ds => decide (uptoBulkAll ds ≤ 1048576)
def OpenSpec.upto (s : _root_.Go.ChangeSpec) : _root_.Go.OpenSpec := { _root_.Go.OpenSpec.ofChange s with cond := some uptoSmall }

/-- 'corrielaw04.ConfMay', WHERE WHAT IT READS IS OF BULK AT MOST 1048576: true; the input reads as it did. -/
def confMayUptoRow : OpenClaim := { program := "ytpcmoclohepdiac", sum := "edd10a503c5e1380842b99ee3ebcaffbe06ef086edfc163caf7b2d87ce0511b5", func := "corrie/corrielaw04.ConfMay", spec := "confMay", apart := false, narrowed := true }
def ConfMayUptoSaid : Prop := confMayUptoRow.holds Try.pinned (OpenSpec.upto confMaySpec)

/-- 'corrielaw04.ConfTells', WHERE WHAT IT READS IS OF BULK AT MOST 1048576: true; the input reads as it did. -/
def confTellsUptoRow : OpenClaim := { program := "ytpcmoclohepdiac", sum := "edd10a503c5e1380842b99ee3ebcaffbe06ef086edfc163caf7b2d87ce0511b5", func := "corrie/corrielaw04.ConfTells", spec := "confTells", apart := false, narrowed := true }
def ConfTellsUptoSaid : Prop := confTellsUptoRow.holds Try.pinned (OpenSpec.upto confTellsSpec)

/-- 'corrielaw04.ConfLess', WHERE WHAT IT READS IS OF BULK AT MOST 1048576: true; the input reads as it did. -/
def confLessUptoRow : OpenClaim := { program := "ytpcmoclohepdiac", sum := "edd10a503c5e1380842b99ee3ebcaffbe06ef086edfc163caf7b2d87ce0511b5", func := "corrie/corrielaw04.ConfLess", spec := "confLess", apart := false, narrowed := true }
def ConfLessUptoSaid : Prop := confLessUptoRow.holds Try.pinned (OpenSpec.upto confLessSpec)

/-- 'corrielaw04.ConfCounts', WHERE WHAT IT READS IS OF BULK AT MOST 1048576: true; the input reads as it did. -/
def confCountsUptoRow : OpenClaim := { program := "ytpcmoclohepdiac", sum := "edd10a503c5e1380842b99ee3ebcaffbe06ef086edfc163caf7b2d87ce0511b5", func := "corrie/corrielaw04.ConfCounts", spec := "confCounts", apart := false, narrowed := true }
def ConfCountsUptoSaid : Prop := confCountsUptoRow.holds Try.pinned (OpenSpec.upto confCountsSpec)

/-- 'corrielaw04.ConfFree', WHERE WHAT IT READS IS OF BULK AT MOST 1048576: true; the input reads as it did. -/
def confFreeUptoRow : OpenClaim := { program := "ytpcmoclohepdiac", sum := "edd10a503c5e1380842b99ee3ebcaffbe06ef086edfc163caf7b2d87ce0511b5", func := "corrie/corrielaw04.ConfFree", spec := "confFree", apart := false, narrowed := true }
def ConfFreeUptoSaid : Prop := confFreeUptoRow.holds Try.pinned (OpenSpec.upto confFreeSpec)

end Rows
end Go.Proofs.Ytpcmoclohepdiac
