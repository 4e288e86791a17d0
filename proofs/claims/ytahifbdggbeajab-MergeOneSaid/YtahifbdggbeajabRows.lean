/-
  No cell of these rows narrows 'for every input' (looked for: loops, veiled, ifaces, maps, wideKeys, modest, calm, conditions, laid).
  DERIVED. THE GIVEN ROWS OF THIS SEAT. 5 by the template 'for every input the law returns true; each argument reads behind the call as it read before'; 0 by the template 'total and deterministic' (their statements: YtahifbdggbeajabTotals.lean).
  GIVEN WITH THE SEED: the statements are not yours to turn. If you find one false, say at which input.
  Laid BY PROGRAM, IN A SANDBOX (cutbox-rows.mjs): the forced cells as the released guide's own fill.sh prints them over the translation cfeecaaabd6633fa… (all of the seat's roots in one cut). By AI agents, Wed Nov 11 2026. No macro, syntax, notation, axiom, sorry.
-/
import Derived.Test.YtahifbdggbeajabChecked
import GoSem.Claim
import GoSem.ClaimJoined
import GoSem.ClaimMapViews
import Derived.JoinedTies
import Derived.KernelRfl
namespace Go.Proofs.Ytahifbdggbeajab
/- THE CELL 'sum', in the pinned program and in every row, IS THE sha256 OF THE DUMP (.gsa) THAT YtahifbdggbeajabProg.lean LOADS. Nothing in Lean hashes anything: it is a label: what it is worth is what the hold of that sum in a sandbox is worth. -/
noncomputable def Try.pinned : Pinned := { name := "ytahifbdggbeajab", sum := "cfeecaaabd6633fa83c217b932235f3a34e141ea3f969ac7163f72499cbefb88", checked := Try.checked }
namespace Rows
def none {H : Type} : Left H := { results := [], args := [] }

/-- 'corrielaw17.MergePairs': WHATEVER THE INPUT: true; the input reads as it did. -/
def mergePairsSpec : ChangeSpec := { name := "mergePairs", fn := fun _ => fun
  | [d1, d2] => { results := [.lit (.bool true)], args := [d1, d2] }
  | _ => none }
def mergePairsRow : OpenClaim := { program := "ytahifbdggbeajab", sum := "cfeecaaabd6633fa83c217b932235f3a34e141ea3f969ac7163f72499cbefb88", func := "corrie/corrielaw17.MergePairs", spec := "mergePairs", unfollowed := true, recurses := true, apart := false }
def MergePairsSaid : Prop := mergePairsRow.holds Try.pinned (OpenSpec.ofChange mergePairsSpec)

/-- ITS FALSE NEIGHBOUR: 'it returns false'. Refute it at one input. -/
def mergePairsWrong : ChangeSpec := { name := "mergePairs", fn := fun _ => fun
  | [d1, d2] => { results := [.lit (.bool false)], args := [d1, d2] }
  | _ => none }
def MergePairsWrongFalsely : Prop := mergePairsRow.holds Try.pinned (OpenSpec.ofChange mergePairsWrong)

/-- 'corrielaw17.MergeSorted': WHATEVER THE INPUT: true; the input reads as it did. -/
def mergeSortedSpec : ChangeSpec := { name := "mergeSorted", fn := fun _ => fun
  | [d1, d2] => { results := [.lit (.bool true)], args := [d1, d2] }
  | _ => none }
def mergeSortedRow : OpenClaim := { program := "ytahifbdggbeajab", sum := "cfeecaaabd6633fa83c217b932235f3a34e141ea3f969ac7163f72499cbefb88", func := "corrie/corrielaw17.MergeSorted", spec := "mergeSorted", unfollowed := true, recurses := true, apart := false }
def MergeSortedSaid : Prop := mergeSortedRow.holds Try.pinned (OpenSpec.ofChange mergeSortedSpec)

/-- ITS FALSE NEIGHBOUR: 'it returns false'. Refute it at one input. -/
def mergeSortedWrong : ChangeSpec := { name := "mergeSorted", fn := fun _ => fun
  | [d1, d2] => { results := [.lit (.bool false)], args := [d1, d2] }
  | _ => none }
def MergeSortedWrongFalsely : Prop := mergeSortedRow.holds Try.pinned (OpenSpec.ofChange mergeSortedWrong)

/-- 'corrielaw17.MergeAll': WHATEVER THE INPUT: true; the input reads as it did. -/
def mergeAllSpec : ChangeSpec := { name := "mergeAll", fn := fun _ => fun
  | [d1, d2] => { results := [.lit (.bool true)], args := [d1, d2] }
  | _ => none }
def mergeAllRow : OpenClaim := { program := "ytahifbdggbeajab", sum := "cfeecaaabd6633fa83c217b932235f3a34e141ea3f969ac7163f72499cbefb88", func := "corrie/corrielaw17.MergeAll", spec := "mergeAll", unfollowed := true, recurses := true, apart := false }
def MergeAllSaid : Prop := mergeAllRow.holds Try.pinned (OpenSpec.ofChange mergeAllSpec)

/-- ITS FALSE NEIGHBOUR: 'it returns false'. Refute it at one input. -/
def mergeAllWrong : ChangeSpec := { name := "mergeAll", fn := fun _ => fun
  | [d1, d2] => { results := [.lit (.bool false)], args := [d1, d2] }
  | _ => none }
def MergeAllWrongFalsely : Prop := mergeAllRow.holds Try.pinned (OpenSpec.ofChange mergeAllWrong)

/-- 'corrielaw17.MergeLess': WHATEVER THE INPUT: true; the input reads as it did. -/
def mergeLessSpec : ChangeSpec := { name := "mergeLess", fn := fun _ => fun
  | [d1, d2] => { results := [.lit (.bool true)], args := [d1, d2] }
  | _ => none }
def mergeLessRow : OpenClaim := { program := "ytahifbdggbeajab", sum := "cfeecaaabd6633fa83c217b932235f3a34e141ea3f969ac7163f72499cbefb88", func := "corrie/corrielaw17.MergeLess", spec := "mergeLess", unfollowed := true, recurses := true, apart := false }
def MergeLessSaid : Prop := mergeLessRow.holds Try.pinned (OpenSpec.ofChange mergeLessSpec)

/-- ITS FALSE NEIGHBOUR: 'it returns false'. Refute it at one input. -/
def mergeLessWrong : ChangeSpec := { name := "mergeLess", fn := fun _ => fun
  | [d1, d2] => { results := [.lit (.bool false)], args := [d1, d2] }
  | _ => none }
def MergeLessWrongFalsely : Prop := mergeLessRow.holds Try.pinned (OpenSpec.ofChange mergeLessWrong)

/-- 'corrielaw17.MergeOne': WHATEVER THE INPUT: true; the input reads as it did. -/
def mergeOneSpec : ChangeSpec := { name := "mergeOne", fn := fun _ => fun
  | [d1, d2] => { results := [.lit (.bool true)], args := [d1, d2] }
  | _ => none }
def mergeOneRow : OpenClaim := { program := "ytahifbdggbeajab", sum := "cfeecaaabd6633fa83c217b932235f3a34e141ea3f969ac7163f72499cbefb88", func := "corrie/corrielaw17.MergeOne", spec := "mergeOne", unfollowed := true, recurses := true, apart := false }
def MergeOneSaid : Prop := mergeOneRow.holds Try.pinned (OpenSpec.ofChange mergeOneSpec)

/-- ITS FALSE NEIGHBOUR: 'it returns false'. Refute it at one input. -/
def mergeOneWrong : ChangeSpec := { name := "mergeOne", fn := fun _ => fun
  | [d1, d2] => { results := [.lit (.bool false)], args := [d1, d2] }
  | _ => none }
def MergeOneWrongFalsely : Prop := mergeOneRow.holds Try.pinned (OpenSpec.ofChange mergeOneWrong)

/- THE SECOND FORM. 'bulk': how many values and letters a reading holds, each counted each time it is reached (what is shared counts as often as it is met; a slice's spare places count too). A statement '..UptoSaid' is the law's where the arguments, and the package variables that the reading takes, are together of bulk at most 1048576: NARROWER than '..Said'. Prove '..Said' where nothing that the law and all that it calls make is longer than what came in: it says more and counts as full. Else prove '..UptoSaid'. A law counts once. -/
mutual
def uptoBulk {H : Type} : DataW H → Nat
  | .lit (.string bytes) => bytes.length + 1
  | .lit _ => 1
  | .nil => 1
  | .ptr d => uptoBulk d + 1
  | .slice elems spare => uptoBulkAll elems + uptoBulkAll spare + 1
  | .agg parts => uptoBulkAll parts + 1
  | .iface _ d => uptoBulk d + 1
  | .map entries => uptoBulkEntries entries + 1
  | .held _ => 1
def uptoBulkAll {H : Type} : List (DataW H) → Nat
  | [] => 0
  | d :: r => uptoBulk d + uptoBulkAll r
def uptoBulkEntries {H : Type} : List (Lit × DataW H) → Nat
  | [] => 0
  | x :: r => uptoBulkEntry x + uptoBulkEntries r
def uptoBulkEntry {H : Type} : Lit × DataW H → Nat
  | (.string bytes, d) => bytes.length + uptoBulk d + 1
  | (_, d) => uptoBulk d + 1
 end
def uptoSmall : (H : Type) → List (DataW H) → Bool := fun _ ds => decide (uptoBulkAll ds ≤ 1048576)
def OpenSpec.upto (s : _root_.Go.ChangeSpec) : _root_.Go.OpenSpec := { _root_.Go.OpenSpec.ofChange s with cond := some uptoSmall }

/-- 'corrielaw17.MergePairs', WHERE WHAT IT READS IS OF BULK AT MOST 1048576: true; the input reads as it did. -/
def mergePairsUptoRow : OpenClaim := { program := "ytahifbdggbeajab", sum := "cfeecaaabd6633fa83c217b932235f3a34e141ea3f969ac7163f72499cbefb88", func := "corrie/corrielaw17.MergePairs", spec := "mergePairs", unfollowed := true, recurses := true, apart := false, narrowed := true }
def MergePairsUptoSaid : Prop := mergePairsUptoRow.holds Try.pinned (OpenSpec.upto mergePairsSpec)

/-- 'corrielaw17.MergeSorted', WHERE WHAT IT READS IS OF BULK AT MOST 1048576: true; the input reads as it did. -/
def mergeSortedUptoRow : OpenClaim := { program := "ytahifbdggbeajab", sum := "cfeecaaabd6633fa83c217b932235f3a34e141ea3f969ac7163f72499cbefb88", func := "corrie/corrielaw17.MergeSorted", spec := "mergeSorted", unfollowed := true, recurses := true, apart := false, narrowed := true }
def MergeSortedUptoSaid : Prop := mergeSortedUptoRow.holds Try.pinned (OpenSpec.upto mergeSortedSpec)

/-- 'corrielaw17.MergeAll', WHERE WHAT IT READS IS OF BULK AT MOST 1048576: true; the input reads as it did. -/
def mergeAllUptoRow : OpenClaim := { program := "ytahifbdggbeajab", sum := "cfeecaaabd6633fa83c217b932235f3a34e141ea3f969ac7163f72499cbefb88", func := "corrie/corrielaw17.MergeAll", spec := "mergeAll", unfollowed := true, recurses := true, apart := false, narrowed := true }
def MergeAllUptoSaid : Prop := mergeAllUptoRow.holds Try.pinned (OpenSpec.upto mergeAllSpec)

/-- 'corrielaw17.MergeLess', WHERE WHAT IT READS IS OF BULK AT MOST 1048576: true; the input reads as it did. -/
def mergeLessUptoRow : OpenClaim := { program := "ytahifbdggbeajab", sum := "cfeecaaabd6633fa83c217b932235f3a34e141ea3f969ac7163f72499cbefb88", func := "corrie/corrielaw17.MergeLess", spec := "mergeLess", unfollowed := true, recurses := true, apart := false, narrowed := true }
def MergeLessUptoSaid : Prop := mergeLessUptoRow.holds Try.pinned (OpenSpec.upto mergeLessSpec)

/-- 'corrielaw17.MergeOne', WHERE WHAT IT READS IS OF BULK AT MOST 1048576: true; the input reads as it did. -/
def mergeOneUptoRow : OpenClaim := { program := "ytahifbdggbeajab", sum := "cfeecaaabd6633fa83c217b932235f3a34e141ea3f969ac7163f72499cbefb88", func := "corrie/corrielaw17.MergeOne", spec := "mergeOne", unfollowed := true, recurses := true, apart := false, narrowed := true }
def MergeOneUptoSaid : Prop := mergeOneUptoRow.holds Try.pinned (OpenSpec.upto mergeOneSpec)

end Rows
end Go.Proofs.Ytahifbdggbeajab
