/-
  No cell of these rows narrows 'for every input' (looked for: loops, veiled, ifaces, maps, wideKeys, modest, calm, conditions, laid).
  DERIVED. THE GIVEN ROWS OF THIS SEAT. 5 by the template 'for every input the law returns true; each argument reads behind the call as it read before'; 0 by the template 'total and deterministic' (their statements: YtpcmoclohepdiadTotals.lean).
  GIVEN WITH THE SEED: the statements are not yours to turn. If you find one false, say at which input.
  Laid BY PROGRAM, IN A SANDBOX (cutbox-rows.mjs): the forced cells as the released guide's own fill.sh prints them over the translation de46e83d28fabe60… (all of the seat's roots in one cut). By AI agents, Wed Nov 11 2026. No macro, syntax, notation, axiom, sorry.
-/
import Derived.Test.YtpcmoclohepdiadChecked
import GoSem.Claim
import GoSem.ClaimJoined
import GoSem.ClaimMapViews
import Derived.JoinedTies
import Derived.KernelRfl
namespace Go.Proofs.Ytpcmoclohepdiad
/- THE CELL 'sum', in the pinned program and in every row, IS THE sha256 OF THE DUMP (.gsa) THAT YtpcmoclohepdiadProg.lean LOADS. Nothing in Lean hashes anything: it is a label: what it is worth is what the hold of that sum in a sandbox is worth. -/
noncomputable def Try.pinned : Pinned := { name := "ytpcmoclohepdiad", sum := "de46e83d28fabe60b56dcec58dad21b908e86fc7532f80c3be09a2d23f8db7f9", checked := Try.checked }
namespace Rows
def none {H : Type} : Left H := { results := [], args := [] }

/-- 'corrielaw19.HistoryTells': WHATEVER THE INPUT: true; the input reads as it did. -/
def historyTellsSpec : ChangeSpec := { name := "historyTells", fn := fun _ => fun
  | [d1, d2, d3] => { results := [.lit (.bool true)], args := [d1, d2, d3] }
  | _ => none }
def historyTellsRow : OpenClaim := { program := "ytpcmoclohepdiad", sum := "de46e83d28fabe60b56dcec58dad21b908e86fc7532f80c3be09a2d23f8db7f9", func := "corrie/corrielaw19.HistoryTells", spec := "historyTells", unfollowed := true, recurses := true, apart := false }
def HistoryTellsSaid : Prop := historyTellsRow.holds Try.pinned (OpenSpec.ofChange historyTellsSpec)

/-- ITS FALSE NEIGHBOUR: 'it returns false'. Refute it at one input. -/
def historyTellsWrong : ChangeSpec := { name := "historyTells", fn := fun _ => fun
  | [d1, d2, d3] => { results := [.lit (.bool false)], args := [d1, d2, d3] }
  | _ => none }
def HistoryTellsWrongFalsely : Prop := historyTellsRow.holds Try.pinned (OpenSpec.ofChange historyTellsWrong)

/-- 'corrielaw19.HistoryOrder': WHATEVER THE INPUT: true; the input reads as it did. -/
def historyOrderSpec : ChangeSpec := { name := "historyOrder", fn := fun _ => fun
  | [d1, d2, d3] => { results := [.lit (.bool true)], args := [d1, d2, d3] }
  | _ => none }
def historyOrderRow : OpenClaim := { program := "ytpcmoclohepdiad", sum := "de46e83d28fabe60b56dcec58dad21b908e86fc7532f80c3be09a2d23f8db7f9", func := "corrie/corrielaw19.HistoryOrder", spec := "historyOrder", unfollowed := true, recurses := true, apart := false }
def HistoryOrderSaid : Prop := historyOrderRow.holds Try.pinned (OpenSpec.ofChange historyOrderSpec)

/-- ITS FALSE NEIGHBOUR: 'it returns false'. Refute it at one input. -/
def historyOrderWrong : ChangeSpec := { name := "historyOrder", fn := fun _ => fun
  | [d1, d2, d3] => { results := [.lit (.bool false)], args := [d1, d2, d3] }
  | _ => none }
def HistoryOrderWrongFalsely : Prop := historyOrderRow.holds Try.pinned (OpenSpec.ofChange historyOrderWrong)

/-- 'corrielaw19.HistoryPart': WHATEVER THE INPUT: true; the input reads as it did. -/
def historyPartSpec : ChangeSpec := { name := "historyPart", fn := fun _ => fun
  | [d1, d2] => { results := [.lit (.bool true)], args := [d1, d2] }
  | _ => none }
def historyPartRow : OpenClaim := { program := "ytpcmoclohepdiad", sum := "de46e83d28fabe60b56dcec58dad21b908e86fc7532f80c3be09a2d23f8db7f9", func := "corrie/corrielaw19.HistoryPart", spec := "historyPart", unfollowed := true, recurses := true, apart := false }
def HistoryPartSaid : Prop := historyPartRow.holds Try.pinned (OpenSpec.ofChange historyPartSpec)

/-- ITS FALSE NEIGHBOUR: 'it returns false'. Refute it at one input. -/
def historyPartWrong : ChangeSpec := { name := "historyPart", fn := fun _ => fun
  | [d1, d2] => { results := [.lit (.bool false)], args := [d1, d2] }
  | _ => none }
def HistoryPartWrongFalsely : Prop := historyPartRow.holds Try.pinned (OpenSpec.ofChange historyPartWrong)

/-- 'corrielaw19.HistorySize': WHATEVER THE INPUT: true; the input reads as it did. -/
def historySizeSpec : ChangeSpec := { name := "historySize", fn := fun _ => fun
  | [d1, d2] => { results := [.lit (.bool true)], args := [d1, d2] }
  | _ => none }
def historySizeRow : OpenClaim := { program := "ytpcmoclohepdiad", sum := "de46e83d28fabe60b56dcec58dad21b908e86fc7532f80c3be09a2d23f8db7f9", func := "corrie/corrielaw19.HistorySize", spec := "historySize", unfollowed := true, recurses := true, apart := false }
def HistorySizeSaid : Prop := historySizeRow.holds Try.pinned (OpenSpec.ofChange historySizeSpec)

/-- ITS FALSE NEIGHBOUR: 'it returns false'. Refute it at one input. -/
def historySizeWrong : ChangeSpec := { name := "historySize", fn := fun _ => fun
  | [d1, d2] => { results := [.lit (.bool false)], args := [d1, d2] }
  | _ => none }
def HistorySizeWrongFalsely : Prop := historySizeRow.holds Try.pinned (OpenSpec.ofChange historySizeWrong)

/-- 'corrielaw19.HistoryOverlap': WHATEVER THE INPUT: true; the input reads as it did. -/
def historyOverlapSpec : ChangeSpec := { name := "historyOverlap", fn := fun _ => fun
  | [d1, d2] => { results := [.lit (.bool true)], args := [d1, d2] }
  | _ => none }
def historyOverlapRow : OpenClaim := { program := "ytpcmoclohepdiad", sum := "de46e83d28fabe60b56dcec58dad21b908e86fc7532f80c3be09a2d23f8db7f9", func := "corrie/corrielaw19.HistoryOverlap", spec := "historyOverlap", unfollowed := true, recurses := true, apart := false }
def HistoryOverlapSaid : Prop := historyOverlapRow.holds Try.pinned (OpenSpec.ofChange historyOverlapSpec)

/-- ITS FALSE NEIGHBOUR: 'it returns false'. Refute it at one input. -/
def historyOverlapWrong : ChangeSpec := { name := "historyOverlap", fn := fun _ => fun
  | [d1, d2] => { results := [.lit (.bool false)], args := [d1, d2] }
  | _ => none }
def HistoryOverlapWrongFalsely : Prop := historyOverlapRow.holds Try.pinned (OpenSpec.ofChange historyOverlapWrong)

/- THE SECOND FORM. 'bulk': how many values and letters a reading holds, each counted each time it is reached (what is shared counts as often as it is met; a slice's spare places count too). A statement '..UptoSaid' is the law's where the arguments, and the package variables that the reading takes, are together of bulk at most 1048576: NARROWER than '..Said'. Prove '..Said' where nothing that the law and all that it calls make is longer than what came in: it says more and counts as full. Else prove '..UptoSaid'. A law counts once. -/
mutual
def uptoBulk {H : Type} : DataW H → Nat
  | .lit (.string bytes) => bytes.length + 1
  | .lit _ => 1
  | .nil => 1
  | .ptr d => uptoBulk d + 1
  | .slice elems spare => uptoBulkAll elems + uptoBulkAll spare + 1
  | .agg parts => uptoBulkAll parts + 1
  | .iface _ d => uptoBulk d + 1
  | .map entries => uptoBulkEntries entries + 1
  | .held _ => 1
def uptoBulkAll {H : Type} : List (DataW H) → Nat
  | [] => 0
  | d :: r => uptoBulk d + uptoBulkAll r
def uptoBulkEntries {H : Type} : List (Lit × DataW H) → Nat
  | [] => 0
  | x :: r => uptoBulkEntry x + uptoBulkEntries r
def uptoBulkEntry {H : Type} : Lit × DataW H → Nat
  | (.string bytes, d) => bytes.length + uptoBulk d + 1
  | (_, d) => uptoBulk d + 1
 end
def uptoSmall : (H : Type) → List (DataW H) → Bool := fun _ ds => decide (uptoBulkAll ds ≤ 1048576)
def OpenSpec.upto (s : _root_.Go.ChangeSpec) : _root_.Go.OpenSpec := { _root_.Go.OpenSpec.ofChange s with cond := some uptoSmall }

/-- 'corrielaw19.HistoryTells', WHERE WHAT IT READS IS OF BULK AT MOST 1048576: true; the input reads as it did. -/
def historyTellsUptoRow : OpenClaim := { program := "ytpcmoclohepdiad", sum := "de46e83d28fabe60b56dcec58dad21b908e86fc7532f80c3be09a2d23f8db7f9", func := "corrie/corrielaw19.HistoryTells", spec := "historyTells", unfollowed := true, recurses := true, apart := false, narrowed := true }
def HistoryTellsUptoSaid : Prop := historyTellsUptoRow.holds Try.pinned (OpenSpec.upto historyTellsSpec)

/-- 'corrielaw19.HistoryOrder', WHERE WHAT IT READS IS OF BULK AT MOST 1048576: true; the input reads as it did. -/
def historyOrderUptoRow : OpenClaim := { program := "ytpcmoclohepdiad", sum := "de46e83d28fabe60b56dcec58dad21b908e86fc7532f80c3be09a2d23f8db7f9", func := "corrie/corrielaw19.HistoryOrder", spec := "historyOrder", unfollowed := true, recurses := true, apart := false, narrowed := true }
def HistoryOrderUptoSaid : Prop := historyOrderUptoRow.holds Try.pinned (OpenSpec.upto historyOrderSpec)

/-- 'corrielaw19.HistoryPart', WHERE WHAT IT READS IS OF BULK AT MOST 1048576: true; the input reads as it did. -/
def historyPartUptoRow : OpenClaim := { program := "ytpcmoclohepdiad", sum := "de46e83d28fabe60b56dcec58dad21b908e86fc7532f80c3be09a2d23f8db7f9", func := "corrie/corrielaw19.HistoryPart", spec := "historyPart", unfollowed := true, recurses := true, apart := false, narrowed := true }
def HistoryPartUptoSaid : Prop := historyPartUptoRow.holds Try.pinned (OpenSpec.upto historyPartSpec)

/-- 'corrielaw19.HistorySize', WHERE WHAT IT READS IS OF BULK AT MOST 1048576: true; the input reads as it did. -/
def historySizeUptoRow : OpenClaim := { program := "ytpcmoclohepdiad", sum := "de46e83d28fabe60b56dcec58dad21b908e86fc7532f80c3be09a2d23f8db7f9", func := "corrie/corrielaw19.HistorySize", spec := "historySize", unfollowed := true, recurses := true, apart := false, narrowed := true }
def HistorySizeUptoSaid : Prop := historySizeUptoRow.holds Try.pinned (OpenSpec.upto historySizeSpec)

/-- 'corrielaw19.HistoryOverlap', WHERE WHAT IT READS IS OF BULK AT MOST 1048576: true; the input reads as it did. -/
def historyOverlapUptoRow : OpenClaim := { program := "ytpcmoclohepdiad", sum := "de46e83d28fabe60b56dcec58dad21b908e86fc7532f80c3be09a2d23f8db7f9", func := "corrie/corrielaw19.HistoryOverlap", spec := "historyOverlap", unfollowed := true, recurses := true, apart := false, narrowed := true }
def HistoryOverlapUptoSaid : Prop := historyOverlapUptoRow.holds Try.pinned (OpenSpec.upto historyOverlapSpec)

end Rows
end Go.Proofs.Ytpcmoclohepdiad
