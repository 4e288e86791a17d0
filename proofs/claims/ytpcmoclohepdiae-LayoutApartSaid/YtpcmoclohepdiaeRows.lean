/-
  No cell of these rows narrows 'for every input' (looked for: loops, veiled, ifaces, maps, wideKeys, modest, calm, conditions, laid).
  DERIVED. THE GIVEN ROWS OF THIS SEAT. 5 by the template 'for every input the law returns true; each argument reads behind the call as it read before'; 0 by the template 'total and deterministic' (their statements: YtpcmoclohepdiaeTotals.lean).
  GIVEN WITH THE SEED: the statements are not yours to turn. If you find one false, say at which input.
  Laid BY PROGRAM, IN A SANDBOX (cutbox-rows.mjs): the forced cells as the released guide's own fill.sh prints them over the translation 706ee397ebd6ce3c… (all of the seat's roots in one cut). By AI agents, Wed Nov 11 2026. No macro, syntax, notation, axiom, sorry.
-/
import Derived.Test.YtpcmoclohepdiaeChecked
import GoSem.Claim
import GoSem.ClaimJoined
import GoSem.ClaimMapViews
import Derived.JoinedTies
import Derived.KernelRfl
namespace Go.Proofs.Ytpcmoclohepdiae
/- THE CELL 'sum', in the pinned program and in every row, IS THE sha256 OF THE DUMP (.gsa) THAT YtpcmoclohepdiaeProg.lean LOADS. Nothing in Lean hashes anything: it is a label: what it is worth is what the hold of that sum in a sandbox is worth. -/
noncomputable def Try.pinned : Pinned := { name := "ytpcmoclohepdiae", sum := "706ee397ebd6ce3c274dac7378ef2e8335db15541c55d3a31875bb40132b476a", checked := Try.checked }
namespace Rows
def none {H : Type} : Left H := { results := [], args := [] }

/-- 'corrielaw05.LayoutCells': WHATEVER THE INPUT: true; the input reads as it did. -/
def layoutCellsSpec : ChangeSpec := { name := "layoutCells", fn := fun _ => fun
  | [d1, d2] => { results := [.lit (.bool true)], args := [d1, d2] }
  | _ => none }
def layoutCellsRow : OpenClaim := { program := "ytpcmoclohepdiae", sum := "706ee397ebd6ce3c274dac7378ef2e8335db15541c55d3a31875bb40132b476a", func := "corrie/corrielaw05.LayoutCells", spec := "layoutCells", unfollowed := true, recurses := true, apart := false }
def LayoutCellsSaid : Prop := layoutCellsRow.holds Try.pinned (OpenSpec.ofChange layoutCellsSpec)

/-- ITS FALSE NEIGHBOUR: 'it returns false'. Refute it at one input. -/
def layoutCellsWrong : ChangeSpec := { name := "layoutCells", fn := fun _ => fun
  | [d1, d2] => { results := [.lit (.bool false)], args := [d1, d2] }
  | _ => none }
def LayoutCellsWrongFalsely : Prop := layoutCellsRow.holds Try.pinned (OpenSpec.ofChange layoutCellsWrong)

/-- 'corrielaw05.LayoutThings': WHATEVER THE INPUT: true; the input reads as it did. -/
def layoutThingsSpec : ChangeSpec := { name := "layoutThings", fn := fun _ => fun
  | [d1, d2, d3] => { results := [.lit (.bool true)], args := [d1, d2, d3] }
  | _ => none }
def layoutThingsRow : OpenClaim := { program := "ytpcmoclohepdiae", sum := "706ee397ebd6ce3c274dac7378ef2e8335db15541c55d3a31875bb40132b476a", func := "corrie/corrielaw05.LayoutThings", spec := "layoutThings", unfollowed := true, recurses := true, apart := false }
def LayoutThingsSaid : Prop := layoutThingsRow.holds Try.pinned (OpenSpec.ofChange layoutThingsSpec)

/-- ITS FALSE NEIGHBOUR: 'it returns false'. Refute it at one input. -/
def layoutThingsWrong : ChangeSpec := { name := "layoutThings", fn := fun _ => fun
  | [d1, d2, d3] => { results := [.lit (.bool false)], args := [d1, d2, d3] }
  | _ => none }
def LayoutThingsWrongFalsely : Prop := layoutThingsRow.holds Try.pinned (OpenSpec.ofChange layoutThingsWrong)

/-- 'corrielaw05.LayoutOwn': WHATEVER THE INPUT: true; the input reads as it did. -/
def layoutOwnSpec : ChangeSpec := { name := "layoutOwn", fn := fun _ => fun
  | [d1, d2] => { results := [.lit (.bool true)], args := [d1, d2] }
  | _ => none }
def layoutOwnRow : OpenClaim := { program := "ytpcmoclohepdiae", sum := "706ee397ebd6ce3c274dac7378ef2e8335db15541c55d3a31875bb40132b476a", func := "corrie/corrielaw05.LayoutOwn", spec := "layoutOwn", unfollowed := true, recurses := true, apart := false }
def LayoutOwnSaid : Prop := layoutOwnRow.holds Try.pinned (OpenSpec.ofChange layoutOwnSpec)

/-- ITS FALSE NEIGHBOUR: 'it returns false'. Refute it at one input. -/
def layoutOwnWrong : ChangeSpec := { name := "layoutOwn", fn := fun _ => fun
  | [d1, d2] => { results := [.lit (.bool false)], args := [d1, d2] }
  | _ => none }
def LayoutOwnWrongFalsely : Prop := layoutOwnRow.holds Try.pinned (OpenSpec.ofChange layoutOwnWrong)

/-- 'corrielaw05.LayoutApart': WHATEVER THE INPUT: true; the input reads as it did. -/
def layoutApartSpec : ChangeSpec := { name := "layoutApart", fn := fun _ => fun
  | [d1, d2, d3] => { results := [.lit (.bool true)], args := [d1, d2, d3] }
  | _ => none }
def layoutApartRow : OpenClaim := { program := "ytpcmoclohepdiae", sum := "706ee397ebd6ce3c274dac7378ef2e8335db15541c55d3a31875bb40132b476a", func := "corrie/corrielaw05.LayoutApart", spec := "layoutApart", unfollowed := true, recurses := true, apart := false }
def LayoutApartSaid : Prop := layoutApartRow.holds Try.pinned (OpenSpec.ofChange layoutApartSpec)

/-- ITS FALSE NEIGHBOUR: 'it returns false'. Refute it at one input. -/
def layoutApartWrong : ChangeSpec := { name := "layoutApart", fn := fun _ => fun
  | [d1, d2, d3] => { results := [.lit (.bool false)], args := [d1, d2, d3] }
  | _ => none }
def LayoutApartWrongFalsely : Prop := layoutApartRow.holds Try.pinned (OpenSpec.ofChange layoutApartWrong)

/-- 'corrielaw05.LayoutLast': WHATEVER THE INPUT: true; the input reads as it did. -/
def layoutLastSpec : ChangeSpec := { name := "layoutLast", fn := fun _ => fun
  | [d] => { results := [.lit (.bool true)], args := [d] }
  | _ => none }
def layoutLastRow : OpenClaim := { program := "ytpcmoclohepdiae", sum := "706ee397ebd6ce3c274dac7378ef2e8335db15541c55d3a31875bb40132b476a", func := "corrie/corrielaw05.LayoutLast", spec := "layoutLast", unfollowed := true, recurses := true, apart := false }
def LayoutLastSaid : Prop := layoutLastRow.holds Try.pinned (OpenSpec.ofChange layoutLastSpec)

/-- ITS FALSE NEIGHBOUR: 'it returns false'. Refute it at one input. -/
def layoutLastWrong : ChangeSpec := { name := "layoutLast", fn := fun _ => fun
  | [d] => { results := [.lit (.bool false)], args := [d] }
  | _ => none }
def LayoutLastWrongFalsely : Prop := layoutLastRow.holds Try.pinned (OpenSpec.ofChange layoutLastWrong)

/- THE SECOND FORM. 'bulk': how many values and letters a reading holds, each counted each time it is reached (what is shared counts as often as it is met; a slice's spare places count too). A statement '..UptoSaid' is the law's where the arguments, and the package variables that the reading takes, are together of bulk at most 1048576: NARROWER than '..Said'. Prove '..Said' where nothing that the law and all that it calls make is longer than what came in: it says more and counts as full. Else prove '..UptoSaid'. A law counts once. -/
mutual
def uptoBulk {H : Type} : DataW H → Nat
  | .lit (.string bytes) => bytes.length + 1
  | .lit _ => 1
  | .nil => 1
  | .ptr d => uptoBulk d + 1
  | .slice elems spare => uptoBulkAll elems + uptoBulkAll spare + 1
  | .agg parts => uptoBulkAll parts + 1
  | .iface _ d => uptoBulk d + 1
  | .map entries => uptoBulkEntries entries + 1
  | .held _ => 1
def uptoBulkAll {H : Type} : List (DataW H) → Nat
  | [] => 0
  | d :: r => uptoBulk d + uptoBulkAll r
def uptoBulkEntries {H : Type} : List (Lit × DataW H) → Nat
  | [] => 0
  | x :: r => uptoBulkEntry x + uptoBulkEntries r
def uptoBulkEntry {H : Type} : Lit × DataW H → Nat
  | (.string bytes, d) => bytes.length + uptoBulk d + 1
  | (_, d) => uptoBulk d + 1
 end
def uptoSmall : (H : Type) → List (DataW H) → Bool := fun _ ds => decide (uptoBulkAll ds ≤ 1048576)
def OpenSpec.upto (s : _root_.Go.ChangeSpec) : _root_.Go.OpenSpec := { _root_.Go.OpenSpec.ofChange s with cond := some uptoSmall }

/-- 'corrielaw05.LayoutCells', WHERE WHAT IT READS IS OF BULK AT MOST 1048576: true; the input reads as it did. -/
def layoutCellsUptoRow : OpenClaim := { program := "ytpcmoclohepdiae", sum := "706ee397ebd6ce3c274dac7378ef2e8335db15541c55d3a31875bb40132b476a", func := "corrie/corrielaw05.LayoutCells", spec := "layoutCells", unfollowed := true, recurses := true, apart := false, narrowed := true }
def LayoutCellsUptoSaid : Prop := layoutCellsUptoRow.holds Try.pinned (OpenSpec.upto layoutCellsSpec)

/-- 'corrielaw05.LayoutThings', WHERE WHAT IT READS IS OF BULK AT MOST 1048576: true; the input reads as it did. -/
def layoutThingsUptoRow : OpenClaim := { program := "ytpcmoclohepdiae", sum := "706ee397ebd6ce3c274dac7378ef2e8335db15541c55d3a31875bb40132b476a", func := "corrie/corrielaw05.LayoutThings", spec := "layoutThings", unfollowed := true, recurses := true, apart := false, narrowed := true }
def LayoutThingsUptoSaid : Prop := layoutThingsUptoRow.holds Try.pinned (OpenSpec.upto layoutThingsSpec)

/-- 'corrielaw05.LayoutOwn', WHERE WHAT IT READS IS OF BULK AT MOST 1048576: true; the input reads as it did. -/
def layoutOwnUptoRow : OpenClaim := { program := "ytpcmoclohepdiae", sum := "706ee397ebd6ce3c274dac7378ef2e8335db15541c55d3a31875bb40132b476a", func := "corrie/corrielaw05.LayoutOwn", spec := "layoutOwn", unfollowed := true, recurses := true, apart := false, narrowed := true }
def LayoutOwnUptoSaid : Prop := layoutOwnUptoRow.holds Try.pinned (OpenSpec.upto layoutOwnSpec)

/-- 'corrielaw05.LayoutApart', WHERE WHAT IT READS IS OF BULK AT MOST 1048576: true; the input reads as it did. -/
def layoutApartUptoRow : OpenClaim := { program := "ytpcmoclohepdiae", sum := "706ee397ebd6ce3c274dac7378ef2e8335db15541c55d3a31875bb40132b476a", func := "corrie/corrielaw05.LayoutApart", spec := "layoutApart", unfollowed := true, recurses := true, apart := false, narrowed := true }
def LayoutApartUptoSaid : Prop := layoutApartUptoRow.holds Try.pinned (OpenSpec.upto layoutApartSpec)

/-- 'corrielaw05.LayoutLast', WHERE WHAT IT READS IS OF BULK AT MOST 1048576: true; the input reads as it did. -/
def layoutLastUptoRow : OpenClaim := { program := "ytpcmoclohepdiae", sum := "706ee397ebd6ce3c274dac7378ef2e8335db15541c55d3a31875bb40132b476a", func := "corrie/corrielaw05.LayoutLast", spec := "layoutLast", unfollowed := true, recurses := true, apart := false, narrowed := true }
def LayoutLastUptoSaid : Prop := layoutLastUptoRow.holds Try.pinned (OpenSpec.upto layoutLastSpec)

end Rows
end Go.Proofs.Ytpcmoclohepdiae
