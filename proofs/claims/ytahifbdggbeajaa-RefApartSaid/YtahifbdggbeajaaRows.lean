/-
  No cell of these rows narrows 'for every input' (looked for: loops, veiled, ifaces, maps, wideKeys, modest, calm, conditions, laid).
  DERIVED. THE GIVEN ROWS OF THIS SEAT. 5 by the template 'for every input the law returns true; each argument reads behind the call as it read before'; 0 by the template 'total and deterministic' (their statements: YtahifbdggbeajaaTotals.lean).
  GIVEN WITH THE SEED: the statements are not yours to turn. If you find one false, say at which input.
  Laid BY PROGRAM, IN A SANDBOX (cutbox-rows.mjs): the forced cells as the released guide's own fill.sh prints them over the translation 858f5c702d648739… (all of the seat's roots in one cut). By AI agents, Wed Nov 11 2026. No macro, syntax, notation, axiom, sorry.
-/
import Derived.Test.YtahifbdggbeajaaChecked
import GoSem.Claim
import GoSem.ClaimJoined
import GoSem.ClaimMapViews
import Derived.JoinedTies
import Derived.KernelRfl
namespace Go.Proofs.Ytahifbdggbeajaa
/- THE CELL 'sum', in the pinned program and in every row, IS THE sha256 OF THE DUMP (.gsa) THAT YtahifbdggbeajaaProg.lean LOADS. Nothing in Lean hashes anything: it is a label: what it is worth is what the hold of that sum in a sandbox is worth. -/
noncomputable def Try.pinned : Pinned := { name := "ytahifbdggbeajaa", sum := "858f5c702d648739e646439371be0ea0ab8b541623baa5f5988a07431fe5cbd8", checked := Try.checked }
namespace Rows
def none {H : Type} : Left H := { results := [], args := [] }

/-- 'corrielaw01.RefPacks': WHATEVER THE INPUT: true; the input reads as it did. -/
def refPacksSpec : ChangeSpec := { name := "refPacks", fn := fun _ => fun
  | [d1, d2] => { results := [.lit (.bool true)], args := [d1, d2] }
  | _ => none }
def refPacksRow : OpenClaim := { program := "ytahifbdggbeajaa", sum := "858f5c702d648739e646439371be0ea0ab8b541623baa5f5988a07431fe5cbd8", func := "corrie/corrielaw01.RefPacks", spec := "refPacks", unfollowed := true, recurses := true, apart := false }
def RefPacksSaid : Prop := refPacksRow.holds Try.pinned (OpenSpec.ofChange refPacksSpec)

/-- ITS FALSE NEIGHBOUR: 'it returns false'. Refute it at one input. -/
def refPacksWrong : ChangeSpec := { name := "refPacks", fn := fun _ => fun
  | [d1, d2] => { results := [.lit (.bool false)], args := [d1, d2] }
  | _ => none }
def RefPacksWrongFalsely : Prop := refPacksRow.holds Try.pinned (OpenSpec.ofChange refPacksWrong)

/-- 'corrielaw01.RefTells': WHATEVER THE INPUT: true; the input reads as it did. -/
def refTellsSpec : ChangeSpec := { name := "refTells", fn := fun _ => fun
  | [d] => { results := [.lit (.bool true)], args := [d] }
  | _ => none }
def refTellsRow : OpenClaim := { program := "ytahifbdggbeajaa", sum := "858f5c702d648739e646439371be0ea0ab8b541623baa5f5988a07431fe5cbd8", func := "corrie/corrielaw01.RefTells", spec := "refTells", unfollowed := true, recurses := true, apart := false }
def RefTellsSaid : Prop := refTellsRow.holds Try.pinned (OpenSpec.ofChange refTellsSpec)

/-- ITS FALSE NEIGHBOUR: 'it returns false'. Refute it at one input. -/
def refTellsWrong : ChangeSpec := { name := "refTells", fn := fun _ => fun
  | [d] => { results := [.lit (.bool false)], args := [d] }
  | _ => none }
def RefTellsWrongFalsely : Prop := refTellsRow.holds Try.pinned (OpenSpec.ofChange refTellsWrong)

/-- 'corrielaw01.RefBack': WHATEVER THE INPUT: true; the input reads as it did. -/
def refBackSpec : ChangeSpec := { name := "refBack", fn := fun _ => fun
  | [d1, d2] => { results := [.lit (.bool true)], args := [d1, d2] }
  | _ => none }
def refBackRow : OpenClaim := { program := "ytahifbdggbeajaa", sum := "858f5c702d648739e646439371be0ea0ab8b541623baa5f5988a07431fe5cbd8", func := "corrie/corrielaw01.RefBack", spec := "refBack", unfollowed := true, recurses := true, apart := false }
def RefBackSaid : Prop := refBackRow.holds Try.pinned (OpenSpec.ofChange refBackSpec)

/-- ITS FALSE NEIGHBOUR: 'it returns false'. Refute it at one input. -/
def refBackWrong : ChangeSpec := { name := "refBack", fn := fun _ => fun
  | [d1, d2] => { results := [.lit (.bool false)], args := [d1, d2] }
  | _ => none }
def RefBackWrongFalsely : Prop := refBackRow.holds Try.pinned (OpenSpec.ofChange refBackWrong)

/-- 'corrielaw01.RefMarks': WHATEVER THE INPUT: true; the input reads as it did. -/
def refMarksSpec : ChangeSpec := { name := "refMarks", fn := fun _ => fun
  | [d] => { results := [.lit (.bool true)], args := [d] }
  | _ => none }
def refMarksRow : OpenClaim := { program := "ytahifbdggbeajaa", sum := "858f5c702d648739e646439371be0ea0ab8b541623baa5f5988a07431fe5cbd8", func := "corrie/corrielaw01.RefMarks", spec := "refMarks", unfollowed := true, recurses := true, apart := false }
def RefMarksSaid : Prop := refMarksRow.holds Try.pinned (OpenSpec.ofChange refMarksSpec)

/-- ITS FALSE NEIGHBOUR: 'it returns false'. Refute it at one input. -/
def refMarksWrong : ChangeSpec := { name := "refMarks", fn := fun _ => fun
  | [d] => { results := [.lit (.bool false)], args := [d] }
  | _ => none }
def RefMarksWrongFalsely : Prop := refMarksRow.holds Try.pinned (OpenSpec.ofChange refMarksWrong)

/-- 'corrielaw01.RefApart': WHATEVER THE INPUT: true; the input reads as it did. -/
def refApartSpec : ChangeSpec := { name := "refApart", fn := fun _ => fun
  | [d1, d2, d3] => { results := [.lit (.bool true)], args := [d1, d2, d3] }
  | _ => none }
def refApartRow : OpenClaim := { program := "ytahifbdggbeajaa", sum := "858f5c702d648739e646439371be0ea0ab8b541623baa5f5988a07431fe5cbd8", func := "corrie/corrielaw01.RefApart", spec := "refApart", unfollowed := true, recurses := true, apart := false }
def RefApartSaid : Prop := refApartRow.holds Try.pinned (OpenSpec.ofChange refApartSpec)

/-- ITS FALSE NEIGHBOUR: 'it returns false'. Refute it at one input. -/
def refApartWrong : ChangeSpec := { name := "refApart", fn := fun _ => fun
  | [d1, d2, d3] => { results := [.lit (.bool false)], args := [d1, d2, d3] }
  | _ => none }
def RefApartWrongFalsely : Prop := refApartRow.holds Try.pinned (OpenSpec.ofChange refApartWrong)

/- THE SECOND FORM. 'bulk': how many values and letters a reading holds, each counted each time it is reached (what is shared counts as often as it is met; a slice's spare places count too). A statement '..UptoSaid' is the law's where the arguments, and the package variables that the reading takes, are together of bulk at most 1048576: NARROWER than '..Said'. Prove '..Said' where nothing that the law and all that it calls make is longer than what came in: it says more and counts as full. Else prove '..UptoSaid'. A law counts once. -/
mutual
def uptoBulk {H : Type} : DataW H → Nat
  | .lit (.string bytes) => bytes.length + 1
  | .lit _ => 1
  | .nil => 1
  | .ptr d => uptoBulk d + 1
  | .slice elems spare => uptoBulkAll elems + uptoBulkAll spare + 1
  | .agg parts => uptoBulkAll parts + 1
  | .iface _ d => uptoBulk d + 1
  | .map entries => uptoBulkEntries entries + 1
  | .held _ => 1
def uptoBulkAll {H : Type} : List (DataW H) → Nat
  | [] => 0
  | d :: r => uptoBulk d + uptoBulkAll r
def uptoBulkEntries {H : Type} : List (Lit × DataW H) → Nat
  | [] => 0
  | x :: r => uptoBulkEntry x + uptoBulkEntries r
def uptoBulkEntry {H : Type} : Lit × DataW H → Nat
  | (.string bytes, d) => bytes.length + uptoBulk d + 1
  | (_, d) => uptoBulk d + 1
 end
def uptoSmall : (H : Type) → List (DataW H) → Bool := fun _ ds => decide (uptoBulkAll ds ≤ 1048576)
def OpenSpec.upto (s : _root_.Go.ChangeSpec) : _root_.Go.OpenSpec := { _root_.Go.OpenSpec.ofChange s with cond := some uptoSmall }

/-- 'corrielaw01.RefPacks', WHERE WHAT IT READS IS OF BULK AT MOST 1048576: true; the input reads as it did. -/
def refPacksUptoRow : OpenClaim := { program := "ytahifbdggbeajaa", sum := "858f5c702d648739e646439371be0ea0ab8b541623baa5f5988a07431fe5cbd8", func := "corrie/corrielaw01.RefPacks", spec := "refPacks", unfollowed := true, recurses := true, apart := false, narrowed := true }
def RefPacksUptoSaid : Prop := refPacksUptoRow.holds Try.pinned (OpenSpec.upto refPacksSpec)

/-- 'corrielaw01.RefTells', WHERE WHAT IT READS IS OF BULK AT MOST 1048576: true; the input reads as it did. -/
def refTellsUptoRow : OpenClaim := { program := "ytahifbdggbeajaa", sum := "858f5c702d648739e646439371be0ea0ab8b541623baa5f5988a07431fe5cbd8", func := "corrie/corrielaw01.RefTells", spec := "refTells", unfollowed := true, recurses := true, apart := false, narrowed := true }
def RefTellsUptoSaid : Prop := refTellsUptoRow.holds Try.pinned (OpenSpec.upto refTellsSpec)

/-- 'corrielaw01.RefBack', WHERE WHAT IT READS IS OF BULK AT MOST 1048576: true; the input reads as it did. -/
def refBackUptoRow : OpenClaim := { program := "ytahifbdggbeajaa", sum := "858f5c702d648739e646439371be0ea0ab8b541623baa5f5988a07431fe5cbd8", func := "corrie/corrielaw01.RefBack", spec := "refBack", unfollowed := true, recurses := true, apart := false, narrowed := true }
def RefBackUptoSaid : Prop := refBackUptoRow.holds Try.pinned (OpenSpec.upto refBackSpec)

/-- 'corrielaw01.RefMarks', WHERE WHAT IT READS IS OF BULK AT MOST 1048576: true; the input reads as it did. -/
def refMarksUptoRow : OpenClaim := { program := "ytahifbdggbeajaa", sum := "858f5c702d648739e646439371be0ea0ab8b541623baa5f5988a07431fe5cbd8", func := "corrie/corrielaw01.RefMarks", spec := "refMarks", unfollowed := true, recurses := true, apart := false, narrowed := true }
def RefMarksUptoSaid : Prop := refMarksUptoRow.holds Try.pinned (OpenSpec.upto refMarksSpec)

/-- 'corrielaw01.RefApart', WHERE WHAT IT READS IS OF BULK AT MOST 1048576: true; the input reads as it did. -/
def refApartUptoRow : OpenClaim := { program := "ytahifbdggbeajaa", sum := "858f5c702d648739e646439371be0ea0ab8b541623baa5f5988a07431fe5cbd8", func := "corrie/corrielaw01.RefApart", spec := "refApart", unfollowed := true, recurses := true, apart := false, narrowed := true }
def RefApartUptoSaid : Prop := refApartUptoRow.holds Try.pinned (OpenSpec.upto refApartSpec)

end Rows
end Go.Proofs.Ytahifbdggbeajaa
