/-
  No cell of these rows narrows 'for every input' (looked for: loops, veiled, ifaces, maps, wideKeys, modest, calm, conditions, laid).
  DERIVED. THE GIVEN ROWS OF THIS SEAT. 5 by the template 'for every input the law returns true; each argument reads behind the call as it read before'; 0 by the template 'total and deterministic' (their statements: YtpcmoclohepdiafTotals.lean).
  GIVEN WITH THE SEED: the statements are not yours to turn. If you find one false, say at which input.
  Laid BY PROGRAM, IN A SANDBOX (cutbox-rows.mjs): the forced cells as the released guide's own fill.sh prints them over the translation af24cba43d507ff4… (all of the seat's roots in one cut). By AI agents, Wed Nov 11 2026. No macro, syntax, notation, axiom, sorry.
-/
import Derived.Test.YtpcmoclohepdiafChecked
import GoSem.Claim
import GoSem.ClaimJoined
import GoSem.ClaimMapViews
import Derived.JoinedTies
import Derived.KernelRfl
namespace Go.Proofs.Ytpcmoclohepdiaf
/- THE CELL 'sum', in the pinned program and in every row, IS THE sha256 OF THE DUMP (.gsa) THAT YtpcmoclohepdiafProg.lean LOADS. Nothing in Lean hashes anything: it is a label: what it is worth is what the hold of that sum in a sandbox is worth. -/
noncomputable def Try.pinned : Pinned := { name := "ytpcmoclohepdiaf", sum := "af24cba43d507ff46fe7e8d5254d9d91b158e83eaba0a2343aa411644b9deb10", checked := Try.checked }
namespace Rows
def none {H : Type} : Left H := { results := [], args := [] }

/-- 'corrielaw07.BookActs': WHATEVER THE INPUT: true; the input reads as it did. -/
def bookActsSpec : ChangeSpec := { name := "bookActs", fn := fun _ => fun
  | [d1, d2] => { results := [.lit (.bool true)], args := [d1, d2] }
  | _ => none }
def bookActsRow : OpenClaim := { program := "ytpcmoclohepdiaf", sum := "af24cba43d507ff46fe7e8d5254d9d91b158e83eaba0a2343aa411644b9deb10", func := "corrie/corrielaw07.BookActs", spec := "bookActs", unfollowed := true, recurses := true, apart := false }
def BookActsSaid : Prop := bookActsRow.holds Try.pinned (OpenSpec.ofChange bookActsSpec)

/-- ITS FALSE NEIGHBOUR: 'it returns false'. Refute it at one input. -/
def bookActsWrong : ChangeSpec := { name := "bookActs", fn := fun _ => fun
  | [d1, d2] => { results := [.lit (.bool false)], args := [d1, d2] }
  | _ => none }
def BookActsWrongFalsely : Prop := bookActsRow.holds Try.pinned (OpenSpec.ofChange bookActsWrong)

/-- 'corrielaw07.BookNew': WHATEVER THE INPUT: true; the input reads as it did. -/
def bookNewSpec : ChangeSpec := { name := "bookNew", fn := fun _ => fun
  | [d] => { results := [.lit (.bool true)], args := [d] }
  | _ => none }
def bookNewRow : OpenClaim := { program := "ytpcmoclohepdiaf", sum := "af24cba43d507ff46fe7e8d5254d9d91b158e83eaba0a2343aa411644b9deb10", func := "corrie/corrielaw07.BookNew", spec := "bookNew", unfollowed := true, recurses := true, apart := false }
def BookNewSaid : Prop := bookNewRow.holds Try.pinned (OpenSpec.ofChange bookNewSpec)

/-- ITS FALSE NEIGHBOUR: 'it returns false'. Refute it at one input. -/
def bookNewWrong : ChangeSpec := { name := "bookNew", fn := fun _ => fun
  | [d] => { results := [.lit (.bool false)], args := [d] }
  | _ => none }
def BookNewWrongFalsely : Prop := bookNewRow.holds Try.pinned (OpenSpec.ofChange bookNewWrong)

/-- 'corrielaw07.BookStays': WHATEVER THE INPUT: true; the input reads as it did. -/
def bookStaysSpec : ChangeSpec := { name := "bookStays", fn := fun _ => fun
  | [d1, d2, d3] => { results := [.lit (.bool true)], args := [d1, d2, d3] }
  | _ => none }
def bookStaysRow : OpenClaim := { program := "ytpcmoclohepdiaf", sum := "af24cba43d507ff46fe7e8d5254d9d91b158e83eaba0a2343aa411644b9deb10", func := "corrie/corrielaw07.BookStays", spec := "bookStays", unfollowed := true, recurses := true, apart := false }
def BookStaysSaid : Prop := bookStaysRow.holds Try.pinned (OpenSpec.ofChange bookStaysSpec)

/-- ITS FALSE NEIGHBOUR: 'it returns false'. Refute it at one input. -/
def bookStaysWrong : ChangeSpec := { name := "bookStays", fn := fun _ => fun
  | [d1, d2, d3] => { results := [.lit (.bool false)], args := [d1, d2, d3] }
  | _ => none }
def BookStaysWrongFalsely : Prop := bookStaysRow.holds Try.pinned (OpenSpec.ofChange bookStaysWrong)

/-- 'corrielaw07.BookRetires': WHATEVER THE INPUT: true; the input reads as it did. -/
def bookRetiresSpec : ChangeSpec := { name := "bookRetires", fn := fun _ => fun
  | [d1, d2, d3] => { results := [.lit (.bool true)], args := [d1, d2, d3] }
  | _ => none }
def bookRetiresRow : OpenClaim := { program := "ytpcmoclohepdiaf", sum := "af24cba43d507ff46fe7e8d5254d9d91b158e83eaba0a2343aa411644b9deb10", func := "corrie/corrielaw07.BookRetires", spec := "bookRetires", unfollowed := true, recurses := true, apart := false }
def BookRetiresSaid : Prop := bookRetiresRow.holds Try.pinned (OpenSpec.ofChange bookRetiresSpec)

/-- ITS FALSE NEIGHBOUR: 'it returns false'. Refute it at one input. -/
def bookRetiresWrong : ChangeSpec := { name := "bookRetires", fn := fun _ => fun
  | [d1, d2, d3] => { results := [.lit (.bool false)], args := [d1, d2, d3] }
  | _ => none }
def BookRetiresWrongFalsely : Prop := bookRetiresRow.holds Try.pinned (OpenSpec.ofChange bookRetiresWrong)

/-- 'corrielaw07.BookNobody': WHATEVER THE INPUT: true; the input reads as it did. -/
def bookNobodySpec : ChangeSpec := { name := "bookNobody", fn := fun _ => fun
  | [d1, d2] => { results := [.lit (.bool true)], args := [d1, d2] }
  | _ => none }
def bookNobodyRow : OpenClaim := { program := "ytpcmoclohepdiaf", sum := "af24cba43d507ff46fe7e8d5254d9d91b158e83eaba0a2343aa411644b9deb10", func := "corrie/corrielaw07.BookNobody", spec := "bookNobody", unfollowed := true, recurses := true, apart := false }
def BookNobodySaid : Prop := bookNobodyRow.holds Try.pinned (OpenSpec.ofChange bookNobodySpec)

/-- ITS FALSE NEIGHBOUR: 'it returns false'. Refute it at one input. -/
def bookNobodyWrong : ChangeSpec := { name := "bookNobody", fn := fun _ => fun
  | [d1, d2] => { results := [.lit (.bool false)], args := [d1, d2] }
  | _ => none }
def BookNobodyWrongFalsely : Prop := bookNobodyRow.holds Try.pinned (OpenSpec.ofChange bookNobodyWrong)

/- THE SECOND FORM. 'bulk': how many values and letters a reading holds, each counted each time it is reached (what is shared counts as often as it is met; a slice's spare places count too). A statement '..UptoSaid' is the law's where the arguments, and the package variables that the reading takes, are together of bulk at most 1048576: NARROWER than '..Said'. Prove '..Said' where nothing that the law and all that it calls make is longer than what came in: it says more and counts as full. Else prove '..UptoSaid'. A law counts once. -/
mutual
def uptoBulk {H : Type} : DataW H → Nat
  | .lit (.string bytes) => bytes.length + 1
  | .lit _ => 1
  | .nil => 1
  | .ptr d => uptoBulk d + 1
  | .slice elems spare => uptoBulkAll elems + uptoBulkAll spare + 1
  | .agg parts => uptoBulkAll parts + 1
  | .iface _ d => uptoBulk d + 1
  | .map entries => uptoBulkEntries entries + 1
  | .held _ => 1
def uptoBulkAll {H : Type} : List (DataW H) → Nat
  | [] => 0
  | d :: r => uptoBulk d + uptoBulkAll r
def uptoBulkEntries {H : Type} : List (Lit × DataW H) → Nat
  | [] => 0
  | x :: r => uptoBulkEntry x + uptoBulkEntries r
def uptoBulkEntry {H : Type} : Lit × DataW H → Nat
  | (.string bytes, d) => bytes.length + uptoBulk d + 1
  | (_, d) => uptoBulk d + 1
 end
def uptoSmall : (H : Type) → List (DataW H) → Bool := fun _ ds => decide (uptoBulkAll ds ≤ 1048576)
def OpenSpec.upto (s : _root_.Go.ChangeSpec) : _root_.Go.OpenSpec := { _root_.Go.OpenSpec.ofChange s with cond := some uptoSmall }

/-- 'corrielaw07.BookActs', WHERE WHAT IT READS IS OF BULK AT MOST 1048576: true; the input reads as it did. -/
def bookActsUptoRow : OpenClaim := { program := "ytpcmoclohepdiaf", sum := "af24cba43d507ff46fe7e8d5254d9d91b158e83eaba0a2343aa411644b9deb10", func := "corrie/corrielaw07.BookActs", spec := "bookActs", unfollowed := true, recurses := true, apart := false, narrowed := true }
def BookActsUptoSaid : Prop := bookActsUptoRow.holds Try.pinned (OpenSpec.upto bookActsSpec)

/-- 'corrielaw07.BookNew', WHERE WHAT IT READS IS OF BULK AT MOST 1048576: true; the input reads as it did. -/
def bookNewUptoRow : OpenClaim := { program := "ytpcmoclohepdiaf", sum := "af24cba43d507ff46fe7e8d5254d9d91b158e83eaba0a2343aa411644b9deb10", func := "corrie/corrielaw07.BookNew", spec := "bookNew", unfollowed := true, recurses := true, apart := false, narrowed := true }
def BookNewUptoSaid : Prop := bookNewUptoRow.holds Try.pinned (OpenSpec.upto bookNewSpec)

/-- 'corrielaw07.BookStays', WHERE WHAT IT READS IS OF BULK AT MOST 1048576: true; the input reads as it did. -/
def bookStaysUptoRow : OpenClaim := { program := "ytpcmoclohepdiaf", sum := "af24cba43d507ff46fe7e8d5254d9d91b158e83eaba0a2343aa411644b9deb10", func := "corrie/corrielaw07.BookStays", spec := "bookStays", unfollowed := true, recurses := true, apart := false, narrowed := true }
def BookStaysUptoSaid : Prop := bookStaysUptoRow.holds Try.pinned (OpenSpec.upto bookStaysSpec)

/-- 'corrielaw07.BookRetires', WHERE WHAT IT READS IS OF BULK AT MOST 1048576: true; the input reads as it did. -/
def bookRetiresUptoRow : OpenClaim := { program := "ytpcmoclohepdiaf", sum := "af24cba43d507ff46fe7e8d5254d9d91b158e83eaba0a2343aa411644b9deb10", func := "corrie/corrielaw07.BookRetires", spec := "bookRetires", unfollowed := true, recurses := true, apart := false, narrowed := true }
def BookRetiresUptoSaid : Prop := bookRetiresUptoRow.holds Try.pinned (OpenSpec.upto bookRetiresSpec)

/-- 'corrielaw07.BookNobody', WHERE WHAT IT READS IS OF BULK AT MOST 1048576: true; the input reads as it did. -/
def bookNobodyUptoRow : OpenClaim := { program := "ytpcmoclohepdiaf", sum := "af24cba43d507ff46fe7e8d5254d9d91b158e83eaba0a2343aa411644b9deb10", func := "corrie/corrielaw07.BookNobody", spec := "bookNobody", unfollowed := true, recurses := true, apart := false, narrowed := true }
def BookNobodyUptoSaid : Prop := bookNobodyUptoRow.holds Try.pinned (OpenSpec.upto bookNobodySpec)

end Rows
end Go.Proofs.Ytpcmoclohepdiaf
