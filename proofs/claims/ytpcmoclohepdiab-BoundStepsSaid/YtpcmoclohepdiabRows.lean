/-
  No cell of these rows narrows 'for every input' (looked for: loops, veiled, ifaces, maps, wideKeys, modest, calm, conditions, laid).
  DERIVED. THE GIVEN ROWS OF THIS SEAT. 5 by the template 'for every input the law returns true; each argument reads behind the call as it read before'; 0 by the template 'total and deterministic' (their statements: YtpcmoclohepdiabTotals.lean).
  GIVEN WITH THE SEED: the statements are not yours to turn. If you find one false, say at which input.
  Laid BY PROGRAM, IN A SANDBOX (cutbox-rows.mjs): the forced cells as the released guide's own fill.sh prints them over the translation db43e8c1b1f1a216… (all of the seat's roots in one cut). By AI agents, Wed Nov 11 2026. No macro, syntax, notation, axiom, sorry.
-/
import Derived.Test.YtpcmoclohepdiabChecked
import GoSem.Claim
import GoSem.ClaimJoined
import GoSem.ClaimMapViews
import Derived.JoinedTies
import Derived.KernelRfl
namespace Go.Proofs.Ytpcmoclohepdiab
/- THE CELL 'sum', in the pinned program and in every row, IS THE sha256 OF THE DUMP (.gsa) THAT YtpcmoclohepdiabProg.lean LOADS. Nothing in Lean hashes anything: it is a label: what it is worth is what the hold of that sum in a sandbox is worth. -/
noncomputable def Try.pinned : Pinned := { name := "ytpcmoclohepdiab", sum := "db43e8c1b1f1a21685df79602382925ef1ed5a4f3d7f8d6db41729cba686e56b", checked := Try.checked }
namespace Rows
def none {H : Type} : Left H := { results := [], args := [] }

/-- 'corrielaw23.BoundTells': WHATEVER THE INPUT: true; the input reads as it did. -/
def boundTellsSpec : ChangeSpec := { name := "boundTells", fn := fun _ => fun
  | [d1, d2, d3] => { results := [.lit (.bool true)], args := [d1, d2, d3] }
  | _ => none }
def boundTellsRow : OpenClaim := { program := "ytpcmoclohepdiab", sum := "db43e8c1b1f1a21685df79602382925ef1ed5a4f3d7f8d6db41729cba686e56b", func := "corrie/corrielaw23.BoundTells", spec := "boundTells", unfollowed := true, recurses := true, apart := false }
def BoundTellsSaid : Prop := boundTellsRow.holds Try.pinned (OpenSpec.ofChange boundTellsSpec)

/-- ITS FALSE NEIGHBOUR: 'it returns false'. Refute it at one input. -/
def boundTellsWrong : ChangeSpec := { name := "boundTells", fn := fun _ => fun
  | [d1, d2, d3] => { results := [.lit (.bool false)], args := [d1, d2, d3] }
  | _ => none }
def BoundTellsWrongFalsely : Prop := boundTellsRow.holds Try.pinned (OpenSpec.ofChange boundTellsWrong)

/-- 'corrielaw23.BoundOf': WHATEVER THE INPUT: true; the input reads as it did. -/
def boundOfSpec : ChangeSpec := { name := "boundOf", fn := fun _ => fun
  | [d1, d2, d3] => { results := [.lit (.bool true)], args := [d1, d2, d3] }
  | _ => none }
def boundOfRow : OpenClaim := { program := "ytpcmoclohepdiab", sum := "db43e8c1b1f1a21685df79602382925ef1ed5a4f3d7f8d6db41729cba686e56b", func := "corrie/corrielaw23.BoundOf", spec := "boundOf", unfollowed := true, recurses := true, apart := false }
def BoundOfSaid : Prop := boundOfRow.holds Try.pinned (OpenSpec.ofChange boundOfSpec)

/-- ITS FALSE NEIGHBOUR: 'it returns false'. Refute it at one input. -/
def boundOfWrong : ChangeSpec := { name := "boundOf", fn := fun _ => fun
  | [d1, d2, d3] => { results := [.lit (.bool false)], args := [d1, d2, d3] }
  | _ => none }
def BoundOfWrongFalsely : Prop := boundOfRow.holds Try.pinned (OpenSpec.ofChange boundOfWrong)

/-- 'corrielaw23.BoundRises': WHATEVER THE INPUT: true; the input reads as it did. -/
def boundRisesSpec : ChangeSpec := { name := "boundRises", fn := fun _ => fun
  | [d1, d2, d3] => { results := [.lit (.bool true)], args := [d1, d2, d3] }
  | _ => none }
def boundRisesRow : OpenClaim := { program := "ytpcmoclohepdiab", sum := "db43e8c1b1f1a21685df79602382925ef1ed5a4f3d7f8d6db41729cba686e56b", func := "corrie/corrielaw23.BoundRises", spec := "boundRises", unfollowed := true, recurses := true, apart := false }
def BoundRisesSaid : Prop := boundRisesRow.holds Try.pinned (OpenSpec.ofChange boundRisesSpec)

/-- ITS FALSE NEIGHBOUR: 'it returns false'. Refute it at one input. -/
def boundRisesWrong : ChangeSpec := { name := "boundRises", fn := fun _ => fun
  | [d1, d2, d3] => { results := [.lit (.bool false)], args := [d1, d2, d3] }
  | _ => none }
def BoundRisesWrongFalsely : Prop := boundRisesRow.holds Try.pinned (OpenSpec.ofChange boundRisesWrong)

/-- 'corrielaw23.BoundSteps': WHATEVER THE INPUT: true; the input reads as it did. -/
def boundStepsSpec : ChangeSpec := { name := "boundSteps", fn := fun _ => fun
  | [d1, d2, d3] => { results := [.lit (.bool true)], args := [d1, d2, d3] }
  | _ => none }
def boundStepsRow : OpenClaim := { program := "ytpcmoclohepdiab", sum := "db43e8c1b1f1a21685df79602382925ef1ed5a4f3d7f8d6db41729cba686e56b", func := "corrie/corrielaw23.BoundSteps", spec := "boundSteps", unfollowed := true, recurses := true, apart := false }
def BoundStepsSaid : Prop := boundStepsRow.holds Try.pinned (OpenSpec.ofChange boundStepsSpec)

/-- ITS FALSE NEIGHBOUR: 'it returns false'. Refute it at one input. -/
def boundStepsWrong : ChangeSpec := { name := "boundSteps", fn := fun _ => fun
  | [d1, d2, d3] => { results := [.lit (.bool false)], args := [d1, d2, d3] }
  | _ => none }
def BoundStepsWrongFalsely : Prop := boundStepsRow.holds Try.pinned (OpenSpec.ofChange boundStepsWrong)

/-- 'corrielaw23.BoundKeeps': WHATEVER THE INPUT: true; the input reads as it did. -/
def boundKeepsSpec : ChangeSpec := { name := "boundKeeps", fn := fun _ => fun
  | [d1, d2, d3] => { results := [.lit (.bool true)], args := [d1, d2, d3] }
  | _ => none }
def boundKeepsRow : OpenClaim := { program := "ytpcmoclohepdiab", sum := "db43e8c1b1f1a21685df79602382925ef1ed5a4f3d7f8d6db41729cba686e56b", func := "corrie/corrielaw23.BoundKeeps", spec := "boundKeeps", unfollowed := true, recurses := true, apart := false }
def BoundKeepsSaid : Prop := boundKeepsRow.holds Try.pinned (OpenSpec.ofChange boundKeepsSpec)

/-- ITS FALSE NEIGHBOUR: 'it returns false'. Refute it at one input. -/
def boundKeepsWrong : ChangeSpec := { name := "boundKeeps", fn := fun _ => fun
  | [d1, d2, d3] => { results := [.lit (.bool false)], args := [d1, d2, d3] }
  | _ => none }
def BoundKeepsWrongFalsely : Prop := boundKeepsRow.holds Try.pinned (OpenSpec.ofChange boundKeepsWrong)

/- THE SECOND FORM. 'bulk': how many values and letters a reading holds, each counted each time it is reached (what is shared counts as often as it is met; a slice's spare places count too). A statement '..UptoSaid' is the law's where the arguments, and the package variables that the reading takes, are together of bulk at most 1048576: NARROWER than '..Said'. Prove '..Said' where nothing that the law and all that it calls make is longer than what came in: it says more and counts as full. Else prove '..UptoSaid'. A law counts once. -/
mutual
def uptoBulk {H : Type} : DataW H → Nat
  | .lit (.string bytes) => bytes.length + 1
  | .lit _ => 1
  | .nil => 1
  | .ptr d => uptoBulk d + 1
  | .slice elems spare => uptoBulkAll elems + uptoBulkAll spare + 1
  | .agg parts => uptoBulkAll parts + 1
  | .iface _ d => uptoBulk d + 1
  | .map entries => uptoBulkEntries entries + 1
  | .held _ => 1
def uptoBulkAll {H : Type} : List (DataW H) → Nat
  | [] => 0
  | d :: r => uptoBulk d + uptoBulkAll r
def uptoBulkEntries {H : Type} : List (Lit × DataW H) → Nat
  | [] => 0
  | x :: r => uptoBulkEntry x + uptoBulkEntries r
def uptoBulkEntry {H : Type} : Lit × DataW H → Nat
  | (.string bytes, d) => bytes.length + uptoBulk d + 1
  | (_, d) => uptoBulk d + 1
 end
def uptoSmall : (H : Type) → List (DataW H) → Bool := fun _ ds => decide (uptoBulkAll ds ≤ 1048576)
def OpenSpec.upto (s : _root_.Go.ChangeSpec) : _root_.Go.OpenSpec := { _root_.Go.OpenSpec.ofChange s with cond := some uptoSmall }

/-- 'corrielaw23.BoundTells', WHERE WHAT IT READS IS OF BULK AT MOST 1048576: true; the input reads as it did. -/
def boundTellsUptoRow : OpenClaim := { program := "ytpcmoclohepdiab", sum := "db43e8c1b1f1a21685df79602382925ef1ed5a4f3d7f8d6db41729cba686e56b", func := "corrie/corrielaw23.BoundTells", spec := "boundTells", unfollowed := true, recurses := true, apart := false, narrowed := true }
def BoundTellsUptoSaid : Prop := boundTellsUptoRow.holds Try.pinned (OpenSpec.upto boundTellsSpec)

/-- 'corrielaw23.BoundOf', WHERE WHAT IT READS IS OF BULK AT MOST 1048576: true; the input reads as it did. -/
def boundOfUptoRow : OpenClaim := { program := "ytpcmoclohepdiab", sum := "db43e8c1b1f1a21685df79602382925ef1ed5a4f3d7f8d6db41729cba686e56b", func := "corrie/corrielaw23.BoundOf", spec := "boundOf", unfollowed := true, recurses := true, apart := false, narrowed := true }
def BoundOfUptoSaid : Prop := boundOfUptoRow.holds Try.pinned (OpenSpec.upto boundOfSpec)

/-- 'corrielaw23.BoundRises', WHERE WHAT IT READS IS OF BULK AT MOST 1048576: true; the input reads as it did. -/
def boundRisesUptoRow : OpenClaim := { program := "ytpcmoclohepdiab", sum := "db43e8c1b1f1a21685df79602382925ef1ed5a4f3d7f8d6db41729cba686e56b", func := "corrie/corrielaw23.BoundRises", spec := "boundRises", unfollowed := true, recurses := true, apart := false, narrowed := true }
def BoundRisesUptoSaid : Prop := boundRisesUptoRow.holds Try.pinned (OpenSpec.upto boundRisesSpec)

/-- 'corrielaw23.BoundSteps', WHERE WHAT IT READS IS OF BULK AT MOST 1048576: true; the input reads as it did. -/
def boundStepsUptoRow : OpenClaim := { program := "ytpcmoclohepdiab", sum := "db43e8c1b1f1a21685df79602382925ef1ed5a4f3d7f8d6db41729cba686e56b", func := "corrie/corrielaw23.BoundSteps", spec := "boundSteps", unfollowed := true, recurses := true, apart := false, narrowed := true }
def BoundStepsUptoSaid : Prop := boundStepsUptoRow.holds Try.pinned (OpenSpec.upto boundStepsSpec)

/-- 'corrielaw23.BoundKeeps', WHERE WHAT IT READS IS OF BULK AT MOST 1048576: true; the input reads as it did. -/
def boundKeepsUptoRow : OpenClaim := { program := "ytpcmoclohepdiab", sum := "db43e8c1b1f1a21685df79602382925ef1ed5a4f3d7f8d6db41729cba686e56b", func := "corrie/corrielaw23.BoundKeeps", spec := "boundKeeps", unfollowed := true, recurses := true, apart := false, narrowed := true }
def BoundKeepsUptoSaid : Prop := boundKeepsUptoRow.holds Try.pinned (OpenSpec.upto boundKeepsSpec)

end Rows
end Go.Proofs.Ytpcmoclohepdiab
