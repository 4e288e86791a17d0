/-
  No cell of these rows narrows 'for every input' (looked for: loops, veiled, ifaces, maps, wideKeys, modest, calm, conditions, laid).
  DERIVED. THE GIVEN ROWS OF THIS SEAT. 5 by the template 'for every input the law returns true; each argument reads behind the call as it read before'; 0 by the template 'total and deterministic' (their statements: YtpcmoclohepdiagTotals.lean).
  GIVEN WITH THE SEED: the statements are not yours to turn. If you find one false, say at which input.
  Laid BY PROGRAM, IN A SANDBOX (cutbox-rows.mjs): the forced cells as the released guide's own fill.sh prints them over the translation 2f2eda9513c7eba8… (all of the seat's roots in one cut). By AI agents, Wed Nov 11 2026. No macro, syntax, notation, axiom, sorry.
-/
import Derived.Test.YtpcmoclohepdiagChecked
import GoSem.Claim
import GoSem.ClaimJoined
import GoSem.ClaimMapViews
import Derived.JoinedTies
import Derived.KernelRfl
namespace Go.Proofs.Ytpcmoclohepdiag
/- THE CELL 'sum', in the pinned program and in every row, IS THE sha256 OF THE DUMP (.gsa) THAT YtpcmoclohepdiagProg.lean LOADS. Nothing in Lean hashes anything: it is a label: what it is worth is what the hold of that sum in a sandbox is worth. -/
noncomputable def Try.pinned : Pinned := { name := "ytpcmoclohepdiag", sum := "2f2eda9513c7eba8b7ee9523c714aaf78fdc9482dbf9b09e9f34eb6db242b1b4", checked := Try.checked }
namespace Rows
def none {H : Type} : Left H := { results := [], args := [] }

/-- 'corrielaw08.WorldSteps': WHATEVER THE INPUT: true; the input reads as it did. -/
def worldStepsSpec : ChangeSpec := { name := "worldSteps", fn := fun _ => fun
  | [d1, d2] => { results := [.lit (.bool true)], args := [d1, d2] }
  | _ => none }
def worldStepsRow : OpenClaim := { program := "ytpcmoclohepdiag", sum := "2f2eda9513c7eba8b7ee9523c714aaf78fdc9482dbf9b09e9f34eb6db242b1b4", func := "corrie/corrielaw08.WorldSteps", spec := "worldSteps", inPlace := ["sync/atomic.StoreUint64", "sync/atomic.AddInt64", "sync/atomic.CompareAndSwapUint64", "sync/atomic.LoadUint64", "sync/atomic.LoadInt64"], unfollowed := true, recurses := true, apart := false }
def WorldStepsSaid : Prop := worldStepsRow.holds Try.pinned (OpenSpec.ofChange worldStepsSpec)

/-- ITS FALSE NEIGHBOUR: 'it returns false'. Refute it at one input. -/
def worldStepsWrong : ChangeSpec := { name := "worldSteps", fn := fun _ => fun
  | [d1, d2] => { results := [.lit (.bool false)], args := [d1, d2] }
  | _ => none }
def WorldStepsWrongFalsely : Prop := worldStepsRow.holds Try.pinned (OpenSpec.ofChange worldStepsWrong)

/-- 'corrielaw08.WorldApart': WHATEVER THE INPUT: true; the input reads as it did. -/
def worldApartSpec : ChangeSpec := { name := "worldApart", fn := fun _ => fun
  | [d1, d2, d3] => { results := [.lit (.bool true)], args := [d1, d2, d3] }
  | _ => none }
def worldApartRow : OpenClaim := { program := "ytpcmoclohepdiag", sum := "2f2eda9513c7eba8b7ee9523c714aaf78fdc9482dbf9b09e9f34eb6db242b1b4", func := "corrie/corrielaw08.WorldApart", spec := "worldApart", inPlace := ["sync/atomic.StoreUint64", "sync/atomic.AddInt64", "sync/atomic.CompareAndSwapUint64", "sync/atomic.LoadUint64", "sync/atomic.LoadInt64"], unfollowed := true, recurses := true, apart := false }
def WorldApartSaid : Prop := worldApartRow.holds Try.pinned (OpenSpec.ofChange worldApartSpec)

/-- ITS FALSE NEIGHBOUR: 'it returns false'. Refute it at one input. -/
def worldApartWrong : ChangeSpec := { name := "worldApart", fn := fun _ => fun
  | [d1, d2, d3] => { results := [.lit (.bool false)], args := [d1, d2, d3] }
  | _ => none }
def WorldApartWrongFalsely : Prop := worldApartRow.holds Try.pinned (OpenSpec.ofChange worldApartWrong)

/-- 'corrielaw08.WorldHeads': WHATEVER THE INPUT: true; the input reads as it did. -/
def worldHeadsSpec : ChangeSpec := { name := "worldHeads", fn := fun _ => fun
  | [d1, d2] => { results := [.lit (.bool true)], args := [d1, d2] }
  | _ => none }
def worldHeadsRow : OpenClaim := { program := "ytpcmoclohepdiag", sum := "2f2eda9513c7eba8b7ee9523c714aaf78fdc9482dbf9b09e9f34eb6db242b1b4", func := "corrie/corrielaw08.WorldHeads", spec := "worldHeads", inPlace := ["sync/atomic.StoreUint64", "sync/atomic.AddInt64", "sync/atomic.CompareAndSwapUint64", "sync/atomic.LoadUint64", "sync/atomic.LoadInt64"], unfollowed := true, recurses := true, apart := false }
def WorldHeadsSaid : Prop := worldHeadsRow.holds Try.pinned (OpenSpec.ofChange worldHeadsSpec)

/-- ITS FALSE NEIGHBOUR: 'it returns false'. Refute it at one input. -/
def worldHeadsWrong : ChangeSpec := { name := "worldHeads", fn := fun _ => fun
  | [d1, d2] => { results := [.lit (.bool false)], args := [d1, d2] }
  | _ => none }
def WorldHeadsWrongFalsely : Prop := worldHeadsRow.holds Try.pinned (OpenSpec.ofChange worldHeadsWrong)

/-- 'corrielaw08.WorldActs': WHATEVER THE INPUT: true; the input reads as it did. -/
def worldActsSpec : ChangeSpec := { name := "worldActs", fn := fun _ => fun
  | [d1, d2] => { results := [.lit (.bool true)], args := [d1, d2] }
  | _ => none }
def worldActsRow : OpenClaim := { program := "ytpcmoclohepdiag", sum := "2f2eda9513c7eba8b7ee9523c714aaf78fdc9482dbf9b09e9f34eb6db242b1b4", func := "corrie/corrielaw08.WorldActs", spec := "worldActs", inPlace := ["sync/atomic.StoreUint64", "sync/atomic.AddInt64", "sync/atomic.CompareAndSwapUint64", "sync/atomic.LoadUint64", "sync/atomic.LoadInt64"], unfollowed := true, recurses := true, apart := false }
def WorldActsSaid : Prop := worldActsRow.holds Try.pinned (OpenSpec.ofChange worldActsSpec)

/-- ITS FALSE NEIGHBOUR: 'it returns false'. Refute it at one input. -/
def worldActsWrong : ChangeSpec := { name := "worldActs", fn := fun _ => fun
  | [d1, d2] => { results := [.lit (.bool false)], args := [d1, d2] }
  | _ => none }
def WorldActsWrongFalsely : Prop := worldActsRow.holds Try.pinned (OpenSpec.ofChange worldActsWrong)

/-- 'corrielaw08.WorldNew': WHATEVER THE INPUT: true; the input reads as it did. -/
def worldNewSpec : ChangeSpec := { name := "worldNew", fn := fun _ => fun
  | [d1, d2] => { results := [.lit (.bool true)], args := [d1, d2] }
  | _ => none }
def worldNewRow : OpenClaim := { program := "ytpcmoclohepdiag", sum := "2f2eda9513c7eba8b7ee9523c714aaf78fdc9482dbf9b09e9f34eb6db242b1b4", func := "corrie/corrielaw08.WorldNew", spec := "worldNew", inPlace := ["sync/atomic.StoreUint64", "sync/atomic.AddInt64", "sync/atomic.CompareAndSwapUint64", "sync/atomic.LoadUint64", "sync/atomic.LoadInt64"], unfollowed := true, recurses := true, apart := false }
def WorldNewSaid : Prop := worldNewRow.holds Try.pinned (OpenSpec.ofChange worldNewSpec)

/-- ITS FALSE NEIGHBOUR: 'it returns false'. Refute it at one input. -/
def worldNewWrong : ChangeSpec := { name := "worldNew", fn := fun _ => fun
  | [d1, d2] => { results := [.lit (.bool false)], args := [d1, d2] }
  | _ => none }
def WorldNewWrongFalsely : Prop := worldNewRow.holds Try.pinned (OpenSpec.ofChange worldNewWrong)

/- THE SECOND FORM. 'bulk': how many values and letters a reading holds, each counted each time it is reached (what is shared counts as often as it is met; a slice's spare places count too). A statement '..UptoSaid' is the law's where the arguments, and the package variables that the reading takes, are together of bulk at most 1048576: NARROWER than '..Said'. Prove '..Said' where nothing that the law and all that it calls make is longer than what came in: it says more and counts as full. Else prove '..UptoSaid'. A law counts once. -/
mutual
def uptoBulk {H : Type} : DataW H → Nat
  | .lit (.string bytes) => bytes.length + 1
  | .lit _ => 1
  | .nil => 1
  | .ptr d => uptoBulk d + 1
  | .slice elems spare => uptoBulkAll elems + uptoBulkAll spare + 1
  | .agg parts => uptoBulkAll parts + 1
  | .iface _ d => uptoBulk d + 1
  | .map entries => uptoBulkEntries entries + 1
  | .held _ => 1
def uptoBulkAll {H : Type} : List (DataW H) → Nat
  | [] => 0
  | d :: r => uptoBulk d + uptoBulkAll r
def uptoBulkEntries {H : Type} : List (Lit × DataW H) → Nat
  | [] => 0
  | x :: r => uptoBulkEntry x + uptoBulkEntries r
def uptoBulkEntry {H : Type} : Lit × DataW H → Nat
  | (.string bytes, d) => bytes.length + uptoBulk d + 1
  | (_, d) => uptoBulk d + 1
 end
def uptoSmall : (H : Type) → List (DataW H) → Bool := fun _ ds => decide (uptoBulkAll ds ≤ 1048576)
def OpenSpec.upto (s : _root_.Go.ChangeSpec) : _root_.Go.OpenSpec := { _root_.Go.OpenSpec.ofChange s with cond := some uptoSmall }

/-- 'corrielaw08.WorldSteps', WHERE WHAT IT READS IS OF BULK AT MOST 1048576: true; the input reads as it did. -/
def worldStepsUptoRow : OpenClaim := { program := "ytpcmoclohepdiag", sum := "2f2eda9513c7eba8b7ee9523c714aaf78fdc9482dbf9b09e9f34eb6db242b1b4", func := "corrie/corrielaw08.WorldSteps", spec := "worldSteps", inPlace := ["sync/atomic.StoreUint64", "sync/atomic.AddInt64", "sync/atomic.CompareAndSwapUint64", "sync/atomic.LoadUint64", "sync/atomic.LoadInt64"], unfollowed := true, recurses := true, apart := false, narrowed := true }
def WorldStepsUptoSaid : Prop := worldStepsUptoRow.holds Try.pinned (OpenSpec.upto worldStepsSpec)

/-- 'corrielaw08.WorldApart', WHERE WHAT IT READS IS OF BULK AT MOST 1048576: true; the input reads as it did. -/
def worldApartUptoRow : OpenClaim := { program := "ytpcmoclohepdiag", sum := "2f2eda9513c7eba8b7ee9523c714aaf78fdc9482dbf9b09e9f34eb6db242b1b4", func := "corrie/corrielaw08.WorldApart", spec := "worldApart", inPlace := ["sync/atomic.StoreUint64", "sync/atomic.AddInt64", "sync/atomic.CompareAndSwapUint64", "sync/atomic.LoadUint64", "sync/atomic.LoadInt64"], unfollowed := true, recurses := true, apart := false, narrowed := true }
def WorldApartUptoSaid : Prop := worldApartUptoRow.holds Try.pinned (OpenSpec.upto worldApartSpec)

/-- 'corrielaw08.WorldHeads', WHERE WHAT IT READS IS OF BULK AT MOST 1048576: true; the input reads as it did. -/
def worldHeadsUptoRow : OpenClaim := { program := "ytpcmoclohepdiag", sum := "2f2eda9513c7eba8b7ee9523c714aaf78fdc9482dbf9b09e9f34eb6db242b1b4", func := "corrie/corrielaw08.WorldHeads", spec := "worldHeads", inPlace := ["sync/atomic.StoreUint64", "sync/atomic.AddInt64", "sync/atomic.CompareAndSwapUint64", "sync/atomic.LoadUint64", "sync/atomic.LoadInt64"], unfollowed := true, recurses := true, apart := false, narrowed := true }
def WorldHeadsUptoSaid : Prop := worldHeadsUptoRow.holds Try.pinned (OpenSpec.upto worldHeadsSpec)

/-- 'corrielaw08.WorldActs', WHERE WHAT IT READS IS OF BULK AT MOST 1048576: true; the input reads as it did. -/
def worldActsUptoRow : OpenClaim := { program := "ytpcmoclohepdiag", sum := "2f2eda9513c7eba8b7ee9523c714aaf78fdc9482dbf9b09e9f34eb6db242b1b4", func := "corrie/corrielaw08.WorldActs", spec := "worldActs", inPlace := ["sync/atomic.StoreUint64", "sync/atomic.AddInt64", "sync/atomic.CompareAndSwapUint64", "sync/atomic.LoadUint64", "sync/atomic.LoadInt64"], unfollowed := true, recurses := true, apart := false, narrowed := true }
def WorldActsUptoSaid : Prop := worldActsUptoRow.holds Try.pinned (OpenSpec.upto worldActsSpec)

/-- 'corrielaw08.WorldNew', WHERE WHAT IT READS IS OF BULK AT MOST 1048576: true; the input reads as it did. -/
def worldNewUptoRow : OpenClaim := { program := "ytpcmoclohepdiag", sum := "2f2eda9513c7eba8b7ee9523c714aaf78fdc9482dbf9b09e9f34eb6db242b1b4", func := "corrie/corrielaw08.WorldNew", spec := "worldNew", inPlace := ["sync/atomic.StoreUint64", "sync/atomic.AddInt64", "sync/atomic.CompareAndSwapUint64", "sync/atomic.LoadUint64", "sync/atomic.LoadInt64"], unfollowed := true, recurses := true, apart := false, narrowed := true }
def WorldNewUptoSaid : Prop := worldNewUptoRow.holds Try.pinned (OpenSpec.upto worldNewSpec)

end Rows
end Go.Proofs.Ytpcmoclohepdiag
