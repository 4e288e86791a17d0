/-
  No cell of these rows narrows 'for every input' (looked for: loops, veiled, ifaces, maps, wideKeys, modest, calm, conditions, laid).
  DERIVED. THE GIVEN ROWS OF THIS SEAT. 5 by the template 'for every input the law returns true; each argument reads behind the call as it read before'; 0 by the template 'total and deterministic' (their statements: YtpcmoclohepdiaaTotals.lean).
  GIVEN WITH THE SEED: the statements are not yours to turn. If you find one false, say at which input.
  Laid BY PROGRAM, IN A SANDBOX (cutbox-rows.mjs): the forced cells as the released guide's own fill.sh prints them over the translation 52be798c9a3f7a9e… (all of the seat's roots in one cut). By AI agents, Wed Nov 11 2026. No macro, syntax, notation, axiom, sorry.
-/
import Derived.Test.YtpcmoclohepdiaaChecked
import GoSem.Claim
import GoSem.ClaimJoined
import GoSem.ClaimMapViews
import Derived.JoinedTies
import Derived.KernelRfl
namespace Go.Proofs.Ytpcmoclohepdiaa
/- THE CELL 'sum', in the pinned program and in every row, IS THE sha256 OF THE DUMP (.gsa) THAT YtpcmoclohepdiaaProg.lean LOADS. Nothing in Lean hashes anything: it is a label: what it is worth is what the hold of that sum in a sandbox is worth. -/
noncomputable def Try.pinned : Pinned := { name := "ytpcmoclohepdiaa", sum := "52be798c9a3f7a9e281628e0aaaffe2efd5b0548942dfdbe8535f9857d1828a2", checked := Try.checked }
namespace Rows
def none {H : Type} : Left H := { results := [], args := [] }

/-- 'corrielaw06.CellsActs': WHATEVER THE INPUT: true; the input reads as it did. -/
def cellsActsSpec : ChangeSpec := { name := "cellsActs", fn := fun _ => fun
  | [d1, d2] => { results := [.lit (.bool true)], args := [d1, d2] }
  | _ => none }
def cellsActsRow : OpenClaim := { program := "ytpcmoclohepdiaa", sum := "52be798c9a3f7a9e281628e0aaaffe2efd5b0548942dfdbe8535f9857d1828a2", func := "corrie/corrielaw06.CellsActs", spec := "cellsActs", inPlace := ["sync/atomic.CompareAndSwapUint64", "sync/atomic.AddInt64", "sync/atomic.StoreUint64", "sync/atomic.LoadUint64", "sync/atomic.LoadInt64"], unfollowed := true, recurses := true, apart := false }
def CellsActsSaid : Prop := cellsActsRow.holds Try.pinned (OpenSpec.ofChange cellsActsSpec)

/-- ITS FALSE NEIGHBOUR: 'it returns false'. Refute it at one input. -/
def cellsActsWrong : ChangeSpec := { name := "cellsActs", fn := fun _ => fun
  | [d1, d2] => { results := [.lit (.bool false)], args := [d1, d2] }
  | _ => none }
def CellsActsWrongFalsely : Prop := cellsActsRow.holds Try.pinned (OpenSpec.ofChange cellsActsWrong)

/-- 'corrielaw06.CellsNew': WHATEVER THE INPUT: true; the input reads as it did. -/
def cellsNewSpec : ChangeSpec := { name := "cellsNew", fn := fun _ => fun
  | [d1, d2] => { results := [.lit (.bool true)], args := [d1, d2] }
  | _ => none }
def cellsNewRow : OpenClaim := { program := "ytpcmoclohepdiaa", sum := "52be798c9a3f7a9e281628e0aaaffe2efd5b0548942dfdbe8535f9857d1828a2", func := "corrie/corrielaw06.CellsNew", spec := "cellsNew", inPlace := ["sync/atomic.CompareAndSwapUint64", "sync/atomic.AddInt64", "sync/atomic.StoreUint64", "sync/atomic.LoadUint64", "sync/atomic.LoadInt64"], unfollowed := true, recurses := true, apart := false }
def CellsNewSaid : Prop := cellsNewRow.holds Try.pinned (OpenSpec.ofChange cellsNewSpec)

/-- ITS FALSE NEIGHBOUR: 'it returns false'. Refute it at one input. -/
def cellsNewWrong : ChangeSpec := { name := "cellsNew", fn := fun _ => fun
  | [d1, d2] => { results := [.lit (.bool false)], args := [d1, d2] }
  | _ => none }
def CellsNewWrongFalsely : Prop := cellsNewRow.holds Try.pinned (OpenSpec.ofChange cellsNewWrong)

/-- 'corrielaw06.CellsLast': WHATEVER THE INPUT: true; the input reads as it did. -/
def cellsLastSpec : ChangeSpec := { name := "cellsLast", fn := fun _ => fun
  | [d1, d2, d3] => { results := [.lit (.bool true)], args := [d1, d2, d3] }
  | _ => none }
def cellsLastRow : OpenClaim := { program := "ytpcmoclohepdiaa", sum := "52be798c9a3f7a9e281628e0aaaffe2efd5b0548942dfdbe8535f9857d1828a2", func := "corrie/corrielaw06.CellsLast", spec := "cellsLast", inPlace := ["sync/atomic.CompareAndSwapUint64", "sync/atomic.AddInt64", "sync/atomic.StoreUint64", "sync/atomic.LoadUint64", "sync/atomic.LoadInt64"], unfollowed := true, recurses := true, apart := false }
def CellsLastSaid : Prop := cellsLastRow.holds Try.pinned (OpenSpec.ofChange cellsLastSpec)

/-- ITS FALSE NEIGHBOUR: 'it returns false'. Refute it at one input. -/
def cellsLastWrong : ChangeSpec := { name := "cellsLast", fn := fun _ => fun
  | [d1, d2, d3] => { results := [.lit (.bool false)], args := [d1, d2, d3] }
  | _ => none }
def CellsLastWrongFalsely : Prop := cellsLastRow.holds Try.pinned (OpenSpec.ofChange cellsLastWrong)

/-- 'corrielaw06.CellsOnce': WHATEVER THE INPUT: true; the input reads as it did. -/
def cellsOnceSpec : ChangeSpec := { name := "cellsOnce", fn := fun _ => fun
  | [d1, d2, d3] => { results := [.lit (.bool true)], args := [d1, d2, d3] }
  | _ => none }
def cellsOnceRow : OpenClaim := { program := "ytpcmoclohepdiaa", sum := "52be798c9a3f7a9e281628e0aaaffe2efd5b0548942dfdbe8535f9857d1828a2", func := "corrie/corrielaw06.CellsOnce", spec := "cellsOnce", inPlace := ["sync/atomic.CompareAndSwapUint64", "sync/atomic.AddInt64", "sync/atomic.StoreUint64", "sync/atomic.LoadUint64", "sync/atomic.LoadInt64"], unfollowed := true, recurses := true, apart := false }
def CellsOnceSaid : Prop := cellsOnceRow.holds Try.pinned (OpenSpec.ofChange cellsOnceSpec)

/-- ITS FALSE NEIGHBOUR: 'it returns false'. Refute it at one input. -/
def cellsOnceWrong : ChangeSpec := { name := "cellsOnce", fn := fun _ => fun
  | [d1, d2, d3] => { results := [.lit (.bool false)], args := [d1, d2, d3] }
  | _ => none }
def CellsOnceWrongFalsely : Prop := cellsOnceRow.holds Try.pinned (OpenSpec.ofChange cellsOnceWrong)

/-- 'corrielaw06.CellsNobody': WHATEVER THE INPUT: true; the input reads as it did. -/
def cellsNobodySpec : ChangeSpec := { name := "cellsNobody", fn := fun _ => fun
  | [d1, d2] => { results := [.lit (.bool true)], args := [d1, d2] }
  | _ => none }
def cellsNobodyRow : OpenClaim := { program := "ytpcmoclohepdiaa", sum := "52be798c9a3f7a9e281628e0aaaffe2efd5b0548942dfdbe8535f9857d1828a2", func := "corrie/corrielaw06.CellsNobody", spec := "cellsNobody", inPlace := ["sync/atomic.CompareAndSwapUint64", "sync/atomic.AddInt64", "sync/atomic.StoreUint64", "sync/atomic.LoadUint64", "sync/atomic.LoadInt64"], unfollowed := true, recurses := true, apart := false }
def CellsNobodySaid : Prop := cellsNobodyRow.holds Try.pinned (OpenSpec.ofChange cellsNobodySpec)

/-- ITS FALSE NEIGHBOUR: 'it returns false'. Refute it at one input. -/
def cellsNobodyWrong : ChangeSpec := { name := "cellsNobody", fn := fun _ => fun
  | [d1, d2] => { results := [.lit (.bool false)], args := [d1, d2] }
  | _ => none }
def CellsNobodyWrongFalsely : Prop := cellsNobodyRow.holds Try.pinned (OpenSpec.ofChange cellsNobodyWrong)

/- THE SECOND FORM. 'bulk': how many values and letters a reading holds, each counted each time it is reached (what is shared counts as often as it is met; a slice's spare places count too). A statement '..UptoSaid' is the law's where the arguments, and the package variables that the reading takes, are together of bulk at most 1048576: NARROWER than '..Said'. Prove '..Said' where nothing that the law and all that it calls make is longer than what came in: it says more and counts as full. Else prove '..UptoSaid'. A law counts once. -/
mutual
def uptoBulk {H : Type} : DataW H → Nat
  | .lit (.string bytes) => bytes.length + 1
  | .lit _ => 1
  | .nil => 1
  | .ptr d => uptoBulk d + 1
  | .slice elems spare => uptoBulkAll elems + uptoBulkAll spare + 1
  | .agg parts => uptoBulkAll parts + 1
  | .iface _ d => uptoBulk d + 1
  | .map entries => uptoBulkEntries entries + 1
  | .held _ => 1
def uptoBulkAll {H : Type} : List (DataW H) → Nat
  | [] => 0
  | d :: r => uptoBulk d + uptoBulkAll r
def uptoBulkEntries {H : Type} : List (Lit × DataW H) → Nat
  | [] => 0
  | x :: r => uptoBulkEntry x + uptoBulkEntries r
def uptoBulkEntry {H : Type} : Lit × DataW H → Nat
  | (.string bytes, d) => bytes.length + uptoBulk d + 1
  | (_, d) => uptoBulk d + 1
 end
def uptoSmall : (H : Type) → List (DataW H) → Bool := fun _ ds => decide (uptoBulkAll ds ≤ 1048576)
def OpenSpec.upto (s : _root_.Go.ChangeSpec) : _root_.Go.OpenSpec := { _root_.Go.OpenSpec.ofChange s with cond := some uptoSmall }

/-- 'corrielaw06.CellsActs', WHERE WHAT IT READS IS OF BULK AT MOST 1048576: true; the input reads as it did. -/
def cellsActsUptoRow : OpenClaim := { program := "ytpcmoclohepdiaa", sum := "52be798c9a3f7a9e281628e0aaaffe2efd5b0548942dfdbe8535f9857d1828a2", func := "corrie/corrielaw06.CellsActs", spec := "cellsActs", inPlace := ["sync/atomic.CompareAndSwapUint64", "sync/atomic.AddInt64", "sync/atomic.StoreUint64", "sync/atomic.LoadUint64", "sync/atomic.LoadInt64"], unfollowed := true, recurses := true, apart := false, narrowed := true }
def CellsActsUptoSaid : Prop := cellsActsUptoRow.holds Try.pinned (OpenSpec.upto cellsActsSpec)

/-- 'corrielaw06.CellsNew', WHERE WHAT IT READS IS OF BULK AT MOST 1048576: true; the input reads as it did. -/
def cellsNewUptoRow : OpenClaim := { program := "ytpcmoclohepdiaa", sum := "52be798c9a3f7a9e281628e0aaaffe2efd5b0548942dfdbe8535f9857d1828a2", func := "corrie/corrielaw06.CellsNew", spec := "cellsNew", inPlace := ["sync/atomic.CompareAndSwapUint64", "sync/atomic.AddInt64", "sync/atomic.StoreUint64", "sync/atomic.LoadUint64", "sync/atomic.LoadInt64"], unfollowed := true, recurses := true, apart := false, narrowed := true }
def CellsNewUptoSaid : Prop := cellsNewUptoRow.holds Try.pinned (OpenSpec.upto cellsNewSpec)

/-- 'corrielaw06.CellsLast', WHERE WHAT IT READS IS OF BULK AT MOST 1048576: true; the input reads as it did. -/
def cellsLastUptoRow : OpenClaim := { program := "ytpcmoclohepdiaa", sum := "52be798c9a3f7a9e281628e0aaaffe2efd5b0548942dfdbe8535f9857d1828a2", func := "corrie/corrielaw06.CellsLast", spec := "cellsLast", inPlace := ["sync/atomic.CompareAndSwapUint64", "sync/atomic.AddInt64", "sync/atomic.StoreUint64", "sync/atomic.LoadUint64", "sync/atomic.LoadInt64"], unfollowed := true, recurses := true, apart := false, narrowed := true }
def CellsLastUptoSaid : Prop := cellsLastUptoRow.holds Try.pinned (OpenSpec.upto cellsLastSpec)

/-- 'corrielaw06.CellsOnce', WHERE WHAT IT READS IS OF BULK AT MOST 1048576: true; the input reads as it did. -/
def cellsOnceUptoRow : OpenClaim := { program := "ytpcmoclohepdiaa", sum := "52be798c9a3f7a9e281628e0aaaffe2efd5b0548942dfdbe8535f9857d1828a2", func := "corrie/corrielaw06.CellsOnce", spec := "cellsOnce", inPlace := ["sync/atomic.CompareAndSwapUint64", "sync/atomic.AddInt64", "sync/atomic.StoreUint64", "sync/atomic.LoadUint64", "sync/atomic.LoadInt64"], unfollowed := true, recurses := true, apart := false, narrowed := true }
def CellsOnceUptoSaid : Prop := cellsOnceUptoRow.holds Try.pinned (OpenSpec.upto cellsOnceSpec)

/-- 'corrielaw06.CellsNobody', WHERE WHAT IT READS IS OF BULK AT MOST 1048576: true; the input reads as it did. -/
def cellsNobodyUptoRow : OpenClaim := { program := "ytpcmoclohepdiaa", sum := "52be798c9a3f7a9e281628e0aaaffe2efd5b0548942dfdbe8535f9857d1828a2", func := "corrie/corrielaw06.CellsNobody", spec := "cellsNobody", inPlace := ["sync/atomic.CompareAndSwapUint64", "sync/atomic.AddInt64", "sync/atomic.StoreUint64", "sync/atomic.LoadUint64", "sync/atomic.LoadInt64"], unfollowed := true, recurses := true, apart := false, narrowed := true }
def CellsNobodyUptoSaid : Prop := cellsNobodyUptoRow.holds Try.pinned (OpenSpec.upto cellsNobodySpec)

end Rows
end Go.Proofs.Ytpcmoclohepdiaa
