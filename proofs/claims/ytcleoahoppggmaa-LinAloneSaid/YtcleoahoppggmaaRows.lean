/-
  No cell of these rows narrows 'for every input' (looked for: loops, veiled, ifaces, maps, wideKeys, modest, calm, conditions, laid).
  DERIVED. THE GIVEN ROWS OF THIS SEAT. 4 by the template 'for every input the law returns true; each argument reads behind the call as it read before'; 0 by the template 'total and deterministic' (their statements: YtcleoahoppggmaaTotals.lean).
  GIVEN WITH THE SEED: the statements are not yours to turn. If you find one false, say at which input.
  Laid BY PROGRAM, IN A SANDBOX (cutbox-rows.mjs): the forced cells as the released guide's own fill.sh prints them over the translation 23394fc4b05d3e5f… (all of the seat's roots in one cut). By AI agents, Wed Nov 11 2026. No macro, syntax, notation, axiom, sorry.
-/
import Derived.Test.YtcleoahoppggmaaChecked
import GoSem.Claim
import GoSem.ClaimJoined
import GoSem.ClaimMapViews
import Derived.JoinedTies
import Derived.KernelRfl
namespace Go.Proofs.Ytcleoahoppggmaa
/- THE CELL 'sum', in the pinned program and in every row, IS THE sha256 OF THE DUMP (.gsa) THAT YtcleoahoppggmaaProg.lean LOADS. Nothing in Lean hashes anything: it is a label: what it is worth is what the hold of that sum in a sandbox is worth. -/
noncomputable def Try.pinned : Pinned := { name := "ytcleoahoppggmaa", sum := "23394fc4b05d3e5f5af2e48b130088e0980af63dd6a71518163fbb404bdbdf30", checked := Try.checked }
namespace Rows
def none {H : Type} : Left H := { results := [], args := [] }

/-- 'corrielaw21.LinApply': WHATEVER THE INPUT: true; the input reads as it did. -/
def linApplySpec : ChangeSpec := { name := "linApply", fn := fun _ => fun
  | [d1, d2] => { results := [.lit (.bool true)], args := [d1, d2] }
  | _ => none }
def linApplyRow : OpenClaim := { program := "ytcleoahoppggmaa", sum := "23394fc4b05d3e5f5af2e48b130088e0980af63dd6a71518163fbb404bdbdf30", func := "corrie/corrielaw21.LinApply", spec := "linApply", inPlace := ["slices.overlaps[corrie/api.Pair]"], unfollowed := true, recurses := true, apart := false }
def LinApplySaid : Prop := linApplyRow.holds Try.pinned (OpenSpec.ofChange linApplySpec)

/-- ITS FALSE NEIGHBOUR: 'it returns false'. Refute it at one input. -/
def linApplyWrong : ChangeSpec := { name := "linApply", fn := fun _ => fun
  | [d1, d2] => { results := [.lit (.bool false)], args := [d1, d2] }
  | _ => none }
def LinApplyWrongFalsely : Prop := linApplyRow.holds Try.pinned (OpenSpec.ofChange linApplyWrong)

/-- 'corrielaw21.LinRight': WHATEVER THE INPUT: true; the input reads as it did. -/
def linRightSpec : ChangeSpec := { name := "linRight", fn := fun _ => fun
  | [d] => { results := [.lit (.bool true)], args := [d] }
  | _ => none }
def linRightRow : OpenClaim := { program := "ytcleoahoppggmaa", sum := "23394fc4b05d3e5f5af2e48b130088e0980af63dd6a71518163fbb404bdbdf30", func := "corrie/corrielaw21.LinRight", spec := "linRight", inPlace := ["slices.overlaps[corrie/api.Pair]"], unfollowed := true, recurses := true, apart := false }
def LinRightSaid : Prop := linRightRow.holds Try.pinned (OpenSpec.ofChange linRightSpec)

/-- ITS FALSE NEIGHBOUR: 'it returns false'. Refute it at one input. -/
def linRightWrong : ChangeSpec := { name := "linRight", fn := fun _ => fun
  | [d] => { results := [.lit (.bool false)], args := [d] }
  | _ => none }
def LinRightWrongFalsely : Prop := linRightRow.holds Try.pinned (OpenSpec.ofChange linRightWrong)

/-- 'corrielaw21.LinAlone': WHATEVER THE INPUT: true; the input reads as it did. -/
def linAloneSpec : ChangeSpec := { name := "linAlone", fn := fun _ => fun
  | [d1, d2] => { results := [.lit (.bool true)], args := [d1, d2] }
  | _ => none }
def linAloneRow : OpenClaim := { program := "ytcleoahoppggmaa", sum := "23394fc4b05d3e5f5af2e48b130088e0980af63dd6a71518163fbb404bdbdf30", func := "corrie/corrielaw21.LinAlone", spec := "linAlone", inPlace := ["slices.overlaps[corrie/api.Pair]"], unfollowed := true, recurses := true, apart := false }
def LinAloneSaid : Prop := linAloneRow.holds Try.pinned (OpenSpec.ofChange linAloneSpec)

/-- ITS FALSE NEIGHBOUR: 'it returns false'. Refute it at one input. -/
def linAloneWrong : ChangeSpec := { name := "linAlone", fn := fun _ => fun
  | [d1, d2] => { results := [.lit (.bool false)], args := [d1, d2] }
  | _ => none }
def LinAloneWrongFalsely : Prop := linAloneRow.holds Try.pinned (OpenSpec.ofChange linAloneWrong)

/-- 'corrielaw21.LinPending': WHATEVER THE INPUT: true; the input reads as it did. -/
def linPendingSpec : ChangeSpec := { name := "linPending", fn := fun _ => fun
  | [d1, d2, d3] => { results := [.lit (.bool true)], args := [d1, d2, d3] }
  | _ => none }
def linPendingRow : OpenClaim := { program := "ytcleoahoppggmaa", sum := "23394fc4b05d3e5f5af2e48b130088e0980af63dd6a71518163fbb404bdbdf30", func := "corrie/corrielaw21.LinPending", spec := "linPending", inPlace := ["slices.overlaps[corrie/api.Pair]"], unfollowed := true, recurses := true, apart := false }
def LinPendingSaid : Prop := linPendingRow.holds Try.pinned (OpenSpec.ofChange linPendingSpec)

/-- ITS FALSE NEIGHBOUR: 'it returns false'. Refute it at one input. -/
def linPendingWrong : ChangeSpec := { name := "linPending", fn := fun _ => fun
  | [d1, d2, d3] => { results := [.lit (.bool false)], args := [d1, d2, d3] }
  | _ => none }
def LinPendingWrongFalsely : Prop := linPendingRow.holds Try.pinned (OpenSpec.ofChange linPendingWrong)

/- THE SECOND FORM. 'bulk': how many values and letters a reading holds, each counted each time it is reached (what is shared counts as often as it is met; a slice's spare places count too). A statement '..UptoSaid' is the law's where the arguments, and the package variables that the reading takes, are together of bulk at most 1048576: NARROWER than '..Said'. Prove '..Said' where nothing that the law and all that it calls make is longer than what came in: it says more and counts as full. Else prove '..UptoSaid'. A law counts once. -/
mutual
def uptoBulk {H : Type} : DataW H → Nat
  | .lit (.string bytes) => bytes.length + 1
  | .lit _ => 1
  | .nil => 1
  | .ptr d => uptoBulk d + 1
  | .slice elems spare => uptoBulkAll elems + uptoBulkAll spare + 1
  | .agg parts => uptoBulkAll parts + 1
  | .iface _ d => uptoBulk d + 1
  | .map entries => uptoBulkEntries entries + 1
  | .held _ => 1
def uptoBulkAll {H : Type} : List (DataW H) → Nat
  | [] => 0
  | d :: r => uptoBulk d + uptoBulkAll r
def uptoBulkEntries {H : Type} : List (Lit × DataW H) → Nat
  | [] => 0
  | x :: r => uptoBulkEntry x + uptoBulkEntries r
def uptoBulkEntry {H : Type} : Lit × DataW H → Nat
  | (.string bytes, d) => bytes.length + uptoBulk d + 1
  | (_, d) => uptoBulk d + 1
 end
def uptoSmall : (H : Type) → List (DataW H) → Bool := fun _ ds => decide (uptoBulkAll ds ≤ 1048576)
def OpenSpec.upto (s : _root_.Go.ChangeSpec) : _root_.Go.OpenSpec := { _root_.Go.OpenSpec.ofChange s with cond := some uptoSmall }

/-- 'corrielaw21.LinApply', WHERE WHAT IT READS IS OF BULK AT MOST 1048576: true; the input reads as it did. -/
def linApplyUptoRow : OpenClaim := { program := "ytcleoahoppggmaa", sum := "23394fc4b05d3e5f5af2e48b130088e0980af63dd6a71518163fbb404bdbdf30", func := "corrie/corrielaw21.LinApply", spec := "linApply", inPlace := ["slices.overlaps[corrie/api.Pair]"], unfollowed := true, recurses := true, apart := false, narrowed := true }
def LinApplyUptoSaid : Prop := linApplyUptoRow.holds Try.pinned (OpenSpec.upto linApplySpec)

/-- 'corrielaw21.LinRight', WHERE WHAT IT READS IS OF BULK AT MOST 1048576: true; the input reads as it did. -/
def linRightUptoRow : OpenClaim := { program := "ytcleoahoppggmaa", sum := "23394fc4b05d3e5f5af2e48b130088e0980af63dd6a71518163fbb404bdbdf30", func := "corrie/corrielaw21.LinRight", spec := "linRight", inPlace := ["slices.overlaps[corrie/api.Pair]"], unfollowed := true, recurses := true, apart := false, narrowed := true }
def LinRightUptoSaid : Prop := linRightUptoRow.holds Try.pinned (OpenSpec.upto linRightSpec)

/-- 'corrielaw21.LinAlone', WHERE WHAT IT READS IS OF BULK AT MOST 1048576: true; the input reads as it did. -/
def linAloneUptoRow : OpenClaim := { program := "ytcleoahoppggmaa", sum := "23394fc4b05d3e5f5af2e48b130088e0980af63dd6a71518163fbb404bdbdf30", func := "corrie/corrielaw21.LinAlone", spec := "linAlone", inPlace := ["slices.overlaps[corrie/api.Pair]"], unfollowed := true, recurses := true, apart := false, narrowed := true }
def LinAloneUptoSaid : Prop := linAloneUptoRow.holds Try.pinned (OpenSpec.upto linAloneSpec)

/-- 'corrielaw21.LinPending', WHERE WHAT IT READS IS OF BULK AT MOST 1048576: true; the input reads as it did. -/
def linPendingUptoRow : OpenClaim := { program := "ytcleoahoppggmaa", sum := "23394fc4b05d3e5f5af2e48b130088e0980af63dd6a71518163fbb404bdbdf30", func := "corrie/corrielaw21.LinPending", spec := "linPending", inPlace := ["slices.overlaps[corrie/api.Pair]"], unfollowed := true, recurses := true, apart := false, narrowed := true }
def LinPendingUptoSaid : Prop := linPendingUptoRow.holds Try.pinned (OpenSpec.upto linPendingSpec)

end Rows
end Go.Proofs.Ytcleoahoppggmaa
