-- Written by a program of this session: a variant of the print that takes proofs by hand (wip/tools/mkprint.py)
import Derived.Test.YtpcmoclohepdiaaProg
import Derived.Below
import Derived.Deep.Draws
import Derived.Deep.AppendLies
import Derived.Maps.AppendAt
import Derived.OwnWalk
import Derived.Laws.BytesArg
import Derived.Laws.MakeOwn
import Derived.Laws.OwnMore
import Derived.Deep.OwnRows
import Derived.Tactics
import Derived.Lib.ConvBytes
import Derived.Laws.Slices
import Derived.WalkKit
import Derived.KernelRfl
import Derived.RowKit3
import Derived.Deep.LoopGhost
import Derived.Deep.QuietTactic
import Derived.BigQuiet
import Derived.WideLaws
import Derived.Deep.DeepCutAuto
import Derived.Deep.CutBlock
import Derived.Deep.RegionHeld3
import Derived.Laws.Rows
import Derived.Lib.AppendStr
import Derived.ArgAppend
import Derived.Laws.IdiomCopy
import Derived.OrdersHeld
import Derived.Laws.BitsLemmas
import Derived.RowKit
import Derived.Test.YtpcmoclohepdiaaWWords
import Derived.Test.YtpcmoclohepdiaaWLast
import Derived.Test.YtpcmoclohepdiaaWTab
import Derived.Test.YtpcmoclohepdiaaWFour
import Derived.Test.YtpcmoclohepdiaaWQPut
import Derived.Test.YtpcmoclohepdiaaWApart
import Derived.Test.YtpcmoclohepdiaaWArr
import Derived.Test.YtpcmoclohepdiaaWZeros
import Derived.Test.YtpcmoclohepdiaaWFoot
import Derived.Test.YtpcmoclohepdiaaWKept
import Derived.Test.YtpcmoclohepdiaaWShare
import Derived.Test.YtpcmoclohepdiaaWN
import Derived.Test.YtpcmoclohepdiaaWFootNe
import Derived.Test.YtpcmoclohepdiaaWAt
import Derived.Test.YtpcmoclohepdiaaWEqStruct
import Derived.Test.YtpcmoclohepdiaaWRepsOne
import Derived.Test.YtpcmoclohepdiaaWInv
import Derived.Test.YtpcmoclohepdiaaWInvWords
import Derived.Test.YtpcmoclohepdiaaWGuard
import Derived.Test.YtpcmoclohepdiaaWNEv
import Derived.Test.YtpcmoclohepdiaaWMore
namespace Go.Proofs.Ytpcmoclohepdiaa.PCellsNew
open Go.RowKit Go.Proofs.YtpcmoclohepdiaaW.PrintWords Go.Proofs.YtpcmoclohepdiaaW.PrintLast Go.Proofs.YtpcmoclohepdiaaW.PrintMore
attribute [local go_sem] max2_int min2_int max_two min_two max_three min_three max_four min_four   -- for this text's walks alone
set_option linter.unusedVariables false
set_option linter.unusedSimpArgs false



def errW : Option Int → Value
  | none => .nilIface
  | some c => .iface 0 (.int .i64 c)
theorem errW_none : errW none = .nilIface := rfl
theorem errW_some (c : Int) : errW (some c) = .iface 0 (.int .i64 c) := rfl

theorem info30 : (Try.prog.info? 30).map (fun i => (i.zero, i.size, i.bytes)) = some (some (.int .u64 0), 1, 8) := by kernel_rfl
-- the values' own types

end Go.Proofs.Ytpcmoclohepdiaa.PCellsNew
