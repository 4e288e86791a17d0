-- Written by a program of this session: a variant of the print that takes proofs by hand (wip/tools/mkprint.py)
import Derived.Test.YtpcmoclohepdiaeProg
import Derived.Below
import Derived.Deep.Draws
import Derived.Deep.AppendLies
import Derived.Maps.AppendAt
import Derived.OwnWalk
import Derived.Laws.BytesArg
import Derived.Laws.MakeOwn
import Derived.Laws.OwnMore
import Derived.Deep.OwnRows
import Derived.Tactics
import Derived.Lib.ConvBytes
import Derived.Laws.Slices
import Derived.WalkKit
import Derived.KernelRfl
import Derived.RowKit3
import Derived.Deep.LoopGhost
import Derived.Deep.QuietTactic
import Derived.BigQuiet
import Derived.WideLaws
import Derived.Deep.DeepCutAuto
import Derived.Deep.CutBlock
import Derived.Deep.RegionHeld3
import Derived.Laws.Rows
import Derived.Lib.AppendStr
import Derived.ArgAppend
import Derived.Laws.IdiomCopy
import Derived.OrdersHeld
import Derived.Laws.BitsLemmas
import Derived.RowKit
import Derived.Test.YtpcmoclohepdiaeWWords
import Derived.Test.YtpcmoclohepdiaeWLast
import Derived.Test.YtpcmoclohepdiaeWTab
import Derived.Test.YtpcmoclohepdiaeWFour
import Derived.Test.YtpcmoclohepdiaeWQPut
import Derived.Test.YtpcmoclohepdiaeWApart
import Derived.Test.YtpcmoclohepdiaeWArr
import Derived.Test.YtpcmoclohepdiaeWZeros
import Derived.Test.YtpcmoclohepdiaeWFoot
import Derived.Test.YtpcmoclohepdiaeWKept
import Derived.Test.YtpcmoclohepdiaeWShare
import Derived.Test.YtpcmoclohepdiaeWN
import Derived.Test.YtpcmoclohepdiaeWFootNe
import Derived.Test.YtpcmoclohepdiaeWAt
import Derived.Test.YtpcmoclohepdiaeWEqStruct
import Derived.Test.YtpcmoclohepdiaeWRepsOne
import Derived.Test.YtpcmoclohepdiaeWInv
import Derived.Test.YtpcmoclohepdiaeWInvWords
import Derived.Test.YtpcmoclohepdiaeWGuard
import Derived.Test.YtpcmoclohepdiaeWNEv
import Derived.Test.YtpcmoclohepdiaeWMore
namespace Go.Proofs.Ytpcmoclohepdiae.PLayoutApart
open Go.RowKit Go.Proofs.YtpcmoclohepdiaeW.PrintWords Go.Proofs.YtpcmoclohepdiaeW.PrintLast Go.Proofs.YtpcmoclohepdiaeW.PrintMore
attribute [local go_sem] max2_int min2_int max_two min_two max_three min_three max_four min_four   -- for this text's walks alone
set_option linter.unusedVariables false
set_option linter.unusedSimpArgs false



def errW : Option Int → Value
  | none => .nilIface
  | some c => .iface 0 (.int .i64 c)
theorem errW_none : errW none = .nilIface := rfl
theorem errW_some (c : Int) : errW (some c) = .iface 0 (.int .i64 c) := rfl

-- the values' own types

end Go.Proofs.Ytpcmoclohepdiae.PLayoutApart
