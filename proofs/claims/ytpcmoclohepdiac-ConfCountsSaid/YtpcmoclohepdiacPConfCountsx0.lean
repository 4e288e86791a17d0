-- Written by a program of this session: a variant of the print that takes proofs by hand (wip/tools/mkprint.py)
import Derived.Test.YtpcmoclohepdiacProg
import Derived.Below
import Derived.Deep.Draws
import Derived.Deep.AppendLies
import Derived.Maps.AppendAt
import Derived.OwnWalk
import Derived.Laws.BytesArg
import Derived.Laws.MakeOwn
import Derived.Laws.OwnMore
import Derived.Deep.OwnRows
import Derived.Tactics
import Derived.Lib.ConvBytes
import Derived.Laws.Slices
import Derived.WalkKit
import Derived.KernelRfl
import Derived.RowKit3
import Derived.Deep.LoopGhost
import Derived.Deep.QuietTactic
import Derived.BigQuiet
import Derived.WideLaws
import Derived.Deep.DeepCutAuto
import Derived.Deep.CutBlock
import Derived.Deep.RegionHeld3
import Derived.Laws.Rows
import Derived.Lib.AppendStr
import Derived.ArgAppend
import Derived.Laws.IdiomCopy
import Derived.OrdersHeld
import Derived.Laws.BitsLemmas
import Derived.RowKit
import Derived.Test.YtpcmoclohepdiacWWords
import Derived.Test.YtpcmoclohepdiacWLast
import Derived.Test.YtpcmoclohepdiacWTab
import Derived.Test.YtpcmoclohepdiacWFour
import Derived.Test.YtpcmoclohepdiacWQPut
import Derived.Test.YtpcmoclohepdiacWApart
import Derived.Test.YtpcmoclohepdiacWArr
import Derived.Test.YtpcmoclohepdiacWZeros
import Derived.Test.YtpcmoclohepdiacWFoot
import Derived.Test.YtpcmoclohepdiacWKept
import Derived.Test.YtpcmoclohepdiacWShare
import Derived.Test.YtpcmoclohepdiacWN
import Derived.Test.YtpcmoclohepdiacWFootNe
import Derived.Test.YtpcmoclohepdiacWAt
import Derived.Test.YtpcmoclohepdiacWEqStruct
import Derived.Test.YtpcmoclohepdiacWRepsOne
import Derived.Test.YtpcmoclohepdiacWInv
import Derived.Test.YtpcmoclohepdiacWInvWords
import Derived.Test.YtpcmoclohepdiacWGuard
import Derived.Test.YtpcmoclohepdiacWNEv
import Derived.Test.YtpcmoclohepdiacWMore
namespace Go.Proofs.Ytpcmoclohepdiac.PConfCounts
open Go.RowKit Go.Proofs.YtpcmoclohepdiacW.PrintWords Go.Proofs.YtpcmoclohepdiacW.PrintLast Go.Proofs.YtpcmoclohepdiacW.PrintMore
attribute [local go_sem] max2_int min2_int max_two min_two max_three min_three max_four min_four   -- for this text's walks alone
set_option linter.unusedVariables false
set_option linter.unusedSimpArgs false



def errW : Option Int → Value
  | none => .nilIface
  | some c => .iface 0 (.int .i64 c)
theorem errW_none : errW none = .nilIface := rfl
theorem errW_some (c : Int) : errW (some c) = .iface 0 (.int .i64 c) := rfl

-- the values' own types

end Go.Proofs.Ytpcmoclohepdiac.PConfCounts
