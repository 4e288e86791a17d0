-- Written by a program of this session: a variant of the print that takes proofs by hand (wip/tools/mkprint.py)
import Derived.Test.YtahifbdggbeajacProg
import Derived.Below
import Derived.Deep.Draws
import Derived.Deep.AppendLies
import Derived.Maps.AppendAt
import Derived.OwnWalk
import Derived.Laws.BytesArg
import Derived.Laws.MakeOwn
import Derived.Laws.OwnMore
import Derived.Deep.OwnRows
import Derived.Tactics
import Derived.Lib.ConvBytes
import Derived.Laws.Slices
import Derived.WalkKit
import Derived.KernelRfl
import Derived.RowKit3
import Derived.Deep.LoopGhost
import Derived.Deep.QuietTactic
import Derived.BigQuiet
import Derived.WideLaws
import Derived.Deep.DeepCutAuto
import Derived.Deep.CutBlock
import Derived.Deep.RegionHeld3
import Derived.Laws.Rows
import Derived.Lib.AppendStr
import Derived.ArgAppend
import Derived.Laws.IdiomCopy
import Derived.OrdersHeld
import Derived.Laws.BitsLemmas
import Derived.RowKit
import Derived.Test.YtahifbdggbeajacWWords
import Derived.Test.YtahifbdggbeajacWLast
import Derived.Test.YtahifbdggbeajacWTab
import Derived.Test.YtahifbdggbeajacWFour
import Derived.Test.YtahifbdggbeajacWQPut
import Derived.Test.YtahifbdggbeajacWApart
import Derived.Test.YtahifbdggbeajacWArr
import Derived.Test.YtahifbdggbeajacWZeros
import Derived.Test.YtahifbdggbeajacWFoot
import Derived.Test.YtahifbdggbeajacWKept
import Derived.Test.YtahifbdggbeajacWShare
import Derived.Test.YtahifbdggbeajacWN
import Derived.Test.YtahifbdggbeajacWFootNe
import Derived.Test.YtahifbdggbeajacWAt
import Derived.Test.YtahifbdggbeajacWEqStruct
import Derived.Test.YtahifbdggbeajacWRepsOne
import Derived.Test.YtahifbdggbeajacWInv
import Derived.Test.YtahifbdggbeajacWInvWords
import Derived.Test.YtahifbdggbeajacWGuard
import Derived.Test.YtahifbdggbeajacWNEv
import Derived.Test.YtahifbdggbeajacWMore
namespace Go.Proofs.Ytahifbdggbeajac.PRouteSpread
open Go.RowKit Go.Proofs.YtahifbdggbeajacW.PrintWords Go.Proofs.YtahifbdggbeajacW.PrintLast Go.Proofs.YtahifbdggbeajacW.PrintMore
attribute [local go_sem] max2_int min2_int max_two min_two max_three min_three max_four min_four   -- for this text's walks alone
set_option linter.unusedVariables false
set_option linter.unusedSimpArgs false



def errW : Option Int → Value
  | none => .nilIface
  | some c => .iface 0 (.int .i64 c)
theorem errW_none : errW none = .nilIface := rfl
theorem errW_some (c : Int) : errW (some c) = .iface 0 (.int .i64 c) := rfl

-- the values' own types

end Go.Proofs.Ytahifbdggbeajac.PRouteSpread
