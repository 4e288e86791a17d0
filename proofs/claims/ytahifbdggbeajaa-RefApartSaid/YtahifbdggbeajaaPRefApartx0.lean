-- Written by a program of this session: a variant of the print that takes proofs by hand (wip/tools/mkprint.py)
import Derived.Test.YtahifbdggbeajaaProg
import Derived.Below
import Derived.Deep.Draws
import Derived.Deep.AppendLies
import Derived.Maps.AppendAt
import Derived.OwnWalk
import Derived.Laws.BytesArg
import Derived.Laws.MakeOwn
import Derived.Laws.OwnMore
import Derived.Deep.OwnRows
import Derived.Tactics
import Derived.Lib.ConvBytes
import Derived.Laws.Slices
import Derived.WalkKit
import Derived.KernelRfl
import Derived.RowKit3
import Derived.Deep.LoopGhost
import Derived.Deep.QuietTactic
import Derived.BigQuiet
import Derived.WideLaws
import Derived.Deep.DeepCutAuto
import Derived.Deep.CutBlock
import Derived.Deep.RegionHeld3
import Derived.Laws.Rows
import Derived.Lib.AppendStr
import Derived.ArgAppend
import Derived.Laws.IdiomCopy
import Derived.OrdersHeld
import Derived.Laws.BitsLemmas
import Derived.RowKit
import Derived.Test.YtahifbdggbeajaaWWords
import Derived.Test.YtahifbdggbeajaaWLast
import Derived.Test.YtahifbdggbeajaaWTab
import Derived.Test.YtahifbdggbeajaaWFour
import Derived.Test.YtahifbdggbeajaaWQPut
import Derived.Test.YtahifbdggbeajaaWApart
import Derived.Test.YtahifbdggbeajaaWArr
import Derived.Test.YtahifbdggbeajaaWZeros
import Derived.Test.YtahifbdggbeajaaWFoot
import Derived.Test.YtahifbdggbeajaaWKept
import Derived.Test.YtahifbdggbeajaaWShare
import Derived.Test.YtahifbdggbeajaaWN
import Derived.Test.YtahifbdggbeajaaWFootNe
import Derived.Test.YtahifbdggbeajaaWAt
import Derived.Test.YtahifbdggbeajaaWEqStruct
import Derived.Test.YtahifbdggbeajaaWRepsOne
import Derived.Test.YtahifbdggbeajaaWInv
import Derived.Test.YtahifbdggbeajaaWInvWords
import Derived.Test.YtahifbdggbeajaaWGuard
import Derived.Test.YtahifbdggbeajaaWNEv
import Derived.Test.YtahifbdggbeajaaWMore
namespace Go.Proofs.Ytahifbdggbeajaa.PRefApart
open Go.RowKit Go.Proofs.YtahifbdggbeajaaW.PrintWords Go.Proofs.YtahifbdggbeajaaW.PrintLast Go.Proofs.YtahifbdggbeajaaW.PrintMore
attribute [local go_sem] max2_int min2_int max_two min_two max_three min_three max_four min_four   -- for this text's walks alone
set_option linter.unusedVariables false
set_option linter.unusedSimpArgs false



def errW : Option Int → Value
  | none => .nilIface
  | some c => .iface 0 (.int .i64 c)
theorem errW_none : errW none = .nilIface := rfl
theorem errW_some (c : Int) : errW (some c) = .iface 0 (.int .i64 c) := rfl

-- the values' own types

end Go.Proofs.Ytahifbdggbeajaa.PRefApart
