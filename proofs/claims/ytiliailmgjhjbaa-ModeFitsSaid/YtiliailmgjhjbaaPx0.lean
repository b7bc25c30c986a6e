-- Written by wip/gprint.py, a program of this session over the kit's print; Lean checks it.
import Derived.Test.YtiliailmgjhjbaaProg
import Derived.Below
import Derived.Deep.Draws
import Derived.Deep.AppendLies
import Derived.Maps.AppendAt
import Derived.OwnWalk
import Derived.Laws.BytesArg
import Derived.Laws.MakeOwn
import Derived.Laws.OwnMore
import Derived.Deep.OwnRows
import Derived.Tactics
import Derived.Lib.ConvBytes
import Derived.Laws.Slices
import Derived.WalkKit
import Derived.KernelRfl
import Derived.RowKit3
import Derived.Deep.LoopGhost
import Derived.Deep.QuietTactic
import Derived.BigQuiet
import Derived.WideLaws
import Derived.Deep.DeepCutAuto
import Derived.Deep.CutBlock
import Derived.Deep.RegionHeld3
import Derived.Laws.Rows
import Derived.Lib.AppendStr
import Derived.ArgAppend
import Derived.Laws.IdiomCopy
import Derived.OrdersHeld
import Derived.Laws.BitsLemmas
import Derived.RowKit
import Derived.Test.YtiliailmgjhjbaaWWords
import Derived.Test.YtiliailmgjhjbaaWLast
import Derived.Test.YtiliailmgjhjbaaWTab
import Derived.Test.YtiliailmgjhjbaaWFour
import Derived.Test.YtiliailmgjhjbaaWQPut
import Derived.Test.YtiliailmgjhjbaaWApart
import Derived.Test.YtiliailmgjhjbaaWArr
import Derived.Test.YtiliailmgjhjbaaWZeros
import Derived.Test.YtiliailmgjhjbaaWFoot
import Derived.Test.YtiliailmgjhjbaaWKept
import Derived.Test.YtiliailmgjhjbaaWShare
import Derived.Test.YtiliailmgjhjbaaWN
import Derived.Test.YtiliailmgjhjbaaWFootNe
import Derived.Test.YtiliailmgjhjbaaWAt
import Derived.Test.YtiliailmgjhjbaaWEqStruct
import Derived.Test.YtiliailmgjhjbaaWRepsOne
import Derived.Test.YtiliailmgjhjbaaWInv
import Derived.Test.YtiliailmgjhjbaaWInvWords
import Derived.Test.YtiliailmgjhjbaaWGuard
import Derived.Test.YtiliailmgjhjbaaWNEv
import Derived.Test.YtiliailmgjhjbaaWMore
namespace Go.Proofs.Ytiliailmgjhjbaa.P
open Go.RowKit Go.Proofs.YtiliailmgjhjbaaW.PrintWords Go.Proofs.YtiliailmgjhjbaaW.PrintLast Go.Proofs.YtiliailmgjhjbaaW.PrintMore
attribute [local go_sem] max2_int min2_int max_two min_two max_three min_three max_four min_four   -- for this text's walks alone
set_option linter.unusedVariables false
set_option linter.unusedSimpArgs false



def errW : Option Int → Value
  | none => .nilIface
  | some c => .iface 0 (.int .i64 c)
theorem errW_none : errW none = .nilIface := rfl
theorem errW_some (c : Int) : errW (some c) = .iface 0 (.int .i64 c) := rfl

-- the values' own types

end Go.Proofs.Ytiliailmgjhjbaa.P
