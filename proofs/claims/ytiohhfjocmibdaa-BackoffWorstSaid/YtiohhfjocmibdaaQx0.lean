-- written for this claim by a program of the session
import Derived.Test.YtiohhfjocmibdaaProg
import Derived.Below
import Derived.Deep.Draws
import Derived.Deep.AppendLies
import Derived.Maps.AppendAt
import Derived.OwnWalk
import Derived.Laws.BytesArg
import Derived.Laws.MakeOwn
import Derived.Laws.OwnMore
import Derived.Deep.OwnRows
import Derived.Tactics
import Derived.Lib.ConvBytes
import Derived.Laws.Slices
import Derived.WalkKit
import Derived.KernelRfl
import Derived.RowKit3
import Derived.Deep.LoopGhost
import Derived.Deep.QuietTactic
import Derived.BigQuiet
import Derived.WideLaws
import Derived.Deep.DeepCutAuto
import Derived.Deep.CutBlock
import Derived.Deep.RegionHeld3
import Derived.Laws.Rows
import Derived.Lib.AppendStr
import Derived.ArgAppend
import Derived.Laws.IdiomCopy
import Derived.OrdersHeld
import Derived.Laws.BitsLemmas
import Derived.RowKit
import Derived.WalkMore
import Derived.Test.YtiohhfjocmibdaaWWords
import Derived.Test.YtiohhfjocmibdaaWLast
import Derived.Test.YtiohhfjocmibdaaWTab
import Derived.Test.YtiohhfjocmibdaaWFour
import Derived.Test.YtiohhfjocmibdaaWQPut
import Derived.Test.YtiohhfjocmibdaaWApart
import Derived.Test.YtiohhfjocmibdaaWArr
import Derived.Test.YtiohhfjocmibdaaWZeros
import Derived.Test.YtiohhfjocmibdaaWFoot
import Derived.Test.YtiohhfjocmibdaaWKept
import Derived.Test.YtiohhfjocmibdaaWShare
import Derived.Test.YtiohhfjocmibdaaWN
import Derived.Test.YtiohhfjocmibdaaWFootNe
import Derived.Test.YtiohhfjocmibdaaWAt
import Derived.Test.YtiohhfjocmibdaaWEqStruct
import Derived.Test.YtiohhfjocmibdaaWRepsOne
import Derived.Test.YtiohhfjocmibdaaWInv
import Derived.Test.YtiohhfjocmibdaaWInvWords
import Derived.Test.YtiohhfjocmibdaaWGuard
import Derived.Test.YtiohhfjocmibdaaWNEv
import Derived.Test.YtiohhfjocmibdaaWMore
namespace Go.Proofs.Ytiohhfjocmibdaa.Q
open Go.RowKit Go.Proofs.YtiohhfjocmibdaaW.PrintWords Go.Proofs.YtiohhfjocmibdaaW.PrintLast Go.Proofs.YtiohhfjocmibdaaW.PrintMore
attribute [local go_sem] max2_int min2_int max_two min_two max_three min_three max_four min_four   -- for this text's walks alone
set_option linter.unusedVariables false
set_option linter.unusedSimpArgs false



def errW : Option Int → Value
  | none => .nilIface
  | some c => .iface 0 (.int .i64 c)
theorem errW_none : errW none = .nilIface := rfl
theorem errW_some (c : Int) : errW (some c) = .iface 0 (.int .i64 c) := rfl

-- the values' own types

end Go.Proofs.Ytiohhfjocmibdaa.Q
