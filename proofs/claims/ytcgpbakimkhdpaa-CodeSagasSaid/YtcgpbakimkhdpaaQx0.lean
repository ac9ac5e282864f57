-- written for this claim by a program of the session
import Derived.Test.YtcgpbakimkhdpaaProg
import Derived.Below
import Derived.Deep.Draws
import Derived.Deep.AppendLies
import Derived.Maps.AppendAt
import Derived.OwnWalk
import Derived.Laws.BytesArg
import Derived.Laws.MakeOwn
import Derived.Laws.OwnMore
import Derived.Deep.OwnRows
import Derived.Tactics
import Derived.Lib.ConvBytes
import Derived.Laws.Slices
import Derived.WalkKit
import Derived.KernelRfl
import Derived.RowKit3
import Derived.Deep.LoopGhost
import Derived.Deep.QuietTactic
import Derived.BigQuiet
import Derived.WideLaws
import Derived.Deep.DeepCutAuto
import Derived.Deep.CutBlock
import Derived.Deep.RegionHeld3
import Derived.Laws.Rows
import Derived.Lib.AppendStr
import Derived.ArgAppend
import Derived.Laws.IdiomCopy
import Derived.OrdersHeld
import Derived.Laws.BitsLemmas
import Derived.RowKit
import Derived.WalkMore
import Derived.Test.YtcgpbakimkhdpaaWWords
import Derived.Test.YtcgpbakimkhdpaaWLast
import Derived.Test.YtcgpbakimkhdpaaWTab
import Derived.Test.YtcgpbakimkhdpaaWFour
import Derived.Test.YtcgpbakimkhdpaaWQPut
import Derived.Test.YtcgpbakimkhdpaaWApart
import Derived.Test.YtcgpbakimkhdpaaWArr
import Derived.Test.YtcgpbakimkhdpaaWZeros
import Derived.Test.YtcgpbakimkhdpaaWFoot
import Derived.Test.YtcgpbakimkhdpaaWKept
import Derived.Test.YtcgpbakimkhdpaaWShare
import Derived.Test.YtcgpbakimkhdpaaWN
import Derived.Test.YtcgpbakimkhdpaaWFootNe
import Derived.Test.YtcgpbakimkhdpaaWAt
import Derived.Test.YtcgpbakimkhdpaaWEqStruct
import Derived.Test.YtcgpbakimkhdpaaWRepsOne
import Derived.Test.YtcgpbakimkhdpaaWInv
import Derived.Test.YtcgpbakimkhdpaaWInvWords
import Derived.Test.YtcgpbakimkhdpaaWGuard
import Derived.Test.YtcgpbakimkhdpaaWNEv
import Derived.Test.YtcgpbakimkhdpaaWMore
namespace Go.Proofs.Ytcgpbakimkhdpaa.Q
open Go.RowKit Go.Proofs.YtcgpbakimkhdpaaW.PrintWords Go.Proofs.YtcgpbakimkhdpaaW.PrintLast Go.Proofs.YtcgpbakimkhdpaaW.PrintMore
attribute [local go_sem] max2_int min2_int max_two min_two max_three min_three max_four min_four   -- for this text's walks alone
set_option linter.unusedVariables false
set_option linter.unusedSimpArgs false



def errW : Option Int → Value
  | none => .nilIface
  | some c => .iface 0 (.int .i64 c)
theorem errW_none : errW none = .nilIface := rfl
theorem errW_some (c : Int) : errW (some c) = .iface 0 (.int .i64 c) := rfl

theorem info5 : (Try.prog.info? 5).map (fun i => (i.zero, i.size, i.bytes)) = some (some (.int .u8 0), 1, 1) := by kernel_rfl
-- the values' own types

end Go.Proofs.Ytcgpbakimkhdpaa.Q
