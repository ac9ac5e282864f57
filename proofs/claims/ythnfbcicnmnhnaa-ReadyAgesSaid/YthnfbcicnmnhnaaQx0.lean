-- written for this claim by a program of the session
import Derived.Test.YthnfbcicnmnhnaaProg
import Derived.Below
import Derived.Deep.Draws
import Derived.Deep.AppendLies
import Derived.Maps.AppendAt
import Derived.OwnWalk
import Derived.Laws.BytesArg
import Derived.Laws.MakeOwn
import Derived.Laws.OwnMore
import Derived.Deep.OwnRows
import Derived.Tactics
import Derived.Lib.ConvBytes
import Derived.Laws.Slices
import Derived.WalkKit
import Derived.KernelRfl
import Derived.RowKit3
import Derived.Deep.LoopGhost
import Derived.Deep.QuietTactic
import Derived.BigQuiet
import Derived.WideLaws
import Derived.Deep.DeepCutAuto
import Derived.Deep.CutBlock
import Derived.Deep.RegionHeld3
import Derived.Laws.Rows
import Derived.Lib.AppendStr
import Derived.ArgAppend
import Derived.Laws.IdiomCopy
import Derived.OrdersHeld
import Derived.Laws.BitsLemmas
import Derived.RowKit
import Derived.WalkMore
import Derived.Test.YthnfbcicnmnhnaaWWords
import Derived.Test.YthnfbcicnmnhnaaWLast
import Derived.Test.YthnfbcicnmnhnaaWTab
import Derived.Test.YthnfbcicnmnhnaaWFour
import Derived.Test.YthnfbcicnmnhnaaWQPut
import Derived.Test.YthnfbcicnmnhnaaWApart
import Derived.Test.YthnfbcicnmnhnaaWArr
import Derived.Test.YthnfbcicnmnhnaaWZeros
import Derived.Test.YthnfbcicnmnhnaaWFoot
import Derived.Test.YthnfbcicnmnhnaaWKept
import Derived.Test.YthnfbcicnmnhnaaWShare
import Derived.Test.YthnfbcicnmnhnaaWN
import Derived.Test.YthnfbcicnmnhnaaWFootNe
import Derived.Test.YthnfbcicnmnhnaaWAt
import Derived.Test.YthnfbcicnmnhnaaWEqStruct
import Derived.Test.YthnfbcicnmnhnaaWRepsOne
import Derived.Test.YthnfbcicnmnhnaaWInv
import Derived.Test.YthnfbcicnmnhnaaWInvWords
import Derived.Test.YthnfbcicnmnhnaaWGuard
import Derived.Test.YthnfbcicnmnhnaaWNEv
import Derived.Test.YthnfbcicnmnhnaaWMore
namespace Go.Proofs.Ythnfbcicnmnhnaa.Q
open Go.RowKit Go.Proofs.YthnfbcicnmnhnaaW.PrintWords Go.Proofs.YthnfbcicnmnhnaaW.PrintLast Go.Proofs.YthnfbcicnmnhnaaW.PrintMore
attribute [local go_sem] max2_int min2_int max_two min_two max_three min_three max_four min_four   -- for this text's walks alone
set_option linter.unusedVariables false
set_option linter.unusedSimpArgs false



def errW : Option Int → Value
  | none => .nilIface
  | some c => .iface 0 (.int .i64 c)
theorem errW_none : errW none = .nilIface := rfl
theorem errW_some (c : Int) : errW (some c) = .iface 0 (.int .i64 c) := rfl

-- the values' own types

end Go.Proofs.Ythnfbcicnmnhnaa.Q
