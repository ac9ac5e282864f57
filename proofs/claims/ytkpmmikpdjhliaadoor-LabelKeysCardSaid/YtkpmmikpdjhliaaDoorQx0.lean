-- written for this claim by a program of the session
import Derived.Test.YtkpmmikpdjhliaaDoorProg
import Derived.Below
import Derived.Deep.Draws
import Derived.Deep.AppendLies
import Derived.Maps.AppendAt
import Derived.OwnWalk
import Derived.Laws.BytesArg
import Derived.Laws.MakeOwn
import Derived.Laws.OwnMore
import Derived.Deep.OwnRows
import Derived.Tactics
import Derived.Lib.ConvBytes
import Derived.Laws.Slices
import Derived.WalkKit
import Derived.KernelRfl
import Derived.RowKit3
import Derived.Deep.LoopGhost
import Derived.Deep.QuietTactic
import Derived.BigQuiet
import Derived.WideLaws
import Derived.Deep.DeepCutAuto
import Derived.Deep.CutBlock
import Derived.Deep.RegionHeld3
import Derived.Laws.Rows
import Derived.Lib.AppendStr
import Derived.ArgAppend
import Derived.Laws.IdiomCopy
import Derived.OrdersHeld
import Derived.Laws.BitsLemmas
import Derived.RowKit
import Derived.WalkMore
import Derived.Test.YtkpmmikpdjhliaaDoorWWords
import Derived.Test.YtkpmmikpdjhliaaDoorWLast
import Derived.Test.YtkpmmikpdjhliaaDoorWTab
import Derived.Test.YtkpmmikpdjhliaaDoorWFour
import Derived.Test.YtkpmmikpdjhliaaDoorWQPut
import Derived.Test.YtkpmmikpdjhliaaDoorWApart
import Derived.Test.YtkpmmikpdjhliaaDoorWArr
import Derived.Test.YtkpmmikpdjhliaaDoorWZeros
import Derived.Test.YtkpmmikpdjhliaaDoorWFoot
import Derived.Test.YtkpmmikpdjhliaaDoorWKept
import Derived.Test.YtkpmmikpdjhliaaDoorWShare
import Derived.Test.YtkpmmikpdjhliaaDoorWN
import Derived.Test.YtkpmmikpdjhliaaDoorWFootNe
import Derived.Test.YtkpmmikpdjhliaaDoorWAt
import Derived.Test.YtkpmmikpdjhliaaDoorWEqStruct
import Derived.Test.YtkpmmikpdjhliaaDoorWRepsOne
import Derived.Test.YtkpmmikpdjhliaaDoorWInv
import Derived.Test.YtkpmmikpdjhliaaDoorWInvWords
import Derived.Test.YtkpmmikpdjhliaaDoorWGuard
import Derived.Test.YtkpmmikpdjhliaaDoorWNEv
import Derived.Test.YtkpmmikpdjhliaaDoorWMore
namespace Go.Proofs.YtkpmmikpdjhliaaDoor.Q
open Go.RowKit Go.Proofs.YtkpmmikpdjhliaaDoorW.PrintWords Go.Proofs.YtkpmmikpdjhliaaDoorW.PrintLast Go.Proofs.YtkpmmikpdjhliaaDoorW.PrintMore
attribute [local go_sem] max2_int min2_int max_two min_two max_three min_three max_four min_four   -- for this text's walks alone
set_option linter.unusedVariables false
set_option linter.unusedSimpArgs false



def errW : Option Int → Value
  | none => .nilIface
  | some c => .iface 0 (.int .i64 c)
theorem errW_none : errW none = .nilIface := rfl
theorem errW_some (c : Int) : errW (some c) = .iface 0 (.int .i64 c) := rfl

theorem info5 : (Tryd.prog.info? 5).map (fun i => (i.zero, i.size, i.bytes)) = some (some (.int .u8 0), 1, 1) := by kernel_rfl
theorem info9 : (Tryd.prog.info? 9).map (fun i => (i.zero, i.size, i.bytes)) = some (some (.string ⟨#[]⟩), 1, 16) := by kernel_rfl
-- the values' own types

end Go.Proofs.YtkpmmikpdjhliaaDoor.Q
