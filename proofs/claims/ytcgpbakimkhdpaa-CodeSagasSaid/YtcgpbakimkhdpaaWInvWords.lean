import Derived.Test.YtcgpbakimkhdpaaWInv
import Derived.Test.YtcgpbakimkhdpaaWFootNe
namespace Go.Proofs.YtcgpbakimkhdpaaW.PrintWords
open Go.RowKit
end Go.Proofs.YtcgpbakimkhdpaaW.PrintWords
namespace Go.Proofs.YtcgpbakimkhdpaaW.PrintLast
section
variable {ops : Array Oper} {a : Act} {o og : Oper} {g : Nat} {t : Tmp} {u : Bool}
end
end Go.Proofs.YtcgpbakimkhdpaaW.PrintLast

