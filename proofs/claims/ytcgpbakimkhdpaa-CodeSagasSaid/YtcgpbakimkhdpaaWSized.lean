import Derived.SizedLaws
import Derived.ChangeSlices
namespace Go.Proofs.YtcgpbakimkhdpaaW.PrintWords
open Go.ChangeShapes Go.WideShapes
end Go.Proofs.YtcgpbakimkhdpaaW.PrintWords

