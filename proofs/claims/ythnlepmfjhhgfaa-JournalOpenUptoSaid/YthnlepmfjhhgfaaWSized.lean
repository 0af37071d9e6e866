import Derived.SizedLaws
import Derived.ChangeSlices
namespace Go.Proofs.YthnlepmfjhhgfaaW.PrintWords
open Go.ChangeShapes Go.WideShapes
end Go.Proofs.YthnlepmfjhhgfaaW.PrintWords
