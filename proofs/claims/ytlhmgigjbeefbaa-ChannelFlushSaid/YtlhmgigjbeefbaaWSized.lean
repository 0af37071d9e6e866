import Derived.SizedLaws
import Derived.ChangeSlices
namespace Go.Proofs.YtlhmgigjbeefbaaW.PrintWords
open Go.ChangeShapes Go.WideShapes
end Go.Proofs.YtlhmgigjbeefbaaW.PrintWords
