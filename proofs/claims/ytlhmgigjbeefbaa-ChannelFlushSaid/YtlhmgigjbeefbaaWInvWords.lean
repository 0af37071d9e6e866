import Derived.Test.YtlhmgigjbeefbaaWInv
import Derived.Test.YtlhmgigjbeefbaaWFootNe
namespace Go.Proofs.YtlhmgigjbeefbaaW.PrintWords
open Go.RowKit
end Go.Proofs.YtlhmgigjbeefbaaW.PrintWords
namespace Go.Proofs.YtlhmgigjbeefbaaW.PrintLast
section
variable {ops : Array Oper} {a : Act} {o og : Oper} {g : Nat} {t : Tmp} {u : Bool}
end
end Go.Proofs.YtlhmgigjbeefbaaW.PrintLast
