import Derived.Test.YthnlepmfjhhgfaaWInv
import Derived.Test.YthnlepmfjhhgfaaWFootNe
namespace Go.Proofs.YthnlepmfjhhgfaaW.PrintWords
open Go.RowKit
end Go.Proofs.YthnlepmfjhhgfaaW.PrintWords
namespace Go.Proofs.YthnlepmfjhhgfaaW.PrintLast
section
variable {ops : Array Oper} {a : Act} {o og : Oper} {g : Nat} {t : Tmp} {u : Bool}
end
end Go.Proofs.YthnlepmfjhhgfaaW.PrintLast
