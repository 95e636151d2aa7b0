/- The words that this claim's texts use, out of those that the printer lays. -/
import Derived.Test.YtbkocklahdlgkaaDoorWInv
import Derived.Test.YtbkocklahdlgkaaDoorWFootNe
namespace Go.Proofs.YtbkocklahdlgkaaDoorW.PrintWords
open Go.RowKit
end Go.Proofs.YtbkocklahdlgkaaDoorW.PrintWords
namespace Go.Proofs.YtbkocklahdlgkaaDoorW.PrintLast
section
variable {ops : Array Oper} {a : Act} {o og : Oper} {g : Nat} {t : Tmp} {u : Bool}
end
end Go.Proofs.YtbkocklahdlgkaaDoorW.PrintLast
