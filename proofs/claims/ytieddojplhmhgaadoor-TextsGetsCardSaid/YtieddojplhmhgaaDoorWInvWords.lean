/- The words that this claim's texts use, out of those that the printer lays. -/
import Derived.Test.YtieddojplhmhgaaDoorWInv
import Derived.Test.YtieddojplhmhgaaDoorWFootNe
namespace Go.Proofs.YtieddojplhmhgaaDoorW.PrintWords
open Go.RowKit
end Go.Proofs.YtieddojplhmhgaaDoorW.PrintWords
namespace Go.Proofs.YtieddojplhmhgaaDoorW.PrintLast
section
variable {ops : Array Oper} {a : Act} {o og : Oper} {g : Nat} {t : Tmp} {u : Bool}
end
end Go.Proofs.YtieddojplhmhgaaDoorW.PrintLast
