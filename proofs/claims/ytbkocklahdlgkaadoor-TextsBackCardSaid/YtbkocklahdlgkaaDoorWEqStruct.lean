/- The words that this claim's texts use, out of those that the printer lays. -/
import Derived.Test.YtbkocklahdlgkaaDoorWWords
import Derived.Laws.StructEq
/-! ### 53. '==' of structs as_ one Bool -/
namespace Go.Proofs.YtbkocklahdlgkaaDoorW.PrintWords
open Go.RowKit
section
variable {P : Program} {d : Nat} {xs ys : Array Value} {f : Field} {fs : List Field} {a b : Value} {r s : Bool} {w : World}
end
end Go.Proofs.YtbkocklahdlgkaaDoorW.PrintWords
