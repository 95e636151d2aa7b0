/- The words that this claim's texts use, out of those that the printer lays. -/
import Derived.Test.YtehbkhddbdgbcaaGreatDoorWLast
import Derived.Test.YtehbkhddbdgbcaaGreatDoorWWords
/-! ### 50. A region's order in a table, made once a region: each step asks the table (numbers alone), not the operations -/
namespace Go.Proofs.YtehbkhddbdgbcaaGreatDoorW.PrintLast
open Go.Proofs.YtehbkhddbdgbcaaGreatDoorW.PrintWords (Aside0)
section
variable {md : Region.Mode} {ops : Array Oper} {T : Bool × List (List Nat × List Nat)} {l l' li lj lk : Array Bool} {ds : List Nat} {i j k : Nat}
end
end Go.Proofs.YtehbkhddbdgbcaaGreatDoorW.PrintLast
