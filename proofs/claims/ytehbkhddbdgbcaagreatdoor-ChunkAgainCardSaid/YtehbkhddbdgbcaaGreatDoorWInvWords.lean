/- The words that this claim's texts use, out of those that the printer lays. -/
import Derived.Test.YtehbkhddbdgbcaaGreatDoorWTab
import Derived.Test.YtehbkhddbdgbcaaGreatDoorWFootNe
/-! ### 57. A region of open order by ONE relation over what is listed so far: each operation is shown once, whatever came up before it -/
namespace Go.Proofs.YtehbkhddbdgbcaaGreatDoorW.PrintLast
/-- Number i is listed too. -/
def up (b : Nat → Bool) (i : Nat) : Nat → Bool := fun j => if j = i then true else b j
section
variable {P : Program} {ops : Array Oper} {Q : Exit → Act → World → Prop} {md : Region.Mode} {T : Bool × List (List Nat × List Nat)} {B : List Nat} {O : List Nat} {b : Nat → Bool} {i j n : Nat}
/-! The frame: what is listed has its destination filled. -/
end
end Go.Proofs.YtehbkhddbdgbcaaGreatDoorW.PrintLast
namespace Go.Proofs.YtehbkhddbdgbcaaGreatDoorW.PrintWords
open Go.RowKit
end Go.Proofs.YtehbkhddbdgbcaaGreatDoorW.PrintWords
namespace Go.Proofs.YtehbkhddbdgbcaaGreatDoorW.PrintLast
section
variable {ops : Array Oper} {a : Act} {o og : Oper} {g : Nat} {t : Tmp} {u : Bool}
end
end Go.Proofs.YtehbkhddbdgbcaaGreatDoorW.PrintLast
