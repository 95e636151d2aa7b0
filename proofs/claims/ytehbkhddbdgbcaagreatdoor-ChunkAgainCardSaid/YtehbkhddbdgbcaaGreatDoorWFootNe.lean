/- The words that this claim's texts use, out of those that the printer lays. -/
import Derived.Test.YtehbkhddbdgbcaaGreatDoorWN
/-! ### 52. A row that stays read whatever happens to a block (a set of blocks) doesn't lie there -/
namespace Go.Proofs.YtehbkhddbdgbcaaGreatDoorW.PrintWords
open Go.RowKit
namespace Kd
section
variable {α : Type} {d : Kd α} {W : World} {g n : Nat} {S ok : Nat → Prop} {A : Option Addr} {ad : Addr} {xs : List α}
end
end Kd
end Go.Proofs.YtehbkhddbdgbcaaGreatDoorW.PrintWords
