/- The words that this claim's texts use, out of those that the printer lays. -/
import Derived.SizedLaws
import Derived.ChangeSlices
namespace Go.Proofs.YtehbkhddbdgbcaaGreatDoorW.PrintWords
open Go.ChangeShapes Go.WideShapes
end Go.Proofs.YtehbkhddbdgbcaaGreatDoorW.PrintWords
