/- WRITTEN BY A PROGRAM of this session (wip/tool: a turned copy of the printer), out of the translation: Lean functions with the answers of the Go functions, and the proofs that the Go code comes to them. -/
import Derived.Test.YtbkocklahdlgkaaDoorProg
import Derived.LaidEql
import Derived.Stop.Asserts
import Derived.RowKitTokens
import Derived.Laws.Cover1
import Derived.Test.YtbkocklahdlgkaaDoorShelf
import Derived.Lib.OwnBridge
import Derived.Sort.Grow
import Derived.Maps.Own
import Derived.Maps.OwnOps
import Derived.Maps.Views
import Derived.Carry
import Derived.WalkMore
import Derived.Laws.AppendOwnNone
import Derived.Below
import Derived.Deep.Draws
import Derived.Deep.AppendLies
import Derived.Maps.AppendAt
import Derived.OwnWalk
import Derived.Laws.BytesArg
import Derived.Laws.MakeOwn
import Derived.Laws.OwnMore
import Derived.Deep.OwnRows
import Derived.Tactics
import Derived.Lib.ConvBytes
import Derived.Laws.Slices
import Derived.WalkKit
import Derived.KernelRfl
import Derived.RowKit3
import Derived.Deep.LoopGhost
import Derived.Deep.QuietTactic
import Derived.BigQuiet
import Derived.WideLaws
import Derived.Deep.DeepCutAuto
import Derived.Deep.CutBlock
import Derived.Deep.RegionHeld3
import Derived.Laws.Rows
import Derived.Lib.AppendStr
import Derived.ArgAppend
import Derived.Laws.IdiomCopy
import Derived.OrdersHeld
import Derived.Laws.BitsLemmas
import Derived.RowKit
import Derived.Test.YtbkocklahdlgkaaDoorWWords
import Derived.Test.YtbkocklahdlgkaaDoorWLast
import Derived.Test.YtbkocklahdlgkaaDoorWTab
import Derived.Test.YtbkocklahdlgkaaDoorWFour
import Derived.Test.YtbkocklahdlgkaaDoorWQPut
import Derived.Test.YtbkocklahdlgkaaDoorWApart
import Derived.Test.YtbkocklahdlgkaaDoorWArr
import Derived.Test.YtbkocklahdlgkaaDoorWZeros
import Derived.Test.YtbkocklahdlgkaaDoorWFoot
import Derived.Test.YtbkocklahdlgkaaDoorWKept
import Derived.Test.YtbkocklahdlgkaaDoorWShare
import Derived.Test.YtbkocklahdlgkaaDoorWN
import Derived.Test.YtbkocklahdlgkaaDoorWFootNe
import Derived.Test.YtbkocklahdlgkaaDoorWAt
import Derived.Test.YtbkocklahdlgkaaDoorWEqStruct
import Derived.Test.YtbkocklahdlgkaaDoorWRepsOne
import Derived.Test.YtbkocklahdlgkaaDoorWInv
import Derived.Test.YtbkocklahdlgkaaDoorWInvWords
import Derived.Test.YtbkocklahdlgkaaDoorWGuard
import Derived.Test.YtbkocklahdlgkaaDoorWNEv
import Derived.Test.YtbkocklahdlgkaaDoorWMore
namespace Go.Proofs.YtbkocklahdlgkaaDoor.PTextsBack
open Go.RowKit Go.Proofs.YtbkocklahdlgkaaDoorW.PrintWords Go.Proofs.YtbkocklahdlgkaaDoorW.PrintLast Go.Proofs.YtbkocklahdlgkaaDoorW.PrintMore
attribute [local go_sem] max2_int min2_int max_two min_two max_three min_three max_four min_four   -- for this text's walks alone
set_option linter.unusedVariables false
set_option linter.unusedSimpArgs false

def errW : Option Int → Value
  | none => .nilIface
  | some c => .iface 0 (.int .i64 c)
theorem errW_none : errW none = .nilIface := rfl
theorem errW_some (c : Int) : errW (some c) = .iface 0 (.int .i64 c) := rfl

theorem info4 : (Tryd.prog.info? 4).map (fun i => (i.zero, i.size, i.bytes)) = some (some (.bool false), 1, 1) := by kernel_rfl
theorem info5 : (Tryd.prog.info? 5).map (fun i => (i.zero, i.size, i.bytes)) = some (some (.int .u8 0), 1, 1) := by kernel_rfl
theorem info9 : (Tryd.prog.info? 9).map (fun i => (i.zero, i.size, i.bytes)) = some (some (.string ⟨#[]⟩), 1, 16) := by kernel_rfl
theorem info69 : (Tryd.prog.info? 69).map (fun i => (i.zero, i.size, i.bytes)) = some (some (.int .u64 0), 1, 8) := by kernel_rfl
-- the values' own types

end Go.Proofs.YtbkocklahdlgkaaDoor.PTextsBack
