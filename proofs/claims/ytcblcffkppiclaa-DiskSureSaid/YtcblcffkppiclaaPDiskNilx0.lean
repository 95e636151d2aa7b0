/- WRITTEN BY A PROGRAM of this session (wip/tool: a turned copy of the printer), out of the translation: Lean functions with the answers of the Go functions, and the proofs that the Go code comes to them. -/
import Derived.Test.YtcblcffkppiclaaProg
import Derived.RangeFuncNested
import Derived.RangeFuncBound
import Derived.RangeFuncCalls
import Derived.RangeFuncLeaves
import Derived.RangeFuncFrom
import Derived.RangeFuncBox
import Derived.Shelf.Abstract
import Derived.Shelf.RegionOpen
import Derived.OwnWalkIn
import Derived.TacticsInMore
import Derived.LoopNIn
import Derived.LoopIn
import Derived.BigRegionIn
import Derived.Lib.Hide
import Derived.Maps.AppendAt
import Derived.Lib.Zigzag
import Derived.LaidEql
import Derived.Stop.Asserts
import Derived.RowKitTokens
import Derived.WalkMore
import Derived.Laws.AppendOwnNone
import Derived.Below
import Derived.Deep.Draws
import Derived.Deep.AppendLies
import Derived.Maps.AppendAt
import Derived.OwnWalk
import Derived.Laws.BytesArg
import Derived.Laws.MakeOwn
import Derived.Laws.OwnMore
import Derived.Deep.OwnRows
import Derived.Tactics
import Derived.Lib.ConvBytes
import Derived.Laws.Slices
import Derived.WalkKit
import Derived.KernelRfl
import Derived.RowKit3
import Derived.Deep.LoopGhost
import Derived.Deep.QuietTactic
import Derived.BigQuiet
import Derived.WideLaws
import Derived.Deep.DeepCutAuto
import Derived.Deep.CutBlock
import Derived.Deep.RegionHeld3
import Derived.Laws.Rows
import Derived.Lib.AppendStr
import Derived.ArgAppend
import Derived.Laws.IdiomCopy
import Derived.OrdersHeld
import Derived.Laws.BitsLemmas
import Derived.RowKit
import Derived.Test.YtcblcffkppiclaaWWords
import Derived.Test.YtcblcffkppiclaaWLast
import Derived.Test.YtcblcffkppiclaaWTab
import Derived.Test.YtcblcffkppiclaaWFour
import Derived.Test.YtcblcffkppiclaaWQPut
import Derived.Test.YtcblcffkppiclaaWApart
import Derived.Test.YtcblcffkppiclaaWArr
import Derived.Test.YtcblcffkppiclaaWZeros
import Derived.Test.YtcblcffkppiclaaWFoot
import Derived.Test.YtcblcffkppiclaaWKept
import Derived.Test.YtcblcffkppiclaaWShare
import Derived.Test.YtcblcffkppiclaaWN
import Derived.Test.YtcblcffkppiclaaWFootNe
import Derived.Test.YtcblcffkppiclaaWAt
import Derived.Test.YtcblcffkppiclaaWEqStruct
import Derived.Test.YtcblcffkppiclaaWRepsOne
import Derived.Test.YtcblcffkppiclaaWInv
import Derived.Test.YtcblcffkppiclaaWInvWords
import Derived.Test.YtcblcffkppiclaaWGuard
import Derived.Test.YtcblcffkppiclaaWNEv
import Derived.Test.YtcblcffkppiclaaWMore
namespace Go.Proofs.Ytcblcffkppiclaa.PDiskNil
open Go.RowKit Go.Proofs.YtcblcffkppiclaaW.PrintWords Go.Proofs.YtcblcffkppiclaaW.PrintLast Go.Proofs.YtcblcffkppiclaaW.PrintMore
attribute [local go_sem] max2_int min2_int max_two min_two max_three min_three max_four min_four   -- for this text's walks alone
set_option linter.unusedVariables false
set_option linter.unusedSimpArgs false

theorem R_append_nil {α : Type} (d : Kd α) {P : Program} {W : World} {ops : Array Oper} {rest : List Oper} {o : Oper} {a : Act} {Q : Exit → Act → World → Prop} (base : Nat) (hgd : o.guard = none) (s x : Operand) (t e : TypeId) (z : Value) (bytes : Nat)
    (ho : o.op = .call { callee := .builtin .append, args := #[s, x], argTypes := #[t, t] })
    (ht : P.underlying t = some (.slice e)) (hinfo : (P.info? e).map (fun i => (i.zero, i.size, i.bytes)) = some (some z, d.sz, bytes))
    (v : Value) (xs : List α) (ok : Nat → Prop) (hs : a.eval s = v) (hx : a.eval x = .slice none 0 0)
    (HO : d.R e W base ok v xs) (h : wpList P ops Q rest (a.put o.dst v) W) : wpList P ops Q (o :: rest) a W := by
  obtain ⟨inner, hown⟩ := Kd.R_own HO
  cases hi : P.info? e with
  | none => rw [hi] at hinfo; exact absurd hinfo (by simp)
  | some i => exact wpList_append_own_none hgd s x t ho base e i d.sz ht hi v _ _ hs hown hx h



def errW : Option Int → Value
  | none => .nilIface
  | some c => .iface 0 (.int .i64 c)
theorem errW_none : errW none = .nilIface := rfl
theorem errW_some (c : Int) : errW (some c) = .iface 0 (.int .i64 c) := rfl

-- the values' own types

end Go.Proofs.Ytcblcffkppiclaa.PDiskNil
