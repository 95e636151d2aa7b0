/- WRITTEN BY A PROGRAM of this session (wip/tool: a turned copy of the printer), out of the translation: Lean functions with the answers of the Go functions, and the proofs that the Go code comes to them. -/
import Derived.Test.YtbjnfephigcdkaaProg
import Derived.LaidEql
import Derived.Stop.Asserts
import Derived.RowKitTokens
import Derived.WalkMore
import Derived.Laws.AppendOwnNone
import Derived.Below
import Derived.Deep.Draws
import Derived.Deep.AppendLies
import Derived.Maps.AppendAt
import Derived.OwnWalk
import Derived.Laws.BytesArg
import Derived.Laws.MakeOwn
import Derived.Laws.OwnMore
import Derived.Deep.OwnRows
import Derived.Tactics
import Derived.Lib.ConvBytes
import Derived.Laws.Slices
import Derived.WalkKit
import Derived.KernelRfl
import Derived.RowKit3
import Derived.Deep.LoopGhost
import Derived.Deep.QuietTactic
import Derived.BigQuiet
import Derived.WideLaws
import Derived.Deep.DeepCutAuto
import Derived.Deep.CutBlock
import Derived.Deep.RegionHeld3
import Derived.Laws.Rows
import Derived.Lib.AppendStr
import Derived.ArgAppend
import Derived.Laws.IdiomCopy
import Derived.OrdersHeld
import Derived.Laws.BitsLemmas
import Derived.RowKit
import Derived.Test.YtbjnfephigcdkaaWWords
import Derived.Test.YtbjnfephigcdkaaWLast
import Derived.Test.YtbjnfephigcdkaaWTab
import Derived.Test.YtbjnfephigcdkaaWFour
import Derived.Test.YtbjnfephigcdkaaWQPut
import Derived.Test.YtbjnfephigcdkaaWApart
import Derived.Test.YtbjnfephigcdkaaWArr
import Derived.Test.YtbjnfephigcdkaaWZeros
import Derived.Test.YtbjnfephigcdkaaWFoot
import Derived.Test.YtbjnfephigcdkaaWKept
import Derived.Test.YtbjnfephigcdkaaWShare
import Derived.Test.YtbjnfephigcdkaaWN
import Derived.Test.YtbjnfephigcdkaaWFootNe
import Derived.Test.YtbjnfephigcdkaaWAt
import Derived.Test.YtbjnfephigcdkaaWEqStruct
import Derived.Test.YtbjnfephigcdkaaWRepsOne
import Derived.Test.YtbjnfephigcdkaaWInv
import Derived.Test.YtbjnfephigcdkaaWInvWords
import Derived.Test.YtbjnfephigcdkaaWGuard
import Derived.Test.YtbjnfephigcdkaaWNEv
import Derived.Test.YtbjnfephigcdkaaWMore
namespace Go.Proofs.Ytbjnfephigcdkaa.PNumPuts
open Go.RowKit Go.Proofs.YtbjnfephigcdkaaW.PrintWords Go.Proofs.YtbjnfephigcdkaaW.PrintLast Go.Proofs.YtbjnfephigcdkaaW.PrintMore
attribute [local go_sem] max2_int min2_int max_two min_two max_three min_three max_four min_four   -- for this text's walks alone
set_option linter.unusedVariables false
set_option linter.unusedSimpArgs false

theorem R_append_nil {α : Type} (d : Kd α) {P : Program} {W : World} {ops : Array Oper} {rest : List Oper} {o : Oper} {a : Act} {Q : Exit → Act → World → Prop} (base : Nat) (hgd : o.guard = none) (s x : Operand) (t e : TypeId) (z : Value) (bytes : Nat)
    (ho : o.op = .call { callee := .builtin .append, args := #[s, x], argTypes := #[t, t] })
    (ht : P.underlying t = some (.slice e)) (hinfo : (P.info? e).map (fun i => (i.zero, i.size, i.bytes)) = some (some z, d.sz, bytes))
    (v : Value) (xs : List α) (ok : Nat → Prop) (hs : a.eval s = v) (hx : a.eval x = .slice none 0 0)
    (HO : d.R e W base ok v xs) (h : wpList P ops Q rest (a.put o.dst v) W) : wpList P ops Q (o :: rest) a W := by
  obtain ⟨inner, hown⟩ := Kd.R_own HO
  cases hi : P.info? e with
  | none => rw [hi] at hinfo; exact absurd hinfo (by simp)
  | some i => exact wpList_append_own_none hgd s x t ho base e i d.sz ht hi v _ _ hs hown hx h



def errW : Option Int → Value
  | none => .nilIface
  | some c => .iface 0 (.int .i64 c)
theorem errW_none : errW none = .nilIface := rfl
theorem errW_some (c : Int) : errW (some c) = .iface 0 (.int .i64 c) := rfl

theorem info5 : (Try.prog.info? 5).map (fun i => (i.zero, i.size, i.bytes)) = some (some (.int .u8 0), 1, 1) := by kernel_rfl
-- the values' own types

end Go.Proofs.Ytbjnfephigcdkaa.PNumPuts
