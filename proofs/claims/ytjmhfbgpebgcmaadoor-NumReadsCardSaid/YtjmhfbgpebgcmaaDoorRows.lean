/-
  NARROWER THAN 'FOR EVERY INPUT', by the rows' own cells (each row's printed sentence says how): NumCut: laid · NumBack: laid · NumReads: laid · PlainGets: laid · PlainBack: laid · RunsGets: laid · RunsBack: laid · ForeGets: laid.
  DERIVED. THE GIVEN ROWS OF THIS SEAT. 8 by the template 'for every input the law returns true; each argument reads behind the call as it read before'; 0 by the template 'total and deterministic' (their statements: YtjmhfbgpebgcmaaDoorTotals.lean).
  GIVEN WITH THE SEED: the statements are not yours to turn. If you find one false, say at which input.
  Laid BY PROGRAM, IN A SANDBOX (cutbox-rows.mjs): the forced cells as the released guide's own fill.sh prints them over the translation ee903545fba378f8… (all of the seat's roots in one cut). By AI agents, Wed Nov 11 2026. No macro, syntax, notation, axiom, sorry.
-/
import Derived.Test.YtjmhfbgpebgcmaaDoorChecked
import GoSem.Claim
import GoSem.ClaimJoined
import GoSem.ClaimMapViews
import Derived.JoinedTies
import Derived.KernelRfl
namespace Go.Proofs.YtjmhfbgpebgcmaaDoor
/- THE CELL 'sum', in the pinned program and in every row, IS THE sha256 OF THE DUMP (.gsa) THAT YtjmhfbgpebgcmaaDoorProg.lean LOADS. Nothing in Lean hashes anything: it is a label: what it is worth is what the hold of that sum in a sandbox is worth. -/
noncomputable def Tryd.pinned : Pinned := { name := "ytjmhfbgpebgcmaadoor", sum := "ee903545fba378f8eefe3ba4e9c2ce9295a1eb1895edf5d78ad794b0686c3432", checked := Tryd.checked }
namespace Rows
def none {H : Type} : Left H := { results := [], args := [] }

/- WHAT THE LISTED PACKAGE-LEVEL VARIABLES READ AS WHEN THE CALL BEGINS. Each datum BY PROGRAM (the guide's laid-datum.mjs) off the statement by which the dump's own 'gosem.cut.vars' lays the variable. In a bare row this is a premise. The card (YtjmhfbgpebgcmaaDoorCards.lean) ties it to the program's text. -/
def laid_errors_errorType {H : Type} : DataW H := .iface "internal/reflectlite.rtype" (.agg [.ptr (.lit (.string [101, 114, 114, 111, 114]))])

/-- 'estreatlaw01.NumCut': WHATEVER THE INPUT: true; the input reads as it did. -/
def numCutSpec : ChangeSpec := { name := "numCut", fn := fun _ => fun
  | [d1, d2] => { results := [.lit (.bool true)], args := [d1, d2] }
  | _ => none }
def numCutRow : OpenClaim := { program := "ytjmhfbgpebgcmaadoor", sum := "ee903545fba378f8eefe3ba4e9c2ce9295a1eb1895edf5d78ad794b0686c3432", func := "estreat/estreatlaw01.NumCut", spec := "numCut", inPlace := ["internal/reflectlite.ValueOf", "(internal/reflectlite.Value).Type", "(internal/reflectlite.Value).IsNil", "internal/reflectlite.TypeOf", "(internal/reflectlite.Value).Elem", "(internal/reflectlite.Value).Set"], unfollowed := true, recurses := true, named := ["errors.errorType"], apart := false, laid := [("errors.errorType", laid_errors_errorType)] }
def NumCutSaid : Prop := numCutRow.holds Tryd.pinned (OpenSpec.ofChange numCutSpec)

/-- ITS FALSE NEIGHBOUR: 'it returns false'. Refute it at one input. -/
def numCutWrong : ChangeSpec := { name := "numCut", fn := fun _ => fun
  | [d1, d2] => { results := [.lit (.bool false)], args := [d1, d2] }
  | _ => none }
def NumCutWrongFalsely : Prop := numCutRow.holds Tryd.pinned (OpenSpec.ofChange numCutWrong)

/-- 'estreatlaw01.NumBack': WHATEVER THE INPUT: true; the input reads as it did. -/
def numBackSpec : ChangeSpec := { name := "numBack", fn := fun _ => fun
  | [d1, d2, d3, d4] => { results := [.lit (.bool true)], args := [d1, d2, d3, d4] }
  | _ => none }
def numBackRow : OpenClaim := { program := "ytjmhfbgpebgcmaadoor", sum := "ee903545fba378f8eefe3ba4e9c2ce9295a1eb1895edf5d78ad794b0686c3432", func := "estreat/estreatlaw01.NumBack", spec := "numBack", inPlace := ["internal/reflectlite.ValueOf", "(internal/reflectlite.Value).Type", "(internal/reflectlite.Value).IsNil", "internal/reflectlite.TypeOf", "(internal/reflectlite.Value).Elem", "(internal/reflectlite.Value).Set"], unfollowed := true, recurses := true, named := ["errors.errorType"], apart := false, laid := [("errors.errorType", laid_errors_errorType)] }
def NumBackSaid : Prop := numBackRow.holds Tryd.pinned (OpenSpec.ofChange numBackSpec)

/-- ITS FALSE NEIGHBOUR: 'it returns false'. Refute it at one input. -/
def numBackWrong : ChangeSpec := { name := "numBack", fn := fun _ => fun
  | [d1, d2, d3, d4] => { results := [.lit (.bool false)], args := [d1, d2, d3, d4] }
  | _ => none }
def NumBackWrongFalsely : Prop := numBackRow.holds Tryd.pinned (OpenSpec.ofChange numBackWrong)

/-- 'estreatlaw01.NumReads': WHATEVER THE INPUT: true; the input reads as it did. -/
def numReadsSpec : ChangeSpec := { name := "numReads", fn := fun _ => fun
  | [d1, d2] => { results := [.lit (.bool true)], args := [d1, d2] }
  | _ => none }
def numReadsRow : OpenClaim := { program := "ytjmhfbgpebgcmaadoor", sum := "ee903545fba378f8eefe3ba4e9c2ce9295a1eb1895edf5d78ad794b0686c3432", func := "estreat/estreatlaw01.NumReads", spec := "numReads", inPlace := ["internal/reflectlite.ValueOf", "(internal/reflectlite.Value).Type", "(internal/reflectlite.Value).IsNil", "internal/reflectlite.TypeOf", "(internal/reflectlite.Value).Elem", "(internal/reflectlite.Value).Set"], unfollowed := true, recurses := true, named := ["errors.errorType"], apart := false, laid := [("errors.errorType", laid_errors_errorType)] }
def NumReadsSaid : Prop := numReadsRow.holds Tryd.pinned (OpenSpec.ofChange numReadsSpec)

/-- ITS FALSE NEIGHBOUR: 'it returns false'. Refute it at one input. -/
def numReadsWrong : ChangeSpec := { name := "numReads", fn := fun _ => fun
  | [d1, d2] => { results := [.lit (.bool false)], args := [d1, d2] }
  | _ => none }
def NumReadsWrongFalsely : Prop := numReadsRow.holds Tryd.pinned (OpenSpec.ofChange numReadsWrong)

/-- 'estreatlaw08.PlainGets': WHATEVER THE INPUT: true; the input reads as it did. -/
def plainGetsSpec : ChangeSpec := { name := "plainGets", fn := fun _ => fun
  | [d1, d2] => { results := [.lit (.bool true)], args := [d1, d2] }
  | _ => none }
def plainGetsRow : OpenClaim := { program := "ytjmhfbgpebgcmaadoor", sum := "ee903545fba378f8eefe3ba4e9c2ce9295a1eb1895edf5d78ad794b0686c3432", func := "estreat/estreatlaw08.PlainGets", spec := "plainGets", inPlace := ["internal/reflectlite.ValueOf", "(internal/reflectlite.Value).Type", "(internal/reflectlite.Value).IsNil", "internal/reflectlite.TypeOf", "(internal/reflectlite.Value).Elem", "(internal/reflectlite.Value).Set"], unfollowed := true, recurses := true, named := ["errors.errorType"], apart := false, laid := [("errors.errorType", laid_errors_errorType)] }
def PlainGetsSaid : Prop := plainGetsRow.holds Tryd.pinned (OpenSpec.ofChange plainGetsSpec)

/-- ITS FALSE NEIGHBOUR: 'it returns false'. Refute it at one input. -/
def plainGetsWrong : ChangeSpec := { name := "plainGets", fn := fun _ => fun
  | [d1, d2] => { results := [.lit (.bool false)], args := [d1, d2] }
  | _ => none }
def PlainGetsWrongFalsely : Prop := plainGetsRow.holds Tryd.pinned (OpenSpec.ofChange plainGetsWrong)

/-- 'estreatlaw08.PlainBack': WHATEVER THE INPUT: true; the input reads as it did. -/
def plainBackSpec : ChangeSpec := { name := "plainBack", fn := fun _ => fun
  | [d1, d2, d3] => { results := [.lit (.bool true)], args := [d1, d2, d3] }
  | _ => none }
def plainBackRow : OpenClaim := { program := "ytjmhfbgpebgcmaadoor", sum := "ee903545fba378f8eefe3ba4e9c2ce9295a1eb1895edf5d78ad794b0686c3432", func := "estreat/estreatlaw08.PlainBack", spec := "plainBack", inPlace := ["internal/reflectlite.ValueOf", "(internal/reflectlite.Value).Type", "(internal/reflectlite.Value).IsNil", "internal/reflectlite.TypeOf", "(internal/reflectlite.Value).Elem", "(internal/reflectlite.Value).Set"], unfollowed := true, recurses := true, named := ["errors.errorType"], apart := false, laid := [("errors.errorType", laid_errors_errorType)] }
def PlainBackSaid : Prop := plainBackRow.holds Tryd.pinned (OpenSpec.ofChange plainBackSpec)

/-- ITS FALSE NEIGHBOUR: 'it returns false'. Refute it at one input. -/
def plainBackWrong : ChangeSpec := { name := "plainBack", fn := fun _ => fun
  | [d1, d2, d3] => { results := [.lit (.bool false)], args := [d1, d2, d3] }
  | _ => none }
def PlainBackWrongFalsely : Prop := plainBackRow.holds Tryd.pinned (OpenSpec.ofChange plainBackWrong)

/-- 'estreatlaw09.RunsGets': WHATEVER THE INPUT: true; the input reads as it did. -/
def runsGetsSpec : ChangeSpec := { name := "runsGets", fn := fun _ => fun
  | [d1, d2] => { results := [.lit (.bool true)], args := [d1, d2] }
  | _ => none }
def runsGetsRow : OpenClaim := { program := "ytjmhfbgpebgcmaadoor", sum := "ee903545fba378f8eefe3ba4e9c2ce9295a1eb1895edf5d78ad794b0686c3432", func := "estreat/estreatlaw09.RunsGets", spec := "runsGets", inPlace := ["internal/reflectlite.ValueOf", "(internal/reflectlite.Value).Type", "(internal/reflectlite.Value).IsNil", "internal/reflectlite.TypeOf", "(internal/reflectlite.Value).Elem", "(internal/reflectlite.Value).Set"], unfollowed := true, recurses := true, named := ["errors.errorType"], apart := false, laid := [("errors.errorType", laid_errors_errorType)] }
def RunsGetsSaid : Prop := runsGetsRow.holds Tryd.pinned (OpenSpec.ofChange runsGetsSpec)

/-- ITS FALSE NEIGHBOUR: 'it returns false'. Refute it at one input. -/
def runsGetsWrong : ChangeSpec := { name := "runsGets", fn := fun _ => fun
  | [d1, d2] => { results := [.lit (.bool false)], args := [d1, d2] }
  | _ => none }
def RunsGetsWrongFalsely : Prop := runsGetsRow.holds Tryd.pinned (OpenSpec.ofChange runsGetsWrong)

/-- 'estreatlaw09.RunsBack': WHATEVER THE INPUT: true; the input reads as it did. -/
def runsBackSpec : ChangeSpec := { name := "runsBack", fn := fun _ => fun
  | [d1, d2, d3, d4] => { results := [.lit (.bool true)], args := [d1, d2, d3, d4] }
  | _ => none }
def runsBackRow : OpenClaim := { program := "ytjmhfbgpebgcmaadoor", sum := "ee903545fba378f8eefe3ba4e9c2ce9295a1eb1895edf5d78ad794b0686c3432", func := "estreat/estreatlaw09.RunsBack", spec := "runsBack", inPlace := ["internal/reflectlite.ValueOf", "(internal/reflectlite.Value).Type", "(internal/reflectlite.Value).IsNil", "internal/reflectlite.TypeOf", "(internal/reflectlite.Value).Elem", "(internal/reflectlite.Value).Set"], unfollowed := true, recurses := true, named := ["errors.errorType"], apart := false, laid := [("errors.errorType", laid_errors_errorType)] }
def RunsBackSaid : Prop := runsBackRow.holds Tryd.pinned (OpenSpec.ofChange runsBackSpec)

/-- ITS FALSE NEIGHBOUR: 'it returns false'. Refute it at one input. -/
def runsBackWrong : ChangeSpec := { name := "runsBack", fn := fun _ => fun
  | [d1, d2, d3, d4] => { results := [.lit (.bool false)], args := [d1, d2, d3, d4] }
  | _ => none }
def RunsBackWrongFalsely : Prop := runsBackRow.holds Tryd.pinned (OpenSpec.ofChange runsBackWrong)

/-- 'estreatlaw12.ForeGets': WHATEVER THE INPUT: true; the input reads as it did. -/
def foreGetsSpec : ChangeSpec := { name := "foreGets", fn := fun _ => fun
  | [d1, d2] => { results := [.lit (.bool true)], args := [d1, d2] }
  | _ => none }
def foreGetsRow : OpenClaim := { program := "ytjmhfbgpebgcmaadoor", sum := "ee903545fba378f8eefe3ba4e9c2ce9295a1eb1895edf5d78ad794b0686c3432", func := "estreat/estreatlaw12.ForeGets", spec := "foreGets", inPlace := ["internal/reflectlite.ValueOf", "(internal/reflectlite.Value).Type", "(internal/reflectlite.Value).IsNil", "internal/reflectlite.TypeOf", "(internal/reflectlite.Value).Elem", "(internal/reflectlite.Value).Set"], unfollowed := true, recurses := true, named := ["errors.errorType"], apart := false, laid := [("errors.errorType", laid_errors_errorType)] }
def ForeGetsSaid : Prop := foreGetsRow.holds Tryd.pinned (OpenSpec.ofChange foreGetsSpec)

/-- ITS FALSE NEIGHBOUR: 'it returns false'. Refute it at one input. -/
def foreGetsWrong : ChangeSpec := { name := "foreGets", fn := fun _ => fun
  | [d1, d2] => { results := [.lit (.bool false)], args := [d1, d2] }
  | _ => none }
def ForeGetsWrongFalsely : Prop := foreGetsRow.holds Tryd.pinned (OpenSpec.ofChange foreGetsWrong)

/- THE SECOND FORM. 'bulk': how many values and letters a reading holds, each counted each time it is reached (what is shared counts as often as it is met; a slice's spare places count too). A statement '..UptoSaid' is the law's where the arguments, and the package variables that the reading takes, are together of bulk at most 1048576: NARROWER than '..Said'. Prove '..Said' where nothing that the law and all that it calls make is longer than what came in: it says more and counts as full. Else prove '..UptoSaid'. A law counts once. -/
mutual
def uptoBulk {H : Type} : DataW H → Nat
  | .lit (.string bytes) => bytes.length + 1
  | .lit _ => 1
  | .nil => 1
  | .ptr d => uptoBulk d + 1
  | .slice elems spare => uptoBulkAll elems + uptoBulkAll spare + 1
  | .agg parts => uptoBulkAll parts + 1
  | .iface _ d => uptoBulk d + 1
  | .map entries => uptoBulkEntries entries + 1
  | .held _ => 1
def uptoBulkAll {H : Type} : List (DataW H) → Nat
  | [] => 0
  | d :: r => uptoBulk d + uptoBulkAll r
def uptoBulkEntries {H : Type} : List (Lit × DataW H) → Nat
  | [] => 0
  | x :: r => uptoBulkEntry x + uptoBulkEntries r
def uptoBulkEntry {H : Type} : Lit × DataW H → Nat
  | (.string bytes, d) => bytes.length + uptoBulk d + 1
  | (_, d) => uptoBulk d + 1
 end
def uptoSmall : (H : Type) → List (DataW H) → Bool := fun _ ds => decide (uptoBulkAll ds ≤ 1048576)
def OpenSpec.upto (s : _root_.Go.ChangeSpec) : _root_.Go.OpenSpec := { _root_.Go.OpenSpec.ofChange s with cond := some uptoSmall }

/-- 'estreatlaw01.NumCut', WHERE WHAT IT READS IS OF BULK AT MOST 1048576: true; the input reads as it did. -/
def numCutUptoRow : OpenClaim := { program := "ytjmhfbgpebgcmaadoor", sum := "ee903545fba378f8eefe3ba4e9c2ce9295a1eb1895edf5d78ad794b0686c3432", func := "estreat/estreatlaw01.NumCut", spec := "numCut", inPlace := ["internal/reflectlite.ValueOf", "(internal/reflectlite.Value).Type", "(internal/reflectlite.Value).IsNil", "internal/reflectlite.TypeOf", "(internal/reflectlite.Value).Elem", "(internal/reflectlite.Value).Set"], unfollowed := true, recurses := true, named := ["errors.errorType"], apart := false, laid := [("errors.errorType", laid_errors_errorType)], narrowed := true }
def NumCutUptoSaid : Prop := numCutUptoRow.holds Tryd.pinned (OpenSpec.upto numCutSpec)

/-- 'estreatlaw01.NumBack', WHERE WHAT IT READS IS OF BULK AT MOST 1048576: true; the input reads as it did. -/
def numBackUptoRow : OpenClaim := { program := "ytjmhfbgpebgcmaadoor", sum := "ee903545fba378f8eefe3ba4e9c2ce9295a1eb1895edf5d78ad794b0686c3432", func := "estreat/estreatlaw01.NumBack", spec := "numBack", inPlace := ["internal/reflectlite.ValueOf", "(internal/reflectlite.Value).Type", "(internal/reflectlite.Value).IsNil", "internal/reflectlite.TypeOf", "(internal/reflectlite.Value).Elem", "(internal/reflectlite.Value).Set"], unfollowed := true, recurses := true, named := ["errors.errorType"], apart := false, laid := [("errors.errorType", laid_errors_errorType)], narrowed := true }
def NumBackUptoSaid : Prop := numBackUptoRow.holds Tryd.pinned (OpenSpec.upto numBackSpec)

/-- 'estreatlaw01.NumReads', WHERE WHAT IT READS IS OF BULK AT MOST 1048576: true; the input reads as it did. -/
def numReadsUptoRow : OpenClaim := { program := "ytjmhfbgpebgcmaadoor", sum := "ee903545fba378f8eefe3ba4e9c2ce9295a1eb1895edf5d78ad794b0686c3432", func := "estreat/estreatlaw01.NumReads", spec := "numReads", inPlace := ["internal/reflectlite.ValueOf", "(internal/reflectlite.Value).Type", "(internal/reflectlite.Value).IsNil", "internal/reflectlite.TypeOf", "(internal/reflectlite.Value).Elem", "(internal/reflectlite.Value).Set"], unfollowed := true, recurses := true, named := ["errors.errorType"], apart := false, laid := [("errors.errorType", laid_errors_errorType)], narrowed := true }
def NumReadsUptoSaid : Prop := numReadsUptoRow.holds Tryd.pinned (OpenSpec.upto numReadsSpec)

/-- 'estreatlaw08.PlainGets', WHERE WHAT IT READS IS OF BULK AT MOST 1048576: true; the input reads as it did. -/
def plainGetsUptoRow : OpenClaim := { program := "ytjmhfbgpebgcmaadoor", sum := "ee903545fba378f8eefe3ba4e9c2ce9295a1eb1895edf5d78ad794b0686c3432", func := "estreat/estreatlaw08.PlainGets", spec := "plainGets", inPlace := ["internal/reflectlite.ValueOf", "(internal/reflectlite.Value).Type", "(internal/reflectlite.Value).IsNil", "internal/reflectlite.TypeOf", "(internal/reflectlite.Value).Elem", "(internal/reflectlite.Value).Set"], unfollowed := true, recurses := true, named := ["errors.errorType"], apart := false, laid := [("errors.errorType", laid_errors_errorType)], narrowed := true }
def PlainGetsUptoSaid : Prop := plainGetsUptoRow.holds Tryd.pinned (OpenSpec.upto plainGetsSpec)

/-- 'estreatlaw08.PlainBack', WHERE WHAT IT READS IS OF BULK AT MOST 1048576: true; the input reads as it did. -/
def plainBackUptoRow : OpenClaim := { program := "ytjmhfbgpebgcmaadoor", sum := "ee903545fba378f8eefe3ba4e9c2ce9295a1eb1895edf5d78ad794b0686c3432", func := "estreat/estreatlaw08.PlainBack", spec := "plainBack", inPlace := ["internal/reflectlite.ValueOf", "(internal/reflectlite.Value).Type", "(internal/reflectlite.Value).IsNil", "internal/reflectlite.TypeOf", "(internal/reflectlite.Value).Elem", "(internal/reflectlite.Value).Set"], unfollowed := true, recurses := true, named := ["errors.errorType"], apart := false, laid := [("errors.errorType", laid_errors_errorType)], narrowed := true }
def PlainBackUptoSaid : Prop := plainBackUptoRow.holds Tryd.pinned (OpenSpec.upto plainBackSpec)

/-- 'estreatlaw09.RunsGets', WHERE WHAT IT READS IS OF BULK AT MOST 1048576: true; the input reads as it did. -/
def runsGetsUptoRow : OpenClaim := { program := "ytjmhfbgpebgcmaadoor", sum := "ee903545fba378f8eefe3ba4e9c2ce9295a1eb1895edf5d78ad794b0686c3432", func := "estreat/estreatlaw09.RunsGets", spec := "runsGets", inPlace := ["internal/reflectlite.ValueOf", "(internal/reflectlite.Value).Type", "(internal/reflectlite.Value).IsNil", "internal/reflectlite.TypeOf", "(internal/reflectlite.Value).Elem", "(internal/reflectlite.Value).Set"], unfollowed := true, recurses := true, named := ["errors.errorType"], apart := false, laid := [("errors.errorType", laid_errors_errorType)], narrowed := true }
def RunsGetsUptoSaid : Prop := runsGetsUptoRow.holds Tryd.pinned (OpenSpec.upto runsGetsSpec)

/-- 'estreatlaw09.RunsBack', WHERE WHAT IT READS IS OF BULK AT MOST 1048576: true; the input reads as it did. -/
def runsBackUptoRow : OpenClaim := { program := "ytjmhfbgpebgcmaadoor", sum := "ee903545fba378f8eefe3ba4e9c2ce9295a1eb1895edf5d78ad794b0686c3432", func := "estreat/estreatlaw09.RunsBack", spec := "runsBack", inPlace := ["internal/reflectlite.ValueOf", "(internal/reflectlite.Value).Type", "(internal/reflectlite.Value).IsNil", "internal/reflectlite.TypeOf", "(internal/reflectlite.Value).Elem", "(internal/reflectlite.Value).Set"], unfollowed := true, recurses := true, named := ["errors.errorType"], apart := false, laid := [("errors.errorType", laid_errors_errorType)], narrowed := true }
def RunsBackUptoSaid : Prop := runsBackUptoRow.holds Tryd.pinned (OpenSpec.upto runsBackSpec)

/-- 'estreatlaw12.ForeGets', WHERE WHAT IT READS IS OF BULK AT MOST 1048576: true; the input reads as it did. -/
def foreGetsUptoRow : OpenClaim := { program := "ytjmhfbgpebgcmaadoor", sum := "ee903545fba378f8eefe3ba4e9c2ce9295a1eb1895edf5d78ad794b0686c3432", func := "estreat/estreatlaw12.ForeGets", spec := "foreGets", inPlace := ["internal/reflectlite.ValueOf", "(internal/reflectlite.Value).Type", "(internal/reflectlite.Value).IsNil", "internal/reflectlite.TypeOf", "(internal/reflectlite.Value).Elem", "(internal/reflectlite.Value).Set"], unfollowed := true, recurses := true, named := ["errors.errorType"], apart := false, laid := [("errors.errorType", laid_errors_errorType)], narrowed := true }
def ForeGetsUptoSaid : Prop := foreGetsUptoRow.holds Tryd.pinned (OpenSpec.upto foreGetsSpec)

end Rows
end Go.Proofs.YtjmhfbgpebgcmaaDoor
