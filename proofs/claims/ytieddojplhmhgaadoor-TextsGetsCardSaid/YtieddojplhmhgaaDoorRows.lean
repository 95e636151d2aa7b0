/-
  NARROWER THAN 'FOR EVERY INPUT', by the rows' own cells (each row's printed sentence says how): ForeBack: laid · DeltaGets: laid · DeltaBack: laid · DictGets: laid · DictBack: laid · TextsGets: laid.
  DERIVED. THE GIVEN ROWS OF THIS SEAT. 6 by the template 'for every input the law returns true; each argument reads behind the call as it read before'; 0 by the template 'total and deterministic' (their statements: YtieddojplhmhgaaDoorTotals.lean).
  GIVEN WITH THE SEED: the statements are not yours to turn. If you find one false, say at which input.
  Laid BY PROGRAM, IN A SANDBOX (cutbox-rows.mjs): the forced cells as the released guide's own fill.sh prints them over the translation b4d0fc18772a2370… (all of the seat's roots in one cut). By AI agents, Wed Nov 11 2026. No macro, syntax, notation, axiom, sorry.
-/
import Derived.Test.YtieddojplhmhgaaDoorChecked
import GoSem.Claim
import GoSem.ClaimJoined
import GoSem.ClaimMapViews
import Derived.JoinedTies
import Derived.KernelRfl
namespace Go.Proofs.YtieddojplhmhgaaDoor
/- THE CELL 'sum', in the pinned program and in every row, IS THE sha256 OF THE DUMP (.gsa) THAT YtieddojplhmhgaaDoorProg.lean LOADS. Nothing in Lean hashes anything: it is a label: what it is worth is what the hold of that sum in a sandbox is worth. -/
noncomputable def Tryd.pinned : Pinned := { name := "ytieddojplhmhgaadoor", sum := "b4d0fc18772a23706e1648d223dfc77874ac10504b3a79b412d7d3508873f6e5", checked := Tryd.checked }
namespace Rows
def none {H : Type} : Left H := { results := [], args := [] }

/- WHAT THE LISTED PACKAGE-LEVEL VARIABLES READ AS WHEN THE CALL BEGINS. Each datum BY PROGRAM (the guide's laid-datum.mjs) off the statement by which the dump's own 'gosem.cut.vars' lays the variable. In a bare row this is a premise. The card (YtieddojplhmhgaaDoorCards.lean) ties it to the program's text. -/
def laid_errors_errorType {H : Type} : DataW H := .iface "internal/reflectlite.rtype" (.agg [.ptr (.lit (.string [101, 114, 114, 111, 114]))])

/-- 'estreatlaw12.ForeBack': WHATEVER THE INPUT: true; the input reads as it did. -/
def foreBackSpec : ChangeSpec := { name := "foreBack", fn := fun _ => fun
  | [d1, d2, d3] => { results := [.lit (.bool true)], args := [d1, d2, d3] }
  | _ => none }
def foreBackRow : OpenClaim := { program := "ytieddojplhmhgaadoor", sum := "b4d0fc18772a23706e1648d223dfc77874ac10504b3a79b412d7d3508873f6e5", func := "estreat/estreatlaw12.ForeBack", spec := "foreBack", inPlace := ["internal/reflectlite.ValueOf", "(internal/reflectlite.Value).Type", "(internal/reflectlite.Value).IsNil", "internal/reflectlite.TypeOf", "(internal/reflectlite.Value).Elem", "(internal/reflectlite.Value).Set"], unfollowed := true, recurses := true, named := ["errors.errorType"], apart := false, laid := [("errors.errorType", laid_errors_errorType)] }
def ForeBackSaid : Prop := foreBackRow.holds Tryd.pinned (OpenSpec.ofChange foreBackSpec)

/-- ITS FALSE NEIGHBOUR: 'it returns false'. Refute it at one input. -/
def foreBackWrong : ChangeSpec := { name := "foreBack", fn := fun _ => fun
  | [d1, d2, d3] => { results := [.lit (.bool false)], args := [d1, d2, d3] }
  | _ => none }
def ForeBackWrongFalsely : Prop := foreBackRow.holds Tryd.pinned (OpenSpec.ofChange foreBackWrong)

/-- 'estreatlaw10.DeltaGets': WHATEVER THE INPUT: true; the input reads as it did. -/
def deltaGetsSpec : ChangeSpec := { name := "deltaGets", fn := fun _ => fun
  | [d1, d2] => { results := [.lit (.bool true)], args := [d1, d2] }
  | _ => none }
def deltaGetsRow : OpenClaim := { program := "ytieddojplhmhgaadoor", sum := "b4d0fc18772a23706e1648d223dfc77874ac10504b3a79b412d7d3508873f6e5", func := "estreat/estreatlaw10.DeltaGets", spec := "deltaGets", inPlace := ["internal/reflectlite.ValueOf", "(internal/reflectlite.Value).Type", "(internal/reflectlite.Value).IsNil", "internal/reflectlite.TypeOf", "(internal/reflectlite.Value).Elem", "(internal/reflectlite.Value).Set"], unfollowed := true, recurses := true, named := ["errors.errorType"], apart := false, laid := [("errors.errorType", laid_errors_errorType)] }
def DeltaGetsSaid : Prop := deltaGetsRow.holds Tryd.pinned (OpenSpec.ofChange deltaGetsSpec)

/-- ITS FALSE NEIGHBOUR: 'it returns false'. Refute it at one input. -/
def deltaGetsWrong : ChangeSpec := { name := "deltaGets", fn := fun _ => fun
  | [d1, d2] => { results := [.lit (.bool false)], args := [d1, d2] }
  | _ => none }
def DeltaGetsWrongFalsely : Prop := deltaGetsRow.holds Tryd.pinned (OpenSpec.ofChange deltaGetsWrong)

/-- 'estreatlaw10.DeltaBack': WHATEVER THE INPUT: true; the input reads as it did. -/
def deltaBackSpec : ChangeSpec := { name := "deltaBack", fn := fun _ => fun
  | [d1, d2, d3] => { results := [.lit (.bool true)], args := [d1, d2, d3] }
  | _ => none }
def deltaBackRow : OpenClaim := { program := "ytieddojplhmhgaadoor", sum := "b4d0fc18772a23706e1648d223dfc77874ac10504b3a79b412d7d3508873f6e5", func := "estreat/estreatlaw10.DeltaBack", spec := "deltaBack", inPlace := ["internal/reflectlite.ValueOf", "(internal/reflectlite.Value).Type", "(internal/reflectlite.Value).IsNil", "internal/reflectlite.TypeOf", "(internal/reflectlite.Value).Elem", "(internal/reflectlite.Value).Set"], unfollowed := true, recurses := true, named := ["errors.errorType"], apart := false, laid := [("errors.errorType", laid_errors_errorType)] }
def DeltaBackSaid : Prop := deltaBackRow.holds Tryd.pinned (OpenSpec.ofChange deltaBackSpec)

/-- ITS FALSE NEIGHBOUR: 'it returns false'. Refute it at one input. -/
def deltaBackWrong : ChangeSpec := { name := "deltaBack", fn := fun _ => fun
  | [d1, d2, d3] => { results := [.lit (.bool false)], args := [d1, d2, d3] }
  | _ => none }
def DeltaBackWrongFalsely : Prop := deltaBackRow.holds Tryd.pinned (OpenSpec.ofChange deltaBackWrong)

/-- 'estreatlaw11.DictGets': WHATEVER THE INPUT: true; the input reads as it did. -/
def dictGetsSpec : ChangeSpec := { name := "dictGets", fn := fun _ => fun
  | [d1, d2] => { results := [.lit (.bool true)], args := [d1, d2] }
  | _ => none }
def dictGetsRow : OpenClaim := { program := "ytieddojplhmhgaadoor", sum := "b4d0fc18772a23706e1648d223dfc77874ac10504b3a79b412d7d3508873f6e5", func := "estreat/estreatlaw11.DictGets", spec := "dictGets", inPlace := ["internal/reflectlite.ValueOf", "(internal/reflectlite.Value).Type", "(internal/reflectlite.Value).IsNil", "internal/reflectlite.TypeOf", "(internal/reflectlite.Value).Elem", "(internal/reflectlite.Value).Set"], unfollowed := true, recurses := true, named := ["errors.errorType"], apart := false, laid := [("errors.errorType", laid_errors_errorType)] }
def DictGetsSaid : Prop := dictGetsRow.holds Tryd.pinned (OpenSpec.ofChange dictGetsSpec)

/-- ITS FALSE NEIGHBOUR: 'it returns false'. Refute it at one input. -/
def dictGetsWrong : ChangeSpec := { name := "dictGets", fn := fun _ => fun
  | [d1, d2] => { results := [.lit (.bool false)], args := [d1, d2] }
  | _ => none }
def DictGetsWrongFalsely : Prop := dictGetsRow.holds Tryd.pinned (OpenSpec.ofChange dictGetsWrong)

/-- 'estreatlaw11.DictBack': WHATEVER THE INPUT: true; the input reads as it did. -/
def dictBackSpec : ChangeSpec := { name := "dictBack", fn := fun _ => fun
  | [d1, d2, d3] => { results := [.lit (.bool true)], args := [d1, d2, d3] }
  | _ => none }
def dictBackRow : OpenClaim := { program := "ytieddojplhmhgaadoor", sum := "b4d0fc18772a23706e1648d223dfc77874ac10504b3a79b412d7d3508873f6e5", func := "estreat/estreatlaw11.DictBack", spec := "dictBack", inPlace := ["internal/reflectlite.ValueOf", "(internal/reflectlite.Value).Type", "(internal/reflectlite.Value).IsNil", "internal/reflectlite.TypeOf", "(internal/reflectlite.Value).Elem", "(internal/reflectlite.Value).Set"], unfollowed := true, recurses := true, named := ["errors.errorType"], apart := false, laid := [("errors.errorType", laid_errors_errorType)] }
def DictBackSaid : Prop := dictBackRow.holds Tryd.pinned (OpenSpec.ofChange dictBackSpec)

/-- ITS FALSE NEIGHBOUR: 'it returns false'. Refute it at one input. -/
def dictBackWrong : ChangeSpec := { name := "dictBack", fn := fun _ => fun
  | [d1, d2, d3] => { results := [.lit (.bool false)], args := [d1, d2, d3] }
  | _ => none }
def DictBackWrongFalsely : Prop := dictBackRow.holds Tryd.pinned (OpenSpec.ofChange dictBackWrong)

/-- 'estreatlaw13.TextsGets': WHATEVER THE INPUT: true; the input reads as it did. -/
def textsGetsSpec : ChangeSpec := { name := "textsGets", fn := fun _ => fun
  | [d1, d2] => { results := [.lit (.bool true)], args := [d1, d2] }
  | _ => none }
def textsGetsRow : OpenClaim := { program := "ytieddojplhmhgaadoor", sum := "b4d0fc18772a23706e1648d223dfc77874ac10504b3a79b412d7d3508873f6e5", func := "estreat/estreatlaw13.TextsGets", spec := "textsGets", inPlace := ["internal/reflectlite.ValueOf", "(internal/reflectlite.Value).Type", "(internal/reflectlite.Value).IsNil", "internal/reflectlite.TypeOf", "(internal/reflectlite.Value).Elem", "(internal/reflectlite.Value).Set"], unfollowed := true, recurses := true, named := ["errors.errorType"], apart := false, laid := [("errors.errorType", laid_errors_errorType)] }
def TextsGetsSaid : Prop := textsGetsRow.holds Tryd.pinned (OpenSpec.ofChange textsGetsSpec)

/-- ITS FALSE NEIGHBOUR: 'it returns false'. Refute it at one input. -/
def textsGetsWrong : ChangeSpec := { name := "textsGets", fn := fun _ => fun
  | [d1, d2] => { results := [.lit (.bool false)], args := [d1, d2] }
  | _ => none }
def TextsGetsWrongFalsely : Prop := textsGetsRow.holds Tryd.pinned (OpenSpec.ofChange textsGetsWrong)

/- THE SECOND FORM. 'bulk': how many values and letters a reading holds, each counted each time it is reached (what is shared counts as often as it is met; a slice's spare places count too). A statement '..UptoSaid' is the law's where the arguments, and the package variables that the reading takes, are together of bulk at most 1048576: NARROWER than '..Said'. Prove '..Said' where nothing that the law and all that it calls make is longer than what came in: it says more and counts as full. Else prove '..UptoSaid'. A law counts once. -/
mutual
def uptoBulk {H : Type} : DataW H → Nat
  | .lit (.string bytes) => bytes.length + 1
  | .lit _ => 1
  | .nil => 1
  | .ptr d => uptoBulk d + 1
  | .slice elems spare => uptoBulkAll elems + uptoBulkAll spare + 1
  | .agg parts => uptoBulkAll parts + 1
  | .iface _ d => uptoBulk d + 1
  | .map entries => uptoBulkEntries entries + 1
  | .held _ => 1
def uptoBulkAll {H : Type} : List (DataW H) → Nat
  | [] => 0
  | d :: r => uptoBulk d + uptoBulkAll r
def uptoBulkEntries {H : Type} : List (Lit × DataW H) → Nat
  | [] => 0
  | x :: r => uptoBulkEntry x + uptoBulkEntries r
def uptoBulkEntry {H : Type} : Lit × DataW H → Nat
  | (.string bytes, d) => bytes.length + uptoBulk d + 1
  | (_, d) => uptoBulk d + 1
 end
def uptoSmall : (H : Type) → List (DataW H) → Bool := fun _ ds => decide (uptoBulkAll ds ≤ 1048576)
def OpenSpec.upto (s : _root_.Go.ChangeSpec) : _root_.Go.OpenSpec := { _root_.Go.OpenSpec.ofChange s with cond := some uptoSmall }

/-- 'estreatlaw12.ForeBack', WHERE WHAT IT READS IS OF BULK AT MOST 1048576: true; the input reads as it did. -/
def foreBackUptoRow : OpenClaim := { program := "ytieddojplhmhgaadoor", sum := "b4d0fc18772a23706e1648d223dfc77874ac10504b3a79b412d7d3508873f6e5", func := "estreat/estreatlaw12.ForeBack", spec := "foreBack", inPlace := ["internal/reflectlite.ValueOf", "(internal/reflectlite.Value).Type", "(internal/reflectlite.Value).IsNil", "internal/reflectlite.TypeOf", "(internal/reflectlite.Value).Elem", "(internal/reflectlite.Value).Set"], unfollowed := true, recurses := true, named := ["errors.errorType"], apart := false, laid := [("errors.errorType", laid_errors_errorType)], narrowed := true }
def ForeBackUptoSaid : Prop := foreBackUptoRow.holds Tryd.pinned (OpenSpec.upto foreBackSpec)

/-- 'estreatlaw10.DeltaGets', WHERE WHAT IT READS IS OF BULK AT MOST 1048576: true; the input reads as it did. -/
def deltaGetsUptoRow : OpenClaim := { program := "ytieddojplhmhgaadoor", sum := "b4d0fc18772a23706e1648d223dfc77874ac10504b3a79b412d7d3508873f6e5", func := "estreat/estreatlaw10.DeltaGets", spec := "deltaGets", inPlace := ["internal/reflectlite.ValueOf", "(internal/reflectlite.Value).Type", "(internal/reflectlite.Value).IsNil", "internal/reflectlite.TypeOf", "(internal/reflectlite.Value).Elem", "(internal/reflectlite.Value).Set"], unfollowed := true, recurses := true, named := ["errors.errorType"], apart := false, laid := [("errors.errorType", laid_errors_errorType)], narrowed := true }
def DeltaGetsUptoSaid : Prop := deltaGetsUptoRow.holds Tryd.pinned (OpenSpec.upto deltaGetsSpec)

/-- 'estreatlaw10.DeltaBack', WHERE WHAT IT READS IS OF BULK AT MOST 1048576: true; the input reads as it did. -/
def deltaBackUptoRow : OpenClaim := { program := "ytieddojplhmhgaadoor", sum := "b4d0fc18772a23706e1648d223dfc77874ac10504b3a79b412d7d3508873f6e5", func := "estreat/estreatlaw10.DeltaBack", spec := "deltaBack", inPlace := ["internal/reflectlite.ValueOf", "(internal/reflectlite.Value).Type", "(internal/reflectlite.Value).IsNil", "internal/reflectlite.TypeOf", "(internal/reflectlite.Value).Elem", "(internal/reflectlite.Value).Set"], unfollowed := true, recurses := true, named := ["errors.errorType"], apart := false, laid := [("errors.errorType", laid_errors_errorType)], narrowed := true }
def DeltaBackUptoSaid : Prop := deltaBackUptoRow.holds Tryd.pinned (OpenSpec.upto deltaBackSpec)

/-- 'estreatlaw11.DictGets', WHERE WHAT IT READS IS OF BULK AT MOST 1048576: true; the input reads as it did. -/
def dictGetsUptoRow : OpenClaim := { program := "ytieddojplhmhgaadoor", sum := "b4d0fc18772a23706e1648d223dfc77874ac10504b3a79b412d7d3508873f6e5", func := "estreat/estreatlaw11.DictGets", spec := "dictGets", inPlace := ["internal/reflectlite.ValueOf", "(internal/reflectlite.Value).Type", "(internal/reflectlite.Value).IsNil", "internal/reflectlite.TypeOf", "(internal/reflectlite.Value).Elem", "(internal/reflectlite.Value).Set"], unfollowed := true, recurses := true, named := ["errors.errorType"], apart := false, laid := [("errors.errorType", laid_errors_errorType)], narrowed := true }
def DictGetsUptoSaid : Prop := dictGetsUptoRow.holds Tryd.pinned (OpenSpec.upto dictGetsSpec)

/-- 'estreatlaw11.DictBack', WHERE WHAT IT READS IS OF BULK AT MOST 1048576: true; the input reads as it did. -/
def dictBackUptoRow : OpenClaim := { program := "ytieddojplhmhgaadoor", sum := "b4d0fc18772a23706e1648d223dfc77874ac10504b3a79b412d7d3508873f6e5", func := "estreat/estreatlaw11.DictBack", spec := "dictBack", inPlace := ["internal/reflectlite.ValueOf", "(internal/reflectlite.Value).Type", "(internal/reflectlite.Value).IsNil", "internal/reflectlite.TypeOf", "(internal/reflectlite.Value).Elem", "(internal/reflectlite.Value).Set"], unfollowed := true, recurses := true, named := ["errors.errorType"], apart := false, laid := [("errors.errorType", laid_errors_errorType)], narrowed := true }
def DictBackUptoSaid : Prop := dictBackUptoRow.holds Tryd.pinned (OpenSpec.upto dictBackSpec)

/-- 'estreatlaw13.TextsGets', WHERE WHAT IT READS IS OF BULK AT MOST 1048576: true; the input reads as it did. -/
def textsGetsUptoRow : OpenClaim := { program := "ytieddojplhmhgaadoor", sum := "b4d0fc18772a23706e1648d223dfc77874ac10504b3a79b412d7d3508873f6e5", func := "estreat/estreatlaw13.TextsGets", spec := "textsGets", inPlace := ["internal/reflectlite.ValueOf", "(internal/reflectlite.Value).Type", "(internal/reflectlite.Value).IsNil", "internal/reflectlite.TypeOf", "(internal/reflectlite.Value).Elem", "(internal/reflectlite.Value).Set"], unfollowed := true, recurses := true, named := ["errors.errorType"], apart := false, laid := [("errors.errorType", laid_errors_errorType)], narrowed := true }
def TextsGetsUptoSaid : Prop := textsGetsUptoRow.holds Tryd.pinned (OpenSpec.upto textsGetsSpec)

end Rows
end Go.Proofs.YtieddojplhmhgaaDoor
