/-
  NARROWER THAN 'FOR EVERY INPUT', by the rows' own cells (each row's printed sentence says how): TextsBack: laid · ScanParts: loops, laid · ScanCounts: loops, laid · ScanGathers: loops, laid.
  DERIVED. THE GIVEN ROWS OF THIS SEAT. 4 by the template 'for every input the law returns true; each argument reads behind the call as it read before'; 0 by the template 'total and deterministic' (their statements: YtbkocklahdlgkaaDoorTotals.lean).
  GIVEN WITH THE SEED: the statements are not yours to turn. If you find one false, say at which input.
  Laid BY PROGRAM, IN A SANDBOX (cutbox-rows.mjs): the forced cells as the released guide's own fill.sh prints them over the translation 899a38eafb1f05be… (all of the seat's roots in one cut). By AI agents, Wed Nov 11 2026. No macro, syntax, notation, axiom, sorry.
-/
import Derived.Test.YtbkocklahdlgkaaDoorChecked
import GoSem.Claim
import GoSem.ClaimJoined
import GoSem.ClaimMapViews
import Derived.JoinedTies
import Derived.KernelRfl
namespace Go.Proofs.YtbkocklahdlgkaaDoor
/- THE CELL 'sum', in the pinned program and in every row, IS THE sha256 OF THE DUMP (.gsa) THAT YtbkocklahdlgkaaDoorProg.lean LOADS. Nothing in Lean hashes anything: it is a label: what it is worth is what the hold of that sum in a sandbox is worth. -/
noncomputable def Tryd.pinned : Pinned := { name := "ytbkocklahdlgkaadoor", sum := "899a38eafb1f05bef4da776f8a089e9ee3031c0aed032786d27eb7d1ae497a71", checked := Tryd.checked }
namespace Rows
def none {H : Type} : Left H := { results := [], args := [] }

/- WHAT THE LISTED PACKAGE-LEVEL VARIABLES READ AS WHEN THE CALL BEGINS. Each datum BY PROGRAM (the guide's laid-datum.mjs) off the statement by which the dump's own 'gosem.cut.vars' lays the variable. In a bare row this is a premise. The card (YtbkocklahdlgkaaDoorCards.lean) ties it to the program's text. -/
def laid_errors_errorType {H : Type} : DataW H := .iface "internal/reflectlite.rtype" (.agg [.ptr (.lit (.string [101, 114, 114, 111, 114]))])
def laid_estreat_pred_shapes {H : Type} : DataW H := .agg [.agg [.lit (.bool false), .lit (.int .i64 0), .lit (.int .i64 0), .lit (.int .i64 0), .lit (.int .i64 0)], .agg [.lit (.bool true), .lit (.int .i64 1), .lit (.int .i64 1), .lit (.int .i64 0), .lit (.int .i64 0)], .agg [.lit (.bool true), .lit (.int .i64 1), .lit (.int .i64 1), .lit (.int .i64 0), .lit (.int .i64 0)], .agg [.lit (.bool true), .lit (.int .i64 1), .lit (.int .i64 1), .lit (.int .i64 0), .lit (.int .i64 0)], .agg [.lit (.bool true), .lit (.int .i64 1), .lit (.int .i64 1), .lit (.int .i64 0), .lit (.int .i64 0)], .agg [.lit (.bool true), .lit (.int .i64 1), .lit (.int .i64 1), .lit (.int .i64 0), .lit (.int .i64 0)], .agg [.lit (.bool true), .lit (.int .i64 1), .lit (.int .i64 1), .lit (.int .i64 0), .lit (.int .i64 0)], .agg [.lit (.bool true), .lit (.int .i64 0), .lit (.int .i64 256), .lit (.int .i64 0), .lit (.int .i64 0)], .agg [.lit (.bool true), .lit (.int .i64 2), .lit (.int .i64 2), .lit (.int .i64 0), .lit (.int .i64 0)], .agg [.lit (.bool true), .lit (.int .i64 0), .lit (.int .i64 0), .lit (.int .i64 0), .lit (.int .i64 0)], .agg [.lit (.bool false), .lit (.int .i64 0), .lit (.int .i64 0), .lit (.int .i64 1), .lit (.int .i64 256)], .agg [.lit (.bool false), .lit (.int .i64 0), .lit (.int .i64 0), .lit (.int .i64 1), .lit (.int .i64 256)], .agg [.lit (.bool false), .lit (.int .i64 0), .lit (.int .i64 0), .lit (.int .i64 1), .lit (.int .i64 1)]]

/-- 'estreatlaw13.TextsBack': WHATEVER THE INPUT: true; the input reads as it did. -/
def textsBackSpec : ChangeSpec := { name := "textsBack", fn := fun _ => fun
  | [d1, d2, d3, d4] => { results := [.lit (.bool true)], args := [d1, d2, d3, d4] }
  | _ => none }
def textsBackRow : OpenClaim := { program := "ytbkocklahdlgkaadoor", sum := "899a38eafb1f05bef4da776f8a089e9ee3031c0aed032786d27eb7d1ae497a71", func := "estreat/estreatlaw13.TextsBack", spec := "textsBack", inPlace := ["internal/reflectlite.ValueOf", "(internal/reflectlite.Value).Type", "(internal/reflectlite.Value).IsNil", "internal/reflectlite.TypeOf", "(internal/reflectlite.Value).Elem", "(internal/reflectlite.Value).Set"], unfollowed := true, recurses := true, named := ["errors.errorType"], plainKeys := false, apart := false, laid := [("errors.errorType", laid_errors_errorType)] }
def TextsBackSaid : Prop := textsBackRow.holds Tryd.pinned (OpenSpec.ofChange textsBackSpec)

/-- ITS FALSE NEIGHBOUR: 'it returns false'. Refute it at one input. -/
def textsBackWrong : ChangeSpec := { name := "textsBack", fn := fun _ => fun
  | [d1, d2, d3, d4] => { results := [.lit (.bool false)], args := [d1, d2, d3, d4] }
  | _ => none }
def TextsBackWrongFalsely : Prop := textsBackRow.holds Tryd.pinned (OpenSpec.ofChange textsBackWrong)

/-- 'estreatlaw23.ScanParts': WHATEVER THE INPUT: true; the input reads as it did. -/
def scanPartsSpec : ChangeSpec := { name := "scanParts", fn := fun _ => fun
  | [d1, d2, d3, d4] => { results := [.lit (.bool true)], args := [d1, d2, d3, d4] }
  | _ => none }
def scanPartsRow : OpenClaim := { program := "ytbkocklahdlgkaadoor", sum := "899a38eafb1f05bef4da776f8a089e9ee3031c0aed032786d27eb7d1ae497a71", func := "estreat/estreatlaw23.ScanParts", spec := "scanParts", unfollowed := true, recurses := true, named := ["estreat/pred.shapes"], loops := true, plainKeys := false, apart := false, laid := [("estreat/pred.shapes", laid_estreat_pred_shapes)] }
def ScanPartsSaid : Prop := scanPartsRow.holds Tryd.pinned (OpenSpec.ofChange scanPartsSpec)

/-- ITS FALSE NEIGHBOUR: 'it returns false'. Refute it at one input. -/
def scanPartsWrong : ChangeSpec := { name := "scanParts", fn := fun _ => fun
  | [d1, d2, d3, d4] => { results := [.lit (.bool false)], args := [d1, d2, d3, d4] }
  | _ => none }
def ScanPartsWrongFalsely : Prop := scanPartsRow.holds Tryd.pinned (OpenSpec.ofChange scanPartsWrong)

/-- 'estreatlaw23.ScanCounts': WHATEVER THE INPUT: true; the input reads as it did. -/
def scanCountsSpec : ChangeSpec := { name := "scanCounts", fn := fun _ => fun
  | [d1, d2, d3, d4, d5] => { results := [.lit (.bool true)], args := [d1, d2, d3, d4, d5] }
  | _ => none }
def scanCountsRow : OpenClaim := { program := "ytbkocklahdlgkaadoor", sum := "899a38eafb1f05bef4da776f8a089e9ee3031c0aed032786d27eb7d1ae497a71", func := "estreat/estreatlaw23.ScanCounts", spec := "scanCounts", unfollowed := true, recurses := true, named := ["estreat/pred.shapes"], loops := true, plainKeys := false, apart := false, laid := [("estreat/pred.shapes", laid_estreat_pred_shapes)] }
def ScanCountsSaid : Prop := scanCountsRow.holds Tryd.pinned (OpenSpec.ofChange scanCountsSpec)

/-- ITS FALSE NEIGHBOUR: 'it returns false'. Refute it at one input. -/
def scanCountsWrong : ChangeSpec := { name := "scanCounts", fn := fun _ => fun
  | [d1, d2, d3, d4, d5] => { results := [.lit (.bool false)], args := [d1, d2, d3, d4, d5] }
  | _ => none }
def ScanCountsWrongFalsely : Prop := scanCountsRow.holds Tryd.pinned (OpenSpec.ofChange scanCountsWrong)

/-- 'estreatlaw23.ScanGathers': WHATEVER THE INPUT: true; the input reads as it did. -/
def scanGathersSpec : ChangeSpec := { name := "scanGathers", fn := fun _ => fun
  | [d1, d2, d3] => { results := [.lit (.bool true)], args := [d1, d2, d3] }
  | _ => none }
def scanGathersRow : OpenClaim := { program := "ytbkocklahdlgkaadoor", sum := "899a38eafb1f05bef4da776f8a089e9ee3031c0aed032786d27eb7d1ae497a71", func := "estreat/estreatlaw23.ScanGathers", spec := "scanGathers", unfollowed := true, recurses := true, named := ["estreat/pred.shapes"], loops := true, plainKeys := false, apart := false, laid := [("estreat/pred.shapes", laid_estreat_pred_shapes)] }
def ScanGathersSaid : Prop := scanGathersRow.holds Tryd.pinned (OpenSpec.ofChange scanGathersSpec)

/-- ITS FALSE NEIGHBOUR: 'it returns false'. Refute it at one input. -/
def scanGathersWrong : ChangeSpec := { name := "scanGathers", fn := fun _ => fun
  | [d1, d2, d3] => { results := [.lit (.bool false)], args := [d1, d2, d3] }
  | _ => none }
def ScanGathersWrongFalsely : Prop := scanGathersRow.holds Tryd.pinned (OpenSpec.ofChange scanGathersWrong)

/- THE SECOND FORM. 'bulk': how many values and letters a reading holds, each counted each time it is reached (what is shared counts as often as it is met; a slice's spare places count too). A statement '..UptoSaid' is the law's where the arguments, and the package variables that the reading takes, are together of bulk at most 1048576: NARROWER than '..Said'. Prove '..Said' where nothing that the law and all that it calls make is longer than what came in: it says more and counts as full. Else prove '..UptoSaid'. A law counts once. -/
mutual
def uptoBulk {H : Type} : DataW H → Nat
  | .lit (.string bytes) => bytes.length + 1
  | .lit _ => 1
  | .nil => 1
  | .ptr d => uptoBulk d + 1
  | .slice elems spare => uptoBulkAll elems + uptoBulkAll spare + 1
  | .agg parts => uptoBulkAll parts + 1
  | .iface _ d => uptoBulk d + 1
  | .map entries => uptoBulkEntries entries + 1
  | .held _ => 1
def uptoBulkAll {H : Type} : List (DataW H) → Nat
  | [] => 0
  | d :: r => uptoBulk d + uptoBulkAll r
def uptoBulkEntries {H : Type} : List (Lit × DataW H) → Nat
  | [] => 0
  | x :: r => uptoBulkEntry x + uptoBulkEntries r
def uptoBulkEntry {H : Type} : Lit × DataW H → Nat
  | (.string bytes, d) => bytes.length + uptoBulk d + 1
  | (_, d) => uptoBulk d + 1
 end
def uptoSmall : (H : Type) → List (DataW H) → Bool := fun _ ds => decide (uptoBulkAll ds ≤ 1048576)
def OpenSpec.upto (s : _root_.Go.ChangeSpec) : _root_.Go.OpenSpec := { _root_.Go.OpenSpec.ofChange s with cond := some uptoSmall }

/-- 'estreatlaw13.TextsBack', WHERE WHAT IT READS IS OF BULK AT MOST 1048576: true; the input reads as it did. -/
def textsBackUptoRow : OpenClaim := { program := "ytbkocklahdlgkaadoor", sum := "899a38eafb1f05bef4da776f8a089e9ee3031c0aed032786d27eb7d1ae497a71", func := "estreat/estreatlaw13.TextsBack", spec := "textsBack", inPlace := ["internal/reflectlite.ValueOf", "(internal/reflectlite.Value).Type", "(internal/reflectlite.Value).IsNil", "internal/reflectlite.TypeOf", "(internal/reflectlite.Value).Elem", "(internal/reflectlite.Value).Set"], unfollowed := true, recurses := true, named := ["errors.errorType"], plainKeys := false, apart := false, laid := [("errors.errorType", laid_errors_errorType)], narrowed := true }
def TextsBackUptoSaid : Prop := textsBackUptoRow.holds Tryd.pinned (OpenSpec.upto textsBackSpec)

/-- 'estreatlaw23.ScanParts', WHERE WHAT IT READS IS OF BULK AT MOST 1048576: true; the input reads as it did. -/
def scanPartsUptoRow : OpenClaim := { program := "ytbkocklahdlgkaadoor", sum := "899a38eafb1f05bef4da776f8a089e9ee3031c0aed032786d27eb7d1ae497a71", func := "estreat/estreatlaw23.ScanParts", spec := "scanParts", unfollowed := true, recurses := true, named := ["estreat/pred.shapes"], loops := true, plainKeys := false, apart := false, laid := [("estreat/pred.shapes", laid_estreat_pred_shapes)], narrowed := true }
def ScanPartsUptoSaid : Prop := scanPartsUptoRow.holds Tryd.pinned (OpenSpec.upto scanPartsSpec)

/-- 'estreatlaw23.ScanCounts', WHERE WHAT IT READS IS OF BULK AT MOST 1048576: true; the input reads as it did. -/
def scanCountsUptoRow : OpenClaim := { program := "ytbkocklahdlgkaadoor", sum := "899a38eafb1f05bef4da776f8a089e9ee3031c0aed032786d27eb7d1ae497a71", func := "estreat/estreatlaw23.ScanCounts", spec := "scanCounts", unfollowed := true, recurses := true, named := ["estreat/pred.shapes"], loops := true, plainKeys := false, apart := false, laid := [("estreat/pred.shapes", laid_estreat_pred_shapes)], narrowed := true }
def ScanCountsUptoSaid : Prop := scanCountsUptoRow.holds Tryd.pinned (OpenSpec.upto scanCountsSpec)

/-- 'estreatlaw23.ScanGathers', WHERE WHAT IT READS IS OF BULK AT MOST 1048576: true; the input reads as it did. -/
def scanGathersUptoRow : OpenClaim := { program := "ytbkocklahdlgkaadoor", sum := "899a38eafb1f05bef4da776f8a089e9ee3031c0aed032786d27eb7d1ae497a71", func := "estreat/estreatlaw23.ScanGathers", spec := "scanGathers", unfollowed := true, recurses := true, named := ["estreat/pred.shapes"], loops := true, plainKeys := false, apart := false, laid := [("estreat/pred.shapes", laid_estreat_pred_shapes)], narrowed := true }
def ScanGathersUptoSaid : Prop := scanGathersUptoRow.holds Tryd.pinned (OpenSpec.upto scanGathersSpec)

end Rows
end Go.Proofs.YtbkocklahdlgkaaDoor
