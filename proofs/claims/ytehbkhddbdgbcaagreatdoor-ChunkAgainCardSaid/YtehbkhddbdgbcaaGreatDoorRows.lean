/-
  NARROWER THAN 'FOR EVERY INPUT', by the rows' own cells (each row's printed sentence says how): ChunkBack: laid · ChunkNulls: laid · ChunkAgain: laid.
  DERIVED. THE GIVEN ROWS OF THIS SEAT. 3 by the template 'for every input the law returns true; each argument reads behind the call as it read before'; 0 by the template 'total and deterministic' (their statements: YtehbkhddbdgbcaaGreatDoorTotals.lean).
  GIVEN WITH THE SEED: the statements are not yours to turn. If you find one false, say at which input.
  Laid BY PROGRAM, IN A SANDBOX (cutbox-rows.mjs): the forced cells as the released guide's own fill.sh prints them over the translation 6270cd2a195681fd… (all of the seat's roots in one cut). By AI agents, Wed Nov 11 2026. No macro, syntax, notation, axiom, sorry.
-/
import Derived.Test.YtehbkhddbdgbcaaGreatDoorChecked
import GoSem.Claim
import GoSem.ClaimJoined
import GoSem.ClaimMapViews
import Derived.JoinedTies
import Derived.KernelRfl
namespace Go.Proofs.YtehbkhddbdgbcaaGreatDoor
/- THE CELL 'sum', in the pinned program and in every row, IS THE sha256 OF THE DUMP (.gsa) THAT YtehbkhddbdgbcaaGreatDoorProg.lean LOADS. Nothing in Lean hashes anything: it is a label: what it is worth is what the hold of that sum in a sandbox is worth. -/
noncomputable def Tryz.pinned : Pinned := { name := "ytehbkhddbdgbcaagreatdoor", sum := "6270cd2a195681fdfbb0f8c5d48d4806eeb8e016a22177ddcbfbbcf1c13fd4b8", checked := Tryz.checked }
namespace Rows
def none {H : Type} : Left H := { results := [], args := [] }

/- WHAT THE LISTED PACKAGE-LEVEL VARIABLES READ AS WHEN THE CALL BEGINS. Each datum BY PROGRAM (the guide's laid-datum.mjs) off the statement by which the dump's own 'gosem.cut.vars' lays the variable. In a bare row this is a premise. The card (YtehbkhddbdgbcaaGreatDoorCards.lean) ties it to the program's text. -/
def laid_errors_errorType {H : Type} : DataW H := .iface "internal/reflectlite.rtype" (.agg [.ptr (.lit (.string [101, 114, 114, 111, 114]))])

/-- 'estreatlaw14.ChunkBack': WHATEVER THE INPUT: true; the input reads as it did. -/
def chunkBackSpec : ChangeSpec := { name := "chunkBack", fn := fun _ => fun
  | [d1, d2] => { results := [.lit (.bool true)], args := [d1, d2] }
  | _ => none }
def chunkBackRow : OpenClaim := { program := "ytehbkhddbdgbcaagreatdoor", sum := "6270cd2a195681fdfbb0f8c5d48d4806eeb8e016a22177ddcbfbbcf1c13fd4b8", func := "estreat/estreatlaw14.ChunkBack", spec := "chunkBack", inPlace := ["internal/reflectlite.ValueOf", "(internal/reflectlite.Value).Type", "(internal/reflectlite.Value).IsNil", "internal/reflectlite.TypeOf", "(internal/reflectlite.Value).Elem", "(internal/reflectlite.Value).Set"], unfollowed := true, recurses := true, named := ["errors.errorType"], apart := false, laid := [("errors.errorType", laid_errors_errorType)] }
def ChunkBackSaid : Prop := chunkBackRow.holds Tryz.pinned (OpenSpec.ofChange chunkBackSpec)

/-- ITS FALSE NEIGHBOUR: 'it returns false'. Refute it at one input. -/
def chunkBackWrong : ChangeSpec := { name := "chunkBack", fn := fun _ => fun
  | [d1, d2] => { results := [.lit (.bool false)], args := [d1, d2] }
  | _ => none }
def ChunkBackWrongFalsely : Prop := chunkBackRow.holds Tryz.pinned (OpenSpec.ofChange chunkBackWrong)

/-- 'estreatlaw14.ChunkNulls': WHATEVER THE INPUT: true; the input reads as it did. -/
def chunkNullsSpec : ChangeSpec := { name := "chunkNulls", fn := fun _ => fun
  | [d1, d2, d3] => { results := [.lit (.bool true)], args := [d1, d2, d3] }
  | _ => none }
def chunkNullsRow : OpenClaim := { program := "ytehbkhddbdgbcaagreatdoor", sum := "6270cd2a195681fdfbb0f8c5d48d4806eeb8e016a22177ddcbfbbcf1c13fd4b8", func := "estreat/estreatlaw14.ChunkNulls", spec := "chunkNulls", inPlace := ["internal/reflectlite.ValueOf", "(internal/reflectlite.Value).Type", "(internal/reflectlite.Value).IsNil", "internal/reflectlite.TypeOf", "(internal/reflectlite.Value).Elem", "(internal/reflectlite.Value).Set"], unfollowed := true, recurses := true, named := ["errors.errorType"], apart := false, laid := [("errors.errorType", laid_errors_errorType)] }
def ChunkNullsSaid : Prop := chunkNullsRow.holds Tryz.pinned (OpenSpec.ofChange chunkNullsSpec)

/-- ITS FALSE NEIGHBOUR: 'it returns false'. Refute it at one input. -/
def chunkNullsWrong : ChangeSpec := { name := "chunkNulls", fn := fun _ => fun
  | [d1, d2, d3] => { results := [.lit (.bool false)], args := [d1, d2, d3] }
  | _ => none }
def ChunkNullsWrongFalsely : Prop := chunkNullsRow.holds Tryz.pinned (OpenSpec.ofChange chunkNullsWrong)

/-- 'estreatlaw14.ChunkAgain': WHATEVER THE INPUT: true; the input reads as it did. -/
def chunkAgainSpec : ChangeSpec := { name := "chunkAgain", fn := fun _ => fun
  | [d1, d2, d3] => { results := [.lit (.bool true)], args := [d1, d2, d3] }
  | _ => none }
def chunkAgainRow : OpenClaim := { program := "ytehbkhddbdgbcaagreatdoor", sum := "6270cd2a195681fdfbb0f8c5d48d4806eeb8e016a22177ddcbfbbcf1c13fd4b8", func := "estreat/estreatlaw14.ChunkAgain", spec := "chunkAgain", inPlace := ["internal/reflectlite.ValueOf", "(internal/reflectlite.Value).Type", "(internal/reflectlite.Value).IsNil", "internal/reflectlite.TypeOf", "(internal/reflectlite.Value).Elem", "(internal/reflectlite.Value).Set"], unfollowed := true, recurses := true, named := ["errors.errorType"], apart := false, laid := [("errors.errorType", laid_errors_errorType)] }
def ChunkAgainSaid : Prop := chunkAgainRow.holds Tryz.pinned (OpenSpec.ofChange chunkAgainSpec)

/-- ITS FALSE NEIGHBOUR: 'it returns false'. Refute it at one input. -/
def chunkAgainWrong : ChangeSpec := { name := "chunkAgain", fn := fun _ => fun
  | [d1, d2, d3] => { results := [.lit (.bool false)], args := [d1, d2, d3] }
  | _ => none }
def ChunkAgainWrongFalsely : Prop := chunkAgainRow.holds Tryz.pinned (OpenSpec.ofChange chunkAgainWrong)

/- THE SECOND FORM. 'bulk': how many values and letters a reading holds, each counted each time it is reached (what is shared counts as often as it is met; a slice's spare places count too). A statement '..UptoSaid' is the law's where the arguments, and the package variables that the reading takes, are together of bulk at most 1048576: NARROWER than '..Said'. Prove '..Said' where nothing that the law and all that it calls make is longer than what came in: it says more and counts as full. Else prove '..UptoSaid'. A law counts once. -/
mutual
def uptoBulk {H : Type} : DataW H → Nat
  | .lit (.string bytes) => bytes.length + 1
  | .lit _ => 1
  | .nil => 1
  | .ptr d => uptoBulk d + 1
  | .slice elems spare => uptoBulkAll elems + uptoBulkAll spare + 1
  | .agg parts => uptoBulkAll parts + 1
  | .iface _ d => uptoBulk d + 1
  | .map entries => uptoBulkEntries entries + 1
  | .held _ => 1
def uptoBulkAll {H : Type} : List (DataW H) → Nat
  | [] => 0
  | d :: r => uptoBulk d + uptoBulkAll r
def uptoBulkEntries {H : Type} : List (Lit × DataW H) → Nat
  | [] => 0
  | x :: r => uptoBulkEntry x + uptoBulkEntries r
def uptoBulkEntry {H : Type} : Lit × DataW H → Nat
  | (.string bytes, d) => bytes.length + uptoBulk d + 1
  | (_, d) => uptoBulk d + 1
 end
def uptoSmall : (H : Type) → List (DataW H) → Bool := fun _ ds => decide (uptoBulkAll ds ≤ 1048576)
def OpenSpec.upto (s : _root_.Go.ChangeSpec) : _root_.Go.OpenSpec := { _root_.Go.OpenSpec.ofChange s with cond := some uptoSmall }

/-- 'estreatlaw14.ChunkBack', WHERE WHAT IT READS IS OF BULK AT MOST 1048576: true; the input reads as it did. -/
def chunkBackUptoRow : OpenClaim := { program := "ytehbkhddbdgbcaagreatdoor", sum := "6270cd2a195681fdfbb0f8c5d48d4806eeb8e016a22177ddcbfbbcf1c13fd4b8", func := "estreat/estreatlaw14.ChunkBack", spec := "chunkBack", inPlace := ["internal/reflectlite.ValueOf", "(internal/reflectlite.Value).Type", "(internal/reflectlite.Value).IsNil", "internal/reflectlite.TypeOf", "(internal/reflectlite.Value).Elem", "(internal/reflectlite.Value).Set"], unfollowed := true, recurses := true, named := ["errors.errorType"], apart := false, laid := [("errors.errorType", laid_errors_errorType)], narrowed := true }
def ChunkBackUptoSaid : Prop := chunkBackUptoRow.holds Tryz.pinned (OpenSpec.upto chunkBackSpec)

/-- 'estreatlaw14.ChunkNulls', WHERE WHAT IT READS IS OF BULK AT MOST 1048576: true; the input reads as it did. -/
def chunkNullsUptoRow : OpenClaim := { program := "ytehbkhddbdgbcaagreatdoor", sum := "6270cd2a195681fdfbb0f8c5d48d4806eeb8e016a22177ddcbfbbcf1c13fd4b8", func := "estreat/estreatlaw14.ChunkNulls", spec := "chunkNulls", inPlace := ["internal/reflectlite.ValueOf", "(internal/reflectlite.Value).Type", "(internal/reflectlite.Value).IsNil", "internal/reflectlite.TypeOf", "(internal/reflectlite.Value).Elem", "(internal/reflectlite.Value).Set"], unfollowed := true, recurses := true, named := ["errors.errorType"], apart := false, laid := [("errors.errorType", laid_errors_errorType)], narrowed := true }
def ChunkNullsUptoSaid : Prop := chunkNullsUptoRow.holds Tryz.pinned (OpenSpec.upto chunkNullsSpec)

/-- 'estreatlaw14.ChunkAgain', WHERE WHAT IT READS IS OF BULK AT MOST 1048576: true; the input reads as it did. -/
def chunkAgainUptoRow : OpenClaim := { program := "ytehbkhddbdgbcaagreatdoor", sum := "6270cd2a195681fdfbb0f8c5d48d4806eeb8e016a22177ddcbfbbcf1c13fd4b8", func := "estreat/estreatlaw14.ChunkAgain", spec := "chunkAgain", inPlace := ["internal/reflectlite.ValueOf", "(internal/reflectlite.Value).Type", "(internal/reflectlite.Value).IsNil", "internal/reflectlite.TypeOf", "(internal/reflectlite.Value).Elem", "(internal/reflectlite.Value).Set"], unfollowed := true, recurses := true, named := ["errors.errorType"], apart := false, laid := [("errors.errorType", laid_errors_errorType)], narrowed := true }
def ChunkAgainUptoSaid : Prop := chunkAgainUptoRow.holds Tryz.pinned (OpenSpec.upto chunkAgainSpec)

end Rows
end Go.Proofs.YtehbkhddbdgbcaaGreatDoor
