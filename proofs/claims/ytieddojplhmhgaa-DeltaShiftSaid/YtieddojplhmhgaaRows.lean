/-
  No cell of these rows narrows 'for every input' (looked for: loops, veiled, ifaces, maps, wideKeys, modest, calm, conditions, laid).
  DERIVED. THE GIVEN ROWS OF THIS SEAT. 6 by the template 'for every input the law returns true; each argument reads behind the call as it read before'; 0 by the template 'total and deterministic' (their statements: YtieddojplhmhgaaTotals.lean).
  GIVEN WITH THE SEED: the statements are not yours to turn. If you find one false, say at which input.
  Laid BY PROGRAM, IN A SANDBOX (cutbox-rows.mjs): the forced cells as the released guide's own fill.sh prints them over the translation 137cff6f4274459a… (all of the seat's roots in one cut). By AI agents, Wed Nov 11 2026. No macro, syntax, notation, axiom, sorry.
-/
import Derived.Test.YtieddojplhmhgaaChecked
import GoSem.Claim
import GoSem.ClaimJoined
import GoSem.ClaimMapViews
import Derived.JoinedTies
import Derived.KernelRfl
namespace Go.Proofs.Ytieddojplhmhgaa
/- THE CELL 'sum', in the pinned program and in every row, IS THE sha256 OF THE DUMP (.gsa) THAT YtieddojplhmhgaaProg.lean LOADS. Nothing in Lean hashes anything: it is a label: what it is worth is what the hold of that sum in a sandbox is worth. -/
noncomputable def Try.pinned : Pinned := { name := "ytieddojplhmhgaa", sum := "137cff6f4274459abac2fca2dd04d90e7e0a788721e8a445735d2b6af7e485f4", checked := Try.checked }
namespace Rows
def none {H : Type} : Left H := { results := [], args := [] }

/-- 'estreatlaw10.DeltaShift': WHATEVER THE INPUT: true; the input reads as it did. -/
def deltaShiftSpec : ChangeSpec := { name := "deltaShift", fn := fun _ => fun
  | [d1, d2] => { results := [.lit (.bool true)], args := [d1, d2] }
  | _ => none }
def deltaShiftRow : OpenClaim := { program := "ytieddojplhmhgaa", sum := "137cff6f4274459abac2fca2dd04d90e7e0a788721e8a445735d2b6af7e485f4", func := "estreat/estreatlaw10.DeltaShift", spec := "deltaShift", recurses := true, apart := false }
def DeltaShiftSaid : Prop := deltaShiftRow.holds Try.pinned (OpenSpec.ofChange deltaShiftSpec)

/-- ITS FALSE NEIGHBOUR: 'it returns false'. Refute it at one input. -/
def deltaShiftWrong : ChangeSpec := { name := "deltaShift", fn := fun _ => fun
  | [d1, d2] => { results := [.lit (.bool false)], args := [d1, d2] }
  | _ => none }
def DeltaShiftWrongFalsely : Prop := deltaShiftRow.holds Try.pinned (OpenSpec.ofChange deltaShiftWrong)

/-- 'estreatlaw10.DeltaPuts': WHATEVER THE INPUT: true; the input reads as it did. -/
def deltaPutsSpec : ChangeSpec := { name := "deltaPuts", fn := fun _ => fun
  | [d] => { results := [.lit (.bool true)], args := [d] }
  | _ => none }
def deltaPutsRow : OpenClaim := { program := "ytieddojplhmhgaa", sum := "137cff6f4274459abac2fca2dd04d90e7e0a788721e8a445735d2b6af7e485f4", func := "estreat/estreatlaw10.DeltaPuts", spec := "deltaPuts", recurses := true, apart := false }
def DeltaPutsSaid : Prop := deltaPutsRow.holds Try.pinned (OpenSpec.ofChange deltaPutsSpec)

/-- ITS FALSE NEIGHBOUR: 'it returns false'. Refute it at one input. -/
def deltaPutsWrong : ChangeSpec := { name := "deltaPuts", fn := fun _ => fun
  | [d] => { results := [.lit (.bool false)], args := [d] }
  | _ => none }
def DeltaPutsWrongFalsely : Prop := deltaPutsRow.holds Try.pinned (OpenSpec.ofChange deltaPutsWrong)

/-- 'estreatlaw11.DictPuts': WHATEVER THE INPUT: true; the input reads as it did. -/
def dictPutsSpec : ChangeSpec := { name := "dictPuts", fn := fun _ => fun
  | [d] => { results := [.lit (.bool true)], args := [d] }
  | _ => none }
def dictPutsRow : OpenClaim := { program := "ytieddojplhmhgaa", sum := "137cff6f4274459abac2fca2dd04d90e7e0a788721e8a445735d2b6af7e485f4", func := "estreat/estreatlaw11.DictPuts", spec := "dictPuts", recurses := true, apart := false }
def DictPutsSaid : Prop := dictPutsRow.holds Try.pinned (OpenSpec.ofChange dictPutsSpec)

/-- ITS FALSE NEIGHBOUR: 'it returns false'. Refute it at one input. -/
def dictPutsWrong : ChangeSpec := { name := "dictPuts", fn := fun _ => fun
  | [d] => { results := [.lit (.bool false)], args := [d] }
  | _ => none }
def DictPutsWrongFalsely : Prop := dictPutsRow.holds Try.pinned (OpenSpec.ofChange dictPutsWrong)

/-- 'estreatlaw11.DictTurn': WHATEVER THE INPUT: true; the input reads as it did. -/
def dictTurnSpec : ChangeSpec := { name := "dictTurn", fn := fun _ => fun
  | [d1, d2] => { results := [.lit (.bool true)], args := [d1, d2] }
  | _ => none }
def dictTurnRow : OpenClaim := { program := "ytieddojplhmhgaa", sum := "137cff6f4274459abac2fca2dd04d90e7e0a788721e8a445735d2b6af7e485f4", func := "estreat/estreatlaw11.DictTurn", spec := "dictTurn", recurses := true, apart := false }
def DictTurnSaid : Prop := dictTurnRow.holds Try.pinned (OpenSpec.ofChange dictTurnSpec)

/-- ITS FALSE NEIGHBOUR: 'it returns false'. Refute it at one input. -/
def dictTurnWrong : ChangeSpec := { name := "dictTurn", fn := fun _ => fun
  | [d1, d2] => { results := [.lit (.bool false)], args := [d1, d2] }
  | _ => none }
def DictTurnWrongFalsely : Prop := dictTurnRow.holds Try.pinned (OpenSpec.ofChange dictTurnWrong)

/-- 'estreatlaw13.TextsPuts': WHATEVER THE INPUT: true; the input reads as it did. -/
def textsPutsSpec : ChangeSpec := { name := "textsPuts", fn := fun _ => fun
  | [d] => { results := [.lit (.bool true)], args := [d] }
  | _ => none }
def textsPutsRow : OpenClaim := { program := "ytieddojplhmhgaa", sum := "137cff6f4274459abac2fca2dd04d90e7e0a788721e8a445735d2b6af7e485f4", func := "estreat/estreatlaw13.TextsPuts", spec := "textsPuts", unfollowed := true, recurses := true, apart := false }
def TextsPutsSaid : Prop := textsPutsRow.holds Try.pinned (OpenSpec.ofChange textsPutsSpec)

/-- ITS FALSE NEIGHBOUR: 'it returns false'. Refute it at one input. -/
def textsPutsWrong : ChangeSpec := { name := "textsPuts", fn := fun _ => fun
  | [d] => { results := [.lit (.bool false)], args := [d] }
  | _ => none }
def TextsPutsWrongFalsely : Prop := textsPutsRow.holds Try.pinned (OpenSpec.ofChange textsPutsWrong)

/-- 'estreatlaw13.TextsOrder': WHATEVER THE INPUT: true; the input reads as it did. -/
def textsOrderSpec : ChangeSpec := { name := "textsOrder", fn := fun _ => fun
  | [d] => { results := [.lit (.bool true)], args := [d] }
  | _ => none }
def textsOrderRow : OpenClaim := { program := "ytieddojplhmhgaa", sum := "137cff6f4274459abac2fca2dd04d90e7e0a788721e8a445735d2b6af7e485f4", func := "estreat/estreatlaw13.TextsOrder", spec := "textsOrder", unfollowed := true, recurses := true, apart := false }
def TextsOrderSaid : Prop := textsOrderRow.holds Try.pinned (OpenSpec.ofChange textsOrderSpec)

/-- ITS FALSE NEIGHBOUR: 'it returns false'. Refute it at one input. -/
def textsOrderWrong : ChangeSpec := { name := "textsOrder", fn := fun _ => fun
  | [d] => { results := [.lit (.bool false)], args := [d] }
  | _ => none }
def TextsOrderWrongFalsely : Prop := textsOrderRow.holds Try.pinned (OpenSpec.ofChange textsOrderWrong)

/- THE SECOND FORM. 'bulk': how many values and letters a reading holds, each counted each time it is reached (what is shared counts as often as it is met; a slice's spare places count too). A statement '..UptoSaid' is the law's where the arguments, and the package variables that the reading takes, are together of bulk at most 1048576: NARROWER than '..Said'. Prove '..Said' where nothing that the law and all that it calls make is longer than what came in: it says more and counts as full. Else prove '..UptoSaid'. A law counts once. -/
mutual
def uptoBulk {H : Type} : DataW H → Nat
  | .lit (.string bytes) => bytes.length + 1
  | .lit _ => 1
  | .nil => 1
  | .ptr d => uptoBulk d + 1
  | .slice elems spare => uptoBulkAll elems + uptoBulkAll spare + 1
  | .agg parts => uptoBulkAll parts + 1
  | .iface _ d => uptoBulk d + 1
  | .map entries => uptoBulkEntries entries + 1
  | .held _ => 1
def uptoBulkAll {H : Type} : List (DataW H) → Nat
  | [] => 0
  | d :: r => uptoBulk d + uptoBulkAll r
def uptoBulkEntries {H : Type} : List (Lit × DataW H) → Nat
  | [] => 0
  | x :: r => uptoBulkEntry x + uptoBulkEntries r
def uptoBulkEntry {H : Type} : Lit × DataW H → Nat
  | (.string bytes, d) => bytes.length + uptoBulk d + 1
  | (_, d) => uptoBulk d + 1
 end
def uptoSmall : (H : Type) → List (DataW H) → Bool := fun _ ds => decide (uptoBulkAll ds ≤ 1048576)
def OpenSpec.upto (s : _root_.Go.ChangeSpec) : _root_.Go.OpenSpec := { _root_.Go.OpenSpec.ofChange s with cond := some uptoSmall }

/-- 'estreatlaw10.DeltaShift', WHERE WHAT IT READS IS OF BULK AT MOST 1048576: true; the input reads as it did. -/
def deltaShiftUptoRow : OpenClaim := { program := "ytieddojplhmhgaa", sum := "137cff6f4274459abac2fca2dd04d90e7e0a788721e8a445735d2b6af7e485f4", func := "estreat/estreatlaw10.DeltaShift", spec := "deltaShift", recurses := true, apart := false, narrowed := true }
def DeltaShiftUptoSaid : Prop := deltaShiftUptoRow.holds Try.pinned (OpenSpec.upto deltaShiftSpec)

/-- 'estreatlaw10.DeltaPuts', WHERE WHAT IT READS IS OF BULK AT MOST 1048576: true; the input reads as it did. -/
def deltaPutsUptoRow : OpenClaim := { program := "ytieddojplhmhgaa", sum := "137cff6f4274459abac2fca2dd04d90e7e0a788721e8a445735d2b6af7e485f4", func := "estreat/estreatlaw10.DeltaPuts", spec := "deltaPuts", recurses := true, apart := false, narrowed := true }
def DeltaPutsUptoSaid : Prop := deltaPutsUptoRow.holds Try.pinned (OpenSpec.upto deltaPutsSpec)

/-- 'estreatlaw11.DictPuts', WHERE WHAT IT READS IS OF BULK AT MOST 1048576: true; the input reads as it did. -/
def dictPutsUptoRow : OpenClaim := { program := "ytieddojplhmhgaa", sum := "137cff6f4274459abac2fca2dd04d90e7e0a788721e8a445735d2b6af7e485f4", func := "estreat/estreatlaw11.DictPuts", spec := "dictPuts", recurses := true, apart := false, narrowed := true }
def DictPutsUptoSaid : Prop := dictPutsUptoRow.holds Try.pinned (OpenSpec.upto dictPutsSpec)

/-- 'estreatlaw11.DictTurn', WHERE WHAT IT READS IS OF BULK AT MOST 1048576: true; the input reads as it did. -/
def dictTurnUptoRow : OpenClaim := { program := "ytieddojplhmhgaa", sum := "137cff6f4274459abac2fca2dd04d90e7e0a788721e8a445735d2b6af7e485f4", func := "estreat/estreatlaw11.DictTurn", spec := "dictTurn", recurses := true, apart := false, narrowed := true }
def DictTurnUptoSaid : Prop := dictTurnUptoRow.holds Try.pinned (OpenSpec.upto dictTurnSpec)

/-- 'estreatlaw13.TextsPuts', WHERE WHAT IT READS IS OF BULK AT MOST 1048576: true; the input reads as it did. -/
def textsPutsUptoRow : OpenClaim := { program := "ytieddojplhmhgaa", sum := "137cff6f4274459abac2fca2dd04d90e7e0a788721e8a445735d2b6af7e485f4", func := "estreat/estreatlaw13.TextsPuts", spec := "textsPuts", unfollowed := true, recurses := true, apart := false, narrowed := true }
def TextsPutsUptoSaid : Prop := textsPutsUptoRow.holds Try.pinned (OpenSpec.upto textsPutsSpec)

/-- 'estreatlaw13.TextsOrder', WHERE WHAT IT READS IS OF BULK AT MOST 1048576: true; the input reads as it did. -/
def textsOrderUptoRow : OpenClaim := { program := "ytieddojplhmhgaa", sum := "137cff6f4274459abac2fca2dd04d90e7e0a788721e8a445735d2b6af7e485f4", func := "estreat/estreatlaw13.TextsOrder", spec := "textsOrder", unfollowed := true, recurses := true, apart := false, narrowed := true }
def TextsOrderUptoSaid : Prop := textsOrderUptoRow.holds Try.pinned (OpenSpec.upto textsOrderSpec)

end Rows
end Go.Proofs.Ytieddojplhmhgaa
