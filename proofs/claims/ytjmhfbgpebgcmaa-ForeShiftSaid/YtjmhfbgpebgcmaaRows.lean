/-
  No cell of these rows narrows 'for every input' (looked for: loops, veiled, ifaces, maps, wideKeys, modest, calm, conditions, laid).
  DERIVED. THE GIVEN ROWS OF THIS SEAT. 4 by the template 'for every input the law returns true; each argument reads behind the call as it read before'; 0 by the template 'total and deterministic' (their statements: YtjmhfbgpebgcmaaTotals.lean).
  GIVEN WITH THE SEED: the statements are not yours to turn. If you find one false, say at which input.
  Laid BY PROGRAM, IN A SANDBOX (cutbox-rows.mjs): the forced cells as the released guide's own fill.sh prints them over the translation f2ef5d3f817aad7b… (all of the seat's roots in one cut). By AI agents, Wed Nov 11 2026. No macro, syntax, notation, axiom, sorry.
-/
import Derived.Test.YtjmhfbgpebgcmaaChecked
import GoSem.Claim
import GoSem.ClaimJoined
import GoSem.ClaimMapViews
import Derived.JoinedTies
import Derived.KernelRfl
namespace Go.Proofs.Ytjmhfbgpebgcmaa
/- THE CELL 'sum', in the pinned program and in every row, IS THE sha256 OF THE DUMP (.gsa) THAT YtjmhfbgpebgcmaaProg.lean LOADS. Nothing in Lean hashes anything: it is a label: what it is worth is what the hold of that sum in a sandbox is worth. -/
noncomputable def Try.pinned : Pinned := { name := "ytjmhfbgpebgcmaa", sum := "f2ef5d3f817aad7badaf3d09243cc3f21e5dca3fc18bc1a440ca1b2fa5fdd535", checked := Try.checked }
namespace Rows
def none {H : Type} : Left H := { results := [], args := [] }

/-- 'estreatlaw01.NumFix': WHATEVER THE INPUT: true; the input reads as it did. -/
def numFixSpec : ChangeSpec := { name := "numFix", fn := fun _ => fun
  | [d1, d2] => { results := [.lit (.bool true)], args := [d1, d2] }
  | _ => none }
def numFixRow : OpenClaim := { program := "ytjmhfbgpebgcmaa", sum := "f2ef5d3f817aad7badaf3d09243cc3f21e5dca3fc18bc1a440ca1b2fa5fdd535", func := "estreat/estreatlaw01.NumFix", spec := "numFix", apart := false }
def NumFixSaid : Prop := numFixRow.holds Try.pinned (OpenSpec.ofChange numFixSpec)

/-- ITS FALSE NEIGHBOUR: 'it returns false'. Refute it at one input. -/
def numFixWrong : ChangeSpec := { name := "numFix", fn := fun _ => fun
  | [d1, d2] => { results := [.lit (.bool false)], args := [d1, d2] }
  | _ => none }
def NumFixWrongFalsely : Prop := numFixRow.holds Try.pinned (OpenSpec.ofChange numFixWrong)

/-- 'estreatlaw02.BitsBack': WHATEVER THE INPUT: true; the input reads as it did. -/
def bitsBackSpec : ChangeSpec := { name := "bitsBack", fn := fun _ => fun
  | [d1, d2, d3, d4, d5] => { results := [.lit (.bool true)], args := [d1, d2, d3, d4, d5] }
  | _ => none }
def bitsBackRow : OpenClaim := { program := "ytjmhfbgpebgcmaa", sum := "f2ef5d3f817aad7badaf3d09243cc3f21e5dca3fc18bc1a440ca1b2fa5fdd535", func := "estreat/estreatlaw02.BitsBack", spec := "bitsBack", apart := false }
def BitsBackSaid : Prop := bitsBackRow.holds Try.pinned (OpenSpec.ofChange bitsBackSpec)

/-- ITS FALSE NEIGHBOUR: 'it returns false'. Refute it at one input. -/
def bitsBackWrong : ChangeSpec := { name := "bitsBack", fn := fun _ => fun
  | [d1, d2, d3, d4, d5] => { results := [.lit (.bool false)], args := [d1, d2, d3, d4, d5] }
  | _ => none }
def BitsBackWrongFalsely : Prop := bitsBackRow.holds Try.pinned (OpenSpec.ofChange bitsBackWrong)

/-- 'estreatlaw12.ForePuts': WHATEVER THE INPUT: true; the input reads as it did. -/
def forePutsSpec : ChangeSpec := { name := "forePuts", fn := fun _ => fun
  | [d] => { results := [.lit (.bool true)], args := [d] }
  | _ => none }
def forePutsRow : OpenClaim := { program := "ytjmhfbgpebgcmaa", sum := "f2ef5d3f817aad7badaf3d09243cc3f21e5dca3fc18bc1a440ca1b2fa5fdd535", func := "estreat/estreatlaw12.ForePuts", spec := "forePuts", recurses := true, apart := false }
def ForePutsSaid : Prop := forePutsRow.holds Try.pinned (OpenSpec.ofChange forePutsSpec)

/-- ITS FALSE NEIGHBOUR: 'it returns false'. Refute it at one input. -/
def forePutsWrong : ChangeSpec := { name := "forePuts", fn := fun _ => fun
  | [d] => { results := [.lit (.bool false)], args := [d] }
  | _ => none }
def ForePutsWrongFalsely : Prop := forePutsRow.holds Try.pinned (OpenSpec.ofChange forePutsWrong)

/-- 'estreatlaw12.ForeShift': WHATEVER THE INPUT: true; the input reads as it did. -/
def foreShiftSpec : ChangeSpec := { name := "foreShift", fn := fun _ => fun
  | [d1, d2] => { results := [.lit (.bool true)], args := [d1, d2] }
  | _ => none }
def foreShiftRow : OpenClaim := { program := "ytjmhfbgpebgcmaa", sum := "f2ef5d3f817aad7badaf3d09243cc3f21e5dca3fc18bc1a440ca1b2fa5fdd535", func := "estreat/estreatlaw12.ForeShift", spec := "foreShift", recurses := true, apart := false }
def ForeShiftSaid : Prop := foreShiftRow.holds Try.pinned (OpenSpec.ofChange foreShiftSpec)

/-- ITS FALSE NEIGHBOUR: 'it returns false'. Refute it at one input. -/
def foreShiftWrong : ChangeSpec := { name := "foreShift", fn := fun _ => fun
  | [d1, d2] => { results := [.lit (.bool false)], args := [d1, d2] }
  | _ => none }
def ForeShiftWrongFalsely : Prop := foreShiftRow.holds Try.pinned (OpenSpec.ofChange foreShiftWrong)

/- THE SECOND FORM. 'bulk': how many values and letters a reading holds, each counted each time it is reached (what is shared counts as often as it is met; a slice's spare places count too). A statement '..UptoSaid' is the law's where the arguments, and the package variables that the reading takes, are together of bulk at most 1048576: NARROWER than '..Said'. Prove '..Said' where nothing that the law and all that it calls make is longer than what came in: it says more and counts as full. Else prove '..UptoSaid'. A law counts once. -/
mutual
def uptoBulk {H : Type} : DataW H → Nat
  | .lit (.string bytes) => bytes.length + 1
  | .lit _ => 1
  | .nil => 1
  | .ptr d => uptoBulk d + 1
  | .slice elems spare => uptoBulkAll elems + uptoBulkAll spare + 1
  | .agg parts => uptoBulkAll parts + 1
  | .iface _ d => uptoBulk d + 1
  | .map entries => uptoBulkEntries entries + 1
  | .held _ => 1
def uptoBulkAll {H : Type} : List (DataW H) → Nat
  | [] => 0
  | d :: r => uptoBulk d + uptoBulkAll r
def uptoBulkEntries {H : Type} : List (Lit × DataW H) → Nat
  | [] => 0
  | x :: r => uptoBulkEntry x + uptoBulkEntries r
def uptoBulkEntry {H : Type} : Lit × DataW H → Nat
  | (.string bytes, d) => bytes.length + uptoBulk d + 1
  | (_, d) => uptoBulk d + 1
 end
def uptoSmall : (H : Type) → List (DataW H) → Bool := fun _ ds => decide (uptoBulkAll ds ≤ 1048576)
def OpenSpec.upto (s : _root_.Go.ChangeSpec) : _root_.Go.OpenSpec := { _root_.Go.OpenSpec.ofChange s with cond := some uptoSmall }

/-- 'estreatlaw01.NumFix', WHERE WHAT IT READS IS OF BULK AT MOST 1048576: true; the input reads as it did. -/
def numFixUptoRow : OpenClaim := { program := "ytjmhfbgpebgcmaa", sum := "f2ef5d3f817aad7badaf3d09243cc3f21e5dca3fc18bc1a440ca1b2fa5fdd535", func := "estreat/estreatlaw01.NumFix", spec := "numFix", apart := false, narrowed := true }
def NumFixUptoSaid : Prop := numFixUptoRow.holds Try.pinned (OpenSpec.upto numFixSpec)

/-- 'estreatlaw02.BitsBack', WHERE WHAT IT READS IS OF BULK AT MOST 1048576: true; the input reads as it did. -/
def bitsBackUptoRow : OpenClaim := { program := "ytjmhfbgpebgcmaa", sum := "f2ef5d3f817aad7badaf3d09243cc3f21e5dca3fc18bc1a440ca1b2fa5fdd535", func := "estreat/estreatlaw02.BitsBack", spec := "bitsBack", apart := false, narrowed := true }
def BitsBackUptoSaid : Prop := bitsBackUptoRow.holds Try.pinned (OpenSpec.upto bitsBackSpec)

/-- 'estreatlaw12.ForePuts', WHERE WHAT IT READS IS OF BULK AT MOST 1048576: true; the input reads as it did. -/
def forePutsUptoRow : OpenClaim := { program := "ytjmhfbgpebgcmaa", sum := "f2ef5d3f817aad7badaf3d09243cc3f21e5dca3fc18bc1a440ca1b2fa5fdd535", func := "estreat/estreatlaw12.ForePuts", spec := "forePuts", recurses := true, apart := false, narrowed := true }
def ForePutsUptoSaid : Prop := forePutsUptoRow.holds Try.pinned (OpenSpec.upto forePutsSpec)

/-- 'estreatlaw12.ForeShift', WHERE WHAT IT READS IS OF BULK AT MOST 1048576: true; the input reads as it did. -/
def foreShiftUptoRow : OpenClaim := { program := "ytjmhfbgpebgcmaa", sum := "f2ef5d3f817aad7badaf3d09243cc3f21e5dca3fc18bc1a440ca1b2fa5fdd535", func := "estreat/estreatlaw12.ForeShift", spec := "foreShift", recurses := true, apart := false, narrowed := true }
def ForeShiftUptoSaid : Prop := foreShiftUptoRow.holds Try.pinned (OpenSpec.upto foreShiftSpec)

end Rows
end Go.Proofs.Ytjmhfbgpebgcmaa
