/-
  No cell of these rows narrows 'for every input' (looked for: loops, veiled, ifaces, maps, wideKeys, modest, calm, conditions, laid).
  DERIVED. THE GIVEN ROWS OF THIS SEAT. 12 by the template 'for every input the law returns true; each argument reads behind the call as it read before'; 0 by the template 'total and deterministic' (their statements: YtbjnfephigcdkaaTotals.lean).
  GIVEN WITH THE SEED: the statements are not yours to turn. If you find one false, say at which input.
  Laid BY PROGRAM, IN A SANDBOX (cutbox-rows.mjs): the forced cells as the released guide's own fill.sh prints them over the translation dd481423761695c6… (all of the seat's roots in one cut). By AI agents, Wed Nov 11 2026. No macro, syntax, notation, axiom, sorry.
-/
import Derived.Test.YtbjnfephigcdkaaChecked
import GoSem.Claim
import GoSem.ClaimJoined
import GoSem.ClaimMapViews
import Derived.JoinedTies
import Derived.KernelRfl
namespace Go.Proofs.Ytbjnfephigcdkaa
/- THE CELL 'sum', in the pinned program and in every row, IS THE sha256 OF THE DUMP (.gsa) THAT YtbjnfephigcdkaaProg.lean LOADS. Nothing in Lean hashes anything: it is a label: what it is worth is what the hold of that sum in a sandbox is worth. -/
noncomputable def Try.pinned : Pinned := { name := "ytbjnfephigcdkaa", sum := "dd481423761695c6d31a35a9409736b6d831cd5957b27d50890f70fa3c191a9b", checked := Try.checked }
namespace Rows
def none {H : Type} : Left H := { results := [], args := [] }

/-- 'estreatlaw01.NumPuts': WHATEVER THE INPUT: true; the input reads as it did. -/
def numPutsSpec : ChangeSpec := { name := "numPuts", fn := fun _ => fun
  | [d1, d2, d3, d4, d5] => { results := [.lit (.bool true)], args := [d1, d2, d3, d4, d5] }
  | _ => none }
def numPutsRow : OpenClaim := { program := "ytbjnfephigcdkaa", sum := "dd481423761695c6d31a35a9409736b6d831cd5957b27d50890f70fa3c191a9b", func := "estreat/estreatlaw01.NumPuts", spec := "numPuts", unfollowed := true, recurses := true, apart := false }
def NumPutsSaid : Prop := numPutsRow.holds Try.pinned (OpenSpec.ofChange numPutsSpec)

/-- ITS FALSE NEIGHBOUR: 'it returns false'. Refute it at one input. -/
def numPutsWrong : ChangeSpec := { name := "numPuts", fn := fun _ => fun
  | [d1, d2, d3, d4, d5] => { results := [.lit (.bool false)], args := [d1, d2, d3, d4, d5] }
  | _ => none }
def NumPutsWrongFalsely : Prop := numPutsRow.holds Try.pinned (OpenSpec.ofChange numPutsWrong)

/-- 'estreatlaw09.RunsPuts': WHATEVER THE INPUT: true; the input reads as it did. -/
def runsPutsSpec : ChangeSpec := { name := "runsPuts", fn := fun _ => fun
  | [d] => { results := [.lit (.bool true)], args := [d] }
  | _ => none }
def runsPutsRow : OpenClaim := { program := "ytbjnfephigcdkaa", sum := "dd481423761695c6d31a35a9409736b6d831cd5957b27d50890f70fa3c191a9b", func := "estreat/estreatlaw09.RunsPuts", spec := "runsPuts", unfollowed := true, recurses := true, apart := false }
def RunsPutsSaid : Prop := runsPutsRow.holds Try.pinned (OpenSpec.ofChange runsPutsSpec)

/-- ITS FALSE NEIGHBOUR: 'it returns false'. Refute it at one input. -/
def runsPutsWrong : ChangeSpec := { name := "runsPuts", fn := fun _ => fun
  | [d] => { results := [.lit (.bool false)], args := [d] }
  | _ => none }
def RunsPutsWrongFalsely : Prop := runsPutsRow.holds Try.pinned (OpenSpec.ofChange runsPutsWrong)

/-- 'estreatlaw09.RunsParts': WHATEVER THE INPUT: true; the input reads as it did. -/
def runsPartsSpec : ChangeSpec := { name := "runsParts", fn := fun _ => fun
  | [d1, d2] => { results := [.lit (.bool true)], args := [d1, d2] }
  | _ => none }
def runsPartsRow : OpenClaim := { program := "ytbjnfephigcdkaa", sum := "dd481423761695c6d31a35a9409736b6d831cd5957b27d50890f70fa3c191a9b", func := "estreat/estreatlaw09.RunsParts", spec := "runsParts", unfollowed := true, recurses := true, apart := false }
def RunsPartsSaid : Prop := runsPartsRow.holds Try.pinned (OpenSpec.ofChange runsPartsSpec)

/-- ITS FALSE NEIGHBOUR: 'it returns false'. Refute it at one input. -/
def runsPartsWrong : ChangeSpec := { name := "runsParts", fn := fun _ => fun
  | [d1, d2] => { results := [.lit (.bool false)], args := [d1, d2] }
  | _ => none }
def RunsPartsWrongFalsely : Prop := runsPartsRow.holds Try.pinned (OpenSpec.ofChange runsPartsWrong)

/-- 'estreatlaw08.PlainPuts': WHATEVER THE INPUT: true; the input reads as it did. -/
def plainPutsSpec : ChangeSpec := { name := "plainPuts", fn := fun _ => fun
  | [d] => { results := [.lit (.bool true)], args := [d] }
  | _ => none }
def plainPutsRow : OpenClaim := { program := "ytbjnfephigcdkaa", sum := "dd481423761695c6d31a35a9409736b6d831cd5957b27d50890f70fa3c191a9b", func := "estreat/estreatlaw08.PlainPuts", spec := "plainPuts", recurses := true, apart := false }
def PlainPutsSaid : Prop := plainPutsRow.holds Try.pinned (OpenSpec.ofChange plainPutsSpec)

/-- ITS FALSE NEIGHBOUR: 'it returns false'. Refute it at one input. -/
def plainPutsWrong : ChangeSpec := { name := "plainPuts", fn := fun _ => fun
  | [d] => { results := [.lit (.bool false)], args := [d] }
  | _ => none }
def PlainPutsWrongFalsely : Prop := plainPutsRow.holds Try.pinned (OpenSpec.ofChange plainPutsWrong)

/-- 'estreatlaw08.PlainParts': WHATEVER THE INPUT: true; the input reads as it did. -/
def plainPartsSpec : ChangeSpec := { name := "plainParts", fn := fun _ => fun
  | [d1, d2] => { results := [.lit (.bool true)], args := [d1, d2] }
  | _ => none }
def plainPartsRow : OpenClaim := { program := "ytbjnfephigcdkaa", sum := "dd481423761695c6d31a35a9409736b6d831cd5957b27d50890f70fa3c191a9b", func := "estreat/estreatlaw08.PlainParts", spec := "plainParts", apart := false }
def PlainPartsSaid : Prop := plainPartsRow.holds Try.pinned (OpenSpec.ofChange plainPartsSpec)

/-- ITS FALSE NEIGHBOUR: 'it returns false'. Refute it at one input. -/
def plainPartsWrong : ChangeSpec := { name := "plainParts", fn := fun _ => fun
  | [d1, d2] => { results := [.lit (.bool false)], args := [d1, d2] }
  | _ => none }
def PlainPartsWrongFalsely : Prop := plainPartsRow.holds Try.pinned (OpenSpec.ofChange plainPartsWrong)

/-- 'estreatlaw07.BitmapReads': WHATEVER THE INPUT: true; the input reads as it did. -/
def bitmapReadsSpec : ChangeSpec := { name := "bitmapReads", fn := fun _ => fun
  | [d1, d2] => { results := [.lit (.bool true)], args := [d1, d2] }
  | _ => none }
def bitmapReadsRow : OpenClaim := { program := "ytbjnfephigcdkaa", sum := "dd481423761695c6d31a35a9409736b6d831cd5957b27d50890f70fa3c191a9b", func := "estreat/estreatlaw07.BitmapReads", spec := "bitmapReads", apart := false }
def BitmapReadsSaid : Prop := bitmapReadsRow.holds Try.pinned (OpenSpec.ofChange bitmapReadsSpec)

/-- ITS FALSE NEIGHBOUR: 'it returns false'. Refute it at one input. -/
def bitmapReadsWrong : ChangeSpec := { name := "bitmapReads", fn := fun _ => fun
  | [d1, d2] => { results := [.lit (.bool false)], args := [d1, d2] }
  | _ => none }
def BitmapReadsWrongFalsely : Prop := bitmapReadsRow.holds Try.pinned (OpenSpec.ofChange bitmapReadsWrong)

/-- 'estreatlaw07.BitmapRank': WHATEVER THE INPUT: true; the input reads as it did. -/
def bitmapRankSpec : ChangeSpec := { name := "bitmapRank", fn := fun _ => fun
  | [d1, d2, d3] => { results := [.lit (.bool true)], args := [d1, d2, d3] }
  | _ => none }
def bitmapRankRow : OpenClaim := { program := "ytbjnfephigcdkaa", sum := "dd481423761695c6d31a35a9409736b6d831cd5957b27d50890f70fa3c191a9b", func := "estreat/estreatlaw07.BitmapRank", spec := "bitmapRank", apart := false }
def BitmapRankSaid : Prop := bitmapRankRow.holds Try.pinned (OpenSpec.ofChange bitmapRankSpec)

/-- ITS FALSE NEIGHBOUR: 'it returns false'. Refute it at one input. -/
def bitmapRankWrong : ChangeSpec := { name := "bitmapRank", fn := fun _ => fun
  | [d1, d2, d3] => { results := [.lit (.bool false)], args := [d1, d2, d3] }
  | _ => none }
def BitmapRankWrongFalsely : Prop := bitmapRankRow.holds Try.pinned (OpenSpec.ofChange bitmapRankWrong)

/-- 'estreatlaw02.BitsPacks': WHATEVER THE INPUT: true; the input reads as it did. -/
def bitsPacksSpec : ChangeSpec := { name := "bitsPacks", fn := fun _ => fun
  | [d1, d2, d3] => { results := [.lit (.bool true)], args := [d1, d2, d3] }
  | _ => none }
def bitsPacksRow : OpenClaim := { program := "ytbjnfephigcdkaa", sum := "dd481423761695c6d31a35a9409736b6d831cd5957b27d50890f70fa3c191a9b", func := "estreat/estreatlaw02.BitsPacks", spec := "bitsPacks", apart := false }
def BitsPacksSaid : Prop := bitsPacksRow.holds Try.pinned (OpenSpec.ofChange bitsPacksSpec)

/-- ITS FALSE NEIGHBOUR: 'it returns false'. Refute it at one input. -/
def bitsPacksWrong : ChangeSpec := { name := "bitsPacks", fn := fun _ => fun
  | [d1, d2, d3] => { results := [.lit (.bool false)], args := [d1, d2, d3] }
  | _ => none }
def BitsPacksWrongFalsely : Prop := bitsPacksRow.holds Try.pinned (OpenSpec.ofChange bitsPacksWrong)

/-- 'estreatlaw02.BitsParts': WHATEVER THE INPUT: true; the input reads as it did. -/
def bitsPartsSpec : ChangeSpec := { name := "bitsParts", fn := fun _ => fun
  | [d1, d2, d3] => { results := [.lit (.bool true)], args := [d1, d2, d3] }
  | _ => none }
def bitsPartsRow : OpenClaim := { program := "ytbjnfephigcdkaa", sum := "dd481423761695c6d31a35a9409736b6d831cd5957b27d50890f70fa3c191a9b", func := "estreat/estreatlaw02.BitsParts", spec := "bitsParts", apart := false }
def BitsPartsSaid : Prop := bitsPartsRow.holds Try.pinned (OpenSpec.ofChange bitsPartsSpec)

/-- ITS FALSE NEIGHBOUR: 'it returns false'. Refute it at one input. -/
def bitsPartsWrong : ChangeSpec := { name := "bitsParts", fn := fun _ => fun
  | [d1, d2, d3] => { results := [.lit (.bool false)], args := [d1, d2, d3] }
  | _ => none }
def BitsPartsWrongFalsely : Prop := bitsPartsRow.holds Try.pinned (OpenSpec.ofChange bitsPartsWrong)

/-- 'estreatlaw07.BitmapPlays': WHATEVER THE INPUT: true; the input reads as it did. -/
def bitmapPlaysSpec : ChangeSpec := { name := "bitmapPlays", fn := fun _ => fun
  | [d1, d2, d3] => { results := [.lit (.bool true)], args := [d1, d2, d3] }
  | _ => none }
def bitmapPlaysRow : OpenClaim := { program := "ytbjnfephigcdkaa", sum := "dd481423761695c6d31a35a9409736b6d831cd5957b27d50890f70fa3c191a9b", func := "estreat/estreatlaw07.BitmapPlays", spec := "bitmapPlays", apart := false }
def BitmapPlaysSaid : Prop := bitmapPlaysRow.holds Try.pinned (OpenSpec.ofChange bitmapPlaysSpec)

/-- ITS FALSE NEIGHBOUR: 'it returns false'. Refute it at one input. -/
def bitmapPlaysWrong : ChangeSpec := { name := "bitmapPlays", fn := fun _ => fun
  | [d1, d2, d3] => { results := [.lit (.bool false)], args := [d1, d2, d3] }
  | _ => none }
def BitmapPlaysWrongFalsely : Prop := bitmapPlaysRow.holds Try.pinned (OpenSpec.ofChange bitmapPlaysWrong)

/-- 'estreatlaw07.BitmapBack': WHATEVER THE INPUT: true; the input reads as it did. -/
def bitmapBackSpec : ChangeSpec := { name := "bitmapBack", fn := fun _ => fun
  | [d1, d2, d3, d4] => { results := [.lit (.bool true)], args := [d1, d2, d3, d4] }
  | _ => none }
def bitmapBackRow : OpenClaim := { program := "ytbjnfephigcdkaa", sum := "dd481423761695c6d31a35a9409736b6d831cd5957b27d50890f70fa3c191a9b", func := "estreat/estreatlaw07.BitmapBack", spec := "bitmapBack", apart := false }
def BitmapBackSaid : Prop := bitmapBackRow.holds Try.pinned (OpenSpec.ofChange bitmapBackSpec)

/-- ITS FALSE NEIGHBOUR: 'it returns false'. Refute it at one input. -/
def bitmapBackWrong : ChangeSpec := { name := "bitmapBack", fn := fun _ => fun
  | [d1, d2, d3, d4] => { results := [.lit (.bool false)], args := [d1, d2, d3, d4] }
  | _ => none }
def BitmapBackWrongFalsely : Prop := bitmapBackRow.holds Try.pinned (OpenSpec.ofChange bitmapBackWrong)

/-- 'estreatlaw02.BitsUnpacks': WHATEVER THE INPUT: true; the input reads as it did. -/
def bitsUnpacksSpec : ChangeSpec := { name := "bitsUnpacks", fn := fun _ => fun
  | [d1, d2, d3] => { results := [.lit (.bool true)], args := [d1, d2, d3] }
  | _ => none }
def bitsUnpacksRow : OpenClaim := { program := "ytbjnfephigcdkaa", sum := "dd481423761695c6d31a35a9409736b6d831cd5957b27d50890f70fa3c191a9b", func := "estreat/estreatlaw02.BitsUnpacks", spec := "bitsUnpacks", apart := false }
def BitsUnpacksSaid : Prop := bitsUnpacksRow.holds Try.pinned (OpenSpec.ofChange bitsUnpacksSpec)

/-- ITS FALSE NEIGHBOUR: 'it returns false'. Refute it at one input. -/
def bitsUnpacksWrong : ChangeSpec := { name := "bitsUnpacks", fn := fun _ => fun
  | [d1, d2, d3] => { results := [.lit (.bool false)], args := [d1, d2, d3] }
  | _ => none }
def BitsUnpacksWrongFalsely : Prop := bitsUnpacksRow.holds Try.pinned (OpenSpec.ofChange bitsUnpacksWrong)

/- THE SECOND FORM. 'bulk': how many values and letters a reading holds, each counted each time it is reached (what is shared counts as often as it is met; a slice's spare places count too). A statement '..UptoSaid' is the law's where the arguments, and the package variables that the reading takes, are together of bulk at most 1048576: NARROWER than '..Said'. Prove '..Said' where nothing that the law and all that it calls make is longer than what came in: it says more and counts as full. Else prove '..UptoSaid'. A law counts once. -/
mutual
def uptoBulk {H : Type} : DataW H → Nat
  | .lit (.string bytes) => bytes.length + 1
  | .lit _ => 1
  | .nil => 1
  | .ptr d => uptoBulk d + 1
  | .slice elems spare => uptoBulkAll elems + uptoBulkAll spare + 1
  | .agg parts => uptoBulkAll parts + 1
  | .iface _ d => uptoBulk d + 1
  | .map entries => uptoBulkEntries entries + 1
  | .held _ => 1
def uptoBulkAll {H : Type} : List (DataW H) → Nat
  | [] => 0
  | d :: r => uptoBulk d + uptoBulkAll r
def uptoBulkEntries {H : Type} : List (Lit × DataW H) → Nat
  | [] => 0
  | x :: r => uptoBulkEntry x + uptoBulkEntries r
def uptoBulkEntry {H : Type} : Lit × DataW H → Nat
  | (.string bytes, d) => bytes.length + uptoBulk d + 1
  | (_, d) => uptoBulk d + 1
 end
def uptoSmall : (H : Type) → List (DataW H) → Bool := fun _ ds => decide (uptoBulkAll ds ≤ 1048576)
def OpenSpec.upto (s : _root_.Go.ChangeSpec) : _root_.Go.OpenSpec := { _root_.Go.OpenSpec.ofChange s with cond := some uptoSmall }

/-- 'estreatlaw01.NumPuts', WHERE WHAT IT READS IS OF BULK AT MOST 1048576: true; the input reads as it did. -/
def numPutsUptoRow : OpenClaim := { program := "ytbjnfephigcdkaa", sum := "dd481423761695c6d31a35a9409736b6d831cd5957b27d50890f70fa3c191a9b", func := "estreat/estreatlaw01.NumPuts", spec := "numPuts", unfollowed := true, recurses := true, apart := false, narrowed := true }
def NumPutsUptoSaid : Prop := numPutsUptoRow.holds Try.pinned (OpenSpec.upto numPutsSpec)

/-- 'estreatlaw09.RunsPuts', WHERE WHAT IT READS IS OF BULK AT MOST 1048576: true; the input reads as it did. -/
def runsPutsUptoRow : OpenClaim := { program := "ytbjnfephigcdkaa", sum := "dd481423761695c6d31a35a9409736b6d831cd5957b27d50890f70fa3c191a9b", func := "estreat/estreatlaw09.RunsPuts", spec := "runsPuts", unfollowed := true, recurses := true, apart := false, narrowed := true }
def RunsPutsUptoSaid : Prop := runsPutsUptoRow.holds Try.pinned (OpenSpec.upto runsPutsSpec)

/-- 'estreatlaw09.RunsParts', WHERE WHAT IT READS IS OF BULK AT MOST 1048576: true; the input reads as it did. -/
def runsPartsUptoRow : OpenClaim := { program := "ytbjnfephigcdkaa", sum := "dd481423761695c6d31a35a9409736b6d831cd5957b27d50890f70fa3c191a9b", func := "estreat/estreatlaw09.RunsParts", spec := "runsParts", unfollowed := true, recurses := true, apart := false, narrowed := true }
def RunsPartsUptoSaid : Prop := runsPartsUptoRow.holds Try.pinned (OpenSpec.upto runsPartsSpec)

/-- 'estreatlaw08.PlainPuts', WHERE WHAT IT READS IS OF BULK AT MOST 1048576: true; the input reads as it did. -/
def plainPutsUptoRow : OpenClaim := { program := "ytbjnfephigcdkaa", sum := "dd481423761695c6d31a35a9409736b6d831cd5957b27d50890f70fa3c191a9b", func := "estreat/estreatlaw08.PlainPuts", spec := "plainPuts", recurses := true, apart := false, narrowed := true }
def PlainPutsUptoSaid : Prop := plainPutsUptoRow.holds Try.pinned (OpenSpec.upto plainPutsSpec)

/-- 'estreatlaw08.PlainParts', WHERE WHAT IT READS IS OF BULK AT MOST 1048576: true; the input reads as it did. -/
def plainPartsUptoRow : OpenClaim := { program := "ytbjnfephigcdkaa", sum := "dd481423761695c6d31a35a9409736b6d831cd5957b27d50890f70fa3c191a9b", func := "estreat/estreatlaw08.PlainParts", spec := "plainParts", apart := false, narrowed := true }
def PlainPartsUptoSaid : Prop := plainPartsUptoRow.holds Try.pinned (OpenSpec.upto plainPartsSpec)

/-- 'estreatlaw07.BitmapReads', WHERE WHAT IT READS IS OF BULK AT MOST 1048576: true; the input reads as it did. -/
def bitmapReadsUptoRow : OpenClaim := { program := "ytbjnfephigcdkaa", sum := "dd481423761695c6d31a35a9409736b6d831cd5957b27d50890f70fa3c191a9b", func := "estreat/estreatlaw07.BitmapReads", spec := "bitmapReads", apart := false, narrowed := true }
def BitmapReadsUptoSaid : Prop := bitmapReadsUptoRow.holds Try.pinned (OpenSpec.upto bitmapReadsSpec)

/-- 'estreatlaw07.BitmapRank', WHERE WHAT IT READS IS OF BULK AT MOST 1048576: true; the input reads as it did. -/
def bitmapRankUptoRow : OpenClaim := { program := "ytbjnfephigcdkaa", sum := "dd481423761695c6d31a35a9409736b6d831cd5957b27d50890f70fa3c191a9b", func := "estreat/estreatlaw07.BitmapRank", spec := "bitmapRank", apart := false, narrowed := true }
def BitmapRankUptoSaid : Prop := bitmapRankUptoRow.holds Try.pinned (OpenSpec.upto bitmapRankSpec)

/-- 'estreatlaw02.BitsPacks', WHERE WHAT IT READS IS OF BULK AT MOST 1048576: true; the input reads as it did. -/
def bitsPacksUptoRow : OpenClaim := { program := "ytbjnfephigcdkaa", sum := "dd481423761695c6d31a35a9409736b6d831cd5957b27d50890f70fa3c191a9b", func := "estreat/estreatlaw02.BitsPacks", spec := "bitsPacks", apart := false, narrowed := true }
def BitsPacksUptoSaid : Prop := bitsPacksUptoRow.holds Try.pinned (OpenSpec.upto bitsPacksSpec)

/-- 'estreatlaw02.BitsParts', WHERE WHAT IT READS IS OF BULK AT MOST 1048576: true; the input reads as it did. -/
def bitsPartsUptoRow : OpenClaim := { program := "ytbjnfephigcdkaa", sum := "dd481423761695c6d31a35a9409736b6d831cd5957b27d50890f70fa3c191a9b", func := "estreat/estreatlaw02.BitsParts", spec := "bitsParts", apart := false, narrowed := true }
def BitsPartsUptoSaid : Prop := bitsPartsUptoRow.holds Try.pinned (OpenSpec.upto bitsPartsSpec)

/-- 'estreatlaw07.BitmapPlays', WHERE WHAT IT READS IS OF BULK AT MOST 1048576: true; the input reads as it did. -/
def bitmapPlaysUptoRow : OpenClaim := { program := "ytbjnfephigcdkaa", sum := "dd481423761695c6d31a35a9409736b6d831cd5957b27d50890f70fa3c191a9b", func := "estreat/estreatlaw07.BitmapPlays", spec := "bitmapPlays", apart := false, narrowed := true }
def BitmapPlaysUptoSaid : Prop := bitmapPlaysUptoRow.holds Try.pinned (OpenSpec.upto bitmapPlaysSpec)

/-- 'estreatlaw07.BitmapBack', WHERE WHAT IT READS IS OF BULK AT MOST 1048576: true; the input reads as it did. -/
def bitmapBackUptoRow : OpenClaim := { program := "ytbjnfephigcdkaa", sum := "dd481423761695c6d31a35a9409736b6d831cd5957b27d50890f70fa3c191a9b", func := "estreat/estreatlaw07.BitmapBack", spec := "bitmapBack", apart := false, narrowed := true }
def BitmapBackUptoSaid : Prop := bitmapBackUptoRow.holds Try.pinned (OpenSpec.upto bitmapBackSpec)

/-- 'estreatlaw02.BitsUnpacks', WHERE WHAT IT READS IS OF BULK AT MOST 1048576: true; the input reads as it did. -/
def bitsUnpacksUptoRow : OpenClaim := { program := "ytbjnfephigcdkaa", sum := "dd481423761695c6d31a35a9409736b6d831cd5957b27d50890f70fa3c191a9b", func := "estreat/estreatlaw02.BitsUnpacks", spec := "bitsUnpacks", apart := false, narrowed := true }
def BitsUnpacksUptoSaid : Prop := bitsUnpacksUptoRow.holds Try.pinned (OpenSpec.upto bitsUnpacksSpec)

end Rows
end Go.Proofs.Ytbjnfephigcdkaa
