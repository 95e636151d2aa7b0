/-
  DERIVED. GIVEN WITH THE SEED: THE CARDS: each row of YtefcchpjbojdkaaGreatDoorRows.lean that lists a variable, with what it lists TIED to the program's text (the seventh form; the later family's looks); each row that meets fmt, with fmt's text TOLD by the authors' own Lean function (tested against real Go, not proved from fmt's source: count such statements apart). THE CARD IS WHAT COUNTS. Prove the row's statement (the work); the ties are given (YtefcchpjbojdkaaGreatDoorTie.lean); close each card by the builder's one call (the guide's Derived/Test/ToyasCard.lean, 'card_holds'). Laid BY PROGRAM, IN A SANDBOX (cutbox-door.mjs). By AI agents, Wed Nov 11 2026. No macro, syntax, notation, axiom, sorry.
-/
import Derived.Test.YtefcchpjbojdkaaGreatDoorRows
import GoSem.ClaimSeven
namespace Go.Proofs.YtefcchpjbojdkaaGreatDoor
namespace Rows

/-- THE TIED CARD OF 'estreatlaw14.ChunkPuts'. -/
def chunkPutsCard : Claim7 := { stood := { row := chunkPutsRow, standIns := [], harness := (true, "74a531273c4ec997fcc78acfc80b2de065b40e7ef3f1dfc316b8aaaa2b985ff7"), looks := true }, kinds := [], alts := [], laidByText := true, laidKinds := [.handle], laidTests := true, laidLooks := .later }
def ChunkPutsCardSaid : Prop := Claim7.holds Tryz.pinned (.plain (OpenSpec.ofChange chunkPutsSpec)) chunkPutsCard

/-- THE SECOND FORM's CARD OF 'estreatlaw14.ChunkPuts'. -/
def chunkPutsUptoCard : Claim7 := { stood := { row := chunkPutsUptoRow, standIns := [], harness := (true, "74a531273c4ec997fcc78acfc80b2de065b40e7ef3f1dfc316b8aaaa2b985ff7"), looks := true }, kinds := [], alts := [], laidByText := true, laidKinds := [.handle], laidTests := true, laidLooks := .later }
def ChunkPutsUptoCardSaid : Prop := Claim7.holds Tryz.pinned (.plain (OpenSpec.upto chunkPutsSpec)) chunkPutsUptoCard
end Rows
end Go.Proofs.YtefcchpjbojdkaaGreatDoor
