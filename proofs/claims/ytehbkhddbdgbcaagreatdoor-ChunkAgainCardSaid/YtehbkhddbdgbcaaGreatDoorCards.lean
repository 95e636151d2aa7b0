/-
  DERIVED. GIVEN WITH THE SEED: THE CARDS: each row of YtehbkhddbdgbcaaGreatDoorRows.lean that lists a variable, with what it lists TIED to the program's text (the seventh form; the later family's looks); each row that meets fmt, with fmt's text TOLD by the authors' own Lean function (tested against real Go, not proved from fmt's source: count such statements apart). THE CARD IS WHAT COUNTS. Prove the row's statement (the work); the ties are given (YtehbkhddbdgbcaaGreatDoorTie.lean); close each card by the builder's one call (the guide's Derived/Test/ToyasCard.lean, 'card_holds'). Laid BY PROGRAM, IN A SANDBOX (cutbox-door.mjs). By AI agents, Wed Nov 11 2026. No macro, syntax, notation, axiom, sorry.
-/
import Derived.Test.YtehbkhddbdgbcaaGreatDoorRows
import GoSem.ClaimSeven
namespace Go.Proofs.YtehbkhddbdgbcaaGreatDoor
namespace Rows

/-- THE TIED CARD OF 'estreatlaw14.ChunkBack'. -/
def chunkBackCard : Claim7 := { stood := { row := chunkBackRow, standIns := [], harness := (true, "85d05154215df188a9cf8d99856946aac0f0c58020bb2d199fc042753e6a6dde"), looks := true }, kinds := [], alts := [], laidByText := true, laidKinds := [.handle], laidTests := true, laidLooks := .later }
def ChunkBackCardSaid : Prop := Claim7.holds Tryz.pinned (.plain (OpenSpec.ofChange chunkBackSpec)) chunkBackCard

/-- THE TIED CARD OF 'estreatlaw14.ChunkNulls'. -/
def chunkNullsCard : Claim7 := { stood := { row := chunkNullsRow, standIns := [], harness := (true, "85d05154215df188a9cf8d99856946aac0f0c58020bb2d199fc042753e6a6dde"), looks := true }, kinds := [], alts := [], laidByText := true, laidKinds := [.handle], laidTests := true, laidLooks := .later }
def ChunkNullsCardSaid : Prop := Claim7.holds Tryz.pinned (.plain (OpenSpec.ofChange chunkNullsSpec)) chunkNullsCard

/-- THE TIED CARD OF 'estreatlaw14.ChunkAgain'. -/
def chunkAgainCard : Claim7 := { stood := { row := chunkAgainRow, standIns := [], harness := (true, "85d05154215df188a9cf8d99856946aac0f0c58020bb2d199fc042753e6a6dde"), looks := true }, kinds := [], alts := [], laidByText := true, laidKinds := [.handle], laidTests := true, laidLooks := .later }
def ChunkAgainCardSaid : Prop := Claim7.holds Tryz.pinned (.plain (OpenSpec.ofChange chunkAgainSpec)) chunkAgainCard

/-- THE SECOND FORM's CARD OF 'estreatlaw14.ChunkBack'. -/
def chunkBackUptoCard : Claim7 := { stood := { row := chunkBackUptoRow, standIns := [], harness := (true, "85d05154215df188a9cf8d99856946aac0f0c58020bb2d199fc042753e6a6dde"), looks := true }, kinds := [], alts := [], laidByText := true, laidKinds := [.handle], laidTests := true, laidLooks := .later }
def ChunkBackUptoCardSaid : Prop := Claim7.holds Tryz.pinned (.plain (OpenSpec.upto chunkBackSpec)) chunkBackUptoCard

/-- THE SECOND FORM's CARD OF 'estreatlaw14.ChunkNulls'. -/
def chunkNullsUptoCard : Claim7 := { stood := { row := chunkNullsUptoRow, standIns := [], harness := (true, "85d05154215df188a9cf8d99856946aac0f0c58020bb2d199fc042753e6a6dde"), looks := true }, kinds := [], alts := [], laidByText := true, laidKinds := [.handle], laidTests := true, laidLooks := .later }
def ChunkNullsUptoCardSaid : Prop := Claim7.holds Tryz.pinned (.plain (OpenSpec.upto chunkNullsSpec)) chunkNullsUptoCard

/-- THE SECOND FORM's CARD OF 'estreatlaw14.ChunkAgain'. -/
def chunkAgainUptoCard : Claim7 := { stood := { row := chunkAgainUptoRow, standIns := [], harness := (true, "85d05154215df188a9cf8d99856946aac0f0c58020bb2d199fc042753e6a6dde"), looks := true }, kinds := [], alts := [], laidByText := true, laidKinds := [.handle], laidTests := true, laidLooks := .later }
def ChunkAgainUptoCardSaid : Prop := Claim7.holds Tryz.pinned (.plain (OpenSpec.upto chunkAgainSpec)) chunkAgainUptoCard
end Rows
end Go.Proofs.YtehbkhddbdgbcaaGreatDoor
