/-
  DERIVED. GIVEN WITH THE SEED: THE CARDS: each row of YtbkocklahdlgkaaDoorRows.lean that lists a variable, with what it lists TIED to the program's text (the seventh form; the later family's looks); each row that meets fmt, with fmt's text TOLD by the authors' own Lean function (tested against real Go, not proved from fmt's source: count such statements apart). THE CARD IS WHAT COUNTS. Prove the row's statement (the work); the ties are given (YtbkocklahdlgkaaDoorTie.lean); close each card by the builder's one call (the guide's Derived/Test/ToyasCard.lean, 'card_holds'). Laid BY PROGRAM, IN A SANDBOX (cutbox-door.mjs). By AI agents, Wed Nov 11 2026. No macro, syntax, notation, axiom, sorry.
-/
import Derived.Test.YtbkocklahdlgkaaDoorRows
import GoSem.ClaimSeven
namespace Go.Proofs.YtbkocklahdlgkaaDoor
namespace Rows

/-- THE TIED CARD OF 'estreatlaw13.TextsBack'. -/
def textsBackCard : Claim7 := { stood := { row := textsBackRow, standIns := [], harness := (true, "22fc7dafca1f5942a687fc26e3bb3f068add8dbb5c1b2a7b14d6e0e9952b02a0"), looks := true }, kinds := [], alts := [], laidByText := true, laidKinds := [.handle], laidTests := true, laidLooks := .later }
def TextsBackCardSaid : Prop := Claim7.holds Tryd.pinned (.plain (OpenSpec.ofChange textsBackSpec)) textsBackCard

/-- THE TIED CARD OF 'estreatlaw23.ScanParts'. -/
def scanPartsCard : Claim7 := { stood := { row := scanPartsRow, standIns := [], harness := (true, "22fc7dafca1f5942a687fc26e3bb3f068add8dbb5c1b2a7b14d6e0e9952b02a0"), looks := true }, kinds := [], alts := [], laidByText := true, laidKinds := [.data], laidTests := true, laidLooks := .later }
def ScanPartsCardSaid : Prop := Claim7.holds Tryd.pinned (.plain (OpenSpec.ofChange scanPartsSpec)) scanPartsCard

/-- THE TIED CARD OF 'estreatlaw23.ScanCounts'. -/
def scanCountsCard : Claim7 := { stood := { row := scanCountsRow, standIns := [], harness := (true, "22fc7dafca1f5942a687fc26e3bb3f068add8dbb5c1b2a7b14d6e0e9952b02a0"), looks := true }, kinds := [], alts := [], laidByText := true, laidKinds := [.data], laidTests := true, laidLooks := .later }
def ScanCountsCardSaid : Prop := Claim7.holds Tryd.pinned (.plain (OpenSpec.ofChange scanCountsSpec)) scanCountsCard

/-- THE TIED CARD OF 'estreatlaw23.ScanGathers'. -/
def scanGathersCard : Claim7 := { stood := { row := scanGathersRow, standIns := [], harness := (true, "22fc7dafca1f5942a687fc26e3bb3f068add8dbb5c1b2a7b14d6e0e9952b02a0"), looks := true }, kinds := [], alts := [], laidByText := true, laidKinds := [.data], laidTests := true, laidLooks := .later }
def ScanGathersCardSaid : Prop := Claim7.holds Tryd.pinned (.plain (OpenSpec.ofChange scanGathersSpec)) scanGathersCard

/-- THE SECOND FORM's CARD OF 'estreatlaw13.TextsBack'. -/
def textsBackUptoCard : Claim7 := { stood := { row := textsBackUptoRow, standIns := [], harness := (true, "22fc7dafca1f5942a687fc26e3bb3f068add8dbb5c1b2a7b14d6e0e9952b02a0"), looks := true }, kinds := [], alts := [], laidByText := true, laidKinds := [.handle], laidTests := true, laidLooks := .later }
def TextsBackUptoCardSaid : Prop := Claim7.holds Tryd.pinned (.plain (OpenSpec.upto textsBackSpec)) textsBackUptoCard

/-- THE SECOND FORM's CARD OF 'estreatlaw23.ScanParts'. -/
def scanPartsUptoCard : Claim7 := { stood := { row := scanPartsUptoRow, standIns := [], harness := (true, "22fc7dafca1f5942a687fc26e3bb3f068add8dbb5c1b2a7b14d6e0e9952b02a0"), looks := true }, kinds := [], alts := [], laidByText := true, laidKinds := [.data], laidTests := true, laidLooks := .later }
def ScanPartsUptoCardSaid : Prop := Claim7.holds Tryd.pinned (.plain (OpenSpec.upto scanPartsSpec)) scanPartsUptoCard

/-- THE SECOND FORM's CARD OF 'estreatlaw23.ScanCounts'. -/
def scanCountsUptoCard : Claim7 := { stood := { row := scanCountsUptoRow, standIns := [], harness := (true, "22fc7dafca1f5942a687fc26e3bb3f068add8dbb5c1b2a7b14d6e0e9952b02a0"), looks := true }, kinds := [], alts := [], laidByText := true, laidKinds := [.data], laidTests := true, laidLooks := .later }
def ScanCountsUptoCardSaid : Prop := Claim7.holds Tryd.pinned (.plain (OpenSpec.upto scanCountsSpec)) scanCountsUptoCard

/-- THE SECOND FORM's CARD OF 'estreatlaw23.ScanGathers'. -/
def scanGathersUptoCard : Claim7 := { stood := { row := scanGathersUptoRow, standIns := [], harness := (true, "22fc7dafca1f5942a687fc26e3bb3f068add8dbb5c1b2a7b14d6e0e9952b02a0"), looks := true }, kinds := [], alts := [], laidByText := true, laidKinds := [.data], laidTests := true, laidLooks := .later }
def ScanGathersUptoCardSaid : Prop := Claim7.holds Tryd.pinned (.plain (OpenSpec.upto scanGathersSpec)) scanGathersUptoCard
end Rows
end Go.Proofs.YtbkocklahdlgkaaDoor
