/-
  DERIVED. GIVEN WITH THE SEED: THE CARDS: each row of YtieddojplhmhgaaDoorRows.lean that lists a variable, with what it lists TIED to the program's text (the seventh form; the later family's looks); each row that meets fmt, with fmt's text TOLD by the authors' own Lean function (tested against real Go, not proved from fmt's source: count such statements apart). THE CARD IS WHAT COUNTS. Prove the row's statement (the work); the ties are given (YtieddojplhmhgaaDoorTie.lean); close each card by the builder's one call (the guide's Derived/Test/ToyasCard.lean, 'card_holds'). Laid BY PROGRAM, IN A SANDBOX (cutbox-door.mjs). By AI agents, Wed Nov 11 2026. No macro, syntax, notation, axiom, sorry.
-/
import Derived.Test.YtieddojplhmhgaaDoorRows
import GoSem.ClaimSeven
namespace Go.Proofs.YtieddojplhmhgaaDoor
namespace Rows

/-- THE TIED CARD OF 'estreatlaw12.ForeBack'. -/
def foreBackCard : Claim7 := { stood := { row := foreBackRow, standIns := [], harness := (true, "2bc9b33a02858dcafcd36541e6bcef3c9a6000bf61d1deb7e69fb515920e98a5"), looks := true }, kinds := [], alts := [], laidByText := true, laidKinds := [.handle], laidTests := true, laidLooks := .later }
def ForeBackCardSaid : Prop := Claim7.holds Tryd.pinned (.plain (OpenSpec.ofChange foreBackSpec)) foreBackCard

/-- THE TIED CARD OF 'estreatlaw10.DeltaGets'. -/
def deltaGetsCard : Claim7 := { stood := { row := deltaGetsRow, standIns := [], harness := (true, "2bc9b33a02858dcafcd36541e6bcef3c9a6000bf61d1deb7e69fb515920e98a5"), looks := true }, kinds := [], alts := [], laidByText := true, laidKinds := [.handle], laidTests := true, laidLooks := .later }
def DeltaGetsCardSaid : Prop := Claim7.holds Tryd.pinned (.plain (OpenSpec.ofChange deltaGetsSpec)) deltaGetsCard

/-- THE TIED CARD OF 'estreatlaw10.DeltaBack'. -/
def deltaBackCard : Claim7 := { stood := { row := deltaBackRow, standIns := [], harness := (true, "2bc9b33a02858dcafcd36541e6bcef3c9a6000bf61d1deb7e69fb515920e98a5"), looks := true }, kinds := [], alts := [], laidByText := true, laidKinds := [.handle], laidTests := true, laidLooks := .later }
def DeltaBackCardSaid : Prop := Claim7.holds Tryd.pinned (.plain (OpenSpec.ofChange deltaBackSpec)) deltaBackCard

/-- THE TIED CARD OF 'estreatlaw11.DictGets'. -/
def dictGetsCard : Claim7 := { stood := { row := dictGetsRow, standIns := [], harness := (true, "2bc9b33a02858dcafcd36541e6bcef3c9a6000bf61d1deb7e69fb515920e98a5"), looks := true }, kinds := [], alts := [], laidByText := true, laidKinds := [.handle], laidTests := true, laidLooks := .later }
def DictGetsCardSaid : Prop := Claim7.holds Tryd.pinned (.plain (OpenSpec.ofChange dictGetsSpec)) dictGetsCard

/-- THE TIED CARD OF 'estreatlaw11.DictBack'. -/
def dictBackCard : Claim7 := { stood := { row := dictBackRow, standIns := [], harness := (true, "2bc9b33a02858dcafcd36541e6bcef3c9a6000bf61d1deb7e69fb515920e98a5"), looks := true }, kinds := [], alts := [], laidByText := true, laidKinds := [.handle], laidTests := true, laidLooks := .later }
def DictBackCardSaid : Prop := Claim7.holds Tryd.pinned (.plain (OpenSpec.ofChange dictBackSpec)) dictBackCard

/-- THE TIED CARD OF 'estreatlaw13.TextsGets'. -/
def textsGetsCard : Claim7 := { stood := { row := textsGetsRow, standIns := [], harness := (true, "2bc9b33a02858dcafcd36541e6bcef3c9a6000bf61d1deb7e69fb515920e98a5"), looks := true }, kinds := [], alts := [], laidByText := true, laidKinds := [.handle], laidTests := true, laidLooks := .later }
def TextsGetsCardSaid : Prop := Claim7.holds Tryd.pinned (.plain (OpenSpec.ofChange textsGetsSpec)) textsGetsCard

/-- THE SECOND FORM's CARD OF 'estreatlaw12.ForeBack'. -/
def foreBackUptoCard : Claim7 := { stood := { row := foreBackUptoRow, standIns := [], harness := (true, "2bc9b33a02858dcafcd36541e6bcef3c9a6000bf61d1deb7e69fb515920e98a5"), looks := true }, kinds := [], alts := [], laidByText := true, laidKinds := [.handle], laidTests := true, laidLooks := .later }
def ForeBackUptoCardSaid : Prop := Claim7.holds Tryd.pinned (.plain (OpenSpec.upto foreBackSpec)) foreBackUptoCard

/-- THE SECOND FORM's CARD OF 'estreatlaw10.DeltaGets'. -/
def deltaGetsUptoCard : Claim7 := { stood := { row := deltaGetsUptoRow, standIns := [], harness := (true, "2bc9b33a02858dcafcd36541e6bcef3c9a6000bf61d1deb7e69fb515920e98a5"), looks := true }, kinds := [], alts := [], laidByText := true, laidKinds := [.handle], laidTests := true, laidLooks := .later }
def DeltaGetsUptoCardSaid : Prop := Claim7.holds Tryd.pinned (.plain (OpenSpec.upto deltaGetsSpec)) deltaGetsUptoCard

/-- THE SECOND FORM's CARD OF 'estreatlaw10.DeltaBack'. -/
def deltaBackUptoCard : Claim7 := { stood := { row := deltaBackUptoRow, standIns := [], harness := (true, "2bc9b33a02858dcafcd36541e6bcef3c9a6000bf61d1deb7e69fb515920e98a5"), looks := true }, kinds := [], alts := [], laidByText := true, laidKinds := [.handle], laidTests := true, laidLooks := .later }
def DeltaBackUptoCardSaid : Prop := Claim7.holds Tryd.pinned (.plain (OpenSpec.upto deltaBackSpec)) deltaBackUptoCard

/-- THE SECOND FORM's CARD OF 'estreatlaw11.DictGets'. -/
def dictGetsUptoCard : Claim7 := { stood := { row := dictGetsUptoRow, standIns := [], harness := (true, "2bc9b33a02858dcafcd36541e6bcef3c9a6000bf61d1deb7e69fb515920e98a5"), looks := true }, kinds := [], alts := [], laidByText := true, laidKinds := [.handle], laidTests := true, laidLooks := .later }
def DictGetsUptoCardSaid : Prop := Claim7.holds Tryd.pinned (.plain (OpenSpec.upto dictGetsSpec)) dictGetsUptoCard

/-- THE SECOND FORM's CARD OF 'estreatlaw11.DictBack'. -/
def dictBackUptoCard : Claim7 := { stood := { row := dictBackUptoRow, standIns := [], harness := (true, "2bc9b33a02858dcafcd36541e6bcef3c9a6000bf61d1deb7e69fb515920e98a5"), looks := true }, kinds := [], alts := [], laidByText := true, laidKinds := [.handle], laidTests := true, laidLooks := .later }
def DictBackUptoCardSaid : Prop := Claim7.holds Tryd.pinned (.plain (OpenSpec.upto dictBackSpec)) dictBackUptoCard

/-- THE SECOND FORM's CARD OF 'estreatlaw13.TextsGets'. -/
def textsGetsUptoCard : Claim7 := { stood := { row := textsGetsUptoRow, standIns := [], harness := (true, "2bc9b33a02858dcafcd36541e6bcef3c9a6000bf61d1deb7e69fb515920e98a5"), looks := true }, kinds := [], alts := [], laidByText := true, laidKinds := [.handle], laidTests := true, laidLooks := .later }
def TextsGetsUptoCardSaid : Prop := Claim7.holds Tryd.pinned (.plain (OpenSpec.upto textsGetsSpec)) textsGetsUptoCard
end Rows
end Go.Proofs.YtieddojplhmhgaaDoor
