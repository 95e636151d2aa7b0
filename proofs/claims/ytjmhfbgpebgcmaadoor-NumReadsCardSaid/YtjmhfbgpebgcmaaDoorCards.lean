/-
  DERIVED. GIVEN WITH THE SEED: THE CARDS: each row of YtjmhfbgpebgcmaaDoorRows.lean that lists a variable, with what it lists TIED to the program's text (the seventh form; the later family's looks); each row that meets fmt, with fmt's text TOLD by the authors' own Lean function (tested against real Go, not proved from fmt's source: count such statements apart). THE CARD IS WHAT COUNTS. Prove the row's statement (the work); the ties are given (YtjmhfbgpebgcmaaDoorTie.lean); close each card by the builder's one call (the guide's Derived/Test/ToyasCard.lean, 'card_holds'). Laid BY PROGRAM, IN A SANDBOX (cutbox-door.mjs). By AI agents, Wed Nov 11 2026. No macro, syntax, notation, axiom, sorry.
-/
import Derived.Test.YtjmhfbgpebgcmaaDoorRows
import GoSem.ClaimSeven
namespace Go.Proofs.YtjmhfbgpebgcmaaDoor
namespace Rows

/-- THE TIED CARD OF 'estreatlaw01.NumCut'. -/
def numCutCard : Claim7 := { stood := { row := numCutRow, standIns := [], harness := (true, "79f2a92413178ee6c25cf8fad21fab6e9f9142671f3b6038aa11141fb99fd91d"), looks := true }, kinds := [], alts := [], laidByText := true, laidKinds := [.handle], laidTests := true, laidLooks := .later }
def NumCutCardSaid : Prop := Claim7.holds Tryd.pinned (.plain (OpenSpec.ofChange numCutSpec)) numCutCard

/-- THE TIED CARD OF 'estreatlaw01.NumBack'. -/
def numBackCard : Claim7 := { stood := { row := numBackRow, standIns := [], harness := (true, "79f2a92413178ee6c25cf8fad21fab6e9f9142671f3b6038aa11141fb99fd91d"), looks := true }, kinds := [], alts := [], laidByText := true, laidKinds := [.handle], laidTests := true, laidLooks := .later }
def NumBackCardSaid : Prop := Claim7.holds Tryd.pinned (.plain (OpenSpec.ofChange numBackSpec)) numBackCard

/-- THE TIED CARD OF 'estreatlaw01.NumReads'. -/
def numReadsCard : Claim7 := { stood := { row := numReadsRow, standIns := [], harness := (true, "79f2a92413178ee6c25cf8fad21fab6e9f9142671f3b6038aa11141fb99fd91d"), looks := true }, kinds := [], alts := [], laidByText := true, laidKinds := [.handle], laidTests := true, laidLooks := .later }
def NumReadsCardSaid : Prop := Claim7.holds Tryd.pinned (.plain (OpenSpec.ofChange numReadsSpec)) numReadsCard

/-- THE TIED CARD OF 'estreatlaw08.PlainGets'. -/
def plainGetsCard : Claim7 := { stood := { row := plainGetsRow, standIns := [], harness := (true, "79f2a92413178ee6c25cf8fad21fab6e9f9142671f3b6038aa11141fb99fd91d"), looks := true }, kinds := [], alts := [], laidByText := true, laidKinds := [.handle], laidTests := true, laidLooks := .later }
def PlainGetsCardSaid : Prop := Claim7.holds Tryd.pinned (.plain (OpenSpec.ofChange plainGetsSpec)) plainGetsCard

/-- THE TIED CARD OF 'estreatlaw08.PlainBack'. -/
def plainBackCard : Claim7 := { stood := { row := plainBackRow, standIns := [], harness := (true, "79f2a92413178ee6c25cf8fad21fab6e9f9142671f3b6038aa11141fb99fd91d"), looks := true }, kinds := [], alts := [], laidByText := true, laidKinds := [.handle], laidTests := true, laidLooks := .later }
def PlainBackCardSaid : Prop := Claim7.holds Tryd.pinned (.plain (OpenSpec.ofChange plainBackSpec)) plainBackCard

/-- THE TIED CARD OF 'estreatlaw09.RunsGets'. -/
def runsGetsCard : Claim7 := { stood := { row := runsGetsRow, standIns := [], harness := (true, "79f2a92413178ee6c25cf8fad21fab6e9f9142671f3b6038aa11141fb99fd91d"), looks := true }, kinds := [], alts := [], laidByText := true, laidKinds := [.handle], laidTests := true, laidLooks := .later }
def RunsGetsCardSaid : Prop := Claim7.holds Tryd.pinned (.plain (OpenSpec.ofChange runsGetsSpec)) runsGetsCard

/-- THE TIED CARD OF 'estreatlaw09.RunsBack'. -/
def runsBackCard : Claim7 := { stood := { row := runsBackRow, standIns := [], harness := (true, "79f2a92413178ee6c25cf8fad21fab6e9f9142671f3b6038aa11141fb99fd91d"), looks := true }, kinds := [], alts := [], laidByText := true, laidKinds := [.handle], laidTests := true, laidLooks := .later }
def RunsBackCardSaid : Prop := Claim7.holds Tryd.pinned (.plain (OpenSpec.ofChange runsBackSpec)) runsBackCard

/-- THE TIED CARD OF 'estreatlaw12.ForeGets'. -/
def foreGetsCard : Claim7 := { stood := { row := foreGetsRow, standIns := [], harness := (true, "79f2a92413178ee6c25cf8fad21fab6e9f9142671f3b6038aa11141fb99fd91d"), looks := true }, kinds := [], alts := [], laidByText := true, laidKinds := [.handle], laidTests := true, laidLooks := .later }
def ForeGetsCardSaid : Prop := Claim7.holds Tryd.pinned (.plain (OpenSpec.ofChange foreGetsSpec)) foreGetsCard

/-- THE SECOND FORM's CARD OF 'estreatlaw01.NumCut'. -/
def numCutUptoCard : Claim7 := { stood := { row := numCutUptoRow, standIns := [], harness := (true, "79f2a92413178ee6c25cf8fad21fab6e9f9142671f3b6038aa11141fb99fd91d"), looks := true }, kinds := [], alts := [], laidByText := true, laidKinds := [.handle], laidTests := true, laidLooks := .later }
def NumCutUptoCardSaid : Prop := Claim7.holds Tryd.pinned (.plain (OpenSpec.upto numCutSpec)) numCutUptoCard

/-- THE SECOND FORM's CARD OF 'estreatlaw01.NumBack'. -/
def numBackUptoCard : Claim7 := { stood := { row := numBackUptoRow, standIns := [], harness := (true, "79f2a92413178ee6c25cf8fad21fab6e9f9142671f3b6038aa11141fb99fd91d"), looks := true }, kinds := [], alts := [], laidByText := true, laidKinds := [.handle], laidTests := true, laidLooks := .later }
def NumBackUptoCardSaid : Prop := Claim7.holds Tryd.pinned (.plain (OpenSpec.upto numBackSpec)) numBackUptoCard

/-- THE SECOND FORM's CARD OF 'estreatlaw01.NumReads'. -/
def numReadsUptoCard : Claim7 := { stood := { row := numReadsUptoRow, standIns := [], harness := (true, "79f2a92413178ee6c25cf8fad21fab6e9f9142671f3b6038aa11141fb99fd91d"), looks := true }, kinds := [], alts := [], laidByText := true, laidKinds := [.handle], laidTests := true, laidLooks := .later }
def NumReadsUptoCardSaid : Prop := Claim7.holds Tryd.pinned (.plain (OpenSpec.upto numReadsSpec)) numReadsUptoCard

/-- THE SECOND FORM's CARD OF 'estreatlaw08.PlainGets'. -/
def plainGetsUptoCard : Claim7 := { stood := { row := plainGetsUptoRow, standIns := [], harness := (true, "79f2a92413178ee6c25cf8fad21fab6e9f9142671f3b6038aa11141fb99fd91d"), looks := true }, kinds := [], alts := [], laidByText := true, laidKinds := [.handle], laidTests := true, laidLooks := .later }
def PlainGetsUptoCardSaid : Prop := Claim7.holds Tryd.pinned (.plain (OpenSpec.upto plainGetsSpec)) plainGetsUptoCard

/-- THE SECOND FORM's CARD OF 'estreatlaw08.PlainBack'. -/
def plainBackUptoCard : Claim7 := { stood := { row := plainBackUptoRow, standIns := [], harness := (true, "79f2a92413178ee6c25cf8fad21fab6e9f9142671f3b6038aa11141fb99fd91d"), looks := true }, kinds := [], alts := [], laidByText := true, laidKinds := [.handle], laidTests := true, laidLooks := .later }
def PlainBackUptoCardSaid : Prop := Claim7.holds Tryd.pinned (.plain (OpenSpec.upto plainBackSpec)) plainBackUptoCard

/-- THE SECOND FORM's CARD OF 'estreatlaw09.RunsGets'. -/
def runsGetsUptoCard : Claim7 := { stood := { row := runsGetsUptoRow, standIns := [], harness := (true, "79f2a92413178ee6c25cf8fad21fab6e9f9142671f3b6038aa11141fb99fd91d"), looks := true }, kinds := [], alts := [], laidByText := true, laidKinds := [.handle], laidTests := true, laidLooks := .later }
def RunsGetsUptoCardSaid : Prop := Claim7.holds Tryd.pinned (.plain (OpenSpec.upto runsGetsSpec)) runsGetsUptoCard

/-- THE SECOND FORM's CARD OF 'estreatlaw09.RunsBack'. -/
def runsBackUptoCard : Claim7 := { stood := { row := runsBackUptoRow, standIns := [], harness := (true, "79f2a92413178ee6c25cf8fad21fab6e9f9142671f3b6038aa11141fb99fd91d"), looks := true }, kinds := [], alts := [], laidByText := true, laidKinds := [.handle], laidTests := true, laidLooks := .later }
def RunsBackUptoCardSaid : Prop := Claim7.holds Tryd.pinned (.plain (OpenSpec.upto runsBackSpec)) runsBackUptoCard

/-- THE SECOND FORM's CARD OF 'estreatlaw12.ForeGets'. -/
def foreGetsUptoCard : Claim7 := { stood := { row := foreGetsUptoRow, standIns := [], harness := (true, "79f2a92413178ee6c25cf8fad21fab6e9f9142671f3b6038aa11141fb99fd91d"), looks := true }, kinds := [], alts := [], laidByText := true, laidKinds := [.handle], laidTests := true, laidLooks := .later }
def ForeGetsUptoCardSaid : Prop := Claim7.holds Tryd.pinned (.plain (OpenSpec.upto foreGetsSpec)) foreGetsUptoCard
end Rows
end Go.Proofs.YtjmhfbgpebgcmaaDoor
