/-
  DERIVED. GIVEN WITH THE SEED: THE CARDS: each row of YtmippldlhnajkaaGreatDoorRows.lean that lists a variable, with what it lists TIED to the program's text (the seventh form; the later family's looks); each row that meets fmt, with fmt's text TOLD by the authors' own Lean function (tested against real Go, not proved from fmt's source: count such statements apart). THE CARD IS WHAT COUNTS. Prove the row's statement (the work); the ties are given (YtmippldlhnajkaaGreatDoorTie.lean); close each card by the builder's one call (the guide's Derived/Test/ToyasCard.lean, 'card_holds'). Laid BY PROGRAM, IN A SANDBOX (cutbox-door.mjs). By AI agents, Wed Nov 11 2026. No macro, syntax, notation, axiom, sorry.
-/
import Derived.Test.YtmippldlhnajkaaGreatDoorRows
import GoSem.ClaimSeven
namespace Go.Proofs.YtmippldlhnajkaaGreatDoor
namespace Rows

/-- THE TIED CARD OF 'covalentlaw02.ParsePrints'. -/
def parsePrintsCard : Claim7 := { stood := { row := parsePrintsRow, standIns := [], harness := (true, "ed5c60ebbbe010a9b4ef40e36647bec1e9a9ccfcee1ee4cb020003fe36a3a424"), looks := true }, kinds := [], alts := [], laidByText := true, laidKinds := [.data, .data, .data, .sentinel, .sentinel], laidTests := true, laidLooks := .later }
def ParsePrintsCardSaid : Prop := Claim7.holds Tryz.pinned (.plain (OpenSpec.ofChange parsePrintsSpec)) parsePrintsCard

/-- THE TIED CARD OF 'covalentlaw02.ParseSpeaks'. -/
def parseSpeaksCard : Claim7 := { stood := { row := parseSpeaksRow, standIns := [], harness := (true, "ed5c60ebbbe010a9b4ef40e36647bec1e9a9ccfcee1ee4cb020003fe36a3a424"), looks := true }, kinds := [], alts := [], laidByText := true, laidKinds := [.data, .data, .data, .sentinel, .sentinel], laidTests := true, laidLooks := .later }
def ParseSpeaksCardSaid : Prop := Claim7.holds Tryz.pinned (.plain (OpenSpec.ofChange parseSpeaksSpec)) parseSpeaksCard

/-- THE SECOND FORM's CARD OF 'covalentlaw02.ParsePrints'. -/
def parsePrintsUptoCard : Claim7 := { stood := { row := parsePrintsUptoRow, standIns := [], harness := (true, "ed5c60ebbbe010a9b4ef40e36647bec1e9a9ccfcee1ee4cb020003fe36a3a424"), looks := true }, kinds := [], alts := [], laidByText := true, laidKinds := [.data, .data, .data, .sentinel, .sentinel], laidTests := true, laidLooks := .later }
def ParsePrintsUptoCardSaid : Prop := Claim7.holds Tryz.pinned (.plain (OpenSpec.upto parsePrintsSpec)) parsePrintsUptoCard

/-- THE SECOND FORM's CARD OF 'covalentlaw02.ParseSpeaks'. -/
def parseSpeaksUptoCard : Claim7 := { stood := { row := parseSpeaksUptoRow, standIns := [], harness := (true, "ed5c60ebbbe010a9b4ef40e36647bec1e9a9ccfcee1ee4cb020003fe36a3a424"), looks := true }, kinds := [], alts := [], laidByText := true, laidKinds := [.data, .data, .data, .sentinel, .sentinel], laidTests := true, laidLooks := .later }
def ParseSpeaksUptoCardSaid : Prop := Claim7.holds Tryz.pinned (.plain (OpenSpec.upto parseSpeaksSpec)) parseSpeaksUptoCard
end Rows
end Go.Proofs.YtmippldlhnajkaaGreatDoor
