/-
  DERIVED. GIVEN WITH THE SEED: THE CARDS: each row of YtamfchbgonekeaaGreatDoorRows.lean that lists a variable, with what it lists TIED to the program's text (the seventh form; the later family's looks); each row that meets fmt, with fmt's text TOLD by the authors' own Lean function (tested against real Go, not proved from fmt's source: count such statements apart). THE CARD IS WHAT COUNTS. Prove the row's statement (the work); the ties are given (YtamfchbgonekeaaGreatDoorTie.lean); close each card by the builder's one call (the guide's Derived/Test/ToyasCard.lean, 'card_holds'). Laid BY PROGRAM, IN A SANDBOX (cutbox-door.mjs). By AI agents, Wed Nov 11 2026. No macro, syntax, notation, axiom, sorry.
-/
import Derived.Test.YtamfchbgonekeaaGreatDoorRows
import GoSem.ClaimSeven
namespace Go.Proofs.YtamfchbgonekeaaGreatDoor
namespace Rows

/-- THE TIED CARD OF 'covalentlaw02.ParseTypeBack'. -/
def parseTypeBackCard : Claim7 := { stood := { row := parseTypeBackRow, standIns := [], harness := (true, "39a42e64f06157b1102f8619688e16b387f7492ff8d79fe51cb308d49ef695ca"), looks := true }, kinds := [], alts := [], laidByText := true, laidKinds := [.data, .data, .data, .data, .sentinel, .sentinel, .listed, .data, .pinned], laidTests := true, laidLooks := .later }
def ParseTypeBackCardSaid : Prop := Claim7.holds Tryz.pinned (.plain (OpenSpec.ofChange parseTypeBackSpec)) parseTypeBackCard

/-- THE SECOND FORM's CARD OF 'covalentlaw02.ParseTypeBack'. -/
def parseTypeBackUptoCard : Claim7 := { stood := { row := parseTypeBackUptoRow, standIns := [], harness := (true, "39a42e64f06157b1102f8619688e16b387f7492ff8d79fe51cb308d49ef695ca"), looks := true }, kinds := [], alts := [], laidByText := true, laidKinds := [.data, .data, .data, .data, .sentinel, .sentinel, .listed, .data, .pinned], laidTests := true, laidLooks := .later }
def ParseTypeBackUptoCardSaid : Prop := Claim7.holds Tryz.pinned (.plain (OpenSpec.upto parseTypeBackSpec)) parseTypeBackUptoCard
end Rows
end Go.Proofs.YtamfchbgonekeaaGreatDoor
