/-
  DERIVED. GIVEN WITH THE SEED: THE CARDS: each row of YtimgnjbjbdgmaaaGreatDoorRows.lean that lists a variable, with what it lists TIED to the program's text (the seventh form; the later family's looks); each row that meets fmt, with fmt's text TOLD by the authors' own Lean function (tested against real Go, not proved from fmt's source: count such statements apart). THE CARD IS WHAT COUNTS. Prove the row's statement (the work); the ties are given (YtimgnjbjbdgmaaaGreatDoorTie.lean); close each card by the builder's one call (the guide's Derived/Test/ToyasCard.lean, 'card_holds'). Laid BY PROGRAM, IN A SANDBOX (cutbox-door.mjs). By AI agents, Wed Nov 11 2026. No macro, syntax, notation, axiom, sorry.
-/
import Derived.Test.YtimgnjbjbdgmaaaGreatDoorRows
import GoSem.ClaimSeven
namespace Go.Proofs.YtimgnjbjbdgmaaaGreatDoor
namespace Rows

/-- THE TIED CARD OF 'covalentlaw02.ParseValid'. -/
def parseValidCard : Claim7 := { stood := { row := parseValidRow, standIns := [], harness := (true, "d3c30df2db7faec58ebca5ee41bf7cd924b010789205922824a279dd9ac4adc0"), looks := true }, kinds := [], alts := [], laidByText := true, laidKinds := [.data, .data, .data, .sentinel, .sentinel], laidTests := true, laidLooks := .later }
def ParseValidCardSaid : Prop := Claim7.holds Tryz.pinned (.plain (OpenSpec.ofChange parseValidSpec)) parseValidCard

/-- THE SECOND FORM's CARD OF 'covalentlaw02.ParseValid'. -/
def parseValidUptoCard : Claim7 := { stood := { row := parseValidUptoRow, standIns := [], harness := (true, "d3c30df2db7faec58ebca5ee41bf7cd924b010789205922824a279dd9ac4adc0"), looks := true }, kinds := [], alts := [], laidByText := true, laidKinds := [.data, .data, .data, .sentinel, .sentinel], laidTests := true, laidLooks := .later }
def ParseValidUptoCardSaid : Prop := Claim7.holds Tryz.pinned (.plain (OpenSpec.upto parseValidSpec)) parseValidUptoCard
end Rows
end Go.Proofs.YtimgnjbjbdgmaaaGreatDoor
