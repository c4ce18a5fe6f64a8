/-
  DERIVED. GIVEN WITH THE SEED: THE CARDS: each row of YtcbjnilpecpbmaaGreatDoorRows.lean that lists a variable, with what it lists TIED to the program's text (the seventh form; the later family's looks); each row that meets fmt, with fmt's text TOLD by the authors' own Lean function (tested against real Go, not proved from fmt's source: count such statements apart). THE CARD IS WHAT COUNTS. Prove the row's statement (the work); the ties are given (YtcbjnilpecpbmaaGreatDoorTie.lean); close each card by the builder's one call (the guide's Derived/Test/ToyasCard.lean, 'card_holds'). Laid BY PROGRAM, IN A SANDBOX (cutbox-door.mjs). By AI agents, Wed Nov 11 2026. No macro, syntax, notation, axiom, sorry.
-/
import Derived.Test.YtcbjnilpecpbmaaGreatDoorRows
import GoSem.ClaimSeven
namespace Go.Proofs.YtcbjnilpecpbmaaGreatDoor
namespace Rows

/-- THE TIED CARD OF 'covalentlaw02.ParseModules'. -/
def parseModulesCard : Claim7 := { stood := { row := parseModulesRow, standIns := [], harness := (true, "dd01fe4152c1a7a64f347e7df3b8646d32339bec48748f8d99c365f67c2376f8"), looks := true }, kinds := [], alts := [], laidByText := true, laidKinds := [.data, .data, .data, .sentinel, .sentinel], laidTests := true, laidLooks := .later }
def ParseModulesCardSaid : Prop := Claim7.holds Tryz.pinned (.plain (OpenSpec.ofChange parseModulesSpec)) parseModulesCard

/-- THE SECOND FORM's CARD OF 'covalentlaw02.ParseModules'. -/
def parseModulesUptoCard : Claim7 := { stood := { row := parseModulesUptoRow, standIns := [], harness := (true, "dd01fe4152c1a7a64f347e7df3b8646d32339bec48748f8d99c365f67c2376f8"), looks := true }, kinds := [], alts := [], laidByText := true, laidKinds := [.data, .data, .data, .sentinel, .sentinel], laidTests := true, laidLooks := .later }
def ParseModulesUptoCardSaid : Prop := Claim7.holds Tryz.pinned (.plain (OpenSpec.upto parseModulesSpec)) parseModulesUptoCard
end Rows
end Go.Proofs.YtcbjnilpecpbmaaGreatDoor
