/-
  DERIVED. GIVEN WITH THE SEED: THE CARDS: each row of YtmhiojdkjokccaaGreatDoorRows.lean that lists a variable, with what it lists TIED to the program's text (the seventh form; the later family's looks); each row that meets fmt, with fmt's text TOLD by the authors' own Lean function (tested against real Go, not proved from fmt's source: count such statements apart). THE CARD IS WHAT COUNTS. Prove the row's statement (the work); the ties are given (YtmhiojdkjokccaaGreatDoorTie.lean); close each card by the builder's one call (the guide's Derived/Test/ToyasCard.lean, 'card_holds'). Laid BY PROGRAM, IN A SANDBOX (cutbox-door.mjs). By AI agents, Wed Nov 11 2026. No macro, syntax, notation, axiom, sorry.
-/
import Derived.Test.YtmhiojdkjokccaaGreatDoorRows
import GoSem.ClaimSeven
namespace Go.Proofs.YtmhiojdkjokccaaGreatDoor
namespace Rows

/-- THE TIED CARD OF 'covalentlaw02.ParseFaults'. -/
def parseFaultsCard : Claim7 := { stood := { row := parseFaultsRow, standIns := [], harness := (true, "2aad8571beca5b878ca796222ab774a26190c7b0031e497a7948c6551cdbeab1"), looks := true }, kinds := [], alts := [], laidByText := true, laidKinds := [.data, .data, .data, .sentinel, .sentinel], laidTests := true, laidLooks := .later }
def ParseFaultsCardSaid : Prop := Claim7.holds Tryz.pinned (.plain (OpenSpec.ofChange parseFaultsSpec)) parseFaultsCard

/-- THE TIED CARD OF 'covalentlaw02.ParseLimits'. -/
def parseLimitsCard : Claim7 := { stood := { row := parseLimitsRow, standIns := [], harness := (true, "2aad8571beca5b878ca796222ab774a26190c7b0031e497a7948c6551cdbeab1"), looks := true }, kinds := [], alts := [], laidByText := true, laidKinds := [.data, .data, .data, .sentinel, .sentinel], laidTests := true, laidLooks := .later }
def ParseLimitsCardSaid : Prop := Claim7.holds Tryz.pinned (.plain (OpenSpec.ofChange parseLimitsSpec)) parseLimitsCard

/-- THE SECOND FORM's CARD OF 'covalentlaw02.ParseFaults'. -/
def parseFaultsUptoCard : Claim7 := { stood := { row := parseFaultsUptoRow, standIns := [], harness := (true, "2aad8571beca5b878ca796222ab774a26190c7b0031e497a7948c6551cdbeab1"), looks := true }, kinds := [], alts := [], laidByText := true, laidKinds := [.data, .data, .data, .sentinel, .sentinel], laidTests := true, laidLooks := .later }
def ParseFaultsUptoCardSaid : Prop := Claim7.holds Tryz.pinned (.plain (OpenSpec.upto parseFaultsSpec)) parseFaultsUptoCard

/-- THE SECOND FORM's CARD OF 'covalentlaw02.ParseLimits'. -/
def parseLimitsUptoCard : Claim7 := { stood := { row := parseLimitsUptoRow, standIns := [], harness := (true, "2aad8571beca5b878ca796222ab774a26190c7b0031e497a7948c6551cdbeab1"), looks := true }, kinds := [], alts := [], laidByText := true, laidKinds := [.data, .data, .data, .sentinel, .sentinel], laidTests := true, laidLooks := .later }
def ParseLimitsUptoCardSaid : Prop := Claim7.holds Tryz.pinned (.plain (OpenSpec.upto parseLimitsSpec)) parseLimitsUptoCard
end Rows
end Go.Proofs.YtmhiojdkjokccaaGreatDoor
