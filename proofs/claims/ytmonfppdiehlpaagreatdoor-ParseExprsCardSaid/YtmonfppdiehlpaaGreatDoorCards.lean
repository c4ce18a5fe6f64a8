/-
  DERIVED. GIVEN WITH THE SEED: THE CARDS: each row of YtmonfppdiehlpaaGreatDoorRows.lean that lists a variable, with what it lists TIED to the program's text (the seventh form; the later family's looks); each row that meets fmt, with fmt's text TOLD by the authors' own Lean function (tested against real Go, not proved from fmt's source: count such statements apart). THE CARD IS WHAT COUNTS. Prove the row's statement (the work); the ties are given (YtmonfppdiehlpaaGreatDoorTie.lean); close each card by the builder's one call (the guide's Derived/Test/ToyasCard.lean, 'card_holds'). Laid BY PROGRAM, IN A SANDBOX (cutbox-door.mjs). By AI agents, Wed Nov 11 2026. No macro, syntax, notation, axiom, sorry.
-/
import Derived.Test.YtmonfppdiehlpaaGreatDoorRows
import GoSem.ClaimSeven
namespace Go.Proofs.YtmonfppdiehlpaaGreatDoor
namespace Rows

/-- THE TIED CARD OF 'covalentlaw02.ParseModules'. -/
def parseModulesCard : Claim7 := { stood := { row := parseModulesRow, standIns := [], harness := (true, "4249146b76d7e5190ea62c05aa53c8df63eeefca824cd102e85ca92d5e004fbe"), looks := true }, kinds := [], alts := [], laidByText := true, laidKinds := [.data, .data, .data, .sentinel, .sentinel], laidTests := true, laidLooks := .later }
def ParseModulesCardSaid : Prop := Claim7.holds Tryz.pinned (.plain (OpenSpec.ofChange parseModulesSpec)) parseModulesCard

/-- THE TIED CARD OF 'covalentlaw02.ParsePrints'. -/
def parsePrintsCard : Claim7 := { stood := { row := parsePrintsRow, standIns := [], harness := (true, "4249146b76d7e5190ea62c05aa53c8df63eeefca824cd102e85ca92d5e004fbe"), looks := true }, kinds := [], alts := [], laidByText := true, laidKinds := [.data, .data, .data, .sentinel, .sentinel], laidTests := true, laidLooks := .later }
def ParsePrintsCardSaid : Prop := Claim7.holds Tryz.pinned (.plain (OpenSpec.ofChange parsePrintsSpec)) parsePrintsCard

/-- THE TIED CARD OF 'covalentlaw02.ParseSpeaks'. -/
def parseSpeaksCard : Claim7 := { stood := { row := parseSpeaksRow, standIns := [], harness := (true, "4249146b76d7e5190ea62c05aa53c8df63eeefca824cd102e85ca92d5e004fbe"), looks := true }, kinds := [], alts := [], laidByText := true, laidKinds := [.data, .data, .data, .sentinel, .sentinel], laidTests := true, laidLooks := .later }
def ParseSpeaksCardSaid : Prop := Claim7.holds Tryz.pinned (.plain (OpenSpec.ofChange parseSpeaksSpec)) parseSpeaksCard

/-- THE TIED CARD OF 'covalentlaw02.ParseSame'. -/
def parseSameCard : Claim7 := { stood := { row := parseSameRow, standIns := [], harness := (true, "4249146b76d7e5190ea62c05aa53c8df63eeefca824cd102e85ca92d5e004fbe"), looks := true }, kinds := [], alts := [], laidByText := true, laidKinds := [.data, .data, .data, .sentinel, .sentinel], laidTests := true, laidLooks := .later }
def ParseSameCardSaid : Prop := Claim7.holds Tryz.pinned (.plain (OpenSpec.ofChange parseSameSpec)) parseSameCard

/-- THE TIED CARD OF 'covalentlaw02.ParseFinds'. -/
def parseFindsCard : Claim7 := { stood := { row := parseFindsRow, standIns := [], harness := (true, "4249146b76d7e5190ea62c05aa53c8df63eeefca824cd102e85ca92d5e004fbe"), looks := true }, kinds := [], alts := [], laidByText := true, laidKinds := [.data, .data, .data, .sentinel, .sentinel], laidTests := true, laidLooks := .later }
def ParseFindsCardSaid : Prop := Claim7.holds Tryz.pinned (.plain (OpenSpec.ofChange parseFindsSpec)) parseFindsCard

/-- THE TIED CARD OF 'covalentlaw02.ParseExprs'. -/
def parseExprsCard : Claim7 := { stood := { row := parseExprsRow, standIns := [], harness := (true, "4249146b76d7e5190ea62c05aa53c8df63eeefca824cd102e85ca92d5e004fbe"), looks := true }, kinds := [], alts := [], laidByText := true, laidKinds := [.data, .data, .data, .sentinel, .sentinel], laidTests := true, laidLooks := .later }
def ParseExprsCardSaid : Prop := Claim7.holds Tryz.pinned (.plain (OpenSpec.ofChange parseExprsSpec)) parseExprsCard

/-- THE TIED CARD OF 'covalentlaw02.ParseValid'. -/
def parseValidCard : Claim7 := { stood := { row := parseValidRow, standIns := [], harness := (true, "4249146b76d7e5190ea62c05aa53c8df63eeefca824cd102e85ca92d5e004fbe"), looks := true }, kinds := [], alts := [], laidByText := true, laidKinds := [.data, .data, .data, .sentinel, .sentinel], laidTests := true, laidLooks := .later }
def ParseValidCardSaid : Prop := Claim7.holds Tryz.pinned (.plain (OpenSpec.ofChange parseValidSpec)) parseValidCard

/-- THE TIED CARD OF 'covalentlaw02.ParseTypes'. -/
def parseTypesCard : Claim7 := { stood := { row := parseTypesRow, standIns := [], harness := (true, "4249146b76d7e5190ea62c05aa53c8df63eeefca824cd102e85ca92d5e004fbe"), looks := true }, kinds := [], alts := [], laidByText := true, laidKinds := [.data, .data, .data, .sentinel, .sentinel], laidTests := true, laidLooks := .later }
def ParseTypesCardSaid : Prop := Claim7.holds Tryz.pinned (.plain (OpenSpec.ofChange parseTypesSpec)) parseTypesCard

/-- THE SECOND FORM's CARD OF 'covalentlaw02.ParseModules'. -/
def parseModulesUptoCard : Claim7 := { stood := { row := parseModulesUptoRow, standIns := [], harness := (true, "4249146b76d7e5190ea62c05aa53c8df63eeefca824cd102e85ca92d5e004fbe"), looks := true }, kinds := [], alts := [], laidByText := true, laidKinds := [.data, .data, .data, .sentinel, .sentinel], laidTests := true, laidLooks := .later }
def ParseModulesUptoCardSaid : Prop := Claim7.holds Tryz.pinned (.plain (OpenSpec.upto parseModulesSpec)) parseModulesUptoCard

/-- THE SECOND FORM's CARD OF 'covalentlaw02.ParsePrints'. -/
def parsePrintsUptoCard : Claim7 := { stood := { row := parsePrintsUptoRow, standIns := [], harness := (true, "4249146b76d7e5190ea62c05aa53c8df63eeefca824cd102e85ca92d5e004fbe"), looks := true }, kinds := [], alts := [], laidByText := true, laidKinds := [.data, .data, .data, .sentinel, .sentinel], laidTests := true, laidLooks := .later }
def ParsePrintsUptoCardSaid : Prop := Claim7.holds Tryz.pinned (.plain (OpenSpec.upto parsePrintsSpec)) parsePrintsUptoCard

/-- THE SECOND FORM's CARD OF 'covalentlaw02.ParseSpeaks'. -/
def parseSpeaksUptoCard : Claim7 := { stood := { row := parseSpeaksUptoRow, standIns := [], harness := (true, "4249146b76d7e5190ea62c05aa53c8df63eeefca824cd102e85ca92d5e004fbe"), looks := true }, kinds := [], alts := [], laidByText := true, laidKinds := [.data, .data, .data, .sentinel, .sentinel], laidTests := true, laidLooks := .later }
def ParseSpeaksUptoCardSaid : Prop := Claim7.holds Tryz.pinned (.plain (OpenSpec.upto parseSpeaksSpec)) parseSpeaksUptoCard

/-- THE SECOND FORM's CARD OF 'covalentlaw02.ParseSame'. -/
def parseSameUptoCard : Claim7 := { stood := { row := parseSameUptoRow, standIns := [], harness := (true, "4249146b76d7e5190ea62c05aa53c8df63eeefca824cd102e85ca92d5e004fbe"), looks := true }, kinds := [], alts := [], laidByText := true, laidKinds := [.data, .data, .data, .sentinel, .sentinel], laidTests := true, laidLooks := .later }
def ParseSameUptoCardSaid : Prop := Claim7.holds Tryz.pinned (.plain (OpenSpec.upto parseSameSpec)) parseSameUptoCard

/-- THE SECOND FORM's CARD OF 'covalentlaw02.ParseFinds'. -/
def parseFindsUptoCard : Claim7 := { stood := { row := parseFindsUptoRow, standIns := [], harness := (true, "4249146b76d7e5190ea62c05aa53c8df63eeefca824cd102e85ca92d5e004fbe"), looks := true }, kinds := [], alts := [], laidByText := true, laidKinds := [.data, .data, .data, .sentinel, .sentinel], laidTests := true, laidLooks := .later }
def ParseFindsUptoCardSaid : Prop := Claim7.holds Tryz.pinned (.plain (OpenSpec.upto parseFindsSpec)) parseFindsUptoCard

/-- THE SECOND FORM's CARD OF 'covalentlaw02.ParseExprs'. -/
def parseExprsUptoCard : Claim7 := { stood := { row := parseExprsUptoRow, standIns := [], harness := (true, "4249146b76d7e5190ea62c05aa53c8df63eeefca824cd102e85ca92d5e004fbe"), looks := true }, kinds := [], alts := [], laidByText := true, laidKinds := [.data, .data, .data, .sentinel, .sentinel], laidTests := true, laidLooks := .later }
def ParseExprsUptoCardSaid : Prop := Claim7.holds Tryz.pinned (.plain (OpenSpec.upto parseExprsSpec)) parseExprsUptoCard

/-- THE SECOND FORM's CARD OF 'covalentlaw02.ParseValid'. -/
def parseValidUptoCard : Claim7 := { stood := { row := parseValidUptoRow, standIns := [], harness := (true, "4249146b76d7e5190ea62c05aa53c8df63eeefca824cd102e85ca92d5e004fbe"), looks := true }, kinds := [], alts := [], laidByText := true, laidKinds := [.data, .data, .data, .sentinel, .sentinel], laidTests := true, laidLooks := .later }
def ParseValidUptoCardSaid : Prop := Claim7.holds Tryz.pinned (.plain (OpenSpec.upto parseValidSpec)) parseValidUptoCard

/-- THE SECOND FORM's CARD OF 'covalentlaw02.ParseTypes'. -/
def parseTypesUptoCard : Claim7 := { stood := { row := parseTypesUptoRow, standIns := [], harness := (true, "4249146b76d7e5190ea62c05aa53c8df63eeefca824cd102e85ca92d5e004fbe"), looks := true }, kinds := [], alts := [], laidByText := true, laidKinds := [.data, .data, .data, .sentinel, .sentinel], laidTests := true, laidLooks := .later }
def ParseTypesUptoCardSaid : Prop := Claim7.holds Tryz.pinned (.plain (OpenSpec.upto parseTypesSpec)) parseTypesUptoCard
end Rows
end Go.Proofs.YtmonfppdiehlpaaGreatDoor
