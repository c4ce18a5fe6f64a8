/-
  DERIVED. GIVEN WITH THE SEED: THE CARDS: each row of YtjhfloacokgdiaaGreatDoorRows.lean that lists a variable, with what it lists TIED to the program's text (the seventh form; the later family's looks); each row that meets fmt, with fmt's text TOLD by the authors' own Lean function (tested against real Go, not proved from fmt's source: count such statements apart). THE CARD IS WHAT COUNTS. Prove the row's statement (the work); the ties are given (YtjhfloacokgdiaaGreatDoorTie.lean); close each card by the builder's one call (the guide's Derived/Test/ToyasCard.lean, 'card_holds'). Laid BY PROGRAM, IN A SANDBOX (cutbox-door.mjs). By AI agents, Wed Nov 11 2026. No macro, syntax, notation, axiom, sorry.
-/
import Derived.Test.YtjhfloacokgdiaaGreatDoorRows
import GoSem.ClaimSeven
namespace Go.Proofs.YtjhfloacokgdiaaGreatDoor
namespace Rows

/-- THE TIED CARD OF 'covalentlaw02.ParseRecovers'. -/
def parseRecoversCard : Claim7 := { stood := { row := parseRecoversRow, standIns := [], harness := (true, "46b99fea031f2f95b28f5c20dbbb90ad82e95dead5ff684f74e388c0fa867034"), looks := true }, kinds := [], alts := [], laidByText := true, laidKinds := [.data, .data, .data, .data, .sentinel, .sentinel, .listed, .data, .pinned], laidTests := true, laidLooks := .later }
def ParseRecoversCardSaid : Prop := Claim7.holds Tryz.pinned (.plain (OpenSpec.ofChange parseRecoversSpec)) parseRecoversCard

/-- THE TIED CARD OF 'covalentlaw02.ParseTwice'. -/
def parseTwiceCard : Claim7 := { stood := { row := parseTwiceRow, standIns := [], harness := (true, "46b99fea031f2f95b28f5c20dbbb90ad82e95dead5ff684f74e388c0fa867034"), looks := true }, kinds := [], alts := [], laidByText := true, laidKinds := [.data, .data, .data, .data, .sentinel, .sentinel, .listed, .data, .pinned], laidTests := true, laidLooks := .later }
def ParseTwiceCardSaid : Prop := Claim7.holds Tryz.pinned (.plain (OpenSpec.ofChange parseTwiceSpec)) parseTwiceCard

/-- THE TIED CARD OF 'covalentlaw02.ParseParens'. -/
def parseParensCard : Claim7 := { stood := { row := parseParensRow, standIns := [], harness := (true, "46b99fea031f2f95b28f5c20dbbb90ad82e95dead5ff684f74e388c0fa867034"), looks := true }, kinds := [], alts := [], laidByText := true, laidKinds := [.data, .data, .data, .data, .sentinel, .sentinel, .listed, .data, .pinned], laidTests := true, laidLooks := .later }
def ParseParensCardSaid : Prop := Claim7.holds Tryz.pinned (.plain (OpenSpec.ofChange parseParensSpec)) parseParensCard

/-- THE TIED CARD OF 'covalentlaw02.ParseBlanks'. -/
def parseBlanksCard : Claim7 := { stood := { row := parseBlanksRow, standIns := [], harness := (true, "46b99fea031f2f95b28f5c20dbbb90ad82e95dead5ff684f74e388c0fa867034"), looks := true }, kinds := [], alts := [], laidByText := true, laidKinds := [.data, .data, .data, .data, .sentinel, .sentinel, .listed, .data, .pinned], laidTests := true, laidLooks := .later }
def ParseBlanksCardSaid : Prop := Claim7.holds Tryz.pinned (.plain (OpenSpec.ofChange parseBlanksSpec)) parseBlanksCard

/-- THE SECOND FORM's CARD OF 'covalentlaw02.ParseRecovers'. -/
def parseRecoversUptoCard : Claim7 := { stood := { row := parseRecoversUptoRow, standIns := [], harness := (true, "46b99fea031f2f95b28f5c20dbbb90ad82e95dead5ff684f74e388c0fa867034"), looks := true }, kinds := [], alts := [], laidByText := true, laidKinds := [.data, .data, .data, .data, .sentinel, .sentinel, .listed, .data, .pinned], laidTests := true, laidLooks := .later }
def ParseRecoversUptoCardSaid : Prop := Claim7.holds Tryz.pinned (.plain (OpenSpec.upto parseRecoversSpec)) parseRecoversUptoCard

/-- THE SECOND FORM's CARD OF 'covalentlaw02.ParseTwice'. -/
def parseTwiceUptoCard : Claim7 := { stood := { row := parseTwiceUptoRow, standIns := [], harness := (true, "46b99fea031f2f95b28f5c20dbbb90ad82e95dead5ff684f74e388c0fa867034"), looks := true }, kinds := [], alts := [], laidByText := true, laidKinds := [.data, .data, .data, .data, .sentinel, .sentinel, .listed, .data, .pinned], laidTests := true, laidLooks := .later }
def ParseTwiceUptoCardSaid : Prop := Claim7.holds Tryz.pinned (.plain (OpenSpec.upto parseTwiceSpec)) parseTwiceUptoCard

/-- THE SECOND FORM's CARD OF 'covalentlaw02.ParseParens'. -/
def parseParensUptoCard : Claim7 := { stood := { row := parseParensUptoRow, standIns := [], harness := (true, "46b99fea031f2f95b28f5c20dbbb90ad82e95dead5ff684f74e388c0fa867034"), looks := true }, kinds := [], alts := [], laidByText := true, laidKinds := [.data, .data, .data, .data, .sentinel, .sentinel, .listed, .data, .pinned], laidTests := true, laidLooks := .later }
def ParseParensUptoCardSaid : Prop := Claim7.holds Tryz.pinned (.plain (OpenSpec.upto parseParensSpec)) parseParensUptoCard

/-- THE SECOND FORM's CARD OF 'covalentlaw02.ParseBlanks'. -/
def parseBlanksUptoCard : Claim7 := { stood := { row := parseBlanksUptoRow, standIns := [], harness := (true, "46b99fea031f2f95b28f5c20dbbb90ad82e95dead5ff684f74e388c0fa867034"), looks := true }, kinds := [], alts := [], laidByText := true, laidKinds := [.data, .data, .data, .data, .sentinel, .sentinel, .listed, .data, .pinned], laidTests := true, laidLooks := .later }
def ParseBlanksUptoCardSaid : Prop := Claim7.holds Tryz.pinned (.plain (OpenSpec.upto parseBlanksSpec)) parseBlanksUptoCard
end Rows
end Go.Proofs.YtjhfloacokgdiaaGreatDoor
