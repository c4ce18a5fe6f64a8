/-
  No cell of these rows narrows 'for every input' (looked for: loops, veiled, ifaces, maps, wideKeys, modest, calm, conditions, laid).
  DERIVED. THE GIVEN ROWS OF THIS SEAT. 8 by the template 'for every input the law returns true; each argument reads behind the call as it read before'; 0 by the template 'total and deterministic' (their statements: YtmaaaamfjpjhcaaTotals.lean).
  GIVEN WITH THE SEED: the statements are not yours to turn. If you find one false, say at which input.
  Laid BY PROGRAM, IN A SANDBOX (cutbox-rows.mjs): the forced cells as the released guide's own fill.sh prints them over the translation 127594d4b7f6fe9a… (all of the seat's roots in one cut). By AI agents, Wed Nov 11 2026. No macro, syntax, notation, axiom, sorry.
-/
import Derived.Test.YtmaaaamfjpjhcaaChecked
import GoSem.Claim
import GoSem.ClaimJoined
import GoSem.ClaimMapViews
import Derived.JoinedTies
import Derived.KernelRfl
namespace Go.Proofs.Ytmaaaamfjpjhcaa
/- THE CELL 'sum', in the pinned program and in every row, IS THE sha256 OF THE DUMP (.gsa) THAT YtmaaaamfjpjhcaaProg.lean LOADS. Nothing in Lean hashes anything: it is a label: what it is worth is what the hold of that sum in a sandbox is worth. -/
noncomputable def Try.pinned : Pinned := { name := "ytmaaaamfjpjhcaa", sum := "127594d4b7f6fe9a7a386346a94e491bd9fdd8f1947076a7f344ebb3944a6a10", checked := Try.checked }
namespace Rows
def none {H : Type} : Left H := { results := [], args := [] }

/-- 'covalentlaw01.ScanTokens': WHATEVER THE INPUT: true; the input reads as it did. -/
def scanTokensSpec : ChangeSpec := { name := "scanTokens", fn := fun _ => fun
  | [d] => { results := [.lit (.bool true)], args := [d] }
  | _ => none }
def scanTokensRow : OpenClaim := { program := "ytmaaaamfjpjhcaa", sum := "127594d4b7f6fe9a7a386346a94e491bd9fdd8f1947076a7f344ebb3944a6a10", func := "covalent/covalentlaw01.ScanTokens", spec := "scanTokens", unfollowed := true, recurses := true, apart := false }
def ScanTokensSaid : Prop := scanTokensRow.holds Try.pinned (OpenSpec.ofChange scanTokensSpec)

/-- ITS FALSE NEIGHBOUR: 'it returns false'. Refute it at one input. -/
def scanTokensWrong : ChangeSpec := { name := "scanTokens", fn := fun _ => fun
  | [d] => { results := [.lit (.bool false)], args := [d] }
  | _ => none }
def ScanTokensWrongFalsely : Prop := scanTokensRow.holds Try.pinned (OpenSpec.ofChange scanTokensWrong)

/-- 'covalentlaw01.ScanParts': WHATEVER THE INPUT: true; the input reads as it did. -/
def scanPartsSpec : ChangeSpec := { name := "scanParts", fn := fun _ => fun
  | [d1, d2] => { results := [.lit (.bool true)], args := [d1, d2] }
  | _ => none }
def scanPartsRow : OpenClaim := { program := "ytmaaaamfjpjhcaa", sum := "127594d4b7f6fe9a7a386346a94e491bd9fdd8f1947076a7f344ebb3944a6a10", func := "covalent/covalentlaw01.ScanParts", spec := "scanParts", unfollowed := true, recurses := true, apart := false }
def ScanPartsSaid : Prop := scanPartsRow.holds Try.pinned (OpenSpec.ofChange scanPartsSpec)

/-- ITS FALSE NEIGHBOUR: 'it returns false'. Refute it at one input. -/
def scanPartsWrong : ChangeSpec := { name := "scanParts", fn := fun _ => fun
  | [d1, d2] => { results := [.lit (.bool false)], args := [d1, d2] }
  | _ => none }
def ScanPartsWrongFalsely : Prop := scanPartsRow.holds Try.pinned (OpenSpec.ofChange scanPartsWrong)

/-- 'covalentlaw01.ScanNests': WHATEVER THE INPUT: true; the input reads as it did. -/
def scanNestsSpec : ChangeSpec := { name := "scanNests", fn := fun _ => fun
  | [d1, d2] => { results := [.lit (.bool true)], args := [d1, d2] }
  | _ => none }
def scanNestsRow : OpenClaim := { program := "ytmaaaamfjpjhcaa", sum := "127594d4b7f6fe9a7a386346a94e491bd9fdd8f1947076a7f344ebb3944a6a10", func := "covalent/covalentlaw01.ScanNests", spec := "scanNests", unfollowed := true, recurses := true, apart := false }
def ScanNestsSaid : Prop := scanNestsRow.holds Try.pinned (OpenSpec.ofChange scanNestsSpec)

/-- ITS FALSE NEIGHBOUR: 'it returns false'. Refute it at one input. -/
def scanNestsWrong : ChangeSpec := { name := "scanNests", fn := fun _ => fun
  | [d1, d2] => { results := [.lit (.bool false)], args := [d1, d2] }
  | _ => none }
def ScanNestsWrongFalsely : Prop := scanNestsRow.holds Try.pinned (OpenSpec.ofChange scanNestsWrong)

/-- 'covalentlaw01.ScanWords': WHATEVER THE INPUT: true; the input reads as it did. -/
def scanWordsSpec : ChangeSpec := { name := "scanWords", fn := fun _ => fun
  | [d1, d2] => { results := [.lit (.bool true)], args := [d1, d2] }
  | _ => none }
def scanWordsRow : OpenClaim := { program := "ytmaaaamfjpjhcaa", sum := "127594d4b7f6fe9a7a386346a94e491bd9fdd8f1947076a7f344ebb3944a6a10", func := "covalent/covalentlaw01.ScanWords", spec := "scanWords", unfollowed := true, recurses := true, apart := false }
def ScanWordsSaid : Prop := scanWordsRow.holds Try.pinned (OpenSpec.ofChange scanWordsSpec)

/-- ITS FALSE NEIGHBOUR: 'it returns false'. Refute it at one input. -/
def scanWordsWrong : ChangeSpec := { name := "scanWords", fn := fun _ => fun
  | [d1, d2] => { results := [.lit (.bool false)], args := [d1, d2] }
  | _ => none }
def ScanWordsWrongFalsely : Prop := scanWordsRow.holds Try.pinned (OpenSpec.ofChange scanWordsWrong)

/-- 'covalentlaw01.ScanGaps': WHATEVER THE INPUT: true; the input reads as it did. -/
def scanGapsSpec : ChangeSpec := { name := "scanGaps", fn := fun _ => fun
  | [d] => { results := [.lit (.bool true)], args := [d] }
  | _ => none }
def scanGapsRow : OpenClaim := { program := "ytmaaaamfjpjhcaa", sum := "127594d4b7f6fe9a7a386346a94e491bd9fdd8f1947076a7f344ebb3944a6a10", func := "covalent/covalentlaw01.ScanGaps", spec := "scanGaps", unfollowed := true, recurses := true, apart := false }
def ScanGapsSaid : Prop := scanGapsRow.holds Try.pinned (OpenSpec.ofChange scanGapsSpec)

/-- ITS FALSE NEIGHBOUR: 'it returns false'. Refute it at one input. -/
def scanGapsWrong : ChangeSpec := { name := "scanGaps", fn := fun _ => fun
  | [d] => { results := [.lit (.bool false)], args := [d] }
  | _ => none }
def ScanGapsWrongFalsely : Prop := scanGapsRow.holds Try.pinned (OpenSpec.ofChange scanGapsWrong)

/-- 'covalentlaw01.ScanCovers': WHATEVER THE INPUT: true; the input reads as it did. -/
def scanCoversSpec : ChangeSpec := { name := "scanCovers", fn := fun _ => fun
  | [d] => { results := [.lit (.bool true)], args := [d] }
  | _ => none }
def scanCoversRow : OpenClaim := { program := "ytmaaaamfjpjhcaa", sum := "127594d4b7f6fe9a7a386346a94e491bd9fdd8f1947076a7f344ebb3944a6a10", func := "covalent/covalentlaw01.ScanCovers", spec := "scanCovers", unfollowed := true, recurses := true, apart := false }
def ScanCoversSaid : Prop := scanCoversRow.holds Try.pinned (OpenSpec.ofChange scanCoversSpec)

/-- ITS FALSE NEIGHBOUR: 'it returns false'. Refute it at one input. -/
def scanCoversWrong : ChangeSpec := { name := "scanCovers", fn := fun _ => fun
  | [d] => { results := [.lit (.bool false)], args := [d] }
  | _ => none }
def ScanCoversWrongFalsely : Prop := scanCoversRow.holds Try.pinned (OpenSpec.ofChange scanCoversWrong)

/-- 'covalentlaw01.ScanPositions': WHATEVER THE INPUT: true; the input reads as it did. -/
def scanPositionsSpec : ChangeSpec := { name := "scanPositions", fn := fun _ => fun
  | [d1, d2] => { results := [.lit (.bool true)], args := [d1, d2] }
  | _ => none }
def scanPositionsRow : OpenClaim := { program := "ytmaaaamfjpjhcaa", sum := "127594d4b7f6fe9a7a386346a94e491bd9fdd8f1947076a7f344ebb3944a6a10", func := "covalent/covalentlaw01.ScanPositions", spec := "scanPositions", inPlace := ["internal/bytealg.CountString", "internal/bytealg.IndexByteString", "internal/bytealg.IndexString"], unfollowed := true, recurses := true, named := ["internal/bytealg.MaxLen"], apart := false }
def ScanPositionsSaid : Prop := scanPositionsRow.holds Try.pinned (OpenSpec.ofChange scanPositionsSpec)

/-- ITS FALSE NEIGHBOUR: 'it returns false'. Refute it at one input. -/
def scanPositionsWrong : ChangeSpec := { name := "scanPositions", fn := fun _ => fun
  | [d1, d2] => { results := [.lit (.bool false)], args := [d1, d2] }
  | _ => none }
def ScanPositionsWrongFalsely : Prop := scanPositionsRow.holds Try.pinned (OpenSpec.ofChange scanPositionsWrong)

/-- 'covalentlaw01.ScanLiterals': WHATEVER THE INPUT: true; the input reads as it did. -/
def scanLiteralsSpec : ChangeSpec := { name := "scanLiterals", fn := fun _ => fun
  | [d] => { results := [.lit (.bool true)], args := [d] }
  | _ => none }
def scanLiteralsRow : OpenClaim := { program := "ytmaaaamfjpjhcaa", sum := "127594d4b7f6fe9a7a386346a94e491bd9fdd8f1947076a7f344ebb3944a6a10", func := "covalent/covalentlaw01.ScanLiterals", spec := "scanLiterals", inPlace := ["sync/atomic.LoadUint32", "(*internal/sync.Mutex).Lock", "internal/race.Disable", "sync/atomic.CompareAndSwapInt32", "internal/race.Enable", "internal/race.Acquire", "(*internal/sync.Mutex).lockSlow", "internal/sync.runtime_canSpin", "internal/sync.runtime_doSpin", "internal/sync.throw", "internal/sync.runtime_nanotime", "internal/sync.runtime_SemacquireMutex", "sync/atomic.AddInt32", "(*internal/sync.Mutex).Unlock", "internal/race.ReleaseMerge", "(*internal/sync.Mutex).unlockSlow", "internal/sync.fatal", "internal/sync.runtime_Semrelease", "sync/atomic.StoreUint32"], unfollowed := true, recurses := true, apart := false }
def ScanLiteralsSaid : Prop := scanLiteralsRow.holds Try.pinned (OpenSpec.ofChange scanLiteralsSpec)

/-- ITS FALSE NEIGHBOUR: 'it returns false'. Refute it at one input. -/
def scanLiteralsWrong : ChangeSpec := { name := "scanLiterals", fn := fun _ => fun
  | [d] => { results := [.lit (.bool false)], args := [d] }
  | _ => none }
def ScanLiteralsWrongFalsely : Prop := scanLiteralsRow.holds Try.pinned (OpenSpec.ofChange scanLiteralsWrong)

/- THE SECOND FORM. 'bulk': how many values and letters a reading holds, each counted each time it is reached (what is shared counts as often as it is met; a slice's spare places count too). A statement '..UptoSaid' is the law's where the arguments, and the package variables that the reading takes, are together of bulk at most 1048576: NARROWER than '..Said'. Prove '..Said' where nothing that the law and all that it calls make is longer than what came in: it says more and counts as full. Else prove '..UptoSaid'. A law counts once. -/
mutual
def uptoBulk {H : Type} : DataW H → Nat
  | .lit (.string bytes) => bytes.length + 1
  | .lit _ => 1
  | .nil => 1
  | .ptr d => uptoBulk d + 1
  | .slice elems spare => uptoBulkAll elems + uptoBulkAll spare + 1
  | .agg parts => uptoBulkAll parts + 1
  | .iface _ d => uptoBulk d + 1
  | .map entries => uptoBulkEntries entries + 1
  | .held _ => 1
def uptoBulkAll {H : Type} : List (DataW H) → Nat
  | [] => 0
  | d :: r => uptoBulk d + uptoBulkAll r
def uptoBulkEntries {H : Type} : List (Lit × DataW H) → Nat
  | [] => 0
  | x :: r => uptoBulkEntry x + uptoBulkEntries r
def uptoBulkEntry {H : Type} : Lit × DataW H → Nat
  | (.string bytes, d) => bytes.length + uptoBulk d + 1
  | (_, d) => uptoBulk d + 1
 end
def uptoSmall : (H : Type) → List (DataW H) → Bool := fun _ ds => decide (uptoBulkAll ds ≤ 1048576)
def OpenSpec.upto (s : _root_.Go.ChangeSpec) : _root_.Go.OpenSpec := { _root_.Go.OpenSpec.ofChange s with cond := some uptoSmall }

/-- 'covalentlaw01.ScanTokens', WHERE WHAT IT READS IS OF BULK AT MOST 1048576: true; the input reads as it did. -/
def scanTokensUptoRow : OpenClaim := { program := "ytmaaaamfjpjhcaa", sum := "127594d4b7f6fe9a7a386346a94e491bd9fdd8f1947076a7f344ebb3944a6a10", func := "covalent/covalentlaw01.ScanTokens", spec := "scanTokens", unfollowed := true, recurses := true, apart := false, narrowed := true }
def ScanTokensUptoSaid : Prop := scanTokensUptoRow.holds Try.pinned (OpenSpec.upto scanTokensSpec)

/-- 'covalentlaw01.ScanParts', WHERE WHAT IT READS IS OF BULK AT MOST 1048576: true; the input reads as it did. -/
def scanPartsUptoRow : OpenClaim := { program := "ytmaaaamfjpjhcaa", sum := "127594d4b7f6fe9a7a386346a94e491bd9fdd8f1947076a7f344ebb3944a6a10", func := "covalent/covalentlaw01.ScanParts", spec := "scanParts", unfollowed := true, recurses := true, apart := false, narrowed := true }
def ScanPartsUptoSaid : Prop := scanPartsUptoRow.holds Try.pinned (OpenSpec.upto scanPartsSpec)

/-- 'covalentlaw01.ScanNests', WHERE WHAT IT READS IS OF BULK AT MOST 1048576: true; the input reads as it did. -/
def scanNestsUptoRow : OpenClaim := { program := "ytmaaaamfjpjhcaa", sum := "127594d4b7f6fe9a7a386346a94e491bd9fdd8f1947076a7f344ebb3944a6a10", func := "covalent/covalentlaw01.ScanNests", spec := "scanNests", unfollowed := true, recurses := true, apart := false, narrowed := true }
def ScanNestsUptoSaid : Prop := scanNestsUptoRow.holds Try.pinned (OpenSpec.upto scanNestsSpec)

/-- 'covalentlaw01.ScanWords', WHERE WHAT IT READS IS OF BULK AT MOST 1048576: true; the input reads as it did. -/
def scanWordsUptoRow : OpenClaim := { program := "ytmaaaamfjpjhcaa", sum := "127594d4b7f6fe9a7a386346a94e491bd9fdd8f1947076a7f344ebb3944a6a10", func := "covalent/covalentlaw01.ScanWords", spec := "scanWords", unfollowed := true, recurses := true, apart := false, narrowed := true }
def ScanWordsUptoSaid : Prop := scanWordsUptoRow.holds Try.pinned (OpenSpec.upto scanWordsSpec)

/-- 'covalentlaw01.ScanGaps', WHERE WHAT IT READS IS OF BULK AT MOST 1048576: true; the input reads as it did. -/
def scanGapsUptoRow : OpenClaim := { program := "ytmaaaamfjpjhcaa", sum := "127594d4b7f6fe9a7a386346a94e491bd9fdd8f1947076a7f344ebb3944a6a10", func := "covalent/covalentlaw01.ScanGaps", spec := "scanGaps", unfollowed := true, recurses := true, apart := false, narrowed := true }
def ScanGapsUptoSaid : Prop := scanGapsUptoRow.holds Try.pinned (OpenSpec.upto scanGapsSpec)

/-- 'covalentlaw01.ScanCovers', WHERE WHAT IT READS IS OF BULK AT MOST 1048576: true; the input reads as it did. -/
def scanCoversUptoRow : OpenClaim := { program := "ytmaaaamfjpjhcaa", sum := "127594d4b7f6fe9a7a386346a94e491bd9fdd8f1947076a7f344ebb3944a6a10", func := "covalent/covalentlaw01.ScanCovers", spec := "scanCovers", unfollowed := true, recurses := true, apart := false, narrowed := true }
def ScanCoversUptoSaid : Prop := scanCoversUptoRow.holds Try.pinned (OpenSpec.upto scanCoversSpec)

/-- 'covalentlaw01.ScanPositions', WHERE WHAT IT READS IS OF BULK AT MOST 1048576: true; the input reads as it did. -/
def scanPositionsUptoRow : OpenClaim := { program := "ytmaaaamfjpjhcaa", sum := "127594d4b7f6fe9a7a386346a94e491bd9fdd8f1947076a7f344ebb3944a6a10", func := "covalent/covalentlaw01.ScanPositions", spec := "scanPositions", inPlace := ["internal/bytealg.CountString", "internal/bytealg.IndexByteString", "internal/bytealg.IndexString"], unfollowed := true, recurses := true, named := ["internal/bytealg.MaxLen"], apart := false, narrowed := true }
def ScanPositionsUptoSaid : Prop := scanPositionsUptoRow.holds Try.pinned (OpenSpec.upto scanPositionsSpec)

/-- 'covalentlaw01.ScanLiterals', WHERE WHAT IT READS IS OF BULK AT MOST 1048576: true; the input reads as it did. -/
def scanLiteralsUptoRow : OpenClaim := { program := "ytmaaaamfjpjhcaa", sum := "127594d4b7f6fe9a7a386346a94e491bd9fdd8f1947076a7f344ebb3944a6a10", func := "covalent/covalentlaw01.ScanLiterals", spec := "scanLiterals", inPlace := ["sync/atomic.LoadUint32", "(*internal/sync.Mutex).Lock", "internal/race.Disable", "sync/atomic.CompareAndSwapInt32", "internal/race.Enable", "internal/race.Acquire", "(*internal/sync.Mutex).lockSlow", "internal/sync.runtime_canSpin", "internal/sync.runtime_doSpin", "internal/sync.throw", "internal/sync.runtime_nanotime", "internal/sync.runtime_SemacquireMutex", "sync/atomic.AddInt32", "(*internal/sync.Mutex).Unlock", "internal/race.ReleaseMerge", "(*internal/sync.Mutex).unlockSlow", "internal/sync.fatal", "internal/sync.runtime_Semrelease", "sync/atomic.StoreUint32"], unfollowed := true, recurses := true, apart := false, narrowed := true }
def ScanLiteralsUptoSaid : Prop := scanLiteralsUptoRow.holds Try.pinned (OpenSpec.upto scanLiteralsSpec)

end Rows
end Go.Proofs.Ytmaaaamfjpjhcaa
