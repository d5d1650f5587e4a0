/-
  DERIVED. GIVEN WITH THE SEED: THE CARDS: each row of YtlnnjfdonilgmaaGreatDoorRows.lean that lists a variable, with what it lists TIED to the program's text (the seventh form; the later family's looks); each row that meets fmt, with fmt's text TOLD by the authors' own Lean function (tested against real Go, not proved from fmt's source: count such statements apart). THE CARD IS WHAT COUNTS. Prove the row's statement (the work); the ties are given (YtlnnjfdonilgmaaGreatDoorTie.lean); close each card by the builder's one call (the guide's Derived/Test/ToyasCard.lean, 'card_holds'). Laid BY PROGRAM, IN A SANDBOX (cutbox-door.mjs). By AI agents, Wed Nov 11 2026. No macro, syntax, notation, axiom, sorry.
-/
import Derived.Test.YtlnnjfdonilgmaaGreatDoorRows
import GoSem.ClaimSeven
namespace Go.Proofs.YtlnnjfdonilgmaaGreatDoor
namespace Rows

/-- THE TIED CARD OF 'vellumlaw23.MarksPlays'. -/
def marksPlaysCard : Claim7 := { stood := { row := marksPlaysRow, standIns := [], harness := (true, "a831552f0a7c76283454ca9f885eeb4a0e22d763399ec6ce83cf52c3f4f8b487"), looks := true }, kinds := [], alts := [], laidByText := true, laidKinds := [.data, .sentinel, .sentinel, .sentinel, .sentinel, .sentinel, .sentinel, .sentinel, .sentinel, .sentinel, .sentinel, .sentinel, .sentinel, .sentinel, .sentinel, .sentinel, .sentinel, .sentinel, .sentinel, .sentinel, .pinned], laidTests := true, laidLooks := .later }
def MarksPlaysCardSaid : Prop := Claim7.holds Tryz.pinned (.plain (OpenSpec.ofChange marksPlaysSpec)) marksPlaysCard

/-- THE TIED CARD OF 'vellumlaw23.MarksNeighbours'. -/
def marksNeighboursCard : Claim7 := { stood := { row := marksNeighboursRow, standIns := [], harness := (true, "a831552f0a7c76283454ca9f885eeb4a0e22d763399ec6ce83cf52c3f4f8b487"), looks := true }, kinds := [], alts := [], laidByText := true, laidKinds := [.data, .sentinel, .sentinel, .sentinel, .sentinel, .sentinel, .sentinel, .sentinel, .sentinel, .sentinel, .sentinel, .pinned], laidTests := true, laidLooks := .later }
def MarksNeighboursCardSaid : Prop := Claim7.holds Tryz.pinned (.plain (OpenSpec.ofChange marksNeighboursSpec)) marksNeighboursCard

/-- THE TIED CARD OF 'vellumlaw23.MarksAlone'. -/
def marksAloneCard : Claim7 := { stood := { row := marksAloneRow, standIns := [], harness := (true, "a831552f0a7c76283454ca9f885eeb4a0e22d763399ec6ce83cf52c3f4f8b487"), looks := true }, kinds := [], alts := [], laidByText := true, laidKinds := [.data, .sentinel, .sentinel, .sentinel, .sentinel, .sentinel, .sentinel, .sentinel, .sentinel, .sentinel, .sentinel, .sentinel, .sentinel, .sentinel, .sentinel, .sentinel, .sentinel, .sentinel, .sentinel, .sentinel, .pinned], laidTests := true, laidLooks := .later }
def MarksAloneCardSaid : Prop := Claim7.holds Tryz.pinned (.plain (OpenSpec.ofChange marksAloneSpec)) marksAloneCard

/-- THE TIED CARD OF 'vellumlaw23.MarksMemory'. -/
def marksMemoryCard : Claim7 := { stood := { row := marksMemoryRow, standIns := [], harness := (true, "a831552f0a7c76283454ca9f885eeb4a0e22d763399ec6ce83cf52c3f4f8b487"), looks := true }, kinds := [], alts := [], laidByText := true, laidKinds := [.data, .sentinel, .sentinel, .sentinel, .sentinel, .sentinel, .sentinel, .sentinel, .sentinel, .sentinel, .sentinel, .sentinel, .sentinel, .sentinel, .sentinel, .sentinel, .sentinel, .sentinel, .sentinel, .sentinel, .pinned], laidTests := true, laidLooks := .later }
def MarksMemoryCardSaid : Prop := Claim7.holds Tryz.pinned (.plain (OpenSpec.ofChange marksMemorySpec)) marksMemoryCard

/-- THE SECOND FORM's CARD OF 'vellumlaw23.MarksPlays'. -/
def marksPlaysUptoCard : Claim7 := { stood := { row := marksPlaysUptoRow, standIns := [], harness := (true, "a831552f0a7c76283454ca9f885eeb4a0e22d763399ec6ce83cf52c3f4f8b487"), looks := true }, kinds := [], alts := [], laidByText := true, laidKinds := [.data, .sentinel, .sentinel, .sentinel, .sentinel, .sentinel, .sentinel, .sentinel, .sentinel, .sentinel, .sentinel, .sentinel, .sentinel, .sentinel, .sentinel, .sentinel, .sentinel, .sentinel, .sentinel, .sentinel, .pinned], laidTests := true, laidLooks := .later }
def MarksPlaysUptoCardSaid : Prop := Claim7.holds Tryz.pinned (.plain (OpenSpec.upto marksPlaysSpec)) marksPlaysUptoCard

/-- THE SECOND FORM's CARD OF 'vellumlaw23.MarksNeighbours'. -/
def marksNeighboursUptoCard : Claim7 := { stood := { row := marksNeighboursUptoRow, standIns := [], harness := (true, "a831552f0a7c76283454ca9f885eeb4a0e22d763399ec6ce83cf52c3f4f8b487"), looks := true }, kinds := [], alts := [], laidByText := true, laidKinds := [.data, .sentinel, .sentinel, .sentinel, .sentinel, .sentinel, .sentinel, .sentinel, .sentinel, .sentinel, .sentinel, .pinned], laidTests := true, laidLooks := .later }
def MarksNeighboursUptoCardSaid : Prop := Claim7.holds Tryz.pinned (.plain (OpenSpec.upto marksNeighboursSpec)) marksNeighboursUptoCard

/-- THE SECOND FORM's CARD OF 'vellumlaw23.MarksAlone'. -/
def marksAloneUptoCard : Claim7 := { stood := { row := marksAloneUptoRow, standIns := [], harness := (true, "a831552f0a7c76283454ca9f885eeb4a0e22d763399ec6ce83cf52c3f4f8b487"), looks := true }, kinds := [], alts := [], laidByText := true, laidKinds := [.data, .sentinel, .sentinel, .sentinel, .sentinel, .sentinel, .sentinel, .sentinel, .sentinel, .sentinel, .sentinel, .sentinel, .sentinel, .sentinel, .sentinel, .sentinel, .sentinel, .sentinel, .sentinel, .sentinel, .pinned], laidTests := true, laidLooks := .later }
def MarksAloneUptoCardSaid : Prop := Claim7.holds Tryz.pinned (.plain (OpenSpec.upto marksAloneSpec)) marksAloneUptoCard

/-- THE SECOND FORM's CARD OF 'vellumlaw23.MarksMemory'. -/
def marksMemoryUptoCard : Claim7 := { stood := { row := marksMemoryUptoRow, standIns := [], harness := (true, "a831552f0a7c76283454ca9f885eeb4a0e22d763399ec6ce83cf52c3f4f8b487"), looks := true }, kinds := [], alts := [], laidByText := true, laidKinds := [.data, .sentinel, .sentinel, .sentinel, .sentinel, .sentinel, .sentinel, .sentinel, .sentinel, .sentinel, .sentinel, .sentinel, .sentinel, .sentinel, .sentinel, .sentinel, .sentinel, .sentinel, .sentinel, .sentinel, .pinned], laidTests := true, laidLooks := .later }
def MarksMemoryUptoCardSaid : Prop := Claim7.holds Tryz.pinned (.plain (OpenSpec.upto marksMemorySpec)) marksMemoryUptoCard
end Rows
end Go.Proofs.YtlnnjfdonilgmaaGreatDoor
