/-
  DERIVED. GIVEN WITH THE SEED: THE CARDS: each row of YtgphmfnkeolbcaaGreatDoorRows.lean that lists a variable, with what it lists TIED to the program's text (the seventh form; the later family's looks); each row that meets fmt, with fmt's text TOLD by the authors' own Lean function (tested against real Go, not proved from fmt's source: count such statements apart). THE CARD IS WHAT COUNTS. Prove the row's statement (the work); the ties are given (YtgphmfnkeolbcaaGreatDoorTie.lean); close each card by the builder's one call (the guide's Derived/Test/ToyasCard.lean, 'card_holds'). Laid BY PROGRAM, IN A SANDBOX (cutbox-door.mjs). By AI agents, Wed Nov 11 2026. No macro, syntax, notation, axiom, sorry.
-/
import Derived.Test.YtgphmfnkeolbcaaGreatDoorRows
import GoSem.ClaimSeven
namespace Go.Proofs.YtgphmfnkeolbcaaGreatDoor
namespace Rows

/-- THE TIED CARD OF 'vellumtop.WholeUnique'. -/
def wholeUniqueCard : Claim7 := { stood := { row := wholeUniqueRow, standIns := [], harness := (true, "c4cdc2d6fcfba194f6b6c10df0ffead9c1cb4d9131602b60351ee555fa88aa36"), looks := true }, kinds := [], alts := [], laidByText := true, laidKinds := [.data, .sentinel, .sentinel, .sentinel, .sentinel, .sentinel, .sentinel, .sentinel, .sentinel, .sentinel, .pinned], laidTests := true, laidLooks := .later }
def WholeUniqueCardSaid : Prop := Claim7.holds Tryz.pinned (.plain (OpenSpec.ofChange wholeUniqueSpec)) wholeUniqueCard

/-- THE TIED CARD OF 'vellumlaw09.CellsOwns'. -/
def cellsOwnsCard : Claim7 := { stood := { row := cellsOwnsRow, standIns := [], harness := (true, "c4cdc2d6fcfba194f6b6c10df0ffead9c1cb4d9131602b60351ee555fa88aa36"), looks := true }, kinds := [], alts := [], laidByText := true, laidKinds := [.data, .sentinel, .sentinel, .sentinel, .sentinel, .sentinel, .sentinel, .sentinel, .sentinel, .sentinel, .pinned], laidTests := true, laidLooks := .later }
def CellsOwnsCardSaid : Prop := Claim7.holds Tryz.pinned (.plain (OpenSpec.ofChange cellsOwnsSpec)) cellsOwnsCard

/-- THE TIED CARD OF 'vellumlaw21.LinesTold'. -/
def linesToldCard : Claim7 := { stood := { row := linesToldRow, standIns := [], harness := (true, "c4cdc2d6fcfba194f6b6c10df0ffead9c1cb4d9131602b60351ee555fa88aa36"), looks := true }, kinds := [], alts := [], laidByText := true, laidKinds := [.data, .sentinel, .sentinel, .sentinel, .sentinel, .sentinel, .sentinel, .sentinel, .sentinel, .sentinel, .sentinel, .sentinel, .sentinel, .sentinel, .sentinel, .sentinel, .sentinel, .sentinel, .sentinel, .sentinel, .pinned], laidTests := true, laidLooks := .later }
def LinesToldCardSaid : Prop := Claim7.holds Tryz.pinned (.plain (OpenSpec.ofChange linesToldSpec)) linesToldCard

/-- THE TIED CARD OF 'vellumlaw21.LinesPlaces'. -/
def linesPlacesCard : Claim7 := { stood := { row := linesPlacesRow, standIns := [], harness := (true, "c4cdc2d6fcfba194f6b6c10df0ffead9c1cb4d9131602b60351ee555fa88aa36"), looks := true }, kinds := [], alts := [], laidByText := true, laidKinds := [.data, .sentinel, .sentinel, .sentinel, .sentinel, .sentinel, .sentinel, .sentinel, .sentinel, .sentinel, .sentinel, .sentinel, .sentinel, .sentinel, .sentinel, .sentinel, .sentinel, .sentinel, .sentinel, .sentinel, .pinned], laidTests := true, laidLooks := .later }
def LinesPlacesCardSaid : Prop := Claim7.holds Tryz.pinned (.plain (OpenSpec.ofChange linesPlacesSpec)) linesPlacesCard

/-- THE TIED CARD OF 'vellumlaw21.LinesBack'. -/
def linesBackCard : Claim7 := { stood := { row := linesBackRow, standIns := [], harness := (true, "c4cdc2d6fcfba194f6b6c10df0ffead9c1cb4d9131602b60351ee555fa88aa36"), looks := true }, kinds := [], alts := [], laidByText := true, laidKinds := [.data, .sentinel, .sentinel, .sentinel, .sentinel, .sentinel, .sentinel, .sentinel, .sentinel, .sentinel, .sentinel, .sentinel, .sentinel, .sentinel, .sentinel, .sentinel, .sentinel, .sentinel, .sentinel, .sentinel, .pinned], laidTests := true, laidLooks := .later }
def LinesBackCardSaid : Prop := Claim7.holds Tryz.pinned (.plain (OpenSpec.ofChange linesBackSpec)) linesBackCard

/-- THE TIED CARD OF 'vellumlaw16.DiffLeast'. -/
def diffLeastCard : Claim7 := { stood := { row := diffLeastRow, standIns := [], harness := (true, "c4cdc2d6fcfba194f6b6c10df0ffead9c1cb4d9131602b60351ee555fa88aa36"), looks := true }, kinds := [], alts := [], laidByText := true, laidKinds := [.data, .sentinel, .sentinel, .sentinel, .sentinel, .sentinel, .sentinel, .sentinel, .sentinel, .sentinel, .sentinel, .sentinel, .sentinel, .sentinel, .sentinel, .sentinel, .sentinel, .sentinel, .sentinel, .sentinel, .pinned], laidTests := true, laidLooks := .later }
def DiffLeastCardSaid : Prop := Claim7.holds Tryz.pinned (.plain (OpenSpec.ofChange diffLeastSpec)) diffLeastCard

/-- THE TIED CARD OF 'vellumlaw21.LinesAlone'. -/
def linesAloneCard : Claim7 := { stood := { row := linesAloneRow, standIns := [], harness := (true, "c4cdc2d6fcfba194f6b6c10df0ffead9c1cb4d9131602b60351ee555fa88aa36"), looks := true }, kinds := [], alts := [], laidByText := true, laidKinds := [.data, .sentinel, .sentinel, .sentinel, .sentinel, .sentinel, .sentinel, .sentinel, .sentinel, .sentinel, .sentinel, .pinned], laidTests := true, laidLooks := .later }
def LinesAloneCardSaid : Prop := Claim7.holds Tryz.pinned (.plain (OpenSpec.ofChange linesAloneSpec)) linesAloneCard

/-- THE TIED CARD OF 'vellumlaw16.DiffNone'. -/
def diffNoneCard : Claim7 := { stood := { row := diffNoneRow, standIns := [], harness := (true, "c4cdc2d6fcfba194f6b6c10df0ffead9c1cb4d9131602b60351ee555fa88aa36"), looks := true }, kinds := [], alts := [], laidByText := true, laidKinds := [.data, .sentinel, .sentinel, .sentinel, .sentinel, .sentinel, .sentinel, .sentinel, .sentinel, .sentinel, .pinned], laidTests := true, laidLooks := .later }
def DiffNoneCardSaid : Prop := Claim7.holds Tryz.pinned (.plain (OpenSpec.ofChange diffNoneSpec)) diffNoneCard

/-- THE TIED CARD OF 'vellumlaw16.DiffLeads'. -/
def diffLeadsCard : Claim7 := { stood := { row := diffLeadsRow, standIns := [], harness := (true, "c4cdc2d6fcfba194f6b6c10df0ffead9c1cb4d9131602b60351ee555fa88aa36"), looks := true }, kinds := [], alts := [], laidByText := true, laidKinds := [.data, .sentinel, .sentinel, .sentinel, .sentinel, .sentinel, .sentinel, .sentinel, .sentinel, .sentinel, .pinned], laidTests := true, laidLooks := .later }
def DiffLeadsCardSaid : Prop := Claim7.holds Tryz.pinned (.plain (OpenSpec.ofChange diffLeadsSpec)) diffLeadsCard

/-- THE SECOND FORM's CARD OF 'vellumtop.WholeUnique'. -/
def wholeUniqueUptoCard : Claim7 := { stood := { row := wholeUniqueUptoRow, standIns := [], harness := (true, "c4cdc2d6fcfba194f6b6c10df0ffead9c1cb4d9131602b60351ee555fa88aa36"), looks := true }, kinds := [], alts := [], laidByText := true, laidKinds := [.data, .sentinel, .sentinel, .sentinel, .sentinel, .sentinel, .sentinel, .sentinel, .sentinel, .sentinel, .pinned], laidTests := true, laidLooks := .later }
def WholeUniqueUptoCardSaid : Prop := Claim7.holds Tryz.pinned (.plain (OpenSpec.upto wholeUniqueSpec)) wholeUniqueUptoCard

/-- THE SECOND FORM's CARD OF 'vellumlaw09.CellsOwns'. -/
def cellsOwnsUptoCard : Claim7 := { stood := { row := cellsOwnsUptoRow, standIns := [], harness := (true, "c4cdc2d6fcfba194f6b6c10df0ffead9c1cb4d9131602b60351ee555fa88aa36"), looks := true }, kinds := [], alts := [], laidByText := true, laidKinds := [.data, .sentinel, .sentinel, .sentinel, .sentinel, .sentinel, .sentinel, .sentinel, .sentinel, .sentinel, .pinned], laidTests := true, laidLooks := .later }
def CellsOwnsUptoCardSaid : Prop := Claim7.holds Tryz.pinned (.plain (OpenSpec.upto cellsOwnsSpec)) cellsOwnsUptoCard

/-- THE SECOND FORM's CARD OF 'vellumlaw21.LinesTold'. -/
def linesToldUptoCard : Claim7 := { stood := { row := linesToldUptoRow, standIns := [], harness := (true, "c4cdc2d6fcfba194f6b6c10df0ffead9c1cb4d9131602b60351ee555fa88aa36"), looks := true }, kinds := [], alts := [], laidByText := true, laidKinds := [.data, .sentinel, .sentinel, .sentinel, .sentinel, .sentinel, .sentinel, .sentinel, .sentinel, .sentinel, .sentinel, .sentinel, .sentinel, .sentinel, .sentinel, .sentinel, .sentinel, .sentinel, .sentinel, .sentinel, .pinned], laidTests := true, laidLooks := .later }
def LinesToldUptoCardSaid : Prop := Claim7.holds Tryz.pinned (.plain (OpenSpec.upto linesToldSpec)) linesToldUptoCard

/-- THE SECOND FORM's CARD OF 'vellumlaw21.LinesPlaces'. -/
def linesPlacesUptoCard : Claim7 := { stood := { row := linesPlacesUptoRow, standIns := [], harness := (true, "c4cdc2d6fcfba194f6b6c10df0ffead9c1cb4d9131602b60351ee555fa88aa36"), looks := true }, kinds := [], alts := [], laidByText := true, laidKinds := [.data, .sentinel, .sentinel, .sentinel, .sentinel, .sentinel, .sentinel, .sentinel, .sentinel, .sentinel, .sentinel, .sentinel, .sentinel, .sentinel, .sentinel, .sentinel, .sentinel, .sentinel, .sentinel, .sentinel, .pinned], laidTests := true, laidLooks := .later }
def LinesPlacesUptoCardSaid : Prop := Claim7.holds Tryz.pinned (.plain (OpenSpec.upto linesPlacesSpec)) linesPlacesUptoCard

/-- THE SECOND FORM's CARD OF 'vellumlaw21.LinesBack'. -/
def linesBackUptoCard : Claim7 := { stood := { row := linesBackUptoRow, standIns := [], harness := (true, "c4cdc2d6fcfba194f6b6c10df0ffead9c1cb4d9131602b60351ee555fa88aa36"), looks := true }, kinds := [], alts := [], laidByText := true, laidKinds := [.data, .sentinel, .sentinel, .sentinel, .sentinel, .sentinel, .sentinel, .sentinel, .sentinel, .sentinel, .sentinel, .sentinel, .sentinel, .sentinel, .sentinel, .sentinel, .sentinel, .sentinel, .sentinel, .sentinel, .pinned], laidTests := true, laidLooks := .later }
def LinesBackUptoCardSaid : Prop := Claim7.holds Tryz.pinned (.plain (OpenSpec.upto linesBackSpec)) linesBackUptoCard

/-- THE SECOND FORM's CARD OF 'vellumlaw16.DiffLeast'. -/
def diffLeastUptoCard : Claim7 := { stood := { row := diffLeastUptoRow, standIns := [], harness := (true, "c4cdc2d6fcfba194f6b6c10df0ffead9c1cb4d9131602b60351ee555fa88aa36"), looks := true }, kinds := [], alts := [], laidByText := true, laidKinds := [.data, .sentinel, .sentinel, .sentinel, .sentinel, .sentinel, .sentinel, .sentinel, .sentinel, .sentinel, .sentinel, .sentinel, .sentinel, .sentinel, .sentinel, .sentinel, .sentinel, .sentinel, .sentinel, .sentinel, .pinned], laidTests := true, laidLooks := .later }
def DiffLeastUptoCardSaid : Prop := Claim7.holds Tryz.pinned (.plain (OpenSpec.upto diffLeastSpec)) diffLeastUptoCard

/-- THE SECOND FORM's CARD OF 'vellumlaw21.LinesAlone'. -/
def linesAloneUptoCard : Claim7 := { stood := { row := linesAloneUptoRow, standIns := [], harness := (true, "c4cdc2d6fcfba194f6b6c10df0ffead9c1cb4d9131602b60351ee555fa88aa36"), looks := true }, kinds := [], alts := [], laidByText := true, laidKinds := [.data, .sentinel, .sentinel, .sentinel, .sentinel, .sentinel, .sentinel, .sentinel, .sentinel, .sentinel, .sentinel, .pinned], laidTests := true, laidLooks := .later }
def LinesAloneUptoCardSaid : Prop := Claim7.holds Tryz.pinned (.plain (OpenSpec.upto linesAloneSpec)) linesAloneUptoCard

/-- THE SECOND FORM's CARD OF 'vellumlaw16.DiffNone'. -/
def diffNoneUptoCard : Claim7 := { stood := { row := diffNoneUptoRow, standIns := [], harness := (true, "c4cdc2d6fcfba194f6b6c10df0ffead9c1cb4d9131602b60351ee555fa88aa36"), looks := true }, kinds := [], alts := [], laidByText := true, laidKinds := [.data, .sentinel, .sentinel, .sentinel, .sentinel, .sentinel, .sentinel, .sentinel, .sentinel, .sentinel, .pinned], laidTests := true, laidLooks := .later }
def DiffNoneUptoCardSaid : Prop := Claim7.holds Tryz.pinned (.plain (OpenSpec.upto diffNoneSpec)) diffNoneUptoCard

/-- THE SECOND FORM's CARD OF 'vellumlaw16.DiffLeads'. -/
def diffLeadsUptoCard : Claim7 := { stood := { row := diffLeadsUptoRow, standIns := [], harness := (true, "c4cdc2d6fcfba194f6b6c10df0ffead9c1cb4d9131602b60351ee555fa88aa36"), looks := true }, kinds := [], alts := [], laidByText := true, laidKinds := [.data, .sentinel, .sentinel, .sentinel, .sentinel, .sentinel, .sentinel, .sentinel, .sentinel, .sentinel, .pinned], laidTests := true, laidLooks := .later }
def DiffLeadsUptoCardSaid : Prop := Claim7.holds Tryz.pinned (.plain (OpenSpec.upto diffLeadsSpec)) diffLeadsUptoCard
end Rows
end Go.Proofs.YtgphmfnkeolbcaaGreatDoor
