/-
  DERIVED. GIVEN WITH THE SEED: THE CARDS: each row of YtgphmfnkeolbcaaDoorRows.lean that lists a variable, with what it lists TIED to the program's text (the seventh form; the later family's looks); each row that meets fmt, with fmt's text TOLD by the authors' own Lean function (tested against real Go, not proved from fmt's source: count such statements apart). THE CARD IS WHAT COUNTS. Prove the row's statement (the work); the ties are given (YtgphmfnkeolbcaaDoorTie.lean); close each card by the builder's one call (the guide's Derived/Test/ToyasCard.lean, 'card_holds'). Laid BY PROGRAM, IN A SANDBOX (cutbox-door.mjs). By AI agents, Wed Nov 11 2026. No macro, syntax, notation, axiom, sorry.
-/
import Derived.Test.YtgphmfnkeolbcaaDoorRows
import GoSem.ClaimSeven
namespace Go.Proofs.YtgphmfnkeolbcaaDoor
namespace Rows

/-- THE TIED CARD OF 'vellumlaw09.CellsList'. -/
def cellsListCard : Claim7 := { stood := { row := cellsListRow, standIns := [], harness := (true, "43469b09f894e1e3f0728186a737bbe797e9a3cb78d478839ba4226cfbb79d24"), looks := true }, kinds := [], alts := [], laidByText := true, laidKinds := [.data, .sentinel, .sentinel, .sentinel, .sentinel, .sentinel, .sentinel, .sentinel, .sentinel, .sentinel, .sentinel, .sentinel, .sentinel, .sentinel, .sentinel, .sentinel, .sentinel, .sentinel, .sentinel, .sentinel, .pinned], laidTests := true, laidLooks := .later }
def CellsListCardSaid : Prop := Claim7.holds Tryd.pinned (.plain (OpenSpec.ofChange cellsListSpec)) cellsListCard

/-- THE TIED CARD OF 'vellumlaw09.CellsBack'. -/
def cellsBackCard : Claim7 := { stood := { row := cellsBackRow, standIns := [], harness := (true, "43469b09f894e1e3f0728186a737bbe797e9a3cb78d478839ba4226cfbb79d24"), looks := true }, kinds := [], alts := [], laidByText := true, laidKinds := [.data, .sentinel, .sentinel, .sentinel, .sentinel, .sentinel, .sentinel, .sentinel, .sentinel, .pinned], laidTests := true, laidLooks := .later }
def CellsBackCardSaid : Prop := Claim7.holds Tryd.pinned (.plain (OpenSpec.ofChange cellsBackSpec)) cellsBackCard

/-- THE SECOND FORM's CARD OF 'vellumlaw09.CellsList'. -/
def cellsListUptoCard : Claim7 := { stood := { row := cellsListUptoRow, standIns := [], harness := (true, "43469b09f894e1e3f0728186a737bbe797e9a3cb78d478839ba4226cfbb79d24"), looks := true }, kinds := [], alts := [], laidByText := true, laidKinds := [.data, .sentinel, .sentinel, .sentinel, .sentinel, .sentinel, .sentinel, .sentinel, .sentinel, .sentinel, .sentinel, .sentinel, .sentinel, .sentinel, .sentinel, .sentinel, .sentinel, .sentinel, .sentinel, .sentinel, .pinned], laidTests := true, laidLooks := .later }
def CellsListUptoCardSaid : Prop := Claim7.holds Tryd.pinned (.plain (OpenSpec.upto cellsListSpec)) cellsListUptoCard

/-- THE SECOND FORM's CARD OF 'vellumlaw09.CellsBack'. -/
def cellsBackUptoCard : Claim7 := { stood := { row := cellsBackUptoRow, standIns := [], harness := (true, "43469b09f894e1e3f0728186a737bbe797e9a3cb78d478839ba4226cfbb79d24"), looks := true }, kinds := [], alts := [], laidByText := true, laidKinds := [.data, .sentinel, .sentinel, .sentinel, .sentinel, .sentinel, .sentinel, .sentinel, .sentinel, .pinned], laidTests := true, laidLooks := .later }
def CellsBackUptoCardSaid : Prop := Claim7.holds Tryd.pinned (.plain (OpenSpec.upto cellsBackSpec)) cellsBackUptoCard
end Rows
end Go.Proofs.YtgphmfnkeolbcaaDoor
