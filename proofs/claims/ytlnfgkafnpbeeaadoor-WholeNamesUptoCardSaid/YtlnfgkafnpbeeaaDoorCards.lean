/-
  DERIVED. GIVEN WITH THE SEED: THE CARDS: each row of YtlnfgkafnpbeeaaDoorRows.lean that lists a variable, with what it lists TIED to the program's text (the seventh form; the later family's looks); each row that meets fmt, with fmt's text TOLD by the authors' own Lean function (tested against real Go, not proved from fmt's source: count such statements apart). THE CARD IS WHAT COUNTS. Prove the row's statement (the work); the ties are given (YtlnfgkafnpbeeaaDoorTie.lean); close each card by the builder's one call (the guide's Derived/Test/ToyasCard.lean, 'card_holds'). Laid BY PROGRAM, IN A SANDBOX (cutbox-door.mjs). By AI agents, Wed Nov 11 2026. No macro, syntax, notation, axiom, sorry.
-/
import Derived.Test.YtlnfgkafnpbeeaaDoorRows
import GoSem.ClaimSeven
namespace Go.Proofs.YtlnfgkafnpbeeaaDoor
namespace Rows

/-- THE TIED CARD OF 'vellumlaw01.ScalarsNumbers'. -/
def scalarsNumbersCard : Claim7 := { stood := { row := scalarsNumbersRow, standIns := [], harness := (true, "b9720efe7277c1e9bfea78730a36253ba0989e53cea8511414fec7fcbfb31f98"), looks := true }, kinds := [], alts := [], laidByText := true, laidKinds := [.data, .sentinel, .sentinel, .sentinel, .sentinel, .sentinel, .sentinel, .sentinel, .sentinel, .sentinel, .sentinel, .sentinel, .sentinel, .sentinel, .sentinel, .sentinel, .sentinel, .sentinel, .sentinel, .sentinel, .pinned], laidTests := true, laidLooks := .later }
def ScalarsNumbersCardSaid : Prop := Claim7.holds Tryd.pinned (.plain (OpenSpec.ofChange scalarsNumbersSpec)) scalarsNumbersCard

/-- THE TIED CARD OF 'vellumlaw01.ScalarsBack'. -/
def scalarsBackCard : Claim7 := { stood := { row := scalarsBackRow, standIns := [], harness := (true, "b9720efe7277c1e9bfea78730a36253ba0989e53cea8511414fec7fcbfb31f98"), looks := true }, kinds := [], alts := [], laidByText := true, laidKinds := [.data, .sentinel, .sentinel, .sentinel, .sentinel, .sentinel, .sentinel, .sentinel, .sentinel, .sentinel, .sentinel, .sentinel, .sentinel, .sentinel, .sentinel, .sentinel, .sentinel, .sentinel, .sentinel, .sentinel, .pinned], laidTests := true, laidLooks := .later }
def ScalarsBackCardSaid : Prop := Claim7.holds Tryd.pinned (.plain (OpenSpec.ofChange scalarsBackSpec)) scalarsBackCard

/-- THE TIED CARD OF 'vellumlaw01.ScalarsJoined'. -/
def scalarsJoinedCard : Claim7 := { stood := { row := scalarsJoinedRow, standIns := [], harness := (true, "b9720efe7277c1e9bfea78730a36253ba0989e53cea8511414fec7fcbfb31f98"), looks := true }, kinds := [], alts := [], laidByText := true, laidKinds := [.data, .sentinel, .sentinel, .sentinel, .sentinel, .sentinel, .sentinel, .sentinel, .sentinel, .sentinel, .sentinel, .sentinel, .sentinel, .sentinel, .sentinel, .sentinel, .sentinel, .sentinel, .sentinel, .sentinel, .pinned], laidTests := true, laidLooks := .later }
def ScalarsJoinedCardSaid : Prop := Claim7.holds Tryd.pinned (.plain (OpenSpec.ofChange scalarsJoinedSpec)) scalarsJoinedCard

/-- THE TIED CARD OF 'vellumlaw01.ScalarsPairs'. -/
def scalarsPairsCard : Claim7 := { stood := { row := scalarsPairsRow, standIns := [], harness := (true, "b9720efe7277c1e9bfea78730a36253ba0989e53cea8511414fec7fcbfb31f98"), looks := true }, kinds := [], alts := [], laidByText := true, laidKinds := [.data, .sentinel, .sentinel, .sentinel, .sentinel, .sentinel, .sentinel, .sentinel, .sentinel, .sentinel, .sentinel, .sentinel, .sentinel, .sentinel, .sentinel, .sentinel, .sentinel, .sentinel, .sentinel, .sentinel, .pinned], laidTests := true, laidLooks := .later }
def ScalarsPairsCardSaid : Prop := Claim7.holds Tryd.pinned (.plain (OpenSpec.ofChange scalarsPairsSpec)) scalarsPairsCard

/-- THE TIED CARD OF 'vellumlaw01.ScalarsTexts'. -/
def scalarsTextsCard : Claim7 := { stood := { row := scalarsTextsRow, standIns := [], harness := (true, "b9720efe7277c1e9bfea78730a36253ba0989e53cea8511414fec7fcbfb31f98"), looks := true }, kinds := [], alts := [], laidByText := true, laidKinds := [.data, .sentinel, .sentinel, .sentinel, .sentinel, .sentinel, .sentinel, .sentinel, .sentinel, .sentinel, .sentinel, .sentinel, .sentinel, .sentinel, .sentinel, .sentinel, .sentinel, .sentinel, .sentinel, .sentinel, .pinned], laidTests := true, laidLooks := .later }
def ScalarsTextsCardSaid : Prop := Claim7.holds Tryd.pinned (.plain (OpenSpec.ofChange scalarsTextsSpec)) scalarsTextsCard

/-- THE TIED CARD OF 'vellumlaw01.ScalarsPlaces'. -/
def scalarsPlacesCard : Claim7 := { stood := { row := scalarsPlacesRow, standIns := [], harness := (true, "b9720efe7277c1e9bfea78730a36253ba0989e53cea8511414fec7fcbfb31f98"), looks := true }, kinds := [], alts := [], laidByText := true, laidKinds := [.data, .sentinel, .sentinel, .sentinel, .sentinel, .sentinel, .sentinel, .sentinel, .sentinel, .sentinel, .sentinel, .sentinel, .sentinel, .sentinel, .sentinel, .sentinel, .sentinel, .sentinel, .sentinel, .sentinel, .pinned], laidTests := true, laidLooks := .later }
def ScalarsPlacesCardSaid : Prop := Claim7.holds Tryd.pinned (.plain (OpenSpec.ofChange scalarsPlacesSpec)) scalarsPlacesCard

/-- THE TIED CARD OF 'vellumlaw01.ScalarsCuts'. -/
def scalarsCutsCard : Claim7 := { stood := { row := scalarsCutsRow, standIns := [], harness := (true, "b9720efe7277c1e9bfea78730a36253ba0989e53cea8511414fec7fcbfb31f98"), looks := true }, kinds := [], alts := [], laidByText := true, laidKinds := [.data, .sentinel, .sentinel, .sentinel, .sentinel, .sentinel, .sentinel, .sentinel, .sentinel, .sentinel, .sentinel, .sentinel, .sentinel, .sentinel, .sentinel, .sentinel, .sentinel, .sentinel, .sentinel, .sentinel, .pinned], laidTests := true, laidLooks := .later }
def ScalarsCutsCardSaid : Prop := Claim7.holds Tryd.pinned (.plain (OpenSpec.ofChange scalarsCutsSpec)) scalarsCutsCard

/-- THE TIED CARD OF 'vellumtop.WholeNames'. -/
def wholeNamesCard : Claim7 := { stood := { row := wholeNamesRow, standIns := [], harness := (true, "b9720efe7277c1e9bfea78730a36253ba0989e53cea8511414fec7fcbfb31f98"), looks := true }, kinds := [], alts := [], laidByText := true, laidKinds := [.sentinel, .sentinel, .sentinel, .sentinel, .sentinel, .sentinel, .sentinel, .sentinel, .sentinel, .sentinel, .sentinel, .sentinel, .sentinel, .sentinel, .sentinel, .sentinel, .sentinel, .sentinel, .sentinel], laidTests := true, laidLooks := .later }
def WholeNamesCardSaid : Prop := Claim7.holds Tryd.pinned (.plain (OpenSpec.ofChange wholeNamesSpec)) wholeNamesCard

/-- THE SECOND FORM's CARD OF 'vellumlaw01.ScalarsNumbers'. -/
def scalarsNumbersUptoCard : Claim7 := { stood := { row := scalarsNumbersUptoRow, standIns := [], harness := (true, "b9720efe7277c1e9bfea78730a36253ba0989e53cea8511414fec7fcbfb31f98"), looks := true }, kinds := [], alts := [], laidByText := true, laidKinds := [.data, .sentinel, .sentinel, .sentinel, .sentinel, .sentinel, .sentinel, .sentinel, .sentinel, .sentinel, .sentinel, .sentinel, .sentinel, .sentinel, .sentinel, .sentinel, .sentinel, .sentinel, .sentinel, .sentinel, .pinned], laidTests := true, laidLooks := .later }
def ScalarsNumbersUptoCardSaid : Prop := Claim7.holds Tryd.pinned (.plain (OpenSpec.upto scalarsNumbersSpec)) scalarsNumbersUptoCard

/-- THE SECOND FORM's CARD OF 'vellumlaw01.ScalarsBack'. -/
def scalarsBackUptoCard : Claim7 := { stood := { row := scalarsBackUptoRow, standIns := [], harness := (true, "b9720efe7277c1e9bfea78730a36253ba0989e53cea8511414fec7fcbfb31f98"), looks := true }, kinds := [], alts := [], laidByText := true, laidKinds := [.data, .sentinel, .sentinel, .sentinel, .sentinel, .sentinel, .sentinel, .sentinel, .sentinel, .sentinel, .sentinel, .sentinel, .sentinel, .sentinel, .sentinel, .sentinel, .sentinel, .sentinel, .sentinel, .sentinel, .pinned], laidTests := true, laidLooks := .later }
def ScalarsBackUptoCardSaid : Prop := Claim7.holds Tryd.pinned (.plain (OpenSpec.upto scalarsBackSpec)) scalarsBackUptoCard

/-- THE SECOND FORM's CARD OF 'vellumlaw01.ScalarsJoined'. -/
def scalarsJoinedUptoCard : Claim7 := { stood := { row := scalarsJoinedUptoRow, standIns := [], harness := (true, "b9720efe7277c1e9bfea78730a36253ba0989e53cea8511414fec7fcbfb31f98"), looks := true }, kinds := [], alts := [], laidByText := true, laidKinds := [.data, .sentinel, .sentinel, .sentinel, .sentinel, .sentinel, .sentinel, .sentinel, .sentinel, .sentinel, .sentinel, .sentinel, .sentinel, .sentinel, .sentinel, .sentinel, .sentinel, .sentinel, .sentinel, .sentinel, .pinned], laidTests := true, laidLooks := .later }
def ScalarsJoinedUptoCardSaid : Prop := Claim7.holds Tryd.pinned (.plain (OpenSpec.upto scalarsJoinedSpec)) scalarsJoinedUptoCard

/-- THE SECOND FORM's CARD OF 'vellumlaw01.ScalarsPairs'. -/
def scalarsPairsUptoCard : Claim7 := { stood := { row := scalarsPairsUptoRow, standIns := [], harness := (true, "b9720efe7277c1e9bfea78730a36253ba0989e53cea8511414fec7fcbfb31f98"), looks := true }, kinds := [], alts := [], laidByText := true, laidKinds := [.data, .sentinel, .sentinel, .sentinel, .sentinel, .sentinel, .sentinel, .sentinel, .sentinel, .sentinel, .sentinel, .sentinel, .sentinel, .sentinel, .sentinel, .sentinel, .sentinel, .sentinel, .sentinel, .sentinel, .pinned], laidTests := true, laidLooks := .later }
def ScalarsPairsUptoCardSaid : Prop := Claim7.holds Tryd.pinned (.plain (OpenSpec.upto scalarsPairsSpec)) scalarsPairsUptoCard

/-- THE SECOND FORM's CARD OF 'vellumlaw01.ScalarsTexts'. -/
def scalarsTextsUptoCard : Claim7 := { stood := { row := scalarsTextsUptoRow, standIns := [], harness := (true, "b9720efe7277c1e9bfea78730a36253ba0989e53cea8511414fec7fcbfb31f98"), looks := true }, kinds := [], alts := [], laidByText := true, laidKinds := [.data, .sentinel, .sentinel, .sentinel, .sentinel, .sentinel, .sentinel, .sentinel, .sentinel, .sentinel, .sentinel, .sentinel, .sentinel, .sentinel, .sentinel, .sentinel, .sentinel, .sentinel, .sentinel, .sentinel, .pinned], laidTests := true, laidLooks := .later }
def ScalarsTextsUptoCardSaid : Prop := Claim7.holds Tryd.pinned (.plain (OpenSpec.upto scalarsTextsSpec)) scalarsTextsUptoCard

/-- THE SECOND FORM's CARD OF 'vellumlaw01.ScalarsPlaces'. -/
def scalarsPlacesUptoCard : Claim7 := { stood := { row := scalarsPlacesUptoRow, standIns := [], harness := (true, "b9720efe7277c1e9bfea78730a36253ba0989e53cea8511414fec7fcbfb31f98"), looks := true }, kinds := [], alts := [], laidByText := true, laidKinds := [.data, .sentinel, .sentinel, .sentinel, .sentinel, .sentinel, .sentinel, .sentinel, .sentinel, .sentinel, .sentinel, .sentinel, .sentinel, .sentinel, .sentinel, .sentinel, .sentinel, .sentinel, .sentinel, .sentinel, .pinned], laidTests := true, laidLooks := .later }
def ScalarsPlacesUptoCardSaid : Prop := Claim7.holds Tryd.pinned (.plain (OpenSpec.upto scalarsPlacesSpec)) scalarsPlacesUptoCard

/-- THE SECOND FORM's CARD OF 'vellumlaw01.ScalarsCuts'. -/
def scalarsCutsUptoCard : Claim7 := { stood := { row := scalarsCutsUptoRow, standIns := [], harness := (true, "b9720efe7277c1e9bfea78730a36253ba0989e53cea8511414fec7fcbfb31f98"), looks := true }, kinds := [], alts := [], laidByText := true, laidKinds := [.data, .sentinel, .sentinel, .sentinel, .sentinel, .sentinel, .sentinel, .sentinel, .sentinel, .sentinel, .sentinel, .sentinel, .sentinel, .sentinel, .sentinel, .sentinel, .sentinel, .sentinel, .sentinel, .sentinel, .pinned], laidTests := true, laidLooks := .later }
def ScalarsCutsUptoCardSaid : Prop := Claim7.holds Tryd.pinned (.plain (OpenSpec.upto scalarsCutsSpec)) scalarsCutsUptoCard

/-- THE SECOND FORM's CARD OF 'vellumtop.WholeNames'. -/
def wholeNamesUptoCard : Claim7 := { stood := { row := wholeNamesUptoRow, standIns := [], harness := (true, "b9720efe7277c1e9bfea78730a36253ba0989e53cea8511414fec7fcbfb31f98"), looks := true }, kinds := [], alts := [], laidByText := true, laidKinds := [.sentinel, .sentinel, .sentinel, .sentinel, .sentinel, .sentinel, .sentinel, .sentinel, .sentinel, .sentinel, .sentinel, .sentinel, .sentinel, .sentinel, .sentinel, .sentinel, .sentinel, .sentinel, .sentinel], laidTests := true, laidLooks := .later }
def WholeNamesUptoCardSaid : Prop := Claim7.holds Tryd.pinned (.plain (OpenSpec.upto wholeNamesSpec)) wholeNamesUptoCard
end Rows
end Go.Proofs.YtlnfgkafnpbeeaaDoor
