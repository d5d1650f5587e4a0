/-
  DERIVED. GIVEN WITH THE SEED: THE CARDS: each row of YtkehomiogkoomaaDoorRows.lean that lists a variable, with what it lists TIED to the program's text (the seventh form; the later family's looks); each row that meets fmt, with fmt's text TOLD by the authors' own Lean function (tested against real Go, not proved from fmt's source: count such statements apart). THE CARD IS WHAT COUNTS. Prove the row's statement (the work); the ties are given (YtkehomiogkoomaaDoorTie.lean); close each card by the builder's one call (the guide's Derived/Test/ToyasCard.lean, 'card_holds'). Laid BY PROGRAM, IN A SANDBOX (cutbox-door.mjs). By AI agents, Wed Nov 11 2026. No macro, syntax, notation, axiom, sorry.
-/
import Derived.Test.YtkehomiogkoomaaDoorRows
import GoSem.ClaimSeven
namespace Go.Proofs.YtkehomiogkoomaaDoor
namespace Rows

/-- THE TIED CARD OF 'vellumlaw01.ScalarsTexts'. -/
def scalarsTextsCard : Claim7 := { stood := { row := scalarsTextsRow, standIns := [], harness := (true, "9e0538e6e0444952e19cd70c37f7987cc3ec51fe665362475d060c006c6bd074"), looks := true }, kinds := [], alts := [], laidByText := true, laidKinds := [.data, .sentinel, .sentinel, .sentinel, .sentinel, .sentinel, .sentinel, .sentinel, .sentinel, .sentinel, .sentinel, .sentinel, .sentinel, .sentinel, .sentinel, .sentinel, .sentinel, .sentinel, .sentinel, .sentinel, .pinned], laidTests := true, laidLooks := .later }
def ScalarsTextsCardSaid : Prop := Claim7.holds Tryd.pinned (.plain (OpenSpec.ofChange scalarsTextsSpec)) scalarsTextsCard

/-- THE TIED CARD OF 'vellumlaw06.BuildParts'. -/
def buildPartsCard : Claim7 := { stood := { row := buildPartsRow, standIns := [], harness := (true, "9e0538e6e0444952e19cd70c37f7987cc3ec51fe665362475d060c006c6bd074"), looks := true }, kinds := [], alts := [], laidByText := true, laidKinds := [.data, .sentinel, .sentinel, .sentinel, .sentinel, .sentinel, .sentinel, .sentinel, .sentinel, .pinned], laidTests := true, laidLooks := .later }
def BuildPartsCardSaid : Prop := Claim7.holds Tryd.pinned (.plain (OpenSpec.ofChange buildPartsSpec)) buildPartsCard

/-- THE TIED CARD OF 'vellumlaw03.AttrsAsks'. -/
def attrsAsksCard : Claim7 := { stood := { row := attrsAsksRow, standIns := [], harness := (true, "9e0538e6e0444952e19cd70c37f7987cc3ec51fe665362475d060c006c6bd074"), looks := true }, kinds := [], alts := [], laidByText := true, laidKinds := [.data, .sentinel, .sentinel, .sentinel, .sentinel, .sentinel, .sentinel, .sentinel, .sentinel, .sentinel, .sentinel, .sentinel, .sentinel, .sentinel, .sentinel, .sentinel, .sentinel, .sentinel, .sentinel, .sentinel, .pinned], laidTests := true, laidLooks := .later }
def AttrsAsksCardSaid : Prop := Claim7.holds Tryd.pinned (.plain (OpenSpec.ofChange attrsAsksSpec)) attrsAsksCard

/-- THE TIED CARD OF 'vellumlaw03.AttrsOwns'. -/
def attrsOwnsCard : Claim7 := { stood := { row := attrsOwnsRow, standIns := [], harness := (true, "9e0538e6e0444952e19cd70c37f7987cc3ec51fe665362475d060c006c6bd074"), looks := true }, kinds := [], alts := [], laidByText := true, laidKinds := [.data, .sentinel, .sentinel, .sentinel, .sentinel, .sentinel, .sentinel, .pinned], laidTests := true, laidLooks := .later }
def AttrsOwnsCardSaid : Prop := Claim7.holds Tryd.pinned (.plain (OpenSpec.ofChange attrsOwnsSpec)) attrsOwnsCard

/-- THE TIED CARD OF 'vellumlaw06.BuildPieces'. -/
def buildPiecesCard : Claim7 := { stood := { row := buildPiecesRow, standIns := [], harness := (true, "9e0538e6e0444952e19cd70c37f7987cc3ec51fe665362475d060c006c6bd074"), looks := true }, kinds := [], alts := [], laidByText := true, laidKinds := [.data, .sentinel, .sentinel, .sentinel, .sentinel, .sentinel, .sentinel, .sentinel, .sentinel, .pinned], laidTests := true, laidLooks := .later }
def BuildPiecesCardSaid : Prop := Claim7.holds Tryd.pinned (.plain (OpenSpec.ofChange buildPiecesSpec)) buildPiecesCard

/-- THE TIED CARD OF 'vellumlaw06.BuildTypes'. -/
def buildTypesCard : Claim7 := { stood := { row := buildTypesRow, standIns := [], harness := (true, "9e0538e6e0444952e19cd70c37f7987cc3ec51fe665362475d060c006c6bd074"), looks := true }, kinds := [], alts := [], laidByText := true, laidKinds := [.data, .sentinel, .sentinel, .sentinel, .sentinel, .sentinel, .sentinel, .sentinel, .sentinel, .pinned], laidTests := true, laidLooks := .later }
def BuildTypesCardSaid : Prop := Claim7.holds Tryd.pinned (.plain (OpenSpec.ofChange buildTypesSpec)) buildTypesCard

/-- THE TIED CARD OF 'vellumlaw06.BuildPlays'. -/
def buildPlaysCard : Claim7 := { stood := { row := buildPlaysRow, standIns := [], harness := (true, "9e0538e6e0444952e19cd70c37f7987cc3ec51fe665362475d060c006c6bd074"), looks := true }, kinds := [], alts := [], laidByText := true, laidKinds := [.data, .sentinel, .sentinel, .sentinel, .sentinel, .sentinel, .sentinel, .sentinel, .sentinel, .sentinel, .sentinel, .sentinel, .sentinel, .sentinel, .sentinel, .sentinel, .sentinel, .sentinel, .sentinel, .sentinel, .pinned], laidTests := true, laidLooks := .later }
def BuildPlaysCardSaid : Prop := Claim7.holds Tryd.pinned (.plain (OpenSpec.ofChange buildPlaysSpec)) buildPlaysCard

/-- THE TIED CARD OF 'vellumlaw06.BuildOf'. -/
def buildOfCard : Claim7 := { stood := { row := buildOfRow, standIns := [], harness := (true, "9e0538e6e0444952e19cd70c37f7987cc3ec51fe665362475d060c006c6bd074"), looks := true }, kinds := [], alts := [], laidByText := true, laidKinds := [.data, .sentinel, .sentinel, .sentinel, .sentinel, .sentinel, .sentinel, .sentinel, .sentinel, .sentinel, .sentinel, .sentinel, .sentinel, .sentinel, .sentinel, .sentinel, .sentinel, .sentinel, .sentinel, .sentinel, .pinned], laidTests := true, laidLooks := .later }
def BuildOfCardSaid : Prop := Claim7.holds Tryd.pinned (.plain (OpenSpec.ofChange buildOfSpec)) buildOfCard

/-- THE TIED CARD OF 'vellumlaw06.BuildOwns'. -/
def buildOwnsCard : Claim7 := { stood := { row := buildOwnsRow, standIns := [], harness := (true, "9e0538e6e0444952e19cd70c37f7987cc3ec51fe665362475d060c006c6bd074"), looks := true }, kinds := [], alts := [], laidByText := true, laidKinds := [.data, .sentinel, .sentinel, .sentinel, .sentinel, .sentinel, .sentinel, .sentinel, .sentinel, .pinned], laidTests := true, laidLooks := .later }
def BuildOwnsCardSaid : Prop := Claim7.holds Tryd.pinned (.plain (OpenSpec.ofChange buildOwnsSpec)) buildOwnsCard

/-- THE TIED CARD OF 'vellumlaw06.BuildCanon'. -/
def buildCanonCard : Claim7 := { stood := { row := buildCanonRow, standIns := [], harness := (true, "9e0538e6e0444952e19cd70c37f7987cc3ec51fe665362475d060c006c6bd074"), looks := true }, kinds := [], alts := [], laidByText := true, laidKinds := [.data, .sentinel, .sentinel, .sentinel, .sentinel, .sentinel, .sentinel, .sentinel, .sentinel, .pinned], laidTests := true, laidLooks := .later }
def BuildCanonCardSaid : Prop := Claim7.holds Tryd.pinned (.plain (OpenSpec.ofChange buildCanonSpec)) buildCanonCard

/-- THE TIED CARD OF 'vellumlaw09.CellsOf'. -/
def cellsOfCard : Claim7 := { stood := { row := cellsOfRow, standIns := [], harness := (true, "9e0538e6e0444952e19cd70c37f7987cc3ec51fe665362475d060c006c6bd074"), looks := true }, kinds := [], alts := [], laidByText := true, laidKinds := [.data, .sentinel, .sentinel, .sentinel, .sentinel, .sentinel, .sentinel, .sentinel, .sentinel, .sentinel, .sentinel, .sentinel, .sentinel, .sentinel, .sentinel, .sentinel, .sentinel, .sentinel, .sentinel, .sentinel, .pinned], laidTests := true, laidLooks := .later }
def CellsOfCardSaid : Prop := Claim7.holds Tryd.pinned (.plain (OpenSpec.ofChange cellsOfSpec)) cellsOfCard

/-- THE TIED CARD OF 'vellumlaw09.CellsLike'. -/
def cellsLikeCard : Claim7 := { stood := { row := cellsLikeRow, standIns := [], harness := (true, "9e0538e6e0444952e19cd70c37f7987cc3ec51fe665362475d060c006c6bd074"), looks := true }, kinds := [], alts := [], laidByText := true, laidKinds := [.data, .sentinel, .sentinel, .sentinel, .sentinel, .sentinel, .sentinel, .sentinel, .sentinel, .pinned], laidTests := true, laidLooks := .later }
def CellsLikeCardSaid : Prop := Claim7.holds Tryd.pinned (.plain (OpenSpec.ofChange cellsLikeSpec)) cellsLikeCard

/-- THE SECOND FORM's CARD OF 'vellumlaw01.ScalarsTexts'. -/
def scalarsTextsUptoCard : Claim7 := { stood := { row := scalarsTextsUptoRow, standIns := [], harness := (true, "9e0538e6e0444952e19cd70c37f7987cc3ec51fe665362475d060c006c6bd074"), looks := true }, kinds := [], alts := [], laidByText := true, laidKinds := [.data, .sentinel, .sentinel, .sentinel, .sentinel, .sentinel, .sentinel, .sentinel, .sentinel, .sentinel, .sentinel, .sentinel, .sentinel, .sentinel, .sentinel, .sentinel, .sentinel, .sentinel, .sentinel, .sentinel, .pinned], laidTests := true, laidLooks := .later }
def ScalarsTextsUptoCardSaid : Prop := Claim7.holds Tryd.pinned (.plain (OpenSpec.upto scalarsTextsSpec)) scalarsTextsUptoCard

/-- THE SECOND FORM's CARD OF 'vellumlaw06.BuildParts'. -/
def buildPartsUptoCard : Claim7 := { stood := { row := buildPartsUptoRow, standIns := [], harness := (true, "9e0538e6e0444952e19cd70c37f7987cc3ec51fe665362475d060c006c6bd074"), looks := true }, kinds := [], alts := [], laidByText := true, laidKinds := [.data, .sentinel, .sentinel, .sentinel, .sentinel, .sentinel, .sentinel, .sentinel, .sentinel, .pinned], laidTests := true, laidLooks := .later }
def BuildPartsUptoCardSaid : Prop := Claim7.holds Tryd.pinned (.plain (OpenSpec.upto buildPartsSpec)) buildPartsUptoCard

/-- THE SECOND FORM's CARD OF 'vellumlaw03.AttrsAsks'. -/
def attrsAsksUptoCard : Claim7 := { stood := { row := attrsAsksUptoRow, standIns := [], harness := (true, "9e0538e6e0444952e19cd70c37f7987cc3ec51fe665362475d060c006c6bd074"), looks := true }, kinds := [], alts := [], laidByText := true, laidKinds := [.data, .sentinel, .sentinel, .sentinel, .sentinel, .sentinel, .sentinel, .sentinel, .sentinel, .sentinel, .sentinel, .sentinel, .sentinel, .sentinel, .sentinel, .sentinel, .sentinel, .sentinel, .sentinel, .sentinel, .pinned], laidTests := true, laidLooks := .later }
def AttrsAsksUptoCardSaid : Prop := Claim7.holds Tryd.pinned (.plain (OpenSpec.upto attrsAsksSpec)) attrsAsksUptoCard

/-- THE SECOND FORM's CARD OF 'vellumlaw03.AttrsOwns'. -/
def attrsOwnsUptoCard : Claim7 := { stood := { row := attrsOwnsUptoRow, standIns := [], harness := (true, "9e0538e6e0444952e19cd70c37f7987cc3ec51fe665362475d060c006c6bd074"), looks := true }, kinds := [], alts := [], laidByText := true, laidKinds := [.data, .sentinel, .sentinel, .sentinel, .sentinel, .sentinel, .sentinel, .pinned], laidTests := true, laidLooks := .later }
def AttrsOwnsUptoCardSaid : Prop := Claim7.holds Tryd.pinned (.plain (OpenSpec.upto attrsOwnsSpec)) attrsOwnsUptoCard

/-- THE SECOND FORM's CARD OF 'vellumlaw06.BuildPieces'. -/
def buildPiecesUptoCard : Claim7 := { stood := { row := buildPiecesUptoRow, standIns := [], harness := (true, "9e0538e6e0444952e19cd70c37f7987cc3ec51fe665362475d060c006c6bd074"), looks := true }, kinds := [], alts := [], laidByText := true, laidKinds := [.data, .sentinel, .sentinel, .sentinel, .sentinel, .sentinel, .sentinel, .sentinel, .sentinel, .pinned], laidTests := true, laidLooks := .later }
def BuildPiecesUptoCardSaid : Prop := Claim7.holds Tryd.pinned (.plain (OpenSpec.upto buildPiecesSpec)) buildPiecesUptoCard

/-- THE SECOND FORM's CARD OF 'vellumlaw06.BuildTypes'. -/
def buildTypesUptoCard : Claim7 := { stood := { row := buildTypesUptoRow, standIns := [], harness := (true, "9e0538e6e0444952e19cd70c37f7987cc3ec51fe665362475d060c006c6bd074"), looks := true }, kinds := [], alts := [], laidByText := true, laidKinds := [.data, .sentinel, .sentinel, .sentinel, .sentinel, .sentinel, .sentinel, .sentinel, .sentinel, .pinned], laidTests := true, laidLooks := .later }
def BuildTypesUptoCardSaid : Prop := Claim7.holds Tryd.pinned (.plain (OpenSpec.upto buildTypesSpec)) buildTypesUptoCard

/-- THE SECOND FORM's CARD OF 'vellumlaw06.BuildPlays'. -/
def buildPlaysUptoCard : Claim7 := { stood := { row := buildPlaysUptoRow, standIns := [], harness := (true, "9e0538e6e0444952e19cd70c37f7987cc3ec51fe665362475d060c006c6bd074"), looks := true }, kinds := [], alts := [], laidByText := true, laidKinds := [.data, .sentinel, .sentinel, .sentinel, .sentinel, .sentinel, .sentinel, .sentinel, .sentinel, .sentinel, .sentinel, .sentinel, .sentinel, .sentinel, .sentinel, .sentinel, .sentinel, .sentinel, .sentinel, .sentinel, .pinned], laidTests := true, laidLooks := .later }
def BuildPlaysUptoCardSaid : Prop := Claim7.holds Tryd.pinned (.plain (OpenSpec.upto buildPlaysSpec)) buildPlaysUptoCard

/-- THE SECOND FORM's CARD OF 'vellumlaw06.BuildOf'. -/
def buildOfUptoCard : Claim7 := { stood := { row := buildOfUptoRow, standIns := [], harness := (true, "9e0538e6e0444952e19cd70c37f7987cc3ec51fe665362475d060c006c6bd074"), looks := true }, kinds := [], alts := [], laidByText := true, laidKinds := [.data, .sentinel, .sentinel, .sentinel, .sentinel, .sentinel, .sentinel, .sentinel, .sentinel, .sentinel, .sentinel, .sentinel, .sentinel, .sentinel, .sentinel, .sentinel, .sentinel, .sentinel, .sentinel, .sentinel, .pinned], laidTests := true, laidLooks := .later }
def BuildOfUptoCardSaid : Prop := Claim7.holds Tryd.pinned (.plain (OpenSpec.upto buildOfSpec)) buildOfUptoCard

/-- THE SECOND FORM's CARD OF 'vellumlaw06.BuildOwns'. -/
def buildOwnsUptoCard : Claim7 := { stood := { row := buildOwnsUptoRow, standIns := [], harness := (true, "9e0538e6e0444952e19cd70c37f7987cc3ec51fe665362475d060c006c6bd074"), looks := true }, kinds := [], alts := [], laidByText := true, laidKinds := [.data, .sentinel, .sentinel, .sentinel, .sentinel, .sentinel, .sentinel, .sentinel, .sentinel, .pinned], laidTests := true, laidLooks := .later }
def BuildOwnsUptoCardSaid : Prop := Claim7.holds Tryd.pinned (.plain (OpenSpec.upto buildOwnsSpec)) buildOwnsUptoCard

/-- THE SECOND FORM's CARD OF 'vellumlaw06.BuildCanon'. -/
def buildCanonUptoCard : Claim7 := { stood := { row := buildCanonUptoRow, standIns := [], harness := (true, "9e0538e6e0444952e19cd70c37f7987cc3ec51fe665362475d060c006c6bd074"), looks := true }, kinds := [], alts := [], laidByText := true, laidKinds := [.data, .sentinel, .sentinel, .sentinel, .sentinel, .sentinel, .sentinel, .sentinel, .sentinel, .pinned], laidTests := true, laidLooks := .later }
def BuildCanonUptoCardSaid : Prop := Claim7.holds Tryd.pinned (.plain (OpenSpec.upto buildCanonSpec)) buildCanonUptoCard

/-- THE SECOND FORM's CARD OF 'vellumlaw09.CellsOf'. -/
def cellsOfUptoCard : Claim7 := { stood := { row := cellsOfUptoRow, standIns := [], harness := (true, "9e0538e6e0444952e19cd70c37f7987cc3ec51fe665362475d060c006c6bd074"), looks := true }, kinds := [], alts := [], laidByText := true, laidKinds := [.data, .sentinel, .sentinel, .sentinel, .sentinel, .sentinel, .sentinel, .sentinel, .sentinel, .sentinel, .sentinel, .sentinel, .sentinel, .sentinel, .sentinel, .sentinel, .sentinel, .sentinel, .sentinel, .sentinel, .pinned], laidTests := true, laidLooks := .later }
def CellsOfUptoCardSaid : Prop := Claim7.holds Tryd.pinned (.plain (OpenSpec.upto cellsOfSpec)) cellsOfUptoCard

/-- THE SECOND FORM's CARD OF 'vellumlaw09.CellsLike'. -/
def cellsLikeUptoCard : Claim7 := { stood := { row := cellsLikeUptoRow, standIns := [], harness := (true, "9e0538e6e0444952e19cd70c37f7987cc3ec51fe665362475d060c006c6bd074"), looks := true }, kinds := [], alts := [], laidByText := true, laidKinds := [.data, .sentinel, .sentinel, .sentinel, .sentinel, .sentinel, .sentinel, .sentinel, .sentinel, .pinned], laidTests := true, laidLooks := .later }
def CellsLikeUptoCardSaid : Prop := Claim7.holds Tryd.pinned (.plain (OpenSpec.upto cellsLikeSpec)) cellsLikeUptoCard
end Rows
end Go.Proofs.YtkehomiogkoomaaDoor
