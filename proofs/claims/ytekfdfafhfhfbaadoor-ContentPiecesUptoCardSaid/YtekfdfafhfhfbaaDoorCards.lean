/-
  DERIVED. GIVEN WITH THE SEED: THE CARDS: each row of YtekfdfafhfhfbaaDoorRows.lean that lists a variable, with what it lists TIED to the program's text (the seventh form; the later family's looks); each row that meets fmt, with fmt's text TOLD by the authors' own Lean function (tested against real Go, not proved from fmt's source: count such statements apart). THE CARD IS WHAT COUNTS. Prove the row's statement (the work); the ties are given (YtekfdfafhfhfbaaDoorTie.lean); close each card by the builder's one call (the guide's Derived/Test/ToyasCard.lean, 'card_holds'). Laid BY PROGRAM, IN A SANDBOX (cutbox-door.mjs). By AI agents, Wed Nov 11 2026. No macro, syntax, notation, axiom, sorry.
-/
import Derived.Test.YtekfdfafhfhfbaaDoorRows
import GoSem.ClaimSeven
namespace Go.Proofs.YtekfdfafhfhfbaaDoor
namespace Rows

/-- THE TIED CARD OF 'vellumlaw05.OpsPlays'. -/
def opsPlaysCard : Claim7 := { stood := { row := opsPlaysRow, standIns := [], harness := (true, "56ba0ff920fa89a42ea99763f552e7f2a6f5fcd0535fa2478e3787dc552349cb"), looks := true }, kinds := [], alts := [], laidByText := true, laidKinds := [.data, .sentinel, .sentinel, .sentinel, .sentinel, .sentinel, .sentinel, .sentinel, .sentinel, .sentinel, .sentinel, .sentinel, .sentinel, .sentinel, .sentinel, .sentinel, .sentinel, .sentinel, .sentinel, .sentinel, .pinned], laidTests := true, laidLooks := .later }
def OpsPlaysCardSaid : Prop := Claim7.holds Tryd.pinned (.plain (OpenSpec.ofChange opsPlaysSpec)) opsPlaysCard

/-- THE TIED CARD OF 'vellumlaw05.OpsSums'. -/
def opsSumsCard : Claim7 := { stood := { row := opsSumsRow, standIns := [], harness := (true, "56ba0ff920fa89a42ea99763f552e7f2a6f5fcd0535fa2478e3787dc552349cb"), looks := true }, kinds := [], alts := [], laidByText := true, laidKinds := [.data, .sentinel, .sentinel, .sentinel, .sentinel, .sentinel, .sentinel, .sentinel, .sentinel, .sentinel, .sentinel, .sentinel, .sentinel, .sentinel, .sentinel, .sentinel, .sentinel, .sentinel, .sentinel, .sentinel, .pinned], laidTests := true, laidLooks := .later }
def OpsSumsCardSaid : Prop := Claim7.holds Tryd.pinned (.plain (OpenSpec.ofChange opsSumsSpec)) opsSumsCard

/-- THE TIED CARD OF 'vellumlaw05.OpsBeginnings'. -/
def opsBeginningsCard : Claim7 := { stood := { row := opsBeginningsRow, standIns := [], harness := (true, "56ba0ff920fa89a42ea99763f552e7f2a6f5fcd0535fa2478e3787dc552349cb"), looks := true }, kinds := [], alts := [], laidByText := true, laidKinds := [.data, .sentinel, .sentinel, .sentinel, .sentinel, .sentinel, .sentinel, .sentinel, .sentinel, .pinned], laidTests := true, laidLooks := .later }
def OpsBeginningsCardSaid : Prop := Claim7.holds Tryd.pinned (.plain (OpenSpec.ofChange opsBeginningsSpec)) opsBeginningsCard

/-- THE TIED CARD OF 'vellumlaw05.OpsTypes'. -/
def opsTypesCard : Claim7 := { stood := { row := opsTypesRow, standIns := [], harness := (true, "56ba0ff920fa89a42ea99763f552e7f2a6f5fcd0535fa2478e3787dc552349cb"), looks := true }, kinds := [], alts := [], laidByText := true, laidKinds := [.data, .sentinel, .sentinel, .sentinel, .sentinel, .sentinel, .sentinel, .sentinel, .sentinel, .pinned], laidTests := true, laidLooks := .later }
def OpsTypesCardSaid : Prop := Claim7.holds Tryd.pinned (.plain (OpenSpec.ofChange opsTypesSpec)) opsTypesCard

/-- THE TIED CARD OF 'vellumlaw03.AttrsAsks'. -/
def attrsAsksCard : Claim7 := { stood := { row := attrsAsksRow, standIns := [], harness := (true, "56ba0ff920fa89a42ea99763f552e7f2a6f5fcd0535fa2478e3787dc552349cb"), looks := true }, kinds := [], alts := [], laidByText := true, laidKinds := [.data, .sentinel, .sentinel, .sentinel, .sentinel, .sentinel, .sentinel, .sentinel, .sentinel, .sentinel, .sentinel, .sentinel, .sentinel, .sentinel, .sentinel, .sentinel, .sentinel, .sentinel, .sentinel, .sentinel, .pinned], laidTests := true, laidLooks := .later }
def AttrsAsksCardSaid : Prop := Claim7.holds Tryd.pinned (.plain (OpenSpec.ofChange attrsAsksSpec)) attrsAsksCard

/-- THE TIED CARD OF 'vellumlaw03.AttrsOwns'. -/
def attrsOwnsCard : Claim7 := { stood := { row := attrsOwnsRow, standIns := [], harness := (true, "56ba0ff920fa89a42ea99763f552e7f2a6f5fcd0535fa2478e3787dc552349cb"), looks := true }, kinds := [], alts := [], laidByText := true, laidKinds := [.data, .sentinel, .sentinel, .sentinel, .sentinel, .sentinel, .sentinel, .pinned], laidTests := true, laidLooks := .later }
def AttrsOwnsCardSaid : Prop := Claim7.holds Tryd.pinned (.plain (OpenSpec.ofChange attrsOwnsSpec)) attrsOwnsCard

/-- THE TIED CARD OF 'vellumlaw04.ContentAsks'. -/
def contentAsksCard : Claim7 := { stood := { row := contentAsksRow, standIns := [], harness := (true, "56ba0ff920fa89a42ea99763f552e7f2a6f5fcd0535fa2478e3787dc552349cb"), looks := true }, kinds := [], alts := [], laidByText := true, laidKinds := [.data, .sentinel, .sentinel, .sentinel, .sentinel, .sentinel, .sentinel, .sentinel, .sentinel, .sentinel, .sentinel, .sentinel, .sentinel, .sentinel, .sentinel, .sentinel, .sentinel, .sentinel, .sentinel, .sentinel, .pinned], laidTests := true, laidLooks := .later }
def ContentAsksCardSaid : Prop := Claim7.holds Tryd.pinned (.plain (OpenSpec.ofChange contentAsksSpec)) contentAsksCard

/-- THE TIED CARD OF 'vellumlaw04.ContentCuts'. -/
def contentCutsCard : Claim7 := { stood := { row := contentCutsRow, standIns := [], harness := (true, "56ba0ff920fa89a42ea99763f552e7f2a6f5fcd0535fa2478e3787dc552349cb"), looks := true }, kinds := [], alts := [], laidByText := true, laidKinds := [.data, .sentinel, .sentinel, .sentinel, .sentinel, .sentinel, .sentinel, .sentinel, .sentinel, .sentinel, .sentinel, .sentinel, .sentinel, .sentinel, .sentinel, .sentinel, .sentinel, .sentinel, .sentinel, .sentinel, .pinned], laidTests := true, laidLooks := .later }
def ContentCutsCardSaid : Prop := Claim7.holds Tryd.pinned (.plain (OpenSpec.ofChange contentCutsSpec)) contentCutsCard

/-- THE TIED CARD OF 'vellumlaw04.ContentJoins'. -/
def contentJoinsCard : Claim7 := { stood := { row := contentJoinsRow, standIns := [], harness := (true, "56ba0ff920fa89a42ea99763f552e7f2a6f5fcd0535fa2478e3787dc552349cb"), looks := true }, kinds := [], alts := [], laidByText := true, laidKinds := [.data, .sentinel, .sentinel, .sentinel, .sentinel, .sentinel, .sentinel, .sentinel, .sentinel, .sentinel, .sentinel, .sentinel, .sentinel, .sentinel, .sentinel, .sentinel, .sentinel, .sentinel, .sentinel, .sentinel, .pinned], laidTests := true, laidLooks := .later }
def ContentJoinsCardSaid : Prop := Claim7.holds Tryd.pinned (.plain (OpenSpec.ofChange contentJoinsSpec)) contentJoinsCard

/-- THE TIED CARD OF 'vellumlaw04.ContentBack'. -/
def contentBackCard : Claim7 := { stood := { row := contentBackRow, standIns := [], harness := (true, "56ba0ff920fa89a42ea99763f552e7f2a6f5fcd0535fa2478e3787dc552349cb"), looks := true }, kinds := [], alts := [], laidByText := true, laidKinds := [.data, .sentinel, .sentinel, .sentinel, .sentinel, .sentinel, .sentinel, .sentinel, .sentinel, .pinned], laidTests := true, laidLooks := .later }
def ContentBackCardSaid : Prop := Claim7.holds Tryd.pinned (.plain (OpenSpec.ofChange contentBackSpec)) contentBackCard

/-- THE TIED CARD OF 'vellumlaw04.ContentThree'. -/
def contentThreeCard : Claim7 := { stood := { row := contentThreeRow, standIns := [], harness := (true, "56ba0ff920fa89a42ea99763f552e7f2a6f5fcd0535fa2478e3787dc552349cb"), looks := true }, kinds := [], alts := [], laidByText := true, laidKinds := [.data, .sentinel, .sentinel, .sentinel, .sentinel, .sentinel, .sentinel, .sentinel, .sentinel, .pinned], laidTests := true, laidLooks := .later }
def ContentThreeCardSaid : Prop := Claim7.holds Tryd.pinned (.plain (OpenSpec.ofChange contentThreeSpec)) contentThreeCard

/-- THE TIED CARD OF 'vellumlaw04.ContentPieces'. -/
def contentPiecesCard : Claim7 := { stood := { row := contentPiecesRow, standIns := [], harness := (true, "56ba0ff920fa89a42ea99763f552e7f2a6f5fcd0535fa2478e3787dc552349cb"), looks := true }, kinds := [], alts := [], laidByText := true, laidKinds := [.data, .sentinel, .sentinel, .sentinel, .sentinel, .sentinel, .sentinel, .sentinel, .sentinel, .pinned], laidTests := true, laidLooks := .later }
def ContentPiecesCardSaid : Prop := Claim7.holds Tryd.pinned (.plain (OpenSpec.ofChange contentPiecesSpec)) contentPiecesCard

/-- THE SECOND FORM's CARD OF 'vellumlaw05.OpsPlays'. -/
def opsPlaysUptoCard : Claim7 := { stood := { row := opsPlaysUptoRow, standIns := [], harness := (true, "56ba0ff920fa89a42ea99763f552e7f2a6f5fcd0535fa2478e3787dc552349cb"), looks := true }, kinds := [], alts := [], laidByText := true, laidKinds := [.data, .sentinel, .sentinel, .sentinel, .sentinel, .sentinel, .sentinel, .sentinel, .sentinel, .sentinel, .sentinel, .sentinel, .sentinel, .sentinel, .sentinel, .sentinel, .sentinel, .sentinel, .sentinel, .sentinel, .pinned], laidTests := true, laidLooks := .later }
def OpsPlaysUptoCardSaid : Prop := Claim7.holds Tryd.pinned (.plain (OpenSpec.upto opsPlaysSpec)) opsPlaysUptoCard

/-- THE SECOND FORM's CARD OF 'vellumlaw05.OpsSums'. -/
def opsSumsUptoCard : Claim7 := { stood := { row := opsSumsUptoRow, standIns := [], harness := (true, "56ba0ff920fa89a42ea99763f552e7f2a6f5fcd0535fa2478e3787dc552349cb"), looks := true }, kinds := [], alts := [], laidByText := true, laidKinds := [.data, .sentinel, .sentinel, .sentinel, .sentinel, .sentinel, .sentinel, .sentinel, .sentinel, .sentinel, .sentinel, .sentinel, .sentinel, .sentinel, .sentinel, .sentinel, .sentinel, .sentinel, .sentinel, .sentinel, .pinned], laidTests := true, laidLooks := .later }
def OpsSumsUptoCardSaid : Prop := Claim7.holds Tryd.pinned (.plain (OpenSpec.upto opsSumsSpec)) opsSumsUptoCard

/-- THE SECOND FORM's CARD OF 'vellumlaw05.OpsBeginnings'. -/
def opsBeginningsUptoCard : Claim7 := { stood := { row := opsBeginningsUptoRow, standIns := [], harness := (true, "56ba0ff920fa89a42ea99763f552e7f2a6f5fcd0535fa2478e3787dc552349cb"), looks := true }, kinds := [], alts := [], laidByText := true, laidKinds := [.data, .sentinel, .sentinel, .sentinel, .sentinel, .sentinel, .sentinel, .sentinel, .sentinel, .pinned], laidTests := true, laidLooks := .later }
def OpsBeginningsUptoCardSaid : Prop := Claim7.holds Tryd.pinned (.plain (OpenSpec.upto opsBeginningsSpec)) opsBeginningsUptoCard

/-- THE SECOND FORM's CARD OF 'vellumlaw05.OpsTypes'. -/
def opsTypesUptoCard : Claim7 := { stood := { row := opsTypesUptoRow, standIns := [], harness := (true, "56ba0ff920fa89a42ea99763f552e7f2a6f5fcd0535fa2478e3787dc552349cb"), looks := true }, kinds := [], alts := [], laidByText := true, laidKinds := [.data, .sentinel, .sentinel, .sentinel, .sentinel, .sentinel, .sentinel, .sentinel, .sentinel, .pinned], laidTests := true, laidLooks := .later }
def OpsTypesUptoCardSaid : Prop := Claim7.holds Tryd.pinned (.plain (OpenSpec.upto opsTypesSpec)) opsTypesUptoCard

/-- THE SECOND FORM's CARD OF 'vellumlaw03.AttrsAsks'. -/
def attrsAsksUptoCard : Claim7 := { stood := { row := attrsAsksUptoRow, standIns := [], harness := (true, "56ba0ff920fa89a42ea99763f552e7f2a6f5fcd0535fa2478e3787dc552349cb"), looks := true }, kinds := [], alts := [], laidByText := true, laidKinds := [.data, .sentinel, .sentinel, .sentinel, .sentinel, .sentinel, .sentinel, .sentinel, .sentinel, .sentinel, .sentinel, .sentinel, .sentinel, .sentinel, .sentinel, .sentinel, .sentinel, .sentinel, .sentinel, .sentinel, .pinned], laidTests := true, laidLooks := .later }
def AttrsAsksUptoCardSaid : Prop := Claim7.holds Tryd.pinned (.plain (OpenSpec.upto attrsAsksSpec)) attrsAsksUptoCard

/-- THE SECOND FORM's CARD OF 'vellumlaw03.AttrsOwns'. -/
def attrsOwnsUptoCard : Claim7 := { stood := { row := attrsOwnsUptoRow, standIns := [], harness := (true, "56ba0ff920fa89a42ea99763f552e7f2a6f5fcd0535fa2478e3787dc552349cb"), looks := true }, kinds := [], alts := [], laidByText := true, laidKinds := [.data, .sentinel, .sentinel, .sentinel, .sentinel, .sentinel, .sentinel, .pinned], laidTests := true, laidLooks := .later }
def AttrsOwnsUptoCardSaid : Prop := Claim7.holds Tryd.pinned (.plain (OpenSpec.upto attrsOwnsSpec)) attrsOwnsUptoCard

/-- THE SECOND FORM's CARD OF 'vellumlaw04.ContentAsks'. -/
def contentAsksUptoCard : Claim7 := { stood := { row := contentAsksUptoRow, standIns := [], harness := (true, "56ba0ff920fa89a42ea99763f552e7f2a6f5fcd0535fa2478e3787dc552349cb"), looks := true }, kinds := [], alts := [], laidByText := true, laidKinds := [.data, .sentinel, .sentinel, .sentinel, .sentinel, .sentinel, .sentinel, .sentinel, .sentinel, .sentinel, .sentinel, .sentinel, .sentinel, .sentinel, .sentinel, .sentinel, .sentinel, .sentinel, .sentinel, .sentinel, .pinned], laidTests := true, laidLooks := .later }
def ContentAsksUptoCardSaid : Prop := Claim7.holds Tryd.pinned (.plain (OpenSpec.upto contentAsksSpec)) contentAsksUptoCard

/-- THE SECOND FORM's CARD OF 'vellumlaw04.ContentCuts'. -/
def contentCutsUptoCard : Claim7 := { stood := { row := contentCutsUptoRow, standIns := [], harness := (true, "56ba0ff920fa89a42ea99763f552e7f2a6f5fcd0535fa2478e3787dc552349cb"), looks := true }, kinds := [], alts := [], laidByText := true, laidKinds := [.data, .sentinel, .sentinel, .sentinel, .sentinel, .sentinel, .sentinel, .sentinel, .sentinel, .sentinel, .sentinel, .sentinel, .sentinel, .sentinel, .sentinel, .sentinel, .sentinel, .sentinel, .sentinel, .sentinel, .pinned], laidTests := true, laidLooks := .later }
def ContentCutsUptoCardSaid : Prop := Claim7.holds Tryd.pinned (.plain (OpenSpec.upto contentCutsSpec)) contentCutsUptoCard

/-- THE SECOND FORM's CARD OF 'vellumlaw04.ContentJoins'. -/
def contentJoinsUptoCard : Claim7 := { stood := { row := contentJoinsUptoRow, standIns := [], harness := (true, "56ba0ff920fa89a42ea99763f552e7f2a6f5fcd0535fa2478e3787dc552349cb"), looks := true }, kinds := [], alts := [], laidByText := true, laidKinds := [.data, .sentinel, .sentinel, .sentinel, .sentinel, .sentinel, .sentinel, .sentinel, .sentinel, .sentinel, .sentinel, .sentinel, .sentinel, .sentinel, .sentinel, .sentinel, .sentinel, .sentinel, .sentinel, .sentinel, .pinned], laidTests := true, laidLooks := .later }
def ContentJoinsUptoCardSaid : Prop := Claim7.holds Tryd.pinned (.plain (OpenSpec.upto contentJoinsSpec)) contentJoinsUptoCard

/-- THE SECOND FORM's CARD OF 'vellumlaw04.ContentBack'. -/
def contentBackUptoCard : Claim7 := { stood := { row := contentBackUptoRow, standIns := [], harness := (true, "56ba0ff920fa89a42ea99763f552e7f2a6f5fcd0535fa2478e3787dc552349cb"), looks := true }, kinds := [], alts := [], laidByText := true, laidKinds := [.data, .sentinel, .sentinel, .sentinel, .sentinel, .sentinel, .sentinel, .sentinel, .sentinel, .pinned], laidTests := true, laidLooks := .later }
def ContentBackUptoCardSaid : Prop := Claim7.holds Tryd.pinned (.plain (OpenSpec.upto contentBackSpec)) contentBackUptoCard

/-- THE SECOND FORM's CARD OF 'vellumlaw04.ContentThree'. -/
def contentThreeUptoCard : Claim7 := { stood := { row := contentThreeUptoRow, standIns := [], harness := (true, "56ba0ff920fa89a42ea99763f552e7f2a6f5fcd0535fa2478e3787dc552349cb"), looks := true }, kinds := [], alts := [], laidByText := true, laidKinds := [.data, .sentinel, .sentinel, .sentinel, .sentinel, .sentinel, .sentinel, .sentinel, .sentinel, .pinned], laidTests := true, laidLooks := .later }
def ContentThreeUptoCardSaid : Prop := Claim7.holds Tryd.pinned (.plain (OpenSpec.upto contentThreeSpec)) contentThreeUptoCard

/-- THE SECOND FORM's CARD OF 'vellumlaw04.ContentPieces'. -/
def contentPiecesUptoCard : Claim7 := { stood := { row := contentPiecesUptoRow, standIns := [], harness := (true, "56ba0ff920fa89a42ea99763f552e7f2a6f5fcd0535fa2478e3787dc552349cb"), looks := true }, kinds := [], alts := [], laidByText := true, laidKinds := [.data, .sentinel, .sentinel, .sentinel, .sentinel, .sentinel, .sentinel, .sentinel, .sentinel, .pinned], laidTests := true, laidLooks := .later }
def ContentPiecesUptoCardSaid : Prop := Claim7.holds Tryd.pinned (.plain (OpenSpec.upto contentPiecesSpec)) contentPiecesUptoCard
end Rows
end Go.Proofs.YtekfdfafhfhfbaaDoor
