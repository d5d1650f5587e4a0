/-
  DERIVED. GIVEN WITH THE SEED: THE CARDS: each row of YtdkdajofppjnaaaDoorRows.lean that lists a variable, with what it lists TIED to the program's text (the seventh form; the later family's looks); each row that meets fmt, with fmt's text TOLD by the authors' own Lean function (tested against real Go, not proved from fmt's source: count such statements apart). THE CARD IS WHAT COUNTS. Prove the row's statement (the work); the ties are given (YtdkdajofppjnaaaDoorTie.lean); close each card by the builder's one call (the guide's Derived/Test/ToyasCard.lean, 'card_holds'). Laid BY PROGRAM, IN A SANDBOX (cutbox-door.mjs). By AI agents, Wed Nov 11 2026. No macro, syntax, notation, axiom, sorry.
-/
import Derived.Test.YtdkdajofppjnaaaDoorRows
import GoSem.ClaimSeven
namespace Go.Proofs.YtdkdajofppjnaaaDoor
namespace Rows

/-- THE TIED CARD OF 'vellumlaw03.AttrsThree'. -/
def attrsThreeCard : Claim7 := { stood := { row := attrsThreeRow, standIns := [], harness := (true, "662e7715c06231272bb59618be2f445f1a3b28c5bbc19a6a182e0ad66c991a5f"), looks := true }, kinds := [], alts := [], laidByText := true, laidKinds := [.data, .sentinel, .sentinel, .sentinel, .sentinel, .sentinel, .sentinel, .pinned], laidTests := true, laidLooks := .later }
def AttrsThreeCardSaid : Prop := Claim7.holds Tryd.pinned (.plain (OpenSpec.ofChange attrsThreeSpec)) attrsThreeCard

/-- THE TIED CARD OF 'vellumlaw03.AttrsBoth'. -/
def attrsBothCard : Claim7 := { stood := { row := attrsBothRow, standIns := [], harness := (true, "662e7715c06231272bb59618be2f445f1a3b28c5bbc19a6a182e0ad66c991a5f"), looks := true }, kinds := [], alts := [], laidByText := true, laidKinds := [.data, .sentinel, .sentinel, .sentinel, .sentinel, .sentinel, .sentinel, .pinned], laidTests := true, laidLooks := .later }
def AttrsBothCardSaid : Prop := Claim7.holds Tryd.pinned (.plain (OpenSpec.ofChange attrsBothSpec)) attrsBothCard

/-- THE TIED CARD OF 'vellumlaw03.AttrsUndone'. -/
def attrsUndoneCard : Claim7 := { stood := { row := attrsUndoneRow, standIns := [], harness := (true, "662e7715c06231272bb59618be2f445f1a3b28c5bbc19a6a182e0ad66c991a5f"), looks := true }, kinds := [], alts := [], laidByText := true, laidKinds := [.data, .sentinel, .sentinel, .sentinel, .sentinel, .sentinel, .sentinel, .pinned], laidTests := true, laidLooks := .later }
def AttrsUndoneCardSaid : Prop := Claim7.holds Tryd.pinned (.plain (OpenSpec.ofChange attrsUndoneSpec)) attrsUndoneCard

/-- THE TIED CARD OF 'vellumlaw03.AttrsJoins'. -/
def attrsJoinsCard : Claim7 := { stood := { row := attrsJoinsRow, standIns := [], harness := (true, "662e7715c06231272bb59618be2f445f1a3b28c5bbc19a6a182e0ad66c991a5f"), looks := true }, kinds := [], alts := [], laidByText := true, laidKinds := [.data, .sentinel, .sentinel, .sentinel, .sentinel, .sentinel, .sentinel, .sentinel, .sentinel, .sentinel, .sentinel, .sentinel, .sentinel, .sentinel, .sentinel, .sentinel, .sentinel, .sentinel, .sentinel, .sentinel, .pinned], laidTests := true, laidLooks := .later }
def AttrsJoinsCardSaid : Prop := Claim7.holds Tryd.pinned (.plain (OpenSpec.ofChange attrsJoinsSpec)) attrsJoinsCard

/-- THE TIED CARD OF 'vellumlaw03.AttrsAsks'. -/
def attrsAsksCard : Claim7 := { stood := { row := attrsAsksRow, standIns := [], harness := (true, "662e7715c06231272bb59618be2f445f1a3b28c5bbc19a6a182e0ad66c991a5f"), looks := true }, kinds := [], alts := [], laidByText := true, laidKinds := [.data, .sentinel, .sentinel, .sentinel, .sentinel, .sentinel, .sentinel, .sentinel, .sentinel, .sentinel, .sentinel, .sentinel, .sentinel, .sentinel, .sentinel, .sentinel, .sentinel, .sentinel, .sentinel, .sentinel, .pinned], laidTests := true, laidLooks := .later }
def AttrsAsksCardSaid : Prop := Claim7.holds Tryd.pinned (.plain (OpenSpec.ofChange attrsAsksSpec)) attrsAsksCard

/-- THE TIED CARD OF 'vellumlaw03.AttrsOwns'. -/
def attrsOwnsCard : Claim7 := { stood := { row := attrsOwnsRow, standIns := [], harness := (true, "662e7715c06231272bb59618be2f445f1a3b28c5bbc19a6a182e0ad66c991a5f"), looks := true }, kinds := [], alts := [], laidByText := true, laidKinds := [.data, .sentinel, .sentinel, .sentinel, .sentinel, .sentinel, .sentinel, .pinned], laidTests := true, laidLooks := .later }
def AttrsOwnsCardSaid : Prop := Claim7.holds Tryd.pinned (.plain (OpenSpec.ofChange attrsOwnsSpec)) attrsOwnsCard

/-- THE SECOND FORM's CARD OF 'vellumlaw03.AttrsThree'. -/
def attrsThreeUptoCard : Claim7 := { stood := { row := attrsThreeUptoRow, standIns := [], harness := (true, "662e7715c06231272bb59618be2f445f1a3b28c5bbc19a6a182e0ad66c991a5f"), looks := true }, kinds := [], alts := [], laidByText := true, laidKinds := [.data, .sentinel, .sentinel, .sentinel, .sentinel, .sentinel, .sentinel, .pinned], laidTests := true, laidLooks := .later }
def AttrsThreeUptoCardSaid : Prop := Claim7.holds Tryd.pinned (.plain (OpenSpec.upto attrsThreeSpec)) attrsThreeUptoCard

/-- THE SECOND FORM's CARD OF 'vellumlaw03.AttrsBoth'. -/
def attrsBothUptoCard : Claim7 := { stood := { row := attrsBothUptoRow, standIns := [], harness := (true, "662e7715c06231272bb59618be2f445f1a3b28c5bbc19a6a182e0ad66c991a5f"), looks := true }, kinds := [], alts := [], laidByText := true, laidKinds := [.data, .sentinel, .sentinel, .sentinel, .sentinel, .sentinel, .sentinel, .pinned], laidTests := true, laidLooks := .later }
def AttrsBothUptoCardSaid : Prop := Claim7.holds Tryd.pinned (.plain (OpenSpec.upto attrsBothSpec)) attrsBothUptoCard

/-- THE SECOND FORM's CARD OF 'vellumlaw03.AttrsUndone'. -/
def attrsUndoneUptoCard : Claim7 := { stood := { row := attrsUndoneUptoRow, standIns := [], harness := (true, "662e7715c06231272bb59618be2f445f1a3b28c5bbc19a6a182e0ad66c991a5f"), looks := true }, kinds := [], alts := [], laidByText := true, laidKinds := [.data, .sentinel, .sentinel, .sentinel, .sentinel, .sentinel, .sentinel, .pinned], laidTests := true, laidLooks := .later }
def AttrsUndoneUptoCardSaid : Prop := Claim7.holds Tryd.pinned (.plain (OpenSpec.upto attrsUndoneSpec)) attrsUndoneUptoCard

/-- THE SECOND FORM's CARD OF 'vellumlaw03.AttrsJoins'. -/
def attrsJoinsUptoCard : Claim7 := { stood := { row := attrsJoinsUptoRow, standIns := [], harness := (true, "662e7715c06231272bb59618be2f445f1a3b28c5bbc19a6a182e0ad66c991a5f"), looks := true }, kinds := [], alts := [], laidByText := true, laidKinds := [.data, .sentinel, .sentinel, .sentinel, .sentinel, .sentinel, .sentinel, .sentinel, .sentinel, .sentinel, .sentinel, .sentinel, .sentinel, .sentinel, .sentinel, .sentinel, .sentinel, .sentinel, .sentinel, .sentinel, .pinned], laidTests := true, laidLooks := .later }
def AttrsJoinsUptoCardSaid : Prop := Claim7.holds Tryd.pinned (.plain (OpenSpec.upto attrsJoinsSpec)) attrsJoinsUptoCard

/-- THE SECOND FORM's CARD OF 'vellumlaw03.AttrsAsks'. -/
def attrsAsksUptoCard : Claim7 := { stood := { row := attrsAsksUptoRow, standIns := [], harness := (true, "662e7715c06231272bb59618be2f445f1a3b28c5bbc19a6a182e0ad66c991a5f"), looks := true }, kinds := [], alts := [], laidByText := true, laidKinds := [.data, .sentinel, .sentinel, .sentinel, .sentinel, .sentinel, .sentinel, .sentinel, .sentinel, .sentinel, .sentinel, .sentinel, .sentinel, .sentinel, .sentinel, .sentinel, .sentinel, .sentinel, .sentinel, .sentinel, .pinned], laidTests := true, laidLooks := .later }
def AttrsAsksUptoCardSaid : Prop := Claim7.holds Tryd.pinned (.plain (OpenSpec.upto attrsAsksSpec)) attrsAsksUptoCard

/-- THE SECOND FORM's CARD OF 'vellumlaw03.AttrsOwns'. -/
def attrsOwnsUptoCard : Claim7 := { stood := { row := attrsOwnsUptoRow, standIns := [], harness := (true, "662e7715c06231272bb59618be2f445f1a3b28c5bbc19a6a182e0ad66c991a5f"), looks := true }, kinds := [], alts := [], laidByText := true, laidKinds := [.data, .sentinel, .sentinel, .sentinel, .sentinel, .sentinel, .sentinel, .pinned], laidTests := true, laidLooks := .later }
def AttrsOwnsUptoCardSaid : Prop := Claim7.holds Tryd.pinned (.plain (OpenSpec.upto attrsOwnsSpec)) attrsOwnsUptoCard
end Rows
end Go.Proofs.YtdkdajofppjnaaaDoor
