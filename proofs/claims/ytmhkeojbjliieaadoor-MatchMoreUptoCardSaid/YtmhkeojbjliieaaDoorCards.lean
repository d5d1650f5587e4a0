/-
  DERIVED. GIVEN WITH THE SEED: THE CARDS: each row of YtmhkeojbjliieaaDoorRows.lean that lists a variable, with what it lists TIED to the program's text (the seventh form; the later family's looks); each row that meets fmt, with fmt's text TOLD by the authors' own Lean function (tested against real Go, not proved from fmt's source: count such statements apart). THE CARD IS WHAT COUNTS. Prove the row's statement (the work); the ties are given (YtmhkeojbjliieaaDoorTie.lean); close each card by the builder's one call (the guide's Derived/Test/ToyasCard.lean, 'card_holds'). Laid BY PROGRAM, IN A SANDBOX (cutbox-door.mjs). By AI agents, Wed Nov 11 2026. No macro, syntax, notation, axiom, sorry.
-/
import Derived.Test.YtmhkeojbjliieaaDoorRows
import GoSem.ClaimSeven
namespace Go.Proofs.YtmhkeojbjliieaaDoor
namespace Rows

/-- THE TIED CARD OF 'vellumlaw15.MatchGreatest'. -/
def matchGreatestCard : Claim7 := { stood := { row := matchGreatestRow, standIns := [], harness := (true, "dc00b4d39af0b51c3146f48ad02323947afa0325743a890938db5f286315e58e"), looks := true }, kinds := [], alts := [], laidByText := true, laidKinds := [.sentinel, .sentinel, .sentinel, .sentinel, .sentinel, .sentinel, .sentinel, .sentinel, .sentinel, .sentinel, .sentinel, .sentinel, .sentinel, .sentinel, .sentinel, .sentinel, .sentinel, .sentinel, .sentinel], laidTests := true, laidLooks := .later }
def MatchGreatestCardSaid : Prop := Claim7.holds Tryd.pinned (.plain (OpenSpec.ofChange matchGreatestSpec)) matchGreatestCard

/-- THE TIED CARD OF 'vellumlaw15.MatchChecks'. -/
def matchChecksCard : Claim7 := { stood := { row := matchChecksRow, standIns := [], harness := (true, "dc00b4d39af0b51c3146f48ad02323947afa0325743a890938db5f286315e58e"), looks := true }, kinds := [], alts := [], laidByText := true, laidKinds := [.sentinel, .sentinel, .sentinel, .sentinel, .sentinel, .sentinel, .sentinel, .sentinel, .sentinel, .sentinel, .sentinel, .sentinel, .sentinel, .sentinel, .sentinel, .sentinel, .sentinel, .sentinel, .sentinel], laidTests := true, laidLooks := .later }
def MatchChecksCardSaid : Prop := Claim7.holds Tryd.pinned (.plain (OpenSpec.ofChange matchChecksSpec)) matchChecksCard

/-- THE TIED CARD OF 'vellumlaw15.MatchTurned'. -/
def matchTurnedCard : Claim7 := { stood := { row := matchTurnedRow, standIns := [], harness := (true, "dc00b4d39af0b51c3146f48ad02323947afa0325743a890938db5f286315e58e"), looks := true }, kinds := [], alts := [], laidByText := true, laidKinds := [.sentinel, .sentinel, .sentinel, .sentinel, .sentinel, .sentinel, .sentinel, .sentinel, .sentinel, .sentinel, .sentinel, .sentinel, .sentinel, .sentinel, .sentinel, .sentinel, .sentinel, .sentinel, .sentinel], laidTests := true, laidLooks := .later }
def MatchTurnedCardSaid : Prop := Claim7.holds Tryd.pinned (.plain (OpenSpec.ofChange matchTurnedSpec)) matchTurnedCard

/-- THE TIED CARD OF 'vellumlaw15.MatchMore'. -/
def matchMoreCard : Claim7 := { stood := { row := matchMoreRow, standIns := [], harness := (true, "dc00b4d39af0b51c3146f48ad02323947afa0325743a890938db5f286315e58e"), looks := true }, kinds := [], alts := [], laidByText := true, laidKinds := [.sentinel, .sentinel, .sentinel, .sentinel, .sentinel, .sentinel, .sentinel, .sentinel, .sentinel, .sentinel, .sentinel, .sentinel, .sentinel, .sentinel, .sentinel, .sentinel, .sentinel, .sentinel, .sentinel], laidTests := true, laidLooks := .later }
def MatchMoreCardSaid : Prop := Claim7.holds Tryd.pinned (.plain (OpenSpec.ofChange matchMoreSpec)) matchMoreCard

/-- THE SECOND FORM's CARD OF 'vellumlaw15.MatchGreatest'. -/
def matchGreatestUptoCard : Claim7 := { stood := { row := matchGreatestUptoRow, standIns := [], harness := (true, "dc00b4d39af0b51c3146f48ad02323947afa0325743a890938db5f286315e58e"), looks := true }, kinds := [], alts := [], laidByText := true, laidKinds := [.sentinel, .sentinel, .sentinel, .sentinel, .sentinel, .sentinel, .sentinel, .sentinel, .sentinel, .sentinel, .sentinel, .sentinel, .sentinel, .sentinel, .sentinel, .sentinel, .sentinel, .sentinel, .sentinel], laidTests := true, laidLooks := .later }
def MatchGreatestUptoCardSaid : Prop := Claim7.holds Tryd.pinned (.plain (OpenSpec.upto matchGreatestSpec)) matchGreatestUptoCard

/-- THE SECOND FORM's CARD OF 'vellumlaw15.MatchChecks'. -/
def matchChecksUptoCard : Claim7 := { stood := { row := matchChecksUptoRow, standIns := [], harness := (true, "dc00b4d39af0b51c3146f48ad02323947afa0325743a890938db5f286315e58e"), looks := true }, kinds := [], alts := [], laidByText := true, laidKinds := [.sentinel, .sentinel, .sentinel, .sentinel, .sentinel, .sentinel, .sentinel, .sentinel, .sentinel, .sentinel, .sentinel, .sentinel, .sentinel, .sentinel, .sentinel, .sentinel, .sentinel, .sentinel, .sentinel], laidTests := true, laidLooks := .later }
def MatchChecksUptoCardSaid : Prop := Claim7.holds Tryd.pinned (.plain (OpenSpec.upto matchChecksSpec)) matchChecksUptoCard

/-- THE SECOND FORM's CARD OF 'vellumlaw15.MatchTurned'. -/
def matchTurnedUptoCard : Claim7 := { stood := { row := matchTurnedUptoRow, standIns := [], harness := (true, "dc00b4d39af0b51c3146f48ad02323947afa0325743a890938db5f286315e58e"), looks := true }, kinds := [], alts := [], laidByText := true, laidKinds := [.sentinel, .sentinel, .sentinel, .sentinel, .sentinel, .sentinel, .sentinel, .sentinel, .sentinel, .sentinel, .sentinel, .sentinel, .sentinel, .sentinel, .sentinel, .sentinel, .sentinel, .sentinel, .sentinel], laidTests := true, laidLooks := .later }
def MatchTurnedUptoCardSaid : Prop := Claim7.holds Tryd.pinned (.plain (OpenSpec.upto matchTurnedSpec)) matchTurnedUptoCard

/-- THE SECOND FORM's CARD OF 'vellumlaw15.MatchMore'. -/
def matchMoreUptoCard : Claim7 := { stood := { row := matchMoreUptoRow, standIns := [], harness := (true, "dc00b4d39af0b51c3146f48ad02323947afa0325743a890938db5f286315e58e"), looks := true }, kinds := [], alts := [], laidByText := true, laidKinds := [.sentinel, .sentinel, .sentinel, .sentinel, .sentinel, .sentinel, .sentinel, .sentinel, .sentinel, .sentinel, .sentinel, .sentinel, .sentinel, .sentinel, .sentinel, .sentinel, .sentinel, .sentinel, .sentinel], laidTests := true, laidLooks := .later }
def MatchMoreUptoCardSaid : Prop := Claim7.holds Tryd.pinned (.plain (OpenSpec.upto matchMoreSpec)) matchMoreUptoCard
end Rows
end Go.Proofs.YtmhkeojbjliieaaDoor
