/-
  NARROWER THAN 'FOR EVERY INPUT', by the rows' own cells (each row's printed sentence says how): WholeUnique: laid · CellsOwns: laid · LinesTold: laid · LinesPlaces: laid · LinesBack: laid · DiffLeast: laid · LinesAlone: laid · DiffNone: laid · DiffLeads: laid.
  DERIVED. THE GIVEN ROWS OF THIS SEAT. 9 by the template 'for every input the law returns true; each argument reads behind the call as it read before'; 0 by the template 'total and deterministic' (their statements: YtgphmfnkeolbcaaGreatDoorTotals.lean).
  GIVEN WITH THE SEED: the statements are not yours to turn. If you find one false, say at which input.
  Laid BY PROGRAM, IN A SANDBOX (cutbox-rows.mjs): the forced cells as the released guide's own fill.sh prints them over the translation fa6cb8ed208ebae6… (all of the seat's roots in one cut). By AI agents, Wed Nov 11 2026. No macro, syntax, notation, axiom, sorry.
-/
import Derived.Test.YtgphmfnkeolbcaaGreatDoorChecked
import GoSem.PinnedTables
import GoSem.Claim
import GoSem.ClaimJoined
import GoSem.ClaimMapViews
import Derived.JoinedTies
import Derived.KernelRfl
namespace Go.Proofs.YtgphmfnkeolbcaaGreatDoor
/- THE CELL 'sum', in the pinned program and in every row, IS THE sha256 OF THE DUMP (.gsa) THAT YtgphmfnkeolbcaaGreatDoorProg.lean LOADS. Nothing in Lean hashes anything: it is a label: what it is worth is what the hold of that sum in a sandbox is worth. -/
noncomputable def Tryz.pinned : Pinned := { name := "ytgphmfnkeolbcaagreatdoor", sum := "fa6cb8ed208ebae6bb81d5bbd1b1325755c0517e80a09a9412ac011b8045e822", checked := Tryz.checked }
namespace Rows
def none {H : Type} : Left H := { results := [], args := [] }

/- WHAT THE LISTED PACKAGE-LEVEL VARIABLES READ AS WHEN THE CALL BEGINS. Each datum BY PROGRAM (the guide's laid-datum.mjs) off the statement by which the dump's own 'gosem.cut.vars' lays the variable. In a bare row this is a premise. The card (YtgphmfnkeolbcaaGreatDoorCards.lean) ties it to the program's text. -/
def laid_unicode_utf8_acceptRanges {H : Type} : DataW H := .agg [.agg [.lit (.int .u8 128), .lit (.int .u8 191)], .agg [.lit (.int .u8 160), .lit (.int .u8 191)], .agg [.lit (.int .u8 128), .lit (.int .u8 159)], .agg [.lit (.int .u8 144), .lit (.int .u8 191)], .agg [.lit (.int .u8 128), .lit (.int .u8 143)], .agg [.lit (.int .u8 0), .lit (.int .u8 0)], .agg [.lit (.int .u8 0), .lit (.int .u8 0)], .agg [.lit (.int .u8 0), .lit (.int .u8 0)], .agg [.lit (.int .u8 0), .lit (.int .u8 0)], .agg [.lit (.int .u8 0), .lit (.int .u8 0)], .agg [.lit (.int .u8 0), .lit (.int .u8 0)], .agg [.lit (.int .u8 0), .lit (.int .u8 0)], .agg [.lit (.int .u8 0), .lit (.int .u8 0)], .agg [.lit (.int .u8 0), .lit (.int .u8 0)], .agg [.lit (.int .u8 0), .lit (.int .u8 0)], .agg [.lit (.int .u8 0), .lit (.int .u8 0)]]
def laid_vellum_api_ErrUtf8 {H : Type} : DataW H := .iface "*errors.errorString" (.ptr (.agg [.lit (.string [118, 101, 108, 108, 117, 109, 58, 32, 117, 116, 102, 45, 56])]))
def laid_vellum_api_ErrKind {H : Type} : DataW H := .iface "*errors.errorString" (.ptr (.agg [.lit (.string [118, 101, 108, 108, 117, 109, 58, 32, 107, 105, 110, 100])]))
def laid_vellum_api_ErrKey {H : Type} : DataW H := .iface "*errors.errorString" (.ptr (.agg [.lit (.string [118, 101, 108, 108, 117, 109, 58, 32, 107, 101, 121])]))
def laid_vellum_api_ErrNull {H : Type} : DataW H := .iface "*errors.errorString" (.ptr (.agg [.lit (.string [118, 101, 108, 108, 117, 109, 58, 32, 110, 117, 108, 108])]))
def laid_vellum_api_ErrAttrs {H : Type} : DataW H := .iface "*errors.errorString" (.ptr (.agg [.lit (.string [118, 101, 108, 108, 117, 109, 58, 32, 97, 116, 116, 114, 105, 98, 117, 116, 101, 115])]))
def laid_vellum_api_ErrOp {H : Type} : DataW H := .iface "*errors.errorString" (.ptr (.agg [.lit (.string [118, 101, 108, 108, 117, 109, 58, 32, 111, 112, 101, 114, 97, 116, 105, 111, 110])]))
def laid_vellum_api_ErrLimit {H : Type} : DataW H := .iface "*errors.errorString" (.ptr (.agg [.lit (.string [118, 101, 108, 108, 117, 109, 58, 32, 108, 105, 109, 105, 116])]))
def laid_vellum_api_ErrLong {H : Type} : DataW H := .iface "*errors.errorString" (.ptr (.agg [.lit (.string [118, 101, 108, 108, 117, 109, 58, 32, 108, 111, 110, 103])]))
def laid_vellum_api_ErrRange {H : Type} : DataW H := .iface "*errors.errorString" (.ptr (.agg [.lit (.string [118, 101, 108, 108, 117, 109, 58, 32, 114, 97, 110, 103, 101])]))
/-- One of Go's own tables, pinned by name: the form's constant. -/
def laid_unicode_utf8_first : DataW Unit := Go.Pinned.utf8First
def laid_vellum_api_ErrJson {H : Type} : DataW H := .iface "*errors.errorString" (.ptr (.agg [.lit (.string [118, 101, 108, 108, 117, 109, 58, 32, 106, 115, 111, 110])]))
def laid_vellum_api_ErrNest {H : Type} : DataW H := .iface "*errors.errorString" (.ptr (.agg [.lit (.string [118, 101, 108, 108, 117, 109, 58, 32, 110, 101, 115, 116, 105, 110, 103])]))
def laid_vellum_api_ErrNumber {H : Type} : DataW H := .iface "*errors.errorString" (.ptr (.agg [.lit (.string [118, 101, 108, 108, 117, 109, 58, 32, 110, 117, 109, 98, 101, 114])]))
def laid_vellum_api_ErrSchema {H : Type} : DataW H := .iface "*errors.errorString" (.ptr (.agg [.lit (.string [118, 101, 108, 108, 117, 109, 58, 32, 115, 99, 104, 101, 109, 97])]))
def laid_vellum_api_ErrEnd {H : Type} : DataW H := .iface "*errors.errorString" (.ptr (.agg [.lit (.string [118, 101, 108, 108, 117, 109, 58, 32, 101, 110, 100])]))
def laid_vellum_api_ErrEmpty {H : Type} : DataW H := .iface "*errors.errorString" (.ptr (.agg [.lit (.string [118, 101, 108, 108, 117, 109, 58, 32, 101, 109, 112, 116, 121])]))
def laid_vellum_api_ErrMark {H : Type} : DataW H := .iface "*errors.errorString" (.ptr (.agg [.lit (.string [118, 101, 108, 108, 117, 109, 58, 32, 109, 97, 114, 107])]))
def laid_vellum_api_ErrReplica {H : Type} : DataW H := .iface "*errors.errorString" (.ptr (.agg [.lit (.string [118, 101, 108, 108, 117, 109, 58, 32, 114, 101, 112, 108, 105, 99, 97])]))
def laid_vellum_api_ErrBytes {H : Type} : DataW H := .iface "*errors.errorString" (.ptr (.agg [.lit (.string [118, 101, 108, 108, 117, 109, 58, 32, 98, 121, 116, 101, 115])]))
def laid_vellum_api_ErrCommand {H : Type} : DataW H := .iface "*errors.errorString" (.ptr (.agg [.lit (.string [118, 101, 108, 108, 117, 109, 58, 32, 99, 111, 109, 109, 97, 110, 100])]))

/-- 'vellumtop.WholeUnique': WHATEVER THE INPUT: true; the input reads as it did. -/
def wholeUniqueSpec : ChangeSpec := { name := "wholeUnique", fn := fun _ => fun
  | [d1, d2] => { results := [.lit (.bool true)], args := [d1, d2] }
  | _ => none }
def wholeUniqueRow : OpenClaim := { program := "ytgphmfnkeolbcaagreatdoor", sum := "fa6cb8ed208ebae6bb81d5bbd1b1325755c0517e80a09a9412ac011b8045e822", func := "vellum/vellumtop.WholeUnique", spec := "wholeUnique", unfollowed := true, recurses := true, named := ["vellum/api.ErrLong", "vellum/api.ErrOp", "vellum/api.ErrUtf8", "vellum/api.ErrKind", "vellum/api.ErrKey", "unicode/utf8.first", "unicode/utf8.acceptRanges", "vellum/api.ErrLimit", "vellum/api.ErrNull", "vellum/api.ErrAttrs", "vellum/api.ErrRange"], plainKeys := false, apart := false, laid := [("unicode/utf8.acceptRanges", laid_unicode_utf8_acceptRanges), ("vellum/api.ErrUtf8", laid_vellum_api_ErrUtf8), ("vellum/api.ErrKind", laid_vellum_api_ErrKind), ("vellum/api.ErrKey", laid_vellum_api_ErrKey), ("vellum/api.ErrNull", laid_vellum_api_ErrNull), ("vellum/api.ErrAttrs", laid_vellum_api_ErrAttrs), ("vellum/api.ErrOp", laid_vellum_api_ErrOp), ("vellum/api.ErrLimit", laid_vellum_api_ErrLimit), ("vellum/api.ErrLong", laid_vellum_api_ErrLong), ("vellum/api.ErrRange", laid_vellum_api_ErrRange), ("unicode/utf8.first", laid_unicode_utf8_first)] }
def WholeUniqueSaid : Prop := wholeUniqueRow.holds Tryz.pinned (OpenSpec.ofChange wholeUniqueSpec)

/-- ITS FALSE NEIGHBOUR: 'it returns false'. Refute it at one input. -/
def wholeUniqueWrong : ChangeSpec := { name := "wholeUnique", fn := fun _ => fun
  | [d1, d2] => { results := [.lit (.bool false)], args := [d1, d2] }
  | _ => none }
def WholeUniqueWrongFalsely : Prop := wholeUniqueRow.holds Tryz.pinned (OpenSpec.ofChange wholeUniqueWrong)

/-- 'vellumlaw09.CellsOwns': WHATEVER THE INPUT: true; the input reads as it did. -/
def cellsOwnsSpec : ChangeSpec := { name := "cellsOwns", fn := fun _ => fun
  | [d] => { results := [.lit (.bool true)], args := [d] }
  | _ => none }
def cellsOwnsRow : OpenClaim := { program := "ytgphmfnkeolbcaagreatdoor", sum := "fa6cb8ed208ebae6bb81d5bbd1b1325755c0517e80a09a9412ac011b8045e822", func := "vellum/vellumlaw09.CellsOwns", spec := "cellsOwns", unfollowed := true, recurses := true, named := ["vellum/api.ErrKey", "vellum/api.ErrKind", "vellum/api.ErrUtf8", "unicode/utf8.first", "unicode/utf8.acceptRanges", "vellum/api.ErrLimit", "vellum/api.ErrNull", "vellum/api.ErrAttrs", "vellum/api.ErrLong", "vellum/api.ErrOp", "vellum/api.ErrRange"], plainKeys := false, apart := false, laid := [("unicode/utf8.acceptRanges", laid_unicode_utf8_acceptRanges), ("vellum/api.ErrUtf8", laid_vellum_api_ErrUtf8), ("vellum/api.ErrKind", laid_vellum_api_ErrKind), ("vellum/api.ErrKey", laid_vellum_api_ErrKey), ("vellum/api.ErrNull", laid_vellum_api_ErrNull), ("vellum/api.ErrAttrs", laid_vellum_api_ErrAttrs), ("vellum/api.ErrOp", laid_vellum_api_ErrOp), ("vellum/api.ErrLimit", laid_vellum_api_ErrLimit), ("vellum/api.ErrLong", laid_vellum_api_ErrLong), ("vellum/api.ErrRange", laid_vellum_api_ErrRange), ("unicode/utf8.first", laid_unicode_utf8_first)] }
def CellsOwnsSaid : Prop := cellsOwnsRow.holds Tryz.pinned (OpenSpec.ofChange cellsOwnsSpec)

/-- ITS FALSE NEIGHBOUR: 'it returns false'. Refute it at one input. -/
def cellsOwnsWrong : ChangeSpec := { name := "cellsOwns", fn := fun _ => fun
  | [d] => { results := [.lit (.bool false)], args := [d] }
  | _ => none }
def CellsOwnsWrongFalsely : Prop := cellsOwnsRow.holds Tryz.pinned (OpenSpec.ofChange cellsOwnsWrong)

/-- 'vellumlaw21.LinesTold': WHATEVER THE INPUT: true; the input reads as it did. -/
def linesToldSpec : ChangeSpec := { name := "linesTold", fn := fun _ => fun
  | [d1, d2] => { results := [.lit (.bool true)], args := [d1, d2] }
  | _ => none }
def linesToldRow : OpenClaim := { program := "ytgphmfnkeolbcaagreatdoor", sum := "fa6cb8ed208ebae6bb81d5bbd1b1325755c0517e80a09a9412ac011b8045e822", func := "vellum/vellumlaw21.LinesTold", spec := "linesTold", unfollowed := true, recurses := true, named := ["vellum/api.ErrLong", "vellum/api.ErrOp", "vellum/api.ErrUtf8", "vellum/api.ErrKind", "vellum/api.ErrKey", "unicode/utf8.first", "unicode/utf8.acceptRanges", "vellum/api.ErrLimit", "vellum/api.ErrNull", "vellum/api.ErrAttrs", "vellum/api.ErrEnd", "vellum/api.ErrRange", "vellum/api.ErrJson", "vellum/api.ErrNest", "vellum/api.ErrNumber", "vellum/api.ErrSchema", "vellum/api.ErrEmpty", "vellum/api.ErrMark", "vellum/api.ErrReplica", "vellum/api.ErrBytes", "vellum/api.ErrCommand"], plainKeys := false, apart := false, laid := [("unicode/utf8.acceptRanges", laid_unicode_utf8_acceptRanges), ("vellum/api.ErrUtf8", laid_vellum_api_ErrUtf8), ("vellum/api.ErrJson", laid_vellum_api_ErrJson), ("vellum/api.ErrNest", laid_vellum_api_ErrNest), ("vellum/api.ErrNumber", laid_vellum_api_ErrNumber), ("vellum/api.ErrKind", laid_vellum_api_ErrKind), ("vellum/api.ErrKey", laid_vellum_api_ErrKey), ("vellum/api.ErrNull", laid_vellum_api_ErrNull), ("vellum/api.ErrAttrs", laid_vellum_api_ErrAttrs), ("vellum/api.ErrOp", laid_vellum_api_ErrOp), ("vellum/api.ErrLimit", laid_vellum_api_ErrLimit), ("vellum/api.ErrLong", laid_vellum_api_ErrLong), ("vellum/api.ErrRange", laid_vellum_api_ErrRange), ("vellum/api.ErrSchema", laid_vellum_api_ErrSchema), ("vellum/api.ErrEnd", laid_vellum_api_ErrEnd), ("vellum/api.ErrEmpty", laid_vellum_api_ErrEmpty), ("vellum/api.ErrMark", laid_vellum_api_ErrMark), ("vellum/api.ErrReplica", laid_vellum_api_ErrReplica), ("vellum/api.ErrBytes", laid_vellum_api_ErrBytes), ("vellum/api.ErrCommand", laid_vellum_api_ErrCommand), ("unicode/utf8.first", laid_unicode_utf8_first)] }
def LinesToldSaid : Prop := linesToldRow.holds Tryz.pinned (OpenSpec.ofChange linesToldSpec)

/-- ITS FALSE NEIGHBOUR: 'it returns false'. Refute it at one input. -/
def linesToldWrong : ChangeSpec := { name := "linesTold", fn := fun _ => fun
  | [d1, d2] => { results := [.lit (.bool false)], args := [d1, d2] }
  | _ => none }
def LinesToldWrongFalsely : Prop := linesToldRow.holds Tryz.pinned (OpenSpec.ofChange linesToldWrong)

/-- 'vellumlaw21.LinesPlaces': WHATEVER THE INPUT: true; the input reads as it did. -/
def linesPlacesSpec : ChangeSpec := { name := "linesPlaces", fn := fun _ => fun
  | [d1, d2, d3] => { results := [.lit (.bool true)], args := [d1, d2, d3] }
  | _ => none }
def linesPlacesRow : OpenClaim := { program := "ytgphmfnkeolbcaagreatdoor", sum := "fa6cb8ed208ebae6bb81d5bbd1b1325755c0517e80a09a9412ac011b8045e822", func := "vellum/vellumlaw21.LinesPlaces", spec := "linesPlaces", unfollowed := true, recurses := true, named := ["vellum/api.ErrLong", "vellum/api.ErrOp", "vellum/api.ErrUtf8", "vellum/api.ErrKind", "vellum/api.ErrKey", "unicode/utf8.first", "unicode/utf8.acceptRanges", "vellum/api.ErrLimit", "vellum/api.ErrNull", "vellum/api.ErrAttrs", "vellum/api.ErrEnd", "vellum/api.ErrRange", "vellum/api.ErrJson", "vellum/api.ErrNest", "vellum/api.ErrNumber", "vellum/api.ErrSchema", "vellum/api.ErrEmpty", "vellum/api.ErrMark", "vellum/api.ErrReplica", "vellum/api.ErrBytes", "vellum/api.ErrCommand"], plainKeys := false, apart := false, laid := [("unicode/utf8.acceptRanges", laid_unicode_utf8_acceptRanges), ("vellum/api.ErrUtf8", laid_vellum_api_ErrUtf8), ("vellum/api.ErrJson", laid_vellum_api_ErrJson), ("vellum/api.ErrNest", laid_vellum_api_ErrNest), ("vellum/api.ErrNumber", laid_vellum_api_ErrNumber), ("vellum/api.ErrKind", laid_vellum_api_ErrKind), ("vellum/api.ErrKey", laid_vellum_api_ErrKey), ("vellum/api.ErrNull", laid_vellum_api_ErrNull), ("vellum/api.ErrAttrs", laid_vellum_api_ErrAttrs), ("vellum/api.ErrOp", laid_vellum_api_ErrOp), ("vellum/api.ErrLimit", laid_vellum_api_ErrLimit), ("vellum/api.ErrLong", laid_vellum_api_ErrLong), ("vellum/api.ErrRange", laid_vellum_api_ErrRange), ("vellum/api.ErrSchema", laid_vellum_api_ErrSchema), ("vellum/api.ErrEnd", laid_vellum_api_ErrEnd), ("vellum/api.ErrEmpty", laid_vellum_api_ErrEmpty), ("vellum/api.ErrMark", laid_vellum_api_ErrMark), ("vellum/api.ErrReplica", laid_vellum_api_ErrReplica), ("vellum/api.ErrBytes", laid_vellum_api_ErrBytes), ("vellum/api.ErrCommand", laid_vellum_api_ErrCommand), ("unicode/utf8.first", laid_unicode_utf8_first)] }
def LinesPlacesSaid : Prop := linesPlacesRow.holds Tryz.pinned (OpenSpec.ofChange linesPlacesSpec)

/-- ITS FALSE NEIGHBOUR: 'it returns false'. Refute it at one input. -/
def linesPlacesWrong : ChangeSpec := { name := "linesPlaces", fn := fun _ => fun
  | [d1, d2, d3] => { results := [.lit (.bool false)], args := [d1, d2, d3] }
  | _ => none }
def LinesPlacesWrongFalsely : Prop := linesPlacesRow.holds Tryz.pinned (OpenSpec.ofChange linesPlacesWrong)

/-- 'vellumlaw21.LinesBack': WHATEVER THE INPUT: true; the input reads as it did. -/
def linesBackSpec : ChangeSpec := { name := "linesBack", fn := fun _ => fun
  | [d1, d2] => { results := [.lit (.bool true)], args := [d1, d2] }
  | _ => none }
def linesBackRow : OpenClaim := { program := "ytgphmfnkeolbcaagreatdoor", sum := "fa6cb8ed208ebae6bb81d5bbd1b1325755c0517e80a09a9412ac011b8045e822", func := "vellum/vellumlaw21.LinesBack", spec := "linesBack", unfollowed := true, recurses := true, named := ["vellum/api.ErrLong", "vellum/api.ErrOp", "vellum/api.ErrUtf8", "vellum/api.ErrKind", "vellum/api.ErrKey", "unicode/utf8.first", "unicode/utf8.acceptRanges", "vellum/api.ErrLimit", "vellum/api.ErrNull", "vellum/api.ErrAttrs", "vellum/api.ErrEnd", "vellum/api.ErrRange", "vellum/api.ErrJson", "vellum/api.ErrNest", "vellum/api.ErrNumber", "vellum/api.ErrSchema", "vellum/api.ErrEmpty", "vellum/api.ErrMark", "vellum/api.ErrReplica", "vellum/api.ErrBytes", "vellum/api.ErrCommand"], plainKeys := false, apart := false, laid := [("unicode/utf8.acceptRanges", laid_unicode_utf8_acceptRanges), ("vellum/api.ErrUtf8", laid_vellum_api_ErrUtf8), ("vellum/api.ErrJson", laid_vellum_api_ErrJson), ("vellum/api.ErrNest", laid_vellum_api_ErrNest), ("vellum/api.ErrNumber", laid_vellum_api_ErrNumber), ("vellum/api.ErrKind", laid_vellum_api_ErrKind), ("vellum/api.ErrKey", laid_vellum_api_ErrKey), ("vellum/api.ErrNull", laid_vellum_api_ErrNull), ("vellum/api.ErrAttrs", laid_vellum_api_ErrAttrs), ("vellum/api.ErrOp", laid_vellum_api_ErrOp), ("vellum/api.ErrLimit", laid_vellum_api_ErrLimit), ("vellum/api.ErrLong", laid_vellum_api_ErrLong), ("vellum/api.ErrRange", laid_vellum_api_ErrRange), ("vellum/api.ErrSchema", laid_vellum_api_ErrSchema), ("vellum/api.ErrEnd", laid_vellum_api_ErrEnd), ("vellum/api.ErrEmpty", laid_vellum_api_ErrEmpty), ("vellum/api.ErrMark", laid_vellum_api_ErrMark), ("vellum/api.ErrReplica", laid_vellum_api_ErrReplica), ("vellum/api.ErrBytes", laid_vellum_api_ErrBytes), ("vellum/api.ErrCommand", laid_vellum_api_ErrCommand), ("unicode/utf8.first", laid_unicode_utf8_first)] }
def LinesBackSaid : Prop := linesBackRow.holds Tryz.pinned (OpenSpec.ofChange linesBackSpec)

/-- ITS FALSE NEIGHBOUR: 'it returns false'. Refute it at one input. -/
def linesBackWrong : ChangeSpec := { name := "linesBack", fn := fun _ => fun
  | [d1, d2] => { results := [.lit (.bool false)], args := [d1, d2] }
  | _ => none }
def LinesBackWrongFalsely : Prop := linesBackRow.holds Tryz.pinned (OpenSpec.ofChange linesBackWrong)

/-- 'vellumlaw16.DiffLeast': WHATEVER THE INPUT: true; the input reads as it did. -/
def diffLeastSpec : ChangeSpec := { name := "diffLeast", fn := fun _ => fun
  | [d1, d2] => { results := [.lit (.bool true)], args := [d1, d2] }
  | _ => none }
def diffLeastRow : OpenClaim := { program := "ytgphmfnkeolbcaagreatdoor", sum := "fa6cb8ed208ebae6bb81d5bbd1b1325755c0517e80a09a9412ac011b8045e822", func := "vellum/vellumlaw16.DiffLeast", spec := "diffLeast", unfollowed := true, recurses := true, named := ["vellum/api.ErrLong", "vellum/api.ErrOp", "vellum/api.ErrUtf8", "vellum/api.ErrKind", "vellum/api.ErrKey", "unicode/utf8.first", "unicode/utf8.acceptRanges", "vellum/api.ErrLimit", "vellum/api.ErrNull", "vellum/api.ErrAttrs", "vellum/api.ErrJson", "vellum/api.ErrNest", "vellum/api.ErrNumber", "vellum/api.ErrRange", "vellum/api.ErrSchema", "vellum/api.ErrEnd", "vellum/api.ErrEmpty", "vellum/api.ErrMark", "vellum/api.ErrReplica", "vellum/api.ErrBytes", "vellum/api.ErrCommand"], plainKeys := false, apart := false, laid := [("unicode/utf8.acceptRanges", laid_unicode_utf8_acceptRanges), ("vellum/api.ErrUtf8", laid_vellum_api_ErrUtf8), ("vellum/api.ErrJson", laid_vellum_api_ErrJson), ("vellum/api.ErrNest", laid_vellum_api_ErrNest), ("vellum/api.ErrNumber", laid_vellum_api_ErrNumber), ("vellum/api.ErrKind", laid_vellum_api_ErrKind), ("vellum/api.ErrKey", laid_vellum_api_ErrKey), ("vellum/api.ErrNull", laid_vellum_api_ErrNull), ("vellum/api.ErrAttrs", laid_vellum_api_ErrAttrs), ("vellum/api.ErrOp", laid_vellum_api_ErrOp), ("vellum/api.ErrLimit", laid_vellum_api_ErrLimit), ("vellum/api.ErrLong", laid_vellum_api_ErrLong), ("vellum/api.ErrRange", laid_vellum_api_ErrRange), ("vellum/api.ErrSchema", laid_vellum_api_ErrSchema), ("vellum/api.ErrEnd", laid_vellum_api_ErrEnd), ("vellum/api.ErrEmpty", laid_vellum_api_ErrEmpty), ("vellum/api.ErrMark", laid_vellum_api_ErrMark), ("vellum/api.ErrReplica", laid_vellum_api_ErrReplica), ("vellum/api.ErrBytes", laid_vellum_api_ErrBytes), ("vellum/api.ErrCommand", laid_vellum_api_ErrCommand), ("unicode/utf8.first", laid_unicode_utf8_first)] }
def DiffLeastSaid : Prop := diffLeastRow.holds Tryz.pinned (OpenSpec.ofChange diffLeastSpec)

/-- ITS FALSE NEIGHBOUR: 'it returns false'. Refute it at one input. -/
def diffLeastWrong : ChangeSpec := { name := "diffLeast", fn := fun _ => fun
  | [d1, d2] => { results := [.lit (.bool false)], args := [d1, d2] }
  | _ => none }
def DiffLeastWrongFalsely : Prop := diffLeastRow.holds Tryz.pinned (OpenSpec.ofChange diffLeastWrong)

/-- 'vellumlaw21.LinesAlone': WHATEVER THE INPUT: true; the input reads as it did. -/
def linesAloneSpec : ChangeSpec := { name := "linesAlone", fn := fun _ => fun
  | [d1, d2, d3, d4] => { results := [.lit (.bool true)], args := [d1, d2, d3, d4] }
  | _ => none }
def linesAloneRow : OpenClaim := { program := "ytgphmfnkeolbcaagreatdoor", sum := "fa6cb8ed208ebae6bb81d5bbd1b1325755c0517e80a09a9412ac011b8045e822", func := "vellum/vellumlaw21.LinesAlone", spec := "linesAlone", unfollowed := true, recurses := true, named := ["vellum/api.ErrLong", "vellum/api.ErrOp", "vellum/api.ErrUtf8", "vellum/api.ErrKind", "vellum/api.ErrKey", "unicode/utf8.first", "unicode/utf8.acceptRanges", "vellum/api.ErrLimit", "vellum/api.ErrNull", "vellum/api.ErrAttrs", "vellum/api.ErrEnd", "vellum/api.ErrRange"], plainKeys := false, apart := false, laid := [("unicode/utf8.acceptRanges", laid_unicode_utf8_acceptRanges), ("vellum/api.ErrUtf8", laid_vellum_api_ErrUtf8), ("vellum/api.ErrKind", laid_vellum_api_ErrKind), ("vellum/api.ErrKey", laid_vellum_api_ErrKey), ("vellum/api.ErrNull", laid_vellum_api_ErrNull), ("vellum/api.ErrAttrs", laid_vellum_api_ErrAttrs), ("vellum/api.ErrOp", laid_vellum_api_ErrOp), ("vellum/api.ErrLimit", laid_vellum_api_ErrLimit), ("vellum/api.ErrLong", laid_vellum_api_ErrLong), ("vellum/api.ErrRange", laid_vellum_api_ErrRange), ("vellum/api.ErrEnd", laid_vellum_api_ErrEnd), ("unicode/utf8.first", laid_unicode_utf8_first)] }
def LinesAloneSaid : Prop := linesAloneRow.holds Tryz.pinned (OpenSpec.ofChange linesAloneSpec)

/-- ITS FALSE NEIGHBOUR: 'it returns false'. Refute it at one input. -/
def linesAloneWrong : ChangeSpec := { name := "linesAlone", fn := fun _ => fun
  | [d1, d2, d3, d4] => { results := [.lit (.bool false)], args := [d1, d2, d3, d4] }
  | _ => none }
def LinesAloneWrongFalsely : Prop := linesAloneRow.holds Tryz.pinned (OpenSpec.ofChange linesAloneWrong)

/-- 'vellumlaw16.DiffNone': WHATEVER THE INPUT: true; the input reads as it did. -/
def diffNoneSpec : ChangeSpec := { name := "diffNone", fn := fun _ => fun
  | [d1, d2, d3] => { results := [.lit (.bool true)], args := [d1, d2, d3] }
  | _ => none }
def diffNoneRow : OpenClaim := { program := "ytgphmfnkeolbcaagreatdoor", sum := "fa6cb8ed208ebae6bb81d5bbd1b1325755c0517e80a09a9412ac011b8045e822", func := "vellum/vellumlaw16.DiffNone", spec := "diffNone", unfollowed := true, recurses := true, named := ["vellum/api.ErrLong", "vellum/api.ErrOp", "vellum/api.ErrUtf8", "vellum/api.ErrKind", "vellum/api.ErrKey", "unicode/utf8.first", "unicode/utf8.acceptRanges", "vellum/api.ErrLimit", "vellum/api.ErrNull", "vellum/api.ErrAttrs", "vellum/api.ErrRange"], plainKeys := false, apart := false, laid := [("unicode/utf8.acceptRanges", laid_unicode_utf8_acceptRanges), ("vellum/api.ErrUtf8", laid_vellum_api_ErrUtf8), ("vellum/api.ErrKind", laid_vellum_api_ErrKind), ("vellum/api.ErrKey", laid_vellum_api_ErrKey), ("vellum/api.ErrNull", laid_vellum_api_ErrNull), ("vellum/api.ErrAttrs", laid_vellum_api_ErrAttrs), ("vellum/api.ErrOp", laid_vellum_api_ErrOp), ("vellum/api.ErrLimit", laid_vellum_api_ErrLimit), ("vellum/api.ErrLong", laid_vellum_api_ErrLong), ("vellum/api.ErrRange", laid_vellum_api_ErrRange), ("unicode/utf8.first", laid_unicode_utf8_first)] }
def DiffNoneSaid : Prop := diffNoneRow.holds Tryz.pinned (OpenSpec.ofChange diffNoneSpec)

/-- ITS FALSE NEIGHBOUR: 'it returns false'. Refute it at one input. -/
def diffNoneWrong : ChangeSpec := { name := "diffNone", fn := fun _ => fun
  | [d1, d2, d3] => { results := [.lit (.bool false)], args := [d1, d2, d3] }
  | _ => none }
def DiffNoneWrongFalsely : Prop := diffNoneRow.holds Tryz.pinned (OpenSpec.ofChange diffNoneWrong)

/-- 'vellumlaw16.DiffLeads': WHATEVER THE INPUT: true; the input reads as it did. -/
def diffLeadsSpec : ChangeSpec := { name := "diffLeads", fn := fun _ => fun
  | [d1, d2] => { results := [.lit (.bool true)], args := [d1, d2] }
  | _ => none }
def diffLeadsRow : OpenClaim := { program := "ytgphmfnkeolbcaagreatdoor", sum := "fa6cb8ed208ebae6bb81d5bbd1b1325755c0517e80a09a9412ac011b8045e822", func := "vellum/vellumlaw16.DiffLeads", spec := "diffLeads", unfollowed := true, recurses := true, named := ["vellum/api.ErrLong", "vellum/api.ErrOp", "vellum/api.ErrUtf8", "vellum/api.ErrKind", "vellum/api.ErrKey", "unicode/utf8.first", "unicode/utf8.acceptRanges", "vellum/api.ErrLimit", "vellum/api.ErrNull", "vellum/api.ErrAttrs", "vellum/api.ErrRange"], plainKeys := false, apart := false, laid := [("unicode/utf8.acceptRanges", laid_unicode_utf8_acceptRanges), ("vellum/api.ErrUtf8", laid_vellum_api_ErrUtf8), ("vellum/api.ErrKind", laid_vellum_api_ErrKind), ("vellum/api.ErrKey", laid_vellum_api_ErrKey), ("vellum/api.ErrNull", laid_vellum_api_ErrNull), ("vellum/api.ErrAttrs", laid_vellum_api_ErrAttrs), ("vellum/api.ErrOp", laid_vellum_api_ErrOp), ("vellum/api.ErrLimit", laid_vellum_api_ErrLimit), ("vellum/api.ErrLong", laid_vellum_api_ErrLong), ("vellum/api.ErrRange", laid_vellum_api_ErrRange), ("unicode/utf8.first", laid_unicode_utf8_first)] }
def DiffLeadsSaid : Prop := diffLeadsRow.holds Tryz.pinned (OpenSpec.ofChange diffLeadsSpec)

/-- ITS FALSE NEIGHBOUR: 'it returns false'. Refute it at one input. -/
def diffLeadsWrong : ChangeSpec := { name := "diffLeads", fn := fun _ => fun
  | [d1, d2] => { results := [.lit (.bool false)], args := [d1, d2] }
  | _ => none }
def DiffLeadsWrongFalsely : Prop := diffLeadsRow.holds Tryz.pinned (OpenSpec.ofChange diffLeadsWrong)

/- THE SECOND FORM. 'bulk': how many values and letters a reading holds, each counted each time it is reached (what is shared counts as often as it is met; a slice's spare places count too). A statement '..UptoSaid' is the law's where the arguments, and the package variables that the reading takes, are together of bulk at most 1048576: NARROWER than '..Said'. Prove '..Said' where nothing that the law and all that it calls make is longer than what came in: it says more and counts as full. Else prove '..UptoSaid'. A law counts once. -/
mutual
def uptoBulk {H : Type} : DataW H → Nat
  | .lit (.string bytes) => bytes.length + 1
  | .lit _ => 1
  | .nil => 1
  | .ptr d => uptoBulk d + 1
  | .slice elems spare => uptoBulkAll elems + uptoBulkAll spare + 1
  | .agg parts => uptoBulkAll parts + 1
  | .iface _ d => uptoBulk d + 1
  | .map entries => uptoBulkEntries entries + 1
  | .held _ => 1
def uptoBulkAll {H : Type} : List (DataW H) → Nat
  | [] => 0
  | d :: r => uptoBulk d + uptoBulkAll r
def uptoBulkEntries {H : Type} : List (Lit × DataW H) → Nat
  | [] => 0
  | x :: r => uptoBulkEntry x + uptoBulkEntries r
def uptoBulkEntry {H : Type} : Lit × DataW H → Nat
  | (.string bytes, d) => bytes.length + uptoBulk d + 1
  | (_, d) => uptoBulk d + 1
 end
def uptoSmall : (H : Type) → List (DataW H) → Bool := fun _ ds => decide (uptoBulkAll ds ≤ 1048576)
def OpenSpec.upto (s : _root_.Go.ChangeSpec) : _root_.Go.OpenSpec := { _root_.Go.OpenSpec.ofChange s with cond := some uptoSmall }

/-- 'vellumtop.WholeUnique', WHERE WHAT IT READS IS OF BULK AT MOST 1048576: true; the input reads as it did. -/
def wholeUniqueUptoRow : OpenClaim := { program := "ytgphmfnkeolbcaagreatdoor", sum := "fa6cb8ed208ebae6bb81d5bbd1b1325755c0517e80a09a9412ac011b8045e822", func := "vellum/vellumtop.WholeUnique", spec := "wholeUnique", unfollowed := true, recurses := true, named := ["vellum/api.ErrLong", "vellum/api.ErrOp", "vellum/api.ErrUtf8", "vellum/api.ErrKind", "vellum/api.ErrKey", "unicode/utf8.first", "unicode/utf8.acceptRanges", "vellum/api.ErrLimit", "vellum/api.ErrNull", "vellum/api.ErrAttrs", "vellum/api.ErrRange"], plainKeys := false, apart := false, laid := [("unicode/utf8.acceptRanges", laid_unicode_utf8_acceptRanges), ("vellum/api.ErrUtf8", laid_vellum_api_ErrUtf8), ("vellum/api.ErrKind", laid_vellum_api_ErrKind), ("vellum/api.ErrKey", laid_vellum_api_ErrKey), ("vellum/api.ErrNull", laid_vellum_api_ErrNull), ("vellum/api.ErrAttrs", laid_vellum_api_ErrAttrs), ("vellum/api.ErrOp", laid_vellum_api_ErrOp), ("vellum/api.ErrLimit", laid_vellum_api_ErrLimit), ("vellum/api.ErrLong", laid_vellum_api_ErrLong), ("vellum/api.ErrRange", laid_vellum_api_ErrRange), ("unicode/utf8.first", laid_unicode_utf8_first)], narrowed := true }
def WholeUniqueUptoSaid : Prop := wholeUniqueUptoRow.holds Tryz.pinned (OpenSpec.upto wholeUniqueSpec)

/-- 'vellumlaw09.CellsOwns', WHERE WHAT IT READS IS OF BULK AT MOST 1048576: true; the input reads as it did. -/
def cellsOwnsUptoRow : OpenClaim := { program := "ytgphmfnkeolbcaagreatdoor", sum := "fa6cb8ed208ebae6bb81d5bbd1b1325755c0517e80a09a9412ac011b8045e822", func := "vellum/vellumlaw09.CellsOwns", spec := "cellsOwns", unfollowed := true, recurses := true, named := ["vellum/api.ErrKey", "vellum/api.ErrKind", "vellum/api.ErrUtf8", "unicode/utf8.first", "unicode/utf8.acceptRanges", "vellum/api.ErrLimit", "vellum/api.ErrNull", "vellum/api.ErrAttrs", "vellum/api.ErrLong", "vellum/api.ErrOp", "vellum/api.ErrRange"], plainKeys := false, apart := false, laid := [("unicode/utf8.acceptRanges", laid_unicode_utf8_acceptRanges), ("vellum/api.ErrUtf8", laid_vellum_api_ErrUtf8), ("vellum/api.ErrKind", laid_vellum_api_ErrKind), ("vellum/api.ErrKey", laid_vellum_api_ErrKey), ("vellum/api.ErrNull", laid_vellum_api_ErrNull), ("vellum/api.ErrAttrs", laid_vellum_api_ErrAttrs), ("vellum/api.ErrOp", laid_vellum_api_ErrOp), ("vellum/api.ErrLimit", laid_vellum_api_ErrLimit), ("vellum/api.ErrLong", laid_vellum_api_ErrLong), ("vellum/api.ErrRange", laid_vellum_api_ErrRange), ("unicode/utf8.first", laid_unicode_utf8_first)], narrowed := true }
def CellsOwnsUptoSaid : Prop := cellsOwnsUptoRow.holds Tryz.pinned (OpenSpec.upto cellsOwnsSpec)

/-- 'vellumlaw21.LinesTold', WHERE WHAT IT READS IS OF BULK AT MOST 1048576: true; the input reads as it did. -/
def linesToldUptoRow : OpenClaim := { program := "ytgphmfnkeolbcaagreatdoor", sum := "fa6cb8ed208ebae6bb81d5bbd1b1325755c0517e80a09a9412ac011b8045e822", func := "vellum/vellumlaw21.LinesTold", spec := "linesTold", unfollowed := true, recurses := true, named := ["vellum/api.ErrLong", "vellum/api.ErrOp", "vellum/api.ErrUtf8", "vellum/api.ErrKind", "vellum/api.ErrKey", "unicode/utf8.first", "unicode/utf8.acceptRanges", "vellum/api.ErrLimit", "vellum/api.ErrNull", "vellum/api.ErrAttrs", "vellum/api.ErrEnd", "vellum/api.ErrRange", "vellum/api.ErrJson", "vellum/api.ErrNest", "vellum/api.ErrNumber", "vellum/api.ErrSchema", "vellum/api.ErrEmpty", "vellum/api.ErrMark", "vellum/api.ErrReplica", "vellum/api.ErrBytes", "vellum/api.ErrCommand"], plainKeys := false, apart := false, laid := [("unicode/utf8.acceptRanges", laid_unicode_utf8_acceptRanges), ("vellum/api.ErrUtf8", laid_vellum_api_ErrUtf8), ("vellum/api.ErrJson", laid_vellum_api_ErrJson), ("vellum/api.ErrNest", laid_vellum_api_ErrNest), ("vellum/api.ErrNumber", laid_vellum_api_ErrNumber), ("vellum/api.ErrKind", laid_vellum_api_ErrKind), ("vellum/api.ErrKey", laid_vellum_api_ErrKey), ("vellum/api.ErrNull", laid_vellum_api_ErrNull), ("vellum/api.ErrAttrs", laid_vellum_api_ErrAttrs), ("vellum/api.ErrOp", laid_vellum_api_ErrOp), ("vellum/api.ErrLimit", laid_vellum_api_ErrLimit), ("vellum/api.ErrLong", laid_vellum_api_ErrLong), ("vellum/api.ErrRange", laid_vellum_api_ErrRange), ("vellum/api.ErrSchema", laid_vellum_api_ErrSchema), ("vellum/api.ErrEnd", laid_vellum_api_ErrEnd), ("vellum/api.ErrEmpty", laid_vellum_api_ErrEmpty), ("vellum/api.ErrMark", laid_vellum_api_ErrMark), ("vellum/api.ErrReplica", laid_vellum_api_ErrReplica), ("vellum/api.ErrBytes", laid_vellum_api_ErrBytes), ("vellum/api.ErrCommand", laid_vellum_api_ErrCommand), ("unicode/utf8.first", laid_unicode_utf8_first)], narrowed := true }
def LinesToldUptoSaid : Prop := linesToldUptoRow.holds Tryz.pinned (OpenSpec.upto linesToldSpec)

/-- 'vellumlaw21.LinesPlaces', WHERE WHAT IT READS IS OF BULK AT MOST 1048576: true; the input reads as it did. -/
def linesPlacesUptoRow : OpenClaim := { program := "ytgphmfnkeolbcaagreatdoor", sum := "fa6cb8ed208ebae6bb81d5bbd1b1325755c0517e80a09a9412ac011b8045e822", func := "vellum/vellumlaw21.LinesPlaces", spec := "linesPlaces", unfollowed := true, recurses := true, named := ["vellum/api.ErrLong", "vellum/api.ErrOp", "vellum/api.ErrUtf8", "vellum/api.ErrKind", "vellum/api.ErrKey", "unicode/utf8.first", "unicode/utf8.acceptRanges", "vellum/api.ErrLimit", "vellum/api.ErrNull", "vellum/api.ErrAttrs", "vellum/api.ErrEnd", "vellum/api.ErrRange", "vellum/api.ErrJson", "vellum/api.ErrNest", "vellum/api.ErrNumber", "vellum/api.ErrSchema", "vellum/api.ErrEmpty", "vellum/api.ErrMark", "vellum/api.ErrReplica", "vellum/api.ErrBytes", "vellum/api.ErrCommand"], plainKeys := false, apart := false, laid := [("unicode/utf8.acceptRanges", laid_unicode_utf8_acceptRanges), ("vellum/api.ErrUtf8", laid_vellum_api_ErrUtf8), ("vellum/api.ErrJson", laid_vellum_api_ErrJson), ("vellum/api.ErrNest", laid_vellum_api_ErrNest), ("vellum/api.ErrNumber", laid_vellum_api_ErrNumber), ("vellum/api.ErrKind", laid_vellum_api_ErrKind), ("vellum/api.ErrKey", laid_vellum_api_ErrKey), ("vellum/api.ErrNull", laid_vellum_api_ErrNull), ("vellum/api.ErrAttrs", laid_vellum_api_ErrAttrs), ("vellum/api.ErrOp", laid_vellum_api_ErrOp), ("vellum/api.ErrLimit", laid_vellum_api_ErrLimit), ("vellum/api.ErrLong", laid_vellum_api_ErrLong), ("vellum/api.ErrRange", laid_vellum_api_ErrRange), ("vellum/api.ErrSchema", laid_vellum_api_ErrSchema), ("vellum/api.ErrEnd", laid_vellum_api_ErrEnd), ("vellum/api.ErrEmpty", laid_vellum_api_ErrEmpty), ("vellum/api.ErrMark", laid_vellum_api_ErrMark), ("vellum/api.ErrReplica", laid_vellum_api_ErrReplica), ("vellum/api.ErrBytes", laid_vellum_api_ErrBytes), ("vellum/api.ErrCommand", laid_vellum_api_ErrCommand), ("unicode/utf8.first", laid_unicode_utf8_first)], narrowed := true }
def LinesPlacesUptoSaid : Prop := linesPlacesUptoRow.holds Tryz.pinned (OpenSpec.upto linesPlacesSpec)

/-- 'vellumlaw21.LinesBack', WHERE WHAT IT READS IS OF BULK AT MOST 1048576: true; the input reads as it did. -/
def linesBackUptoRow : OpenClaim := { program := "ytgphmfnkeolbcaagreatdoor", sum := "fa6cb8ed208ebae6bb81d5bbd1b1325755c0517e80a09a9412ac011b8045e822", func := "vellum/vellumlaw21.LinesBack", spec := "linesBack", unfollowed := true, recurses := true, named := ["vellum/api.ErrLong", "vellum/api.ErrOp", "vellum/api.ErrUtf8", "vellum/api.ErrKind", "vellum/api.ErrKey", "unicode/utf8.first", "unicode/utf8.acceptRanges", "vellum/api.ErrLimit", "vellum/api.ErrNull", "vellum/api.ErrAttrs", "vellum/api.ErrEnd", "vellum/api.ErrRange", "vellum/api.ErrJson", "vellum/api.ErrNest", "vellum/api.ErrNumber", "vellum/api.ErrSchema", "vellum/api.ErrEmpty", "vellum/api.ErrMark", "vellum/api.ErrReplica", "vellum/api.ErrBytes", "vellum/api.ErrCommand"], plainKeys := false, apart := false, laid := [("unicode/utf8.acceptRanges", laid_unicode_utf8_acceptRanges), ("vellum/api.ErrUtf8", laid_vellum_api_ErrUtf8), ("vellum/api.ErrJson", laid_vellum_api_ErrJson), ("vellum/api.ErrNest", laid_vellum_api_ErrNest), ("vellum/api.ErrNumber", laid_vellum_api_ErrNumber), ("vellum/api.ErrKind", laid_vellum_api_ErrKind), ("vellum/api.ErrKey", laid_vellum_api_ErrKey), ("vellum/api.ErrNull", laid_vellum_api_ErrNull), ("vellum/api.ErrAttrs", laid_vellum_api_ErrAttrs), ("vellum/api.ErrOp", laid_vellum_api_ErrOp), ("vellum/api.ErrLimit", laid_vellum_api_ErrLimit), ("vellum/api.ErrLong", laid_vellum_api_ErrLong), ("vellum/api.ErrRange", laid_vellum_api_ErrRange), ("vellum/api.ErrSchema", laid_vellum_api_ErrSchema), ("vellum/api.ErrEnd", laid_vellum_api_ErrEnd), ("vellum/api.ErrEmpty", laid_vellum_api_ErrEmpty), ("vellum/api.ErrMark", laid_vellum_api_ErrMark), ("vellum/api.ErrReplica", laid_vellum_api_ErrReplica), ("vellum/api.ErrBytes", laid_vellum_api_ErrBytes), ("vellum/api.ErrCommand", laid_vellum_api_ErrCommand), ("unicode/utf8.first", laid_unicode_utf8_first)], narrowed := true }
def LinesBackUptoSaid : Prop := linesBackUptoRow.holds Tryz.pinned (OpenSpec.upto linesBackSpec)

/-- 'vellumlaw16.DiffLeast', WHERE WHAT IT READS IS OF BULK AT MOST 1048576: true; the input reads as it did. -/
def diffLeastUptoRow : OpenClaim := { program := "ytgphmfnkeolbcaagreatdoor", sum := "fa6cb8ed208ebae6bb81d5bbd1b1325755c0517e80a09a9412ac011b8045e822", func := "vellum/vellumlaw16.DiffLeast", spec := "diffLeast", unfollowed := true, recurses := true, named := ["vellum/api.ErrLong", "vellum/api.ErrOp", "vellum/api.ErrUtf8", "vellum/api.ErrKind", "vellum/api.ErrKey", "unicode/utf8.first", "unicode/utf8.acceptRanges", "vellum/api.ErrLimit", "vellum/api.ErrNull", "vellum/api.ErrAttrs", "vellum/api.ErrJson", "vellum/api.ErrNest", "vellum/api.ErrNumber", "vellum/api.ErrRange", "vellum/api.ErrSchema", "vellum/api.ErrEnd", "vellum/api.ErrEmpty", "vellum/api.ErrMark", "vellum/api.ErrReplica", "vellum/api.ErrBytes", "vellum/api.ErrCommand"], plainKeys := false, apart := false, laid := [("unicode/utf8.acceptRanges", laid_unicode_utf8_acceptRanges), ("vellum/api.ErrUtf8", laid_vellum_api_ErrUtf8), ("vellum/api.ErrJson", laid_vellum_api_ErrJson), ("vellum/api.ErrNest", laid_vellum_api_ErrNest), ("vellum/api.ErrNumber", laid_vellum_api_ErrNumber), ("vellum/api.ErrKind", laid_vellum_api_ErrKind), ("vellum/api.ErrKey", laid_vellum_api_ErrKey), ("vellum/api.ErrNull", laid_vellum_api_ErrNull), ("vellum/api.ErrAttrs", laid_vellum_api_ErrAttrs), ("vellum/api.ErrOp", laid_vellum_api_ErrOp), ("vellum/api.ErrLimit", laid_vellum_api_ErrLimit), ("vellum/api.ErrLong", laid_vellum_api_ErrLong), ("vellum/api.ErrRange", laid_vellum_api_ErrRange), ("vellum/api.ErrSchema", laid_vellum_api_ErrSchema), ("vellum/api.ErrEnd", laid_vellum_api_ErrEnd), ("vellum/api.ErrEmpty", laid_vellum_api_ErrEmpty), ("vellum/api.ErrMark", laid_vellum_api_ErrMark), ("vellum/api.ErrReplica", laid_vellum_api_ErrReplica), ("vellum/api.ErrBytes", laid_vellum_api_ErrBytes), ("vellum/api.ErrCommand", laid_vellum_api_ErrCommand), ("unicode/utf8.first", laid_unicode_utf8_first)], narrowed := true }
def DiffLeastUptoSaid : Prop := diffLeastUptoRow.holds Tryz.pinned (OpenSpec.upto diffLeastSpec)

/-- 'vellumlaw21.LinesAlone', WHERE WHAT IT READS IS OF BULK AT MOST 1048576: true; the input reads as it did. -/
def linesAloneUptoRow : OpenClaim := { program := "ytgphmfnkeolbcaagreatdoor", sum := "fa6cb8ed208ebae6bb81d5bbd1b1325755c0517e80a09a9412ac011b8045e822", func := "vellum/vellumlaw21.LinesAlone", spec := "linesAlone", unfollowed := true, recurses := true, named := ["vellum/api.ErrLong", "vellum/api.ErrOp", "vellum/api.ErrUtf8", "vellum/api.ErrKind", "vellum/api.ErrKey", "unicode/utf8.first", "unicode/utf8.acceptRanges", "vellum/api.ErrLimit", "vellum/api.ErrNull", "vellum/api.ErrAttrs", "vellum/api.ErrEnd", "vellum/api.ErrRange"], plainKeys := false, apart := false, laid := [("unicode/utf8.acceptRanges", laid_unicode_utf8_acceptRanges), ("vellum/api.ErrUtf8", laid_vellum_api_ErrUtf8), ("vellum/api.ErrKind", laid_vellum_api_ErrKind), ("vellum/api.ErrKey", laid_vellum_api_ErrKey), ("vellum/api.ErrNull", laid_vellum_api_ErrNull), ("vellum/api.ErrAttrs", laid_vellum_api_ErrAttrs), ("vellum/api.ErrOp", laid_vellum_api_ErrOp), ("vellum/api.ErrLimit", laid_vellum_api_ErrLimit), ("vellum/api.ErrLong", laid_vellum_api_ErrLong), ("vellum/api.ErrRange", laid_vellum_api_ErrRange), ("vellum/api.ErrEnd", laid_vellum_api_ErrEnd), ("unicode/utf8.first", laid_unicode_utf8_first)], narrowed := true }
def LinesAloneUptoSaid : Prop := linesAloneUptoRow.holds Tryz.pinned (OpenSpec.upto linesAloneSpec)

/-- 'vellumlaw16.DiffNone', WHERE WHAT IT READS IS OF BULK AT MOST 1048576: true; the input reads as it did. -/
def diffNoneUptoRow : OpenClaim := { program := "ytgphmfnkeolbcaagreatdoor", sum := "fa6cb8ed208ebae6bb81d5bbd1b1325755c0517e80a09a9412ac011b8045e822", func := "vellum/vellumlaw16.DiffNone", spec := "diffNone", unfollowed := true, recurses := true, named := ["vellum/api.ErrLong", "vellum/api.ErrOp", "vellum/api.ErrUtf8", "vellum/api.ErrKind", "vellum/api.ErrKey", "unicode/utf8.first", "unicode/utf8.acceptRanges", "vellum/api.ErrLimit", "vellum/api.ErrNull", "vellum/api.ErrAttrs", "vellum/api.ErrRange"], plainKeys := false, apart := false, laid := [("unicode/utf8.acceptRanges", laid_unicode_utf8_acceptRanges), ("vellum/api.ErrUtf8", laid_vellum_api_ErrUtf8), ("vellum/api.ErrKind", laid_vellum_api_ErrKind), ("vellum/api.ErrKey", laid_vellum_api_ErrKey), ("vellum/api.ErrNull", laid_vellum_api_ErrNull), ("vellum/api.ErrAttrs", laid_vellum_api_ErrAttrs), ("vellum/api.ErrOp", laid_vellum_api_ErrOp), ("vellum/api.ErrLimit", laid_vellum_api_ErrLimit), ("vellum/api.ErrLong", laid_vellum_api_ErrLong), ("vellum/api.ErrRange", laid_vellum_api_ErrRange), ("unicode/utf8.first", laid_unicode_utf8_first)], narrowed := true }
def DiffNoneUptoSaid : Prop := diffNoneUptoRow.holds Tryz.pinned (OpenSpec.upto diffNoneSpec)

/-- 'vellumlaw16.DiffLeads', WHERE WHAT IT READS IS OF BULK AT MOST 1048576: true; the input reads as it did. -/
def diffLeadsUptoRow : OpenClaim := { program := "ytgphmfnkeolbcaagreatdoor", sum := "fa6cb8ed208ebae6bb81d5bbd1b1325755c0517e80a09a9412ac011b8045e822", func := "vellum/vellumlaw16.DiffLeads", spec := "diffLeads", unfollowed := true, recurses := true, named := ["vellum/api.ErrLong", "vellum/api.ErrOp", "vellum/api.ErrUtf8", "vellum/api.ErrKind", "vellum/api.ErrKey", "unicode/utf8.first", "unicode/utf8.acceptRanges", "vellum/api.ErrLimit", "vellum/api.ErrNull", "vellum/api.ErrAttrs", "vellum/api.ErrRange"], plainKeys := false, apart := false, laid := [("unicode/utf8.acceptRanges", laid_unicode_utf8_acceptRanges), ("vellum/api.ErrUtf8", laid_vellum_api_ErrUtf8), ("vellum/api.ErrKind", laid_vellum_api_ErrKind), ("vellum/api.ErrKey", laid_vellum_api_ErrKey), ("vellum/api.ErrNull", laid_vellum_api_ErrNull), ("vellum/api.ErrAttrs", laid_vellum_api_ErrAttrs), ("vellum/api.ErrOp", laid_vellum_api_ErrOp), ("vellum/api.ErrLimit", laid_vellum_api_ErrLimit), ("vellum/api.ErrLong", laid_vellum_api_ErrLong), ("vellum/api.ErrRange", laid_vellum_api_ErrRange), ("unicode/utf8.first", laid_unicode_utf8_first)], narrowed := true }
def DiffLeadsUptoSaid : Prop := diffLeadsUptoRow.holds Tryz.pinned (OpenSpec.upto diffLeadsSpec)

end Rows
end Go.Proofs.YtgphmfnkeolbcaaGreatDoor
