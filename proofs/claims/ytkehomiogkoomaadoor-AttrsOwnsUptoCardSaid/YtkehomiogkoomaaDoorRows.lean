/-
  NARROWER THAN 'FOR EVERY INPUT', by the rows' own cells (each row's printed sentence says how): ScalarsTexts: laid · BuildParts: laid · AttrsAsks: laid · AttrsOwns: laid · BuildPieces: laid · BuildTypes: laid · BuildPlays: laid · BuildOf: laid · BuildOwns: laid · BuildCanon: laid · CellsOf: laid · CellsLike: laid.
  DERIVED. THE GIVEN ROWS OF THIS SEAT. 12 by the template 'for every input the law returns true; each argument reads behind the call as it read before'; 0 by the template 'total and deterministic' (their statements: YtkehomiogkoomaaDoorTotals.lean).
  GIVEN WITH THE SEED: the statements are not yours to turn. If you find one false, say at which input.
  Laid BY PROGRAM, IN A SANDBOX (cutbox-rows.mjs): the forced cells as the released guide's own fill.sh prints them over the translation dc8086bb252ce1fa… (all of the seat's roots in one cut). By AI agents, Wed Nov 11 2026. No macro, syntax, notation, axiom, sorry.
-/
import Derived.Test.YtkehomiogkoomaaDoorChecked
import GoSem.PinnedTables
import GoSem.Claim
import GoSem.ClaimJoined
import GoSem.ClaimMapViews
import Derived.JoinedTies
import Derived.KernelRfl
namespace Go.Proofs.YtkehomiogkoomaaDoor
/- THE CELL 'sum', in the pinned program and in every row, IS THE sha256 OF THE DUMP (.gsa) THAT YtkehomiogkoomaaDoorProg.lean LOADS. Nothing in Lean hashes anything: it is a label: what it is worth is what the hold of that sum in a sandbox is worth. -/
noncomputable def Tryd.pinned : Pinned := { name := "ytkehomiogkoomaadoor", sum := "dc8086bb252ce1fa5761019d4b989e137517f13c218859a5fddf446e51df4e06", checked := Tryd.checked }
namespace Rows
def none {H : Type} : Left H := { results := [], args := [] }

/- WHAT THE LISTED PACKAGE-LEVEL VARIABLES READ AS WHEN THE CALL BEGINS. Each datum BY PROGRAM (the guide's laid-datum.mjs) off the statement by which the dump's own 'gosem.cut.vars' lays the variable. In a bare row this is a premise. The card (YtkehomiogkoomaaDoorCards.lean) ties it to the program's text. -/
def laid_unicode_utf8_acceptRanges {H : Type} : DataW H := .agg [.agg [.lit (.int .u8 128), .lit (.int .u8 191)], .agg [.lit (.int .u8 160), .lit (.int .u8 191)], .agg [.lit (.int .u8 128), .lit (.int .u8 159)], .agg [.lit (.int .u8 144), .lit (.int .u8 191)], .agg [.lit (.int .u8 128), .lit (.int .u8 143)], .agg [.lit (.int .u8 0), .lit (.int .u8 0)], .agg [.lit (.int .u8 0), .lit (.int .u8 0)], .agg [.lit (.int .u8 0), .lit (.int .u8 0)], .agg [.lit (.int .u8 0), .lit (.int .u8 0)], .agg [.lit (.int .u8 0), .lit (.int .u8 0)], .agg [.lit (.int .u8 0), .lit (.int .u8 0)], .agg [.lit (.int .u8 0), .lit (.int .u8 0)], .agg [.lit (.int .u8 0), .lit (.int .u8 0)], .agg [.lit (.int .u8 0), .lit (.int .u8 0)], .agg [.lit (.int .u8 0), .lit (.int .u8 0)], .agg [.lit (.int .u8 0), .lit (.int .u8 0)]]
def laid_vellum_api_ErrUtf8 {H : Type} : DataW H := .iface "*errors.errorString" (.ptr (.agg [.lit (.string [118, 101, 108, 108, 117, 109, 58, 32, 117, 116, 102, 45, 56])]))
def laid_vellum_api_ErrJson {H : Type} : DataW H := .iface "*errors.errorString" (.ptr (.agg [.lit (.string [118, 101, 108, 108, 117, 109, 58, 32, 106, 115, 111, 110])]))
def laid_vellum_api_ErrNest {H : Type} : DataW H := .iface "*errors.errorString" (.ptr (.agg [.lit (.string [118, 101, 108, 108, 117, 109, 58, 32, 110, 101, 115, 116, 105, 110, 103])]))
def laid_vellum_api_ErrNumber {H : Type} : DataW H := .iface "*errors.errorString" (.ptr (.agg [.lit (.string [118, 101, 108, 108, 117, 109, 58, 32, 110, 117, 109, 98, 101, 114])]))
def laid_vellum_api_ErrKind {H : Type} : DataW H := .iface "*errors.errorString" (.ptr (.agg [.lit (.string [118, 101, 108, 108, 117, 109, 58, 32, 107, 105, 110, 100])]))
def laid_vellum_api_ErrKey {H : Type} : DataW H := .iface "*errors.errorString" (.ptr (.agg [.lit (.string [118, 101, 108, 108, 117, 109, 58, 32, 107, 101, 121])]))
def laid_vellum_api_ErrNull {H : Type} : DataW H := .iface "*errors.errorString" (.ptr (.agg [.lit (.string [118, 101, 108, 108, 117, 109, 58, 32, 110, 117, 108, 108])]))
def laid_vellum_api_ErrAttrs {H : Type} : DataW H := .iface "*errors.errorString" (.ptr (.agg [.lit (.string [118, 101, 108, 108, 117, 109, 58, 32, 97, 116, 116, 114, 105, 98, 117, 116, 101, 115])]))
def laid_vellum_api_ErrOp {H : Type} : DataW H := .iface "*errors.errorString" (.ptr (.agg [.lit (.string [118, 101, 108, 108, 117, 109, 58, 32, 111, 112, 101, 114, 97, 116, 105, 111, 110])]))
def laid_vellum_api_ErrLimit {H : Type} : DataW H := .iface "*errors.errorString" (.ptr (.agg [.lit (.string [118, 101, 108, 108, 117, 109, 58, 32, 108, 105, 109, 105, 116])]))
def laid_vellum_api_ErrLong {H : Type} : DataW H := .iface "*errors.errorString" (.ptr (.agg [.lit (.string [118, 101, 108, 108, 117, 109, 58, 32, 108, 111, 110, 103])]))
def laid_vellum_api_ErrRange {H : Type} : DataW H := .iface "*errors.errorString" (.ptr (.agg [.lit (.string [118, 101, 108, 108, 117, 109, 58, 32, 114, 97, 110, 103, 101])]))
def laid_vellum_api_ErrSchema {H : Type} : DataW H := .iface "*errors.errorString" (.ptr (.agg [.lit (.string [118, 101, 108, 108, 117, 109, 58, 32, 115, 99, 104, 101, 109, 97])]))
def laid_vellum_api_ErrEnd {H : Type} : DataW H := .iface "*errors.errorString" (.ptr (.agg [.lit (.string [118, 101, 108, 108, 117, 109, 58, 32, 101, 110, 100])]))
def laid_vellum_api_ErrEmpty {H : Type} : DataW H := .iface "*errors.errorString" (.ptr (.agg [.lit (.string [118, 101, 108, 108, 117, 109, 58, 32, 101, 109, 112, 116, 121])]))
def laid_vellum_api_ErrMark {H : Type} : DataW H := .iface "*errors.errorString" (.ptr (.agg [.lit (.string [118, 101, 108, 108, 117, 109, 58, 32, 109, 97, 114, 107])]))
def laid_vellum_api_ErrReplica {H : Type} : DataW H := .iface "*errors.errorString" (.ptr (.agg [.lit (.string [118, 101, 108, 108, 117, 109, 58, 32, 114, 101, 112, 108, 105, 99, 97])]))
def laid_vellum_api_ErrBytes {H : Type} : DataW H := .iface "*errors.errorString" (.ptr (.agg [.lit (.string [118, 101, 108, 108, 117, 109, 58, 32, 98, 121, 116, 101, 115])]))
def laid_vellum_api_ErrCommand {H : Type} : DataW H := .iface "*errors.errorString" (.ptr (.agg [.lit (.string [118, 101, 108, 108, 117, 109, 58, 32, 99, 111, 109, 109, 97, 110, 100])]))
/-- One of Go's own tables, pinned by name: the form's constant. -/
def laid_unicode_utf8_first : DataW Unit := Go.Pinned.utf8First

/-- 'vellumlaw01.ScalarsTexts': WHATEVER THE INPUT: true; the input reads as it did. -/
def scalarsTextsSpec : ChangeSpec := { name := "scalarsTexts", fn := fun _ => fun
  | [d1, d2] => { results := [.lit (.bool true)], args := [d1, d2] }
  | _ => none }
def scalarsTextsRow : OpenClaim := { program := "ytkehomiogkoomaadoor", sum := "dc8086bb252ce1fa5761019d4b989e137517f13c218859a5fddf446e51df4e06", func := "vellum/vellumlaw01.ScalarsTexts", spec := "scalarsTexts", unfollowed := true, recurses := true, named := ["vellum/api.ErrUtf8", "unicode/utf8.first", "unicode/utf8.acceptRanges", "vellum/api.ErrRange", "vellum/api.ErrJson", "vellum/api.ErrNest", "vellum/api.ErrNumber", "vellum/api.ErrKind", "vellum/api.ErrKey", "vellum/api.ErrNull", "vellum/api.ErrAttrs", "vellum/api.ErrOp", "vellum/api.ErrLimit", "vellum/api.ErrLong", "vellum/api.ErrSchema", "vellum/api.ErrEnd", "vellum/api.ErrEmpty", "vellum/api.ErrMark", "vellum/api.ErrReplica", "vellum/api.ErrBytes", "vellum/api.ErrCommand"], apart := false, laid := [("unicode/utf8.acceptRanges", laid_unicode_utf8_acceptRanges), ("vellum/api.ErrUtf8", laid_vellum_api_ErrUtf8), ("vellum/api.ErrJson", laid_vellum_api_ErrJson), ("vellum/api.ErrNest", laid_vellum_api_ErrNest), ("vellum/api.ErrNumber", laid_vellum_api_ErrNumber), ("vellum/api.ErrKind", laid_vellum_api_ErrKind), ("vellum/api.ErrKey", laid_vellum_api_ErrKey), ("vellum/api.ErrNull", laid_vellum_api_ErrNull), ("vellum/api.ErrAttrs", laid_vellum_api_ErrAttrs), ("vellum/api.ErrOp", laid_vellum_api_ErrOp), ("vellum/api.ErrLimit", laid_vellum_api_ErrLimit), ("vellum/api.ErrLong", laid_vellum_api_ErrLong), ("vellum/api.ErrRange", laid_vellum_api_ErrRange), ("vellum/api.ErrSchema", laid_vellum_api_ErrSchema), ("vellum/api.ErrEnd", laid_vellum_api_ErrEnd), ("vellum/api.ErrEmpty", laid_vellum_api_ErrEmpty), ("vellum/api.ErrMark", laid_vellum_api_ErrMark), ("vellum/api.ErrReplica", laid_vellum_api_ErrReplica), ("vellum/api.ErrBytes", laid_vellum_api_ErrBytes), ("vellum/api.ErrCommand", laid_vellum_api_ErrCommand), ("unicode/utf8.first", laid_unicode_utf8_first)] }
def ScalarsTextsSaid : Prop := scalarsTextsRow.holds Tryd.pinned (OpenSpec.ofChange scalarsTextsSpec)

/-- ITS FALSE NEIGHBOUR: 'it returns false'. Refute it at one input. -/
def scalarsTextsWrong : ChangeSpec := { name := "scalarsTexts", fn := fun _ => fun
  | [d1, d2] => { results := [.lit (.bool false)], args := [d1, d2] }
  | _ => none }
def ScalarsTextsWrongFalsely : Prop := scalarsTextsRow.holds Tryd.pinned (OpenSpec.ofChange scalarsTextsWrong)

/-- 'vellumlaw06.BuildParts': WHATEVER THE INPUT: true; the input reads as it did. -/
def buildPartsSpec : ChangeSpec := { name := "buildParts", fn := fun _ => fun
  | [d1, d2] => { results := [.lit (.bool true)], args := [d1, d2] }
  | _ => none }
def buildPartsRow : OpenClaim := { program := "ytkehomiogkoomaadoor", sum := "dc8086bb252ce1fa5761019d4b989e137517f13c218859a5fddf446e51df4e06", func := "vellum/vellumlaw06.BuildParts", spec := "buildParts", unfollowed := true, recurses := true, named := ["vellum/api.ErrLong", "vellum/api.ErrOp", "vellum/api.ErrUtf8", "vellum/api.ErrKind", "vellum/api.ErrKey", "unicode/utf8.first", "unicode/utf8.acceptRanges", "vellum/api.ErrLimit", "vellum/api.ErrNull", "vellum/api.ErrAttrs"], apart := false, laid := [("unicode/utf8.acceptRanges", laid_unicode_utf8_acceptRanges), ("vellum/api.ErrUtf8", laid_vellum_api_ErrUtf8), ("vellum/api.ErrKind", laid_vellum_api_ErrKind), ("vellum/api.ErrKey", laid_vellum_api_ErrKey), ("vellum/api.ErrNull", laid_vellum_api_ErrNull), ("vellum/api.ErrAttrs", laid_vellum_api_ErrAttrs), ("vellum/api.ErrOp", laid_vellum_api_ErrOp), ("vellum/api.ErrLimit", laid_vellum_api_ErrLimit), ("vellum/api.ErrLong", laid_vellum_api_ErrLong), ("unicode/utf8.first", laid_unicode_utf8_first)] }
def BuildPartsSaid : Prop := buildPartsRow.holds Tryd.pinned (OpenSpec.ofChange buildPartsSpec)

/-- ITS FALSE NEIGHBOUR: 'it returns false'. Refute it at one input. -/
def buildPartsWrong : ChangeSpec := { name := "buildParts", fn := fun _ => fun
  | [d1, d2] => { results := [.lit (.bool false)], args := [d1, d2] }
  | _ => none }
def BuildPartsWrongFalsely : Prop := buildPartsRow.holds Tryd.pinned (OpenSpec.ofChange buildPartsWrong)

/-- 'vellumlaw03.AttrsAsks': WHATEVER THE INPUT: true; the input reads as it did. -/
def attrsAsksSpec : ChangeSpec := { name := "attrsAsks", fn := fun _ => fun
  | [d1, d2, d3] => { results := [.lit (.bool true)], args := [d1, d2, d3] }
  | _ => none }
def attrsAsksRow : OpenClaim := { program := "ytkehomiogkoomaadoor", sum := "dc8086bb252ce1fa5761019d4b989e137517f13c218859a5fddf446e51df4e06", func := "vellum/vellumlaw03.AttrsAsks", spec := "attrsAsks", inPlace := ["slices.overlaps[vellum/api.Attr]"], unfollowed := true, recurses := true, named := ["vellum/api.ErrNull", "vellum/api.ErrAttrs", "vellum/api.ErrKey", "vellum/api.ErrUtf8", "unicode/utf8.first", "unicode/utf8.acceptRanges", "vellum/api.ErrKind", "vellum/api.ErrLimit", "vellum/api.ErrJson", "vellum/api.ErrNest", "vellum/api.ErrNumber", "vellum/api.ErrOp", "vellum/api.ErrLong", "vellum/api.ErrRange", "vellum/api.ErrSchema", "vellum/api.ErrEnd", "vellum/api.ErrEmpty", "vellum/api.ErrMark", "vellum/api.ErrReplica", "vellum/api.ErrBytes", "vellum/api.ErrCommand"], apart := false, laid := [("unicode/utf8.acceptRanges", laid_unicode_utf8_acceptRanges), ("vellum/api.ErrUtf8", laid_vellum_api_ErrUtf8), ("vellum/api.ErrJson", laid_vellum_api_ErrJson), ("vellum/api.ErrNest", laid_vellum_api_ErrNest), ("vellum/api.ErrNumber", laid_vellum_api_ErrNumber), ("vellum/api.ErrKind", laid_vellum_api_ErrKind), ("vellum/api.ErrKey", laid_vellum_api_ErrKey), ("vellum/api.ErrNull", laid_vellum_api_ErrNull), ("vellum/api.ErrAttrs", laid_vellum_api_ErrAttrs), ("vellum/api.ErrOp", laid_vellum_api_ErrOp), ("vellum/api.ErrLimit", laid_vellum_api_ErrLimit), ("vellum/api.ErrLong", laid_vellum_api_ErrLong), ("vellum/api.ErrRange", laid_vellum_api_ErrRange), ("vellum/api.ErrSchema", laid_vellum_api_ErrSchema), ("vellum/api.ErrEnd", laid_vellum_api_ErrEnd), ("vellum/api.ErrEmpty", laid_vellum_api_ErrEmpty), ("vellum/api.ErrMark", laid_vellum_api_ErrMark), ("vellum/api.ErrReplica", laid_vellum_api_ErrReplica), ("vellum/api.ErrBytes", laid_vellum_api_ErrBytes), ("vellum/api.ErrCommand", laid_vellum_api_ErrCommand), ("unicode/utf8.first", laid_unicode_utf8_first)] }
def AttrsAsksSaid : Prop := attrsAsksRow.holds Tryd.pinned (OpenSpec.ofChange attrsAsksSpec)

/-- ITS FALSE NEIGHBOUR: 'it returns false'. Refute it at one input. -/
def attrsAsksWrong : ChangeSpec := { name := "attrsAsks", fn := fun _ => fun
  | [d1, d2, d3] => { results := [.lit (.bool false)], args := [d1, d2, d3] }
  | _ => none }
def AttrsAsksWrongFalsely : Prop := attrsAsksRow.holds Tryd.pinned (OpenSpec.ofChange attrsAsksWrong)

/-- 'vellumlaw03.AttrsOwns': WHATEVER THE INPUT: true; the input reads as it did. -/
def attrsOwnsSpec : ChangeSpec := { name := "attrsOwns", fn := fun _ => fun
  | [d1, d2, d3] => { results := [.lit (.bool true)], args := [d1, d2, d3] }
  | _ => none }
def attrsOwnsRow : OpenClaim := { program := "ytkehomiogkoomaadoor", sum := "dc8086bb252ce1fa5761019d4b989e137517f13c218859a5fddf446e51df4e06", func := "vellum/vellumlaw03.AttrsOwns", spec := "attrsOwns", inPlace := ["slices.overlaps[vellum/api.Attr]"], unfollowed := true, recurses := true, named := ["vellum/api.ErrNull", "vellum/api.ErrAttrs", "vellum/api.ErrKey", "vellum/api.ErrUtf8", "unicode/utf8.first", "unicode/utf8.acceptRanges", "vellum/api.ErrKind", "vellum/api.ErrLimit"], apart := false, laid := [("unicode/utf8.acceptRanges", laid_unicode_utf8_acceptRanges), ("vellum/api.ErrUtf8", laid_vellum_api_ErrUtf8), ("vellum/api.ErrKind", laid_vellum_api_ErrKind), ("vellum/api.ErrKey", laid_vellum_api_ErrKey), ("vellum/api.ErrNull", laid_vellum_api_ErrNull), ("vellum/api.ErrAttrs", laid_vellum_api_ErrAttrs), ("vellum/api.ErrLimit", laid_vellum_api_ErrLimit), ("unicode/utf8.first", laid_unicode_utf8_first)] }
def AttrsOwnsSaid : Prop := attrsOwnsRow.holds Tryd.pinned (OpenSpec.ofChange attrsOwnsSpec)

/-- ITS FALSE NEIGHBOUR: 'it returns false'. Refute it at one input. -/
def attrsOwnsWrong : ChangeSpec := { name := "attrsOwns", fn := fun _ => fun
  | [d1, d2, d3] => { results := [.lit (.bool false)], args := [d1, d2, d3] }
  | _ => none }
def AttrsOwnsWrongFalsely : Prop := attrsOwnsRow.holds Tryd.pinned (OpenSpec.ofChange attrsOwnsWrong)

/-- 'vellumlaw06.BuildPieces': WHATEVER THE INPUT: true; the input reads as it did. -/
def buildPiecesSpec : ChangeSpec := { name := "buildPieces", fn := fun _ => fun
  | [d] => { results := [.lit (.bool true)], args := [d] }
  | _ => none }
def buildPiecesRow : OpenClaim := { program := "ytkehomiogkoomaadoor", sum := "dc8086bb252ce1fa5761019d4b989e137517f13c218859a5fddf446e51df4e06", func := "vellum/vellumlaw06.BuildPieces", spec := "buildPieces", unfollowed := true, recurses := true, named := ["vellum/api.ErrLong", "vellum/api.ErrOp", "vellum/api.ErrUtf8", "vellum/api.ErrKind", "vellum/api.ErrKey", "unicode/utf8.first", "unicode/utf8.acceptRanges", "vellum/api.ErrLimit", "vellum/api.ErrNull", "vellum/api.ErrAttrs"], apart := false, laid := [("unicode/utf8.acceptRanges", laid_unicode_utf8_acceptRanges), ("vellum/api.ErrUtf8", laid_vellum_api_ErrUtf8), ("vellum/api.ErrKind", laid_vellum_api_ErrKind), ("vellum/api.ErrKey", laid_vellum_api_ErrKey), ("vellum/api.ErrNull", laid_vellum_api_ErrNull), ("vellum/api.ErrAttrs", laid_vellum_api_ErrAttrs), ("vellum/api.ErrOp", laid_vellum_api_ErrOp), ("vellum/api.ErrLimit", laid_vellum_api_ErrLimit), ("vellum/api.ErrLong", laid_vellum_api_ErrLong), ("unicode/utf8.first", laid_unicode_utf8_first)] }
def BuildPiecesSaid : Prop := buildPiecesRow.holds Tryd.pinned (OpenSpec.ofChange buildPiecesSpec)

/-- ITS FALSE NEIGHBOUR: 'it returns false'. Refute it at one input. -/
def buildPiecesWrong : ChangeSpec := { name := "buildPieces", fn := fun _ => fun
  | [d] => { results := [.lit (.bool false)], args := [d] }
  | _ => none }
def BuildPiecesWrongFalsely : Prop := buildPiecesRow.holds Tryd.pinned (OpenSpec.ofChange buildPiecesWrong)

/-- 'vellumlaw06.BuildTypes': WHATEVER THE INPUT: true; the input reads as it did. -/
def buildTypesSpec : ChangeSpec := { name := "buildTypes", fn := fun _ => fun
  | [d] => { results := [.lit (.bool true)], args := [d] }
  | _ => none }
def buildTypesRow : OpenClaim := { program := "ytkehomiogkoomaadoor", sum := "dc8086bb252ce1fa5761019d4b989e137517f13c218859a5fddf446e51df4e06", func := "vellum/vellumlaw06.BuildTypes", spec := "buildTypes", unfollowed := true, recurses := true, named := ["vellum/api.ErrLong", "vellum/api.ErrOp", "vellum/api.ErrUtf8", "vellum/api.ErrKind", "vellum/api.ErrKey", "unicode/utf8.first", "unicode/utf8.acceptRanges", "vellum/api.ErrLimit", "vellum/api.ErrNull", "vellum/api.ErrAttrs"], apart := false, laid := [("unicode/utf8.acceptRanges", laid_unicode_utf8_acceptRanges), ("vellum/api.ErrUtf8", laid_vellum_api_ErrUtf8), ("vellum/api.ErrKind", laid_vellum_api_ErrKind), ("vellum/api.ErrKey", laid_vellum_api_ErrKey), ("vellum/api.ErrNull", laid_vellum_api_ErrNull), ("vellum/api.ErrAttrs", laid_vellum_api_ErrAttrs), ("vellum/api.ErrOp", laid_vellum_api_ErrOp), ("vellum/api.ErrLimit", laid_vellum_api_ErrLimit), ("vellum/api.ErrLong", laid_vellum_api_ErrLong), ("unicode/utf8.first", laid_unicode_utf8_first)] }
def BuildTypesSaid : Prop := buildTypesRow.holds Tryd.pinned (OpenSpec.ofChange buildTypesSpec)

/-- ITS FALSE NEIGHBOUR: 'it returns false'. Refute it at one input. -/
def buildTypesWrong : ChangeSpec := { name := "buildTypes", fn := fun _ => fun
  | [d] => { results := [.lit (.bool false)], args := [d] }
  | _ => none }
def BuildTypesWrongFalsely : Prop := buildTypesRow.holds Tryd.pinned (OpenSpec.ofChange buildTypesWrong)

/-- 'vellumlaw06.BuildPlays': WHATEVER THE INPUT: true; the input reads as it did. -/
def buildPlaysSpec : ChangeSpec := { name := "buildPlays", fn := fun _ => fun
  | [d] => { results := [.lit (.bool true)], args := [d] }
  | _ => none }
def buildPlaysRow : OpenClaim := { program := "ytkehomiogkoomaadoor", sum := "dc8086bb252ce1fa5761019d4b989e137517f13c218859a5fddf446e51df4e06", func := "vellum/vellumlaw06.BuildPlays", spec := "buildPlays", unfollowed := true, recurses := true, named := ["vellum/api.ErrLong", "vellum/api.ErrOp", "vellum/api.ErrUtf8", "vellum/api.ErrKind", "vellum/api.ErrKey", "unicode/utf8.first", "unicode/utf8.acceptRanges", "vellum/api.ErrLimit", "vellum/api.ErrNull", "vellum/api.ErrAttrs", "vellum/api.ErrBytes", "vellum/api.ErrJson", "vellum/api.ErrNest", "vellum/api.ErrNumber", "vellum/api.ErrRange", "vellum/api.ErrSchema", "vellum/api.ErrEnd", "vellum/api.ErrEmpty", "vellum/api.ErrMark", "vellum/api.ErrReplica", "vellum/api.ErrCommand"], apart := false, laid := [("unicode/utf8.acceptRanges", laid_unicode_utf8_acceptRanges), ("vellum/api.ErrUtf8", laid_vellum_api_ErrUtf8), ("vellum/api.ErrJson", laid_vellum_api_ErrJson), ("vellum/api.ErrNest", laid_vellum_api_ErrNest), ("vellum/api.ErrNumber", laid_vellum_api_ErrNumber), ("vellum/api.ErrKind", laid_vellum_api_ErrKind), ("vellum/api.ErrKey", laid_vellum_api_ErrKey), ("vellum/api.ErrNull", laid_vellum_api_ErrNull), ("vellum/api.ErrAttrs", laid_vellum_api_ErrAttrs), ("vellum/api.ErrOp", laid_vellum_api_ErrOp), ("vellum/api.ErrLimit", laid_vellum_api_ErrLimit), ("vellum/api.ErrLong", laid_vellum_api_ErrLong), ("vellum/api.ErrRange", laid_vellum_api_ErrRange), ("vellum/api.ErrSchema", laid_vellum_api_ErrSchema), ("vellum/api.ErrEnd", laid_vellum_api_ErrEnd), ("vellum/api.ErrEmpty", laid_vellum_api_ErrEmpty), ("vellum/api.ErrMark", laid_vellum_api_ErrMark), ("vellum/api.ErrReplica", laid_vellum_api_ErrReplica), ("vellum/api.ErrBytes", laid_vellum_api_ErrBytes), ("vellum/api.ErrCommand", laid_vellum_api_ErrCommand), ("unicode/utf8.first", laid_unicode_utf8_first)] }
def BuildPlaysSaid : Prop := buildPlaysRow.holds Tryd.pinned (OpenSpec.ofChange buildPlaysSpec)

/-- ITS FALSE NEIGHBOUR: 'it returns false'. Refute it at one input. -/
def buildPlaysWrong : ChangeSpec := { name := "buildPlays", fn := fun _ => fun
  | [d] => { results := [.lit (.bool false)], args := [d] }
  | _ => none }
def BuildPlaysWrongFalsely : Prop := buildPlaysRow.holds Tryd.pinned (OpenSpec.ofChange buildPlaysWrong)

/-- 'vellumlaw06.BuildOf': WHATEVER THE INPUT: true; the input reads as it did. -/
def buildOfSpec : ChangeSpec := { name := "buildOf", fn := fun _ => fun
  | [d] => { results := [.lit (.bool true)], args := [d] }
  | _ => none }
def buildOfRow : OpenClaim := { program := "ytkehomiogkoomaadoor", sum := "dc8086bb252ce1fa5761019d4b989e137517f13c218859a5fddf446e51df4e06", func := "vellum/vellumlaw06.BuildOf", spec := "buildOf", unfollowed := true, recurses := true, named := ["vellum/api.ErrLong", "vellum/api.ErrOp", "vellum/api.ErrUtf8", "vellum/api.ErrKind", "vellum/api.ErrKey", "unicode/utf8.first", "unicode/utf8.acceptRanges", "vellum/api.ErrLimit", "vellum/api.ErrNull", "vellum/api.ErrAttrs", "vellum/api.ErrJson", "vellum/api.ErrNest", "vellum/api.ErrNumber", "vellum/api.ErrRange", "vellum/api.ErrSchema", "vellum/api.ErrEnd", "vellum/api.ErrEmpty", "vellum/api.ErrMark", "vellum/api.ErrReplica", "vellum/api.ErrBytes", "vellum/api.ErrCommand"], apart := false, laid := [("unicode/utf8.acceptRanges", laid_unicode_utf8_acceptRanges), ("vellum/api.ErrUtf8", laid_vellum_api_ErrUtf8), ("vellum/api.ErrJson", laid_vellum_api_ErrJson), ("vellum/api.ErrNest", laid_vellum_api_ErrNest), ("vellum/api.ErrNumber", laid_vellum_api_ErrNumber), ("vellum/api.ErrKind", laid_vellum_api_ErrKind), ("vellum/api.ErrKey", laid_vellum_api_ErrKey), ("vellum/api.ErrNull", laid_vellum_api_ErrNull), ("vellum/api.ErrAttrs", laid_vellum_api_ErrAttrs), ("vellum/api.ErrOp", laid_vellum_api_ErrOp), ("vellum/api.ErrLimit", laid_vellum_api_ErrLimit), ("vellum/api.ErrLong", laid_vellum_api_ErrLong), ("vellum/api.ErrRange", laid_vellum_api_ErrRange), ("vellum/api.ErrSchema", laid_vellum_api_ErrSchema), ("vellum/api.ErrEnd", laid_vellum_api_ErrEnd), ("vellum/api.ErrEmpty", laid_vellum_api_ErrEmpty), ("vellum/api.ErrMark", laid_vellum_api_ErrMark), ("vellum/api.ErrReplica", laid_vellum_api_ErrReplica), ("vellum/api.ErrBytes", laid_vellum_api_ErrBytes), ("vellum/api.ErrCommand", laid_vellum_api_ErrCommand), ("unicode/utf8.first", laid_unicode_utf8_first)] }
def BuildOfSaid : Prop := buildOfRow.holds Tryd.pinned (OpenSpec.ofChange buildOfSpec)

/-- ITS FALSE NEIGHBOUR: 'it returns false'. Refute it at one input. -/
def buildOfWrong : ChangeSpec := { name := "buildOf", fn := fun _ => fun
  | [d] => { results := [.lit (.bool false)], args := [d] }
  | _ => none }
def BuildOfWrongFalsely : Prop := buildOfRow.holds Tryd.pinned (OpenSpec.ofChange buildOfWrong)

/-- 'vellumlaw06.BuildOwns': WHATEVER THE INPUT: true; the input reads as it did. -/
def buildOwnsSpec : ChangeSpec := { name := "buildOwns", fn := fun _ => fun
  | [d] => { results := [.lit (.bool true)], args := [d] }
  | _ => none }
def buildOwnsRow : OpenClaim := { program := "ytkehomiogkoomaadoor", sum := "dc8086bb252ce1fa5761019d4b989e137517f13c218859a5fddf446e51df4e06", func := "vellum/vellumlaw06.BuildOwns", spec := "buildOwns", unfollowed := true, recurses := true, named := ["vellum/api.ErrLong", "vellum/api.ErrOp", "vellum/api.ErrUtf8", "vellum/api.ErrKind", "vellum/api.ErrKey", "unicode/utf8.first", "unicode/utf8.acceptRanges", "vellum/api.ErrLimit", "vellum/api.ErrNull", "vellum/api.ErrAttrs"], apart := false, laid := [("unicode/utf8.acceptRanges", laid_unicode_utf8_acceptRanges), ("vellum/api.ErrUtf8", laid_vellum_api_ErrUtf8), ("vellum/api.ErrKind", laid_vellum_api_ErrKind), ("vellum/api.ErrKey", laid_vellum_api_ErrKey), ("vellum/api.ErrNull", laid_vellum_api_ErrNull), ("vellum/api.ErrAttrs", laid_vellum_api_ErrAttrs), ("vellum/api.ErrOp", laid_vellum_api_ErrOp), ("vellum/api.ErrLimit", laid_vellum_api_ErrLimit), ("vellum/api.ErrLong", laid_vellum_api_ErrLong), ("unicode/utf8.first", laid_unicode_utf8_first)] }
def BuildOwnsSaid : Prop := buildOwnsRow.holds Tryd.pinned (OpenSpec.ofChange buildOwnsSpec)

/-- ITS FALSE NEIGHBOUR: 'it returns false'. Refute it at one input. -/
def buildOwnsWrong : ChangeSpec := { name := "buildOwns", fn := fun _ => fun
  | [d] => { results := [.lit (.bool false)], args := [d] }
  | _ => none }
def BuildOwnsWrongFalsely : Prop := buildOwnsRow.holds Tryd.pinned (OpenSpec.ofChange buildOwnsWrong)

/-- 'vellumlaw06.BuildCanon': WHATEVER THE INPUT: true; the input reads as it did. -/
def buildCanonSpec : ChangeSpec := { name := "buildCanon", fn := fun _ => fun
  | [d1, d2] => { results := [.lit (.bool true)], args := [d1, d2] }
  | _ => none }
def buildCanonRow : OpenClaim := { program := "ytkehomiogkoomaadoor", sum := "dc8086bb252ce1fa5761019d4b989e137517f13c218859a5fddf446e51df4e06", func := "vellum/vellumlaw06.BuildCanon", spec := "buildCanon", unfollowed := true, recurses := true, named := ["vellum/api.ErrLong", "vellum/api.ErrOp", "vellum/api.ErrUtf8", "vellum/api.ErrKind", "vellum/api.ErrKey", "unicode/utf8.first", "unicode/utf8.acceptRanges", "vellum/api.ErrLimit", "vellum/api.ErrNull", "vellum/api.ErrAttrs"], apart := false, laid := [("unicode/utf8.acceptRanges", laid_unicode_utf8_acceptRanges), ("vellum/api.ErrUtf8", laid_vellum_api_ErrUtf8), ("vellum/api.ErrKind", laid_vellum_api_ErrKind), ("vellum/api.ErrKey", laid_vellum_api_ErrKey), ("vellum/api.ErrNull", laid_vellum_api_ErrNull), ("vellum/api.ErrAttrs", laid_vellum_api_ErrAttrs), ("vellum/api.ErrOp", laid_vellum_api_ErrOp), ("vellum/api.ErrLimit", laid_vellum_api_ErrLimit), ("vellum/api.ErrLong", laid_vellum_api_ErrLong), ("unicode/utf8.first", laid_unicode_utf8_first)] }
def BuildCanonSaid : Prop := buildCanonRow.holds Tryd.pinned (OpenSpec.ofChange buildCanonSpec)

/-- ITS FALSE NEIGHBOUR: 'it returns false'. Refute it at one input. -/
def buildCanonWrong : ChangeSpec := { name := "buildCanon", fn := fun _ => fun
  | [d1, d2] => { results := [.lit (.bool false)], args := [d1, d2] }
  | _ => none }
def BuildCanonWrongFalsely : Prop := buildCanonRow.holds Tryd.pinned (OpenSpec.ofChange buildCanonWrong)

/-- 'vellumlaw09.CellsOf': WHATEVER THE INPUT: true; the input reads as it did. -/
def cellsOfSpec : ChangeSpec := { name := "cellsOf", fn := fun _ => fun
  | [d] => { results := [.lit (.bool true)], args := [d] }
  | _ => none }
def cellsOfRow : OpenClaim := { program := "ytkehomiogkoomaadoor", sum := "dc8086bb252ce1fa5761019d4b989e137517f13c218859a5fddf446e51df4e06", func := "vellum/vellumlaw09.CellsOf", spec := "cellsOf", unfollowed := true, recurses := true, named := ["vellum/api.ErrKey", "vellum/api.ErrKind", "vellum/api.ErrUtf8", "unicode/utf8.first", "unicode/utf8.acceptRanges", "vellum/api.ErrLimit", "vellum/api.ErrNull", "vellum/api.ErrAttrs", "vellum/api.ErrLong", "vellum/api.ErrOp", "vellum/api.ErrJson", "vellum/api.ErrNest", "vellum/api.ErrNumber", "vellum/api.ErrRange", "vellum/api.ErrSchema", "vellum/api.ErrEnd", "vellum/api.ErrEmpty", "vellum/api.ErrMark", "vellum/api.ErrReplica", "vellum/api.ErrBytes", "vellum/api.ErrCommand"], apart := false, laid := [("unicode/utf8.acceptRanges", laid_unicode_utf8_acceptRanges), ("vellum/api.ErrUtf8", laid_vellum_api_ErrUtf8), ("vellum/api.ErrJson", laid_vellum_api_ErrJson), ("vellum/api.ErrNest", laid_vellum_api_ErrNest), ("vellum/api.ErrNumber", laid_vellum_api_ErrNumber), ("vellum/api.ErrKind", laid_vellum_api_ErrKind), ("vellum/api.ErrKey", laid_vellum_api_ErrKey), ("vellum/api.ErrNull", laid_vellum_api_ErrNull), ("vellum/api.ErrAttrs", laid_vellum_api_ErrAttrs), ("vellum/api.ErrOp", laid_vellum_api_ErrOp), ("vellum/api.ErrLimit", laid_vellum_api_ErrLimit), ("vellum/api.ErrLong", laid_vellum_api_ErrLong), ("vellum/api.ErrRange", laid_vellum_api_ErrRange), ("vellum/api.ErrSchema", laid_vellum_api_ErrSchema), ("vellum/api.ErrEnd", laid_vellum_api_ErrEnd), ("vellum/api.ErrEmpty", laid_vellum_api_ErrEmpty), ("vellum/api.ErrMark", laid_vellum_api_ErrMark), ("vellum/api.ErrReplica", laid_vellum_api_ErrReplica), ("vellum/api.ErrBytes", laid_vellum_api_ErrBytes), ("vellum/api.ErrCommand", laid_vellum_api_ErrCommand), ("unicode/utf8.first", laid_unicode_utf8_first)] }
def CellsOfSaid : Prop := cellsOfRow.holds Tryd.pinned (OpenSpec.ofChange cellsOfSpec)

/-- ITS FALSE NEIGHBOUR: 'it returns false'. Refute it at one input. -/
def cellsOfWrong : ChangeSpec := { name := "cellsOf", fn := fun _ => fun
  | [d] => { results := [.lit (.bool false)], args := [d] }
  | _ => none }
def CellsOfWrongFalsely : Prop := cellsOfRow.holds Tryd.pinned (OpenSpec.ofChange cellsOfWrong)

/-- 'vellumlaw09.CellsLike': WHATEVER THE INPUT: true; the input reads as it did. -/
def cellsLikeSpec : ChangeSpec := { name := "cellsLike", fn := fun _ => fun
  | [d1, d2] => { results := [.lit (.bool true)], args := [d1, d2] }
  | _ => none }
def cellsLikeRow : OpenClaim := { program := "ytkehomiogkoomaadoor", sum := "dc8086bb252ce1fa5761019d4b989e137517f13c218859a5fddf446e51df4e06", func := "vellum/vellumlaw09.CellsLike", spec := "cellsLike", unfollowed := true, recurses := true, named := ["vellum/api.ErrKey", "vellum/api.ErrKind", "vellum/api.ErrUtf8", "unicode/utf8.first", "unicode/utf8.acceptRanges", "vellum/api.ErrLimit", "vellum/api.ErrNull", "vellum/api.ErrAttrs", "vellum/api.ErrLong", "vellum/api.ErrOp"], apart := false, laid := [("unicode/utf8.acceptRanges", laid_unicode_utf8_acceptRanges), ("vellum/api.ErrUtf8", laid_vellum_api_ErrUtf8), ("vellum/api.ErrKind", laid_vellum_api_ErrKind), ("vellum/api.ErrKey", laid_vellum_api_ErrKey), ("vellum/api.ErrNull", laid_vellum_api_ErrNull), ("vellum/api.ErrAttrs", laid_vellum_api_ErrAttrs), ("vellum/api.ErrOp", laid_vellum_api_ErrOp), ("vellum/api.ErrLimit", laid_vellum_api_ErrLimit), ("vellum/api.ErrLong", laid_vellum_api_ErrLong), ("unicode/utf8.first", laid_unicode_utf8_first)] }
def CellsLikeSaid : Prop := cellsLikeRow.holds Tryd.pinned (OpenSpec.ofChange cellsLikeSpec)

/-- ITS FALSE NEIGHBOUR: 'it returns false'. Refute it at one input. -/
def cellsLikeWrong : ChangeSpec := { name := "cellsLike", fn := fun _ => fun
  | [d1, d2] => { results := [.lit (.bool false)], args := [d1, d2] }
  | _ => none }
def CellsLikeWrongFalsely : Prop := cellsLikeRow.holds Tryd.pinned (OpenSpec.ofChange cellsLikeWrong)

/- THE SECOND FORM. 'bulk': how many values and letters a reading holds, each counted each time it is reached (what is shared counts as often as it is met; a slice's spare places count too). A statement '..UptoSaid' is the law's where the arguments, and the package variables that the reading takes, are together of bulk at most 1048576: NARROWER than '..Said'. Prove '..Said' where nothing that the law and all that it calls make is longer than what came in: it says more and counts as full. Else prove '..UptoSaid'. A law counts once. -/
mutual
def uptoBulk {H : Type} : DataW H → Nat
  | .lit (.string bytes) => bytes.length + 1
  | .lit _ => 1
  | .nil => 1
  | .ptr d => uptoBulk d + 1
  | .slice elems spare => uptoBulkAll elems + uptoBulkAll spare + 1
  | .agg parts => uptoBulkAll parts + 1
  | .iface _ d => uptoBulk d + 1
  | .map entries => uptoBulkEntries entries + 1
  | .held _ => 1
def uptoBulkAll {H : Type} : List (DataW H) → Nat
  | [] => 0
  | d :: r => uptoBulk d + uptoBulkAll r
def uptoBulkEntries {H : Type} : List (Lit × DataW H) → Nat
  | [] => 0
  | x :: r => uptoBulkEntry x + uptoBulkEntries r
def uptoBulkEntry {H : Type} : Lit × DataW H → Nat
  | (.string bytes, d) => bytes.length + uptoBulk d + 1
  | (_, d) => uptoBulk d + 1
 end
def uptoSmall : (H : Type) → List (DataW H) → Bool := fun _ ds => decide (uptoBulkAll ds ≤ 1048576)
def OpenSpec.upto (s : _root_.Go.ChangeSpec) : _root_.Go.OpenSpec := { _root_.Go.OpenSpec.ofChange s with cond := some uptoSmall }

/-- 'vellumlaw01.ScalarsTexts', WHERE WHAT IT READS IS OF BULK AT MOST 1048576: true; the input reads as it did. -/
def scalarsTextsUptoRow : OpenClaim := { program := "ytkehomiogkoomaadoor", sum := "dc8086bb252ce1fa5761019d4b989e137517f13c218859a5fddf446e51df4e06", func := "vellum/vellumlaw01.ScalarsTexts", spec := "scalarsTexts", unfollowed := true, recurses := true, named := ["vellum/api.ErrUtf8", "unicode/utf8.first", "unicode/utf8.acceptRanges", "vellum/api.ErrRange", "vellum/api.ErrJson", "vellum/api.ErrNest", "vellum/api.ErrNumber", "vellum/api.ErrKind", "vellum/api.ErrKey", "vellum/api.ErrNull", "vellum/api.ErrAttrs", "vellum/api.ErrOp", "vellum/api.ErrLimit", "vellum/api.ErrLong", "vellum/api.ErrSchema", "vellum/api.ErrEnd", "vellum/api.ErrEmpty", "vellum/api.ErrMark", "vellum/api.ErrReplica", "vellum/api.ErrBytes", "vellum/api.ErrCommand"], apart := false, laid := [("unicode/utf8.acceptRanges", laid_unicode_utf8_acceptRanges), ("vellum/api.ErrUtf8", laid_vellum_api_ErrUtf8), ("vellum/api.ErrJson", laid_vellum_api_ErrJson), ("vellum/api.ErrNest", laid_vellum_api_ErrNest), ("vellum/api.ErrNumber", laid_vellum_api_ErrNumber), ("vellum/api.ErrKind", laid_vellum_api_ErrKind), ("vellum/api.ErrKey", laid_vellum_api_ErrKey), ("vellum/api.ErrNull", laid_vellum_api_ErrNull), ("vellum/api.ErrAttrs", laid_vellum_api_ErrAttrs), ("vellum/api.ErrOp", laid_vellum_api_ErrOp), ("vellum/api.ErrLimit", laid_vellum_api_ErrLimit), ("vellum/api.ErrLong", laid_vellum_api_ErrLong), ("vellum/api.ErrRange", laid_vellum_api_ErrRange), ("vellum/api.ErrSchema", laid_vellum_api_ErrSchema), ("vellum/api.ErrEnd", laid_vellum_api_ErrEnd), ("vellum/api.ErrEmpty", laid_vellum_api_ErrEmpty), ("vellum/api.ErrMark", laid_vellum_api_ErrMark), ("vellum/api.ErrReplica", laid_vellum_api_ErrReplica), ("vellum/api.ErrBytes", laid_vellum_api_ErrBytes), ("vellum/api.ErrCommand", laid_vellum_api_ErrCommand), ("unicode/utf8.first", laid_unicode_utf8_first)], narrowed := true }
def ScalarsTextsUptoSaid : Prop := scalarsTextsUptoRow.holds Tryd.pinned (OpenSpec.upto scalarsTextsSpec)

/-- 'vellumlaw06.BuildParts', WHERE WHAT IT READS IS OF BULK AT MOST 1048576: true; the input reads as it did. -/
def buildPartsUptoRow : OpenClaim := { program := "ytkehomiogkoomaadoor", sum := "dc8086bb252ce1fa5761019d4b989e137517f13c218859a5fddf446e51df4e06", func := "vellum/vellumlaw06.BuildParts", spec := "buildParts", unfollowed := true, recurses := true, named := ["vellum/api.ErrLong", "vellum/api.ErrOp", "vellum/api.ErrUtf8", "vellum/api.ErrKind", "vellum/api.ErrKey", "unicode/utf8.first", "unicode/utf8.acceptRanges", "vellum/api.ErrLimit", "vellum/api.ErrNull", "vellum/api.ErrAttrs"], apart := false, laid := [("unicode/utf8.acceptRanges", laid_unicode_utf8_acceptRanges), ("vellum/api.ErrUtf8", laid_vellum_api_ErrUtf8), ("vellum/api.ErrKind", laid_vellum_api_ErrKind), ("vellum/api.ErrKey", laid_vellum_api_ErrKey), ("vellum/api.ErrNull", laid_vellum_api_ErrNull), ("vellum/api.ErrAttrs", laid_vellum_api_ErrAttrs), ("vellum/api.ErrOp", laid_vellum_api_ErrOp), ("vellum/api.ErrLimit", laid_vellum_api_ErrLimit), ("vellum/api.ErrLong", laid_vellum_api_ErrLong), ("unicode/utf8.first", laid_unicode_utf8_first)], narrowed := true }
def BuildPartsUptoSaid : Prop := buildPartsUptoRow.holds Tryd.pinned (OpenSpec.upto buildPartsSpec)

/-- 'vellumlaw03.AttrsAsks', WHERE WHAT IT READS IS OF BULK AT MOST 1048576: true; the input reads as it did. -/
def attrsAsksUptoRow : OpenClaim := { program := "ytkehomiogkoomaadoor", sum := "dc8086bb252ce1fa5761019d4b989e137517f13c218859a5fddf446e51df4e06", func := "vellum/vellumlaw03.AttrsAsks", spec := "attrsAsks", inPlace := ["slices.overlaps[vellum/api.Attr]"], unfollowed := true, recurses := true, named := ["vellum/api.ErrNull", "vellum/api.ErrAttrs", "vellum/api.ErrKey", "vellum/api.ErrUtf8", "unicode/utf8.first", "unicode/utf8.acceptRanges", "vellum/api.ErrKind", "vellum/api.ErrLimit", "vellum/api.ErrJson", "vellum/api.ErrNest", "vellum/api.ErrNumber", "vellum/api.ErrOp", "vellum/api.ErrLong", "vellum/api.ErrRange", "vellum/api.ErrSchema", "vellum/api.ErrEnd", "vellum/api.ErrEmpty", "vellum/api.ErrMark", "vellum/api.ErrReplica", "vellum/api.ErrBytes", "vellum/api.ErrCommand"], apart := false, laid := [("unicode/utf8.acceptRanges", laid_unicode_utf8_acceptRanges), ("vellum/api.ErrUtf8", laid_vellum_api_ErrUtf8), ("vellum/api.ErrJson", laid_vellum_api_ErrJson), ("vellum/api.ErrNest", laid_vellum_api_ErrNest), ("vellum/api.ErrNumber", laid_vellum_api_ErrNumber), ("vellum/api.ErrKind", laid_vellum_api_ErrKind), ("vellum/api.ErrKey", laid_vellum_api_ErrKey), ("vellum/api.ErrNull", laid_vellum_api_ErrNull), ("vellum/api.ErrAttrs", laid_vellum_api_ErrAttrs), ("vellum/api.ErrOp", laid_vellum_api_ErrOp), ("vellum/api.ErrLimit", laid_vellum_api_ErrLimit), ("vellum/api.ErrLong", laid_vellum_api_ErrLong), ("vellum/api.ErrRange", laid_vellum_api_ErrRange), ("vellum/api.ErrSchema", laid_vellum_api_ErrSchema), ("vellum/api.ErrEnd", laid_vellum_api_ErrEnd), ("vellum/api.ErrEmpty", laid_vellum_api_ErrEmpty), ("vellum/api.ErrMark", laid_vellum_api_ErrMark), ("vellum/api.ErrReplica", laid_vellum_api_ErrReplica), ("vellum/api.ErrBytes", laid_vellum_api_ErrBytes), ("vellum/api.ErrCommand", laid_vellum_api_ErrCommand), ("unicode/utf8.first", laid_unicode_utf8_first)], narrowed := true }
def AttrsAsksUptoSaid : Prop := attrsAsksUptoRow.holds Tryd.pinned (OpenSpec.upto attrsAsksSpec)

/-- 'vellumlaw03.AttrsOwns', WHERE WHAT IT READS IS OF BULK AT MOST 1048576: true; the input reads as it did. -/
def attrsOwnsUptoRow : OpenClaim := { program := "ytkehomiogkoomaadoor", sum := "dc8086bb252ce1fa5761019d4b989e137517f13c218859a5fddf446e51df4e06", func := "vellum/vellumlaw03.AttrsOwns", spec := "attrsOwns", inPlace := ["slices.overlaps[vellum/api.Attr]"], unfollowed := true, recurses := true, named := ["vellum/api.ErrNull", "vellum/api.ErrAttrs", "vellum/api.ErrKey", "vellum/api.ErrUtf8", "unicode/utf8.first", "unicode/utf8.acceptRanges", "vellum/api.ErrKind", "vellum/api.ErrLimit"], apart := false, laid := [("unicode/utf8.acceptRanges", laid_unicode_utf8_acceptRanges), ("vellum/api.ErrUtf8", laid_vellum_api_ErrUtf8), ("vellum/api.ErrKind", laid_vellum_api_ErrKind), ("vellum/api.ErrKey", laid_vellum_api_ErrKey), ("vellum/api.ErrNull", laid_vellum_api_ErrNull), ("vellum/api.ErrAttrs", laid_vellum_api_ErrAttrs), ("vellum/api.ErrLimit", laid_vellum_api_ErrLimit), ("unicode/utf8.first", laid_unicode_utf8_first)], narrowed := true }
def AttrsOwnsUptoSaid : Prop := attrsOwnsUptoRow.holds Tryd.pinned (OpenSpec.upto attrsOwnsSpec)

/-- 'vellumlaw06.BuildPieces', WHERE WHAT IT READS IS OF BULK AT MOST 1048576: true; the input reads as it did. -/
def buildPiecesUptoRow : OpenClaim := { program := "ytkehomiogkoomaadoor", sum := "dc8086bb252ce1fa5761019d4b989e137517f13c218859a5fddf446e51df4e06", func := "vellum/vellumlaw06.BuildPieces", spec := "buildPieces", unfollowed := true, recurses := true, named := ["vellum/api.ErrLong", "vellum/api.ErrOp", "vellum/api.ErrUtf8", "vellum/api.ErrKind", "vellum/api.ErrKey", "unicode/utf8.first", "unicode/utf8.acceptRanges", "vellum/api.ErrLimit", "vellum/api.ErrNull", "vellum/api.ErrAttrs"], apart := false, laid := [("unicode/utf8.acceptRanges", laid_unicode_utf8_acceptRanges), ("vellum/api.ErrUtf8", laid_vellum_api_ErrUtf8), ("vellum/api.ErrKind", laid_vellum_api_ErrKind), ("vellum/api.ErrKey", laid_vellum_api_ErrKey), ("vellum/api.ErrNull", laid_vellum_api_ErrNull), ("vellum/api.ErrAttrs", laid_vellum_api_ErrAttrs), ("vellum/api.ErrOp", laid_vellum_api_ErrOp), ("vellum/api.ErrLimit", laid_vellum_api_ErrLimit), ("vellum/api.ErrLong", laid_vellum_api_ErrLong), ("unicode/utf8.first", laid_unicode_utf8_first)], narrowed := true }
def BuildPiecesUptoSaid : Prop := buildPiecesUptoRow.holds Tryd.pinned (OpenSpec.upto buildPiecesSpec)

/-- 'vellumlaw06.BuildTypes', WHERE WHAT IT READS IS OF BULK AT MOST 1048576: true; the input reads as it did. -/
def buildTypesUptoRow : OpenClaim := { program := "ytkehomiogkoomaadoor", sum := "dc8086bb252ce1fa5761019d4b989e137517f13c218859a5fddf446e51df4e06", func := "vellum/vellumlaw06.BuildTypes", spec := "buildTypes", unfollowed := true, recurses := true, named := ["vellum/api.ErrLong", "vellum/api.ErrOp", "vellum/api.ErrUtf8", "vellum/api.ErrKind", "vellum/api.ErrKey", "unicode/utf8.first", "unicode/utf8.acceptRanges", "vellum/api.ErrLimit", "vellum/api.ErrNull", "vellum/api.ErrAttrs"], apart := false, laid := [("unicode/utf8.acceptRanges", laid_unicode_utf8_acceptRanges), ("vellum/api.ErrUtf8", laid_vellum_api_ErrUtf8), ("vellum/api.ErrKind", laid_vellum_api_ErrKind), ("vellum/api.ErrKey", laid_vellum_api_ErrKey), ("vellum/api.ErrNull", laid_vellum_api_ErrNull), ("vellum/api.ErrAttrs", laid_vellum_api_ErrAttrs), ("vellum/api.ErrOp", laid_vellum_api_ErrOp), ("vellum/api.ErrLimit", laid_vellum_api_ErrLimit), ("vellum/api.ErrLong", laid_vellum_api_ErrLong), ("unicode/utf8.first", laid_unicode_utf8_first)], narrowed := true }
def BuildTypesUptoSaid : Prop := buildTypesUptoRow.holds Tryd.pinned (OpenSpec.upto buildTypesSpec)

/-- 'vellumlaw06.BuildPlays', WHERE WHAT IT READS IS OF BULK AT MOST 1048576: true; the input reads as it did. -/
def buildPlaysUptoRow : OpenClaim := { program := "ytkehomiogkoomaadoor", sum := "dc8086bb252ce1fa5761019d4b989e137517f13c218859a5fddf446e51df4e06", func := "vellum/vellumlaw06.BuildPlays", spec := "buildPlays", unfollowed := true, recurses := true, named := ["vellum/api.ErrLong", "vellum/api.ErrOp", "vellum/api.ErrUtf8", "vellum/api.ErrKind", "vellum/api.ErrKey", "unicode/utf8.first", "unicode/utf8.acceptRanges", "vellum/api.ErrLimit", "vellum/api.ErrNull", "vellum/api.ErrAttrs", "vellum/api.ErrBytes", "vellum/api.ErrJson", "vellum/api.ErrNest", "vellum/api.ErrNumber", "vellum/api.ErrRange", "vellum/api.ErrSchema", "vellum/api.ErrEnd", "vellum/api.ErrEmpty", "vellum/api.ErrMark", "vellum/api.ErrReplica", "vellum/api.ErrCommand"], apart := false, laid := [("unicode/utf8.acceptRanges", laid_unicode_utf8_acceptRanges), ("vellum/api.ErrUtf8", laid_vellum_api_ErrUtf8), ("vellum/api.ErrJson", laid_vellum_api_ErrJson), ("vellum/api.ErrNest", laid_vellum_api_ErrNest), ("vellum/api.ErrNumber", laid_vellum_api_ErrNumber), ("vellum/api.ErrKind", laid_vellum_api_ErrKind), ("vellum/api.ErrKey", laid_vellum_api_ErrKey), ("vellum/api.ErrNull", laid_vellum_api_ErrNull), ("vellum/api.ErrAttrs", laid_vellum_api_ErrAttrs), ("vellum/api.ErrOp", laid_vellum_api_ErrOp), ("vellum/api.ErrLimit", laid_vellum_api_ErrLimit), ("vellum/api.ErrLong", laid_vellum_api_ErrLong), ("vellum/api.ErrRange", laid_vellum_api_ErrRange), ("vellum/api.ErrSchema", laid_vellum_api_ErrSchema), ("vellum/api.ErrEnd", laid_vellum_api_ErrEnd), ("vellum/api.ErrEmpty", laid_vellum_api_ErrEmpty), ("vellum/api.ErrMark", laid_vellum_api_ErrMark), ("vellum/api.ErrReplica", laid_vellum_api_ErrReplica), ("vellum/api.ErrBytes", laid_vellum_api_ErrBytes), ("vellum/api.ErrCommand", laid_vellum_api_ErrCommand), ("unicode/utf8.first", laid_unicode_utf8_first)], narrowed := true }
def BuildPlaysUptoSaid : Prop := buildPlaysUptoRow.holds Tryd.pinned (OpenSpec.upto buildPlaysSpec)

/-- 'vellumlaw06.BuildOf', WHERE WHAT IT READS IS OF BULK AT MOST 1048576: true; the input reads as it did. -/
def buildOfUptoRow : OpenClaim := { program := "ytkehomiogkoomaadoor", sum := "dc8086bb252ce1fa5761019d4b989e137517f13c218859a5fddf446e51df4e06", func := "vellum/vellumlaw06.BuildOf", spec := "buildOf", unfollowed := true, recurses := true, named := ["vellum/api.ErrLong", "vellum/api.ErrOp", "vellum/api.ErrUtf8", "vellum/api.ErrKind", "vellum/api.ErrKey", "unicode/utf8.first", "unicode/utf8.acceptRanges", "vellum/api.ErrLimit", "vellum/api.ErrNull", "vellum/api.ErrAttrs", "vellum/api.ErrJson", "vellum/api.ErrNest", "vellum/api.ErrNumber", "vellum/api.ErrRange", "vellum/api.ErrSchema", "vellum/api.ErrEnd", "vellum/api.ErrEmpty", "vellum/api.ErrMark", "vellum/api.ErrReplica", "vellum/api.ErrBytes", "vellum/api.ErrCommand"], apart := false, laid := [("unicode/utf8.acceptRanges", laid_unicode_utf8_acceptRanges), ("vellum/api.ErrUtf8", laid_vellum_api_ErrUtf8), ("vellum/api.ErrJson", laid_vellum_api_ErrJson), ("vellum/api.ErrNest", laid_vellum_api_ErrNest), ("vellum/api.ErrNumber", laid_vellum_api_ErrNumber), ("vellum/api.ErrKind", laid_vellum_api_ErrKind), ("vellum/api.ErrKey", laid_vellum_api_ErrKey), ("vellum/api.ErrNull", laid_vellum_api_ErrNull), ("vellum/api.ErrAttrs", laid_vellum_api_ErrAttrs), ("vellum/api.ErrOp", laid_vellum_api_ErrOp), ("vellum/api.ErrLimit", laid_vellum_api_ErrLimit), ("vellum/api.ErrLong", laid_vellum_api_ErrLong), ("vellum/api.ErrRange", laid_vellum_api_ErrRange), ("vellum/api.ErrSchema", laid_vellum_api_ErrSchema), ("vellum/api.ErrEnd", laid_vellum_api_ErrEnd), ("vellum/api.ErrEmpty", laid_vellum_api_ErrEmpty), ("vellum/api.ErrMark", laid_vellum_api_ErrMark), ("vellum/api.ErrReplica", laid_vellum_api_ErrReplica), ("vellum/api.ErrBytes", laid_vellum_api_ErrBytes), ("vellum/api.ErrCommand", laid_vellum_api_ErrCommand), ("unicode/utf8.first", laid_unicode_utf8_first)], narrowed := true }
def BuildOfUptoSaid : Prop := buildOfUptoRow.holds Tryd.pinned (OpenSpec.upto buildOfSpec)

/-- 'vellumlaw06.BuildOwns', WHERE WHAT IT READS IS OF BULK AT MOST 1048576: true; the input reads as it did. -/
def buildOwnsUptoRow : OpenClaim := { program := "ytkehomiogkoomaadoor", sum := "dc8086bb252ce1fa5761019d4b989e137517f13c218859a5fddf446e51df4e06", func := "vellum/vellumlaw06.BuildOwns", spec := "buildOwns", unfollowed := true, recurses := true, named := ["vellum/api.ErrLong", "vellum/api.ErrOp", "vellum/api.ErrUtf8", "vellum/api.ErrKind", "vellum/api.ErrKey", "unicode/utf8.first", "unicode/utf8.acceptRanges", "vellum/api.ErrLimit", "vellum/api.ErrNull", "vellum/api.ErrAttrs"], apart := false, laid := [("unicode/utf8.acceptRanges", laid_unicode_utf8_acceptRanges), ("vellum/api.ErrUtf8", laid_vellum_api_ErrUtf8), ("vellum/api.ErrKind", laid_vellum_api_ErrKind), ("vellum/api.ErrKey", laid_vellum_api_ErrKey), ("vellum/api.ErrNull", laid_vellum_api_ErrNull), ("vellum/api.ErrAttrs", laid_vellum_api_ErrAttrs), ("vellum/api.ErrOp", laid_vellum_api_ErrOp), ("vellum/api.ErrLimit", laid_vellum_api_ErrLimit), ("vellum/api.ErrLong", laid_vellum_api_ErrLong), ("unicode/utf8.first", laid_unicode_utf8_first)], narrowed := true }
def BuildOwnsUptoSaid : Prop := buildOwnsUptoRow.holds Tryd.pinned (OpenSpec.upto buildOwnsSpec)

/-- 'vellumlaw06.BuildCanon', WHERE WHAT IT READS IS OF BULK AT MOST 1048576: true; the input reads as it did. -/
def buildCanonUptoRow : OpenClaim := { program := "ytkehomiogkoomaadoor", sum := "dc8086bb252ce1fa5761019d4b989e137517f13c218859a5fddf446e51df4e06", func := "vellum/vellumlaw06.BuildCanon", spec := "buildCanon", unfollowed := true, recurses := true, named := ["vellum/api.ErrLong", "vellum/api.ErrOp", "vellum/api.ErrUtf8", "vellum/api.ErrKind", "vellum/api.ErrKey", "unicode/utf8.first", "unicode/utf8.acceptRanges", "vellum/api.ErrLimit", "vellum/api.ErrNull", "vellum/api.ErrAttrs"], apart := false, laid := [("unicode/utf8.acceptRanges", laid_unicode_utf8_acceptRanges), ("vellum/api.ErrUtf8", laid_vellum_api_ErrUtf8), ("vellum/api.ErrKind", laid_vellum_api_ErrKind), ("vellum/api.ErrKey", laid_vellum_api_ErrKey), ("vellum/api.ErrNull", laid_vellum_api_ErrNull), ("vellum/api.ErrAttrs", laid_vellum_api_ErrAttrs), ("vellum/api.ErrOp", laid_vellum_api_ErrOp), ("vellum/api.ErrLimit", laid_vellum_api_ErrLimit), ("vellum/api.ErrLong", laid_vellum_api_ErrLong), ("unicode/utf8.first", laid_unicode_utf8_first)], narrowed := true }
def BuildCanonUptoSaid : Prop := buildCanonUptoRow.holds Tryd.pinned (OpenSpec.upto buildCanonSpec)

/-- 'vellumlaw09.CellsOf', WHERE WHAT IT READS IS OF BULK AT MOST 1048576: true; the input reads as it did. -/
def cellsOfUptoRow : OpenClaim := { program := "ytkehomiogkoomaadoor", sum := "dc8086bb252ce1fa5761019d4b989e137517f13c218859a5fddf446e51df4e06", func := "vellum/vellumlaw09.CellsOf", spec := "cellsOf", unfollowed := true, recurses := true, named := ["vellum/api.ErrKey", "vellum/api.ErrKind", "vellum/api.ErrUtf8", "unicode/utf8.first", "unicode/utf8.acceptRanges", "vellum/api.ErrLimit", "vellum/api.ErrNull", "vellum/api.ErrAttrs", "vellum/api.ErrLong", "vellum/api.ErrOp", "vellum/api.ErrJson", "vellum/api.ErrNest", "vellum/api.ErrNumber", "vellum/api.ErrRange", "vellum/api.ErrSchema", "vellum/api.ErrEnd", "vellum/api.ErrEmpty", "vellum/api.ErrMark", "vellum/api.ErrReplica", "vellum/api.ErrBytes", "vellum/api.ErrCommand"], apart := false, laid := [("unicode/utf8.acceptRanges", laid_unicode_utf8_acceptRanges), ("vellum/api.ErrUtf8", laid_vellum_api_ErrUtf8), ("vellum/api.ErrJson", laid_vellum_api_ErrJson), ("vellum/api.ErrNest", laid_vellum_api_ErrNest), ("vellum/api.ErrNumber", laid_vellum_api_ErrNumber), ("vellum/api.ErrKind", laid_vellum_api_ErrKind), ("vellum/api.ErrKey", laid_vellum_api_ErrKey), ("vellum/api.ErrNull", laid_vellum_api_ErrNull), ("vellum/api.ErrAttrs", laid_vellum_api_ErrAttrs), ("vellum/api.ErrOp", laid_vellum_api_ErrOp), ("vellum/api.ErrLimit", laid_vellum_api_ErrLimit), ("vellum/api.ErrLong", laid_vellum_api_ErrLong), ("vellum/api.ErrRange", laid_vellum_api_ErrRange), ("vellum/api.ErrSchema", laid_vellum_api_ErrSchema), ("vellum/api.ErrEnd", laid_vellum_api_ErrEnd), ("vellum/api.ErrEmpty", laid_vellum_api_ErrEmpty), ("vellum/api.ErrMark", laid_vellum_api_ErrMark), ("vellum/api.ErrReplica", laid_vellum_api_ErrReplica), ("vellum/api.ErrBytes", laid_vellum_api_ErrBytes), ("vellum/api.ErrCommand", laid_vellum_api_ErrCommand), ("unicode/utf8.first", laid_unicode_utf8_first)], narrowed := true }
def CellsOfUptoSaid : Prop := cellsOfUptoRow.holds Tryd.pinned (OpenSpec.upto cellsOfSpec)

/-- 'vellumlaw09.CellsLike', WHERE WHAT IT READS IS OF BULK AT MOST 1048576: true; the input reads as it did. -/
def cellsLikeUptoRow : OpenClaim := { program := "ytkehomiogkoomaadoor", sum := "dc8086bb252ce1fa5761019d4b989e137517f13c218859a5fddf446e51df4e06", func := "vellum/vellumlaw09.CellsLike", spec := "cellsLike", unfollowed := true, recurses := true, named := ["vellum/api.ErrKey", "vellum/api.ErrKind", "vellum/api.ErrUtf8", "unicode/utf8.first", "unicode/utf8.acceptRanges", "vellum/api.ErrLimit", "vellum/api.ErrNull", "vellum/api.ErrAttrs", "vellum/api.ErrLong", "vellum/api.ErrOp"], apart := false, laid := [("unicode/utf8.acceptRanges", laid_unicode_utf8_acceptRanges), ("vellum/api.ErrUtf8", laid_vellum_api_ErrUtf8), ("vellum/api.ErrKind", laid_vellum_api_ErrKind), ("vellum/api.ErrKey", laid_vellum_api_ErrKey), ("vellum/api.ErrNull", laid_vellum_api_ErrNull), ("vellum/api.ErrAttrs", laid_vellum_api_ErrAttrs), ("vellum/api.ErrOp", laid_vellum_api_ErrOp), ("vellum/api.ErrLimit", laid_vellum_api_ErrLimit), ("vellum/api.ErrLong", laid_vellum_api_ErrLong), ("unicode/utf8.first", laid_unicode_utf8_first)], narrowed := true }
def CellsLikeUptoSaid : Prop := cellsLikeUptoRow.holds Tryd.pinned (OpenSpec.upto cellsLikeSpec)

end Rows
end Go.Proofs.YtkehomiogkoomaaDoor
