/-
  NARROWER THAN 'FOR EVERY INPUT', by the rows' own cells (each row's printed sentence says how): OpsPlays: laid · OpsSums: laid · OpsBeginnings: laid · OpsTypes: laid · AttrsAsks: laid · AttrsOwns: laid · ContentAsks: laid · ContentCuts: laid · ContentJoins: laid · ContentBack: laid · ContentThree: laid · ContentPieces: laid.
  DERIVED. THE GIVEN ROWS OF THIS SEAT. 12 by the template 'for every input the law returns true; each argument reads behind the call as it read before'; 0 by the template 'total and deterministic' (their statements: YtekfdfafhfhfbaaDoorTotals.lean).
  GIVEN WITH THE SEED: the statements are not yours to turn. If you find one false, say at which input.
  Laid BY PROGRAM, IN A SANDBOX (cutbox-rows.mjs): the forced cells as the released guide's own fill.sh prints them over the translation cae03383967707d7… (all of the seat's roots in one cut). By AI agents, Wed Nov 11 2026. No macro, syntax, notation, axiom, sorry.
-/
import Derived.Test.YtekfdfafhfhfbaaDoorChecked
import GoSem.PinnedTables
import GoSem.Claim
import GoSem.ClaimJoined
import GoSem.ClaimMapViews
import Derived.JoinedTies
import Derived.KernelRfl
namespace Go.Proofs.YtekfdfafhfhfbaaDoor
/- THE CELL 'sum', in the pinned program and in every row, IS THE sha256 OF THE DUMP (.gsa) THAT YtekfdfafhfhfbaaDoorProg.lean LOADS. Nothing in Lean hashes anything: it is a label: what it is worth is what the hold of that sum in a sandbox is worth. -/
noncomputable def Tryd.pinned : Pinned := { name := "ytekfdfafhfhfbaadoor", sum := "cae03383967707d73066508cb96553111a33295f0b2bdbd54f4b6c3e3120fa64", checked := Tryd.checked }
namespace Rows
def none {H : Type} : Left H := { results := [], args := [] }

/- WHAT THE LISTED PACKAGE-LEVEL VARIABLES READ AS WHEN THE CALL BEGINS. Each datum BY PROGRAM (the guide's laid-datum.mjs) off the statement by which the dump's own 'gosem.cut.vars' lays the variable. In a bare row this is a premise. The card (YtekfdfafhfhfbaaDoorCards.lean) ties it to the program's text. -/
def laid_unicode_utf8_acceptRanges {H : Type} : DataW H := .agg [.agg [.lit (.int .u8 128), .lit (.int .u8 191)], .agg [.lit (.int .u8 160), .lit (.int .u8 191)], .agg [.lit (.int .u8 128), .lit (.int .u8 159)], .agg [.lit (.int .u8 144), .lit (.int .u8 191)], .agg [.lit (.int .u8 128), .lit (.int .u8 143)], .agg [.lit (.int .u8 0), .lit (.int .u8 0)], .agg [.lit (.int .u8 0), .lit (.int .u8 0)], .agg [.lit (.int .u8 0), .lit (.int .u8 0)], .agg [.lit (.int .u8 0), .lit (.int .u8 0)], .agg [.lit (.int .u8 0), .lit (.int .u8 0)], .agg [.lit (.int .u8 0), .lit (.int .u8 0)], .agg [.lit (.int .u8 0), .lit (.int .u8 0)], .agg [.lit (.int .u8 0), .lit (.int .u8 0)], .agg [.lit (.int .u8 0), .lit (.int .u8 0)], .agg [.lit (.int .u8 0), .lit (.int .u8 0)], .agg [.lit (.int .u8 0), .lit (.int .u8 0)]]
def laid_vellum_api_ErrUtf8 {H : Type} : DataW H := .iface "*errors.errorString" (.ptr (.agg [.lit (.string [118, 101, 108, 108, 117, 109, 58, 32, 117, 116, 102, 45, 56])]))
def laid_vellum_api_ErrJson {H : Type} : DataW H := .iface "*errors.errorString" (.ptr (.agg [.lit (.string [118, 101, 108, 108, 117, 109, 58, 32, 106, 115, 111, 110])]))
def laid_vellum_api_ErrNest {H : Type} : DataW H := .iface "*errors.errorString" (.ptr (.agg [.lit (.string [118, 101, 108, 108, 117, 109, 58, 32, 110, 101, 115, 116, 105, 110, 103])]))
def laid_vellum_api_ErrNumber {H : Type} : DataW H := .iface "*errors.errorString" (.ptr (.agg [.lit (.string [118, 101, 108, 108, 117, 109, 58, 32, 110, 117, 109, 98, 101, 114])]))
def laid_vellum_api_ErrKind {H : Type} : DataW H := .iface "*errors.errorString" (.ptr (.agg [.lit (.string [118, 101, 108, 108, 117, 109, 58, 32, 107, 105, 110, 100])]))
def laid_vellum_api_ErrKey {H : Type} : DataW H := .iface "*errors.errorString" (.ptr (.agg [.lit (.string [118, 101, 108, 108, 117, 109, 58, 32, 107, 101, 121])]))
def laid_vellum_api_ErrNull {H : Type} : DataW H := .iface "*errors.errorString" (.ptr (.agg [.lit (.string [118, 101, 108, 108, 117, 109, 58, 32, 110, 117, 108, 108])]))
def laid_vellum_api_ErrAttrs {H : Type} : DataW H := .iface "*errors.errorString" (.ptr (.agg [.lit (.string [118, 101, 108, 108, 117, 109, 58, 32, 97, 116, 116, 114, 105, 98, 117, 116, 101, 115])]))
def laid_vellum_api_ErrOp {H : Type} : DataW H := .iface "*errors.errorString" (.ptr (.agg [.lit (.string [118, 101, 108, 108, 117, 109, 58, 32, 111, 112, 101, 114, 97, 116, 105, 111, 110])]))
def laid_vellum_api_ErrLimit {H : Type} : DataW H := .iface "*errors.errorString" (.ptr (.agg [.lit (.string [118, 101, 108, 108, 117, 109, 58, 32, 108, 105, 109, 105, 116])]))
def laid_vellum_api_ErrLong {H : Type} : DataW H := .iface "*errors.errorString" (.ptr (.agg [.lit (.string [118, 101, 108, 108, 117, 109, 58, 32, 108, 111, 110, 103])]))
def laid_vellum_api_ErrRange {H : Type} : DataW H := .iface "*errors.errorString" (.ptr (.agg [.lit (.string [118, 101, 108, 108, 117, 109, 58, 32, 114, 97, 110, 103, 101])]))
def laid_vellum_api_ErrSchema {H : Type} : DataW H := .iface "*errors.errorString" (.ptr (.agg [.lit (.string [118, 101, 108, 108, 117, 109, 58, 32, 115, 99, 104, 101, 109, 97])]))
def laid_vellum_api_ErrEnd {H : Type} : DataW H := .iface "*errors.errorString" (.ptr (.agg [.lit (.string [118, 101, 108, 108, 117, 109, 58, 32, 101, 110, 100])]))
def laid_vellum_api_ErrEmpty {H : Type} : DataW H := .iface "*errors.errorString" (.ptr (.agg [.lit (.string [118, 101, 108, 108, 117, 109, 58, 32, 101, 109, 112, 116, 121])]))
def laid_vellum_api_ErrMark {H : Type} : DataW H := .iface "*errors.errorString" (.ptr (.agg [.lit (.string [118, 101, 108, 108, 117, 109, 58, 32, 109, 97, 114, 107])]))
def laid_vellum_api_ErrReplica {H : Type} : DataW H := .iface "*errors.errorString" (.ptr (.agg [.lit (.string [118, 101, 108, 108, 117, 109, 58, 32, 114, 101, 112, 108, 105, 99, 97])]))
def laid_vellum_api_ErrBytes {H : Type} : DataW H := .iface "*errors.errorString" (.ptr (.agg [.lit (.string [118, 101, 108, 108, 117, 109, 58, 32, 98, 121, 116, 101, 115])]))
def laid_vellum_api_ErrCommand {H : Type} : DataW H := .iface "*errors.errorString" (.ptr (.agg [.lit (.string [118, 101, 108, 108, 117, 109, 58, 32, 99, 111, 109, 109, 97, 110, 100])]))
/-- One of Go's own tables, pinned by name: the form's constant. -/
def laid_unicode_utf8_first : DataW Unit := Go.Pinned.utf8First

/-- 'vellumlaw05.OpsPlays': WHATEVER THE INPUT: true; the input reads as it did. -/
def opsPlaysSpec : ChangeSpec := { name := "opsPlays", fn := fun _ => fun
  | [d1, d2] => { results := [.lit (.bool true)], args := [d1, d2] }
  | _ => none }
def opsPlaysRow : OpenClaim := { program := "ytekfdfafhfhfbaadoor", sum := "cae03383967707d73066508cb96553111a33295f0b2bdbd54f4b6c3e3120fa64", func := "vellum/vellumlaw05.OpsPlays", spec := "opsPlays", unfollowed := true, recurses := true, named := ["vellum/api.ErrOp", "vellum/api.ErrLong", "vellum/api.ErrUtf8", "vellum/api.ErrKind", "vellum/api.ErrKey", "unicode/utf8.first", "unicode/utf8.acceptRanges", "vellum/api.ErrLimit", "vellum/api.ErrNull", "vellum/api.ErrAttrs", "vellum/api.ErrJson", "vellum/api.ErrNest", "vellum/api.ErrNumber", "vellum/api.ErrRange", "vellum/api.ErrSchema", "vellum/api.ErrEnd", "vellum/api.ErrEmpty", "vellum/api.ErrMark", "vellum/api.ErrReplica", "vellum/api.ErrBytes", "vellum/api.ErrCommand"], apart := false, laid := [("unicode/utf8.acceptRanges", laid_unicode_utf8_acceptRanges), ("vellum/api.ErrUtf8", laid_vellum_api_ErrUtf8), ("vellum/api.ErrJson", laid_vellum_api_ErrJson), ("vellum/api.ErrNest", laid_vellum_api_ErrNest), ("vellum/api.ErrNumber", laid_vellum_api_ErrNumber), ("vellum/api.ErrKind", laid_vellum_api_ErrKind), ("vellum/api.ErrKey", laid_vellum_api_ErrKey), ("vellum/api.ErrNull", laid_vellum_api_ErrNull), ("vellum/api.ErrAttrs", laid_vellum_api_ErrAttrs), ("vellum/api.ErrOp", laid_vellum_api_ErrOp), ("vellum/api.ErrLimit", laid_vellum_api_ErrLimit), ("vellum/api.ErrLong", laid_vellum_api_ErrLong), ("vellum/api.ErrRange", laid_vellum_api_ErrRange), ("vellum/api.ErrSchema", laid_vellum_api_ErrSchema), ("vellum/api.ErrEnd", laid_vellum_api_ErrEnd), ("vellum/api.ErrEmpty", laid_vellum_api_ErrEmpty), ("vellum/api.ErrMark", laid_vellum_api_ErrMark), ("vellum/api.ErrReplica", laid_vellum_api_ErrReplica), ("vellum/api.ErrBytes", laid_vellum_api_ErrBytes), ("vellum/api.ErrCommand", laid_vellum_api_ErrCommand), ("unicode/utf8.first", laid_unicode_utf8_first)] }
def OpsPlaysSaid : Prop := opsPlaysRow.holds Tryd.pinned (OpenSpec.ofChange opsPlaysSpec)

/-- ITS FALSE NEIGHBOUR: 'it returns false'. Refute it at one input. -/
def opsPlaysWrong : ChangeSpec := { name := "opsPlays", fn := fun _ => fun
  | [d1, d2] => { results := [.lit (.bool false)], args := [d1, d2] }
  | _ => none }
def OpsPlaysWrongFalsely : Prop := opsPlaysRow.holds Tryd.pinned (OpenSpec.ofChange opsPlaysWrong)

/-- 'vellumlaw05.OpsSums': WHATEVER THE INPUT: true; the input reads as it did. -/
def opsSumsSpec : ChangeSpec := { name := "opsSums", fn := fun _ => fun
  | [d1, d2] => { results := [.lit (.bool true)], args := [d1, d2] }
  | _ => none }
def opsSumsRow : OpenClaim := { program := "ytekfdfafhfhfbaadoor", sum := "cae03383967707d73066508cb96553111a33295f0b2bdbd54f4b6c3e3120fa64", func := "vellum/vellumlaw05.OpsSums", spec := "opsSums", unfollowed := true, recurses := true, named := ["vellum/api.ErrOp", "vellum/api.ErrLong", "vellum/api.ErrUtf8", "vellum/api.ErrKind", "vellum/api.ErrKey", "unicode/utf8.first", "unicode/utf8.acceptRanges", "vellum/api.ErrLimit", "vellum/api.ErrNull", "vellum/api.ErrAttrs", "vellum/api.ErrJson", "vellum/api.ErrNest", "vellum/api.ErrNumber", "vellum/api.ErrRange", "vellum/api.ErrSchema", "vellum/api.ErrEnd", "vellum/api.ErrEmpty", "vellum/api.ErrMark", "vellum/api.ErrReplica", "vellum/api.ErrBytes", "vellum/api.ErrCommand"], apart := false, laid := [("unicode/utf8.acceptRanges", laid_unicode_utf8_acceptRanges), ("vellum/api.ErrUtf8", laid_vellum_api_ErrUtf8), ("vellum/api.ErrJson", laid_vellum_api_ErrJson), ("vellum/api.ErrNest", laid_vellum_api_ErrNest), ("vellum/api.ErrNumber", laid_vellum_api_ErrNumber), ("vellum/api.ErrKind", laid_vellum_api_ErrKind), ("vellum/api.ErrKey", laid_vellum_api_ErrKey), ("vellum/api.ErrNull", laid_vellum_api_ErrNull), ("vellum/api.ErrAttrs", laid_vellum_api_ErrAttrs), ("vellum/api.ErrOp", laid_vellum_api_ErrOp), ("vellum/api.ErrLimit", laid_vellum_api_ErrLimit), ("vellum/api.ErrLong", laid_vellum_api_ErrLong), ("vellum/api.ErrRange", laid_vellum_api_ErrRange), ("vellum/api.ErrSchema", laid_vellum_api_ErrSchema), ("vellum/api.ErrEnd", laid_vellum_api_ErrEnd), ("vellum/api.ErrEmpty", laid_vellum_api_ErrEmpty), ("vellum/api.ErrMark", laid_vellum_api_ErrMark), ("vellum/api.ErrReplica", laid_vellum_api_ErrReplica), ("vellum/api.ErrBytes", laid_vellum_api_ErrBytes), ("vellum/api.ErrCommand", laid_vellum_api_ErrCommand), ("unicode/utf8.first", laid_unicode_utf8_first)] }
def OpsSumsSaid : Prop := opsSumsRow.holds Tryd.pinned (OpenSpec.ofChange opsSumsSpec)

/-- ITS FALSE NEIGHBOUR: 'it returns false'. Refute it at one input. -/
def opsSumsWrong : ChangeSpec := { name := "opsSums", fn := fun _ => fun
  | [d1, d2] => { results := [.lit (.bool false)], args := [d1, d2] }
  | _ => none }
def OpsSumsWrongFalsely : Prop := opsSumsRow.holds Tryd.pinned (OpenSpec.ofChange opsSumsWrong)

/-- 'vellumlaw05.OpsBeginnings': WHATEVER THE INPUT: true; the input reads as it did. -/
def opsBeginningsSpec : ChangeSpec := { name := "opsBeginnings", fn := fun _ => fun
  | [d1, d2] => { results := [.lit (.bool true)], args := [d1, d2] }
  | _ => none }
def opsBeginningsRow : OpenClaim := { program := "ytekfdfafhfhfbaadoor", sum := "cae03383967707d73066508cb96553111a33295f0b2bdbd54f4b6c3e3120fa64", func := "vellum/vellumlaw05.OpsBeginnings", spec := "opsBeginnings", unfollowed := true, recurses := true, named := ["vellum/api.ErrOp", "vellum/api.ErrLong", "vellum/api.ErrUtf8", "vellum/api.ErrKind", "vellum/api.ErrKey", "unicode/utf8.first", "unicode/utf8.acceptRanges", "vellum/api.ErrLimit", "vellum/api.ErrNull", "vellum/api.ErrAttrs"], apart := false, laid := [("unicode/utf8.acceptRanges", laid_unicode_utf8_acceptRanges), ("vellum/api.ErrUtf8", laid_vellum_api_ErrUtf8), ("vellum/api.ErrKind", laid_vellum_api_ErrKind), ("vellum/api.ErrKey", laid_vellum_api_ErrKey), ("vellum/api.ErrNull", laid_vellum_api_ErrNull), ("vellum/api.ErrAttrs", laid_vellum_api_ErrAttrs), ("vellum/api.ErrOp", laid_vellum_api_ErrOp), ("vellum/api.ErrLimit", laid_vellum_api_ErrLimit), ("vellum/api.ErrLong", laid_vellum_api_ErrLong), ("unicode/utf8.first", laid_unicode_utf8_first)] }
def OpsBeginningsSaid : Prop := opsBeginningsRow.holds Tryd.pinned (OpenSpec.ofChange opsBeginningsSpec)

/-- ITS FALSE NEIGHBOUR: 'it returns false'. Refute it at one input. -/
def opsBeginningsWrong : ChangeSpec := { name := "opsBeginnings", fn := fun _ => fun
  | [d1, d2] => { results := [.lit (.bool false)], args := [d1, d2] }
  | _ => none }
def OpsBeginningsWrongFalsely : Prop := opsBeginningsRow.holds Tryd.pinned (OpenSpec.ofChange opsBeginningsWrong)

/-- 'vellumlaw05.OpsTypes': WHATEVER THE INPUT: true; the input reads as it did. -/
def opsTypesSpec : ChangeSpec := { name := "opsTypes", fn := fun _ => fun
  | [d] => { results := [.lit (.bool true)], args := [d] }
  | _ => none }
def opsTypesRow : OpenClaim := { program := "ytekfdfafhfhfbaadoor", sum := "cae03383967707d73066508cb96553111a33295f0b2bdbd54f4b6c3e3120fa64", func := "vellum/vellumlaw05.OpsTypes", spec := "opsTypes", unfollowed := true, recurses := true, named := ["vellum/api.ErrOp", "vellum/api.ErrLong", "vellum/api.ErrUtf8", "vellum/api.ErrKind", "vellum/api.ErrKey", "unicode/utf8.first", "unicode/utf8.acceptRanges", "vellum/api.ErrLimit", "vellum/api.ErrNull", "vellum/api.ErrAttrs"], apart := false, laid := [("unicode/utf8.acceptRanges", laid_unicode_utf8_acceptRanges), ("vellum/api.ErrUtf8", laid_vellum_api_ErrUtf8), ("vellum/api.ErrKind", laid_vellum_api_ErrKind), ("vellum/api.ErrKey", laid_vellum_api_ErrKey), ("vellum/api.ErrNull", laid_vellum_api_ErrNull), ("vellum/api.ErrAttrs", laid_vellum_api_ErrAttrs), ("vellum/api.ErrOp", laid_vellum_api_ErrOp), ("vellum/api.ErrLimit", laid_vellum_api_ErrLimit), ("vellum/api.ErrLong", laid_vellum_api_ErrLong), ("unicode/utf8.first", laid_unicode_utf8_first)] }
def OpsTypesSaid : Prop := opsTypesRow.holds Tryd.pinned (OpenSpec.ofChange opsTypesSpec)

/-- ITS FALSE NEIGHBOUR: 'it returns false'. Refute it at one input. -/
def opsTypesWrong : ChangeSpec := { name := "opsTypes", fn := fun _ => fun
  | [d] => { results := [.lit (.bool false)], args := [d] }
  | _ => none }
def OpsTypesWrongFalsely : Prop := opsTypesRow.holds Tryd.pinned (OpenSpec.ofChange opsTypesWrong)

/-- 'vellumlaw03.AttrsAsks': WHATEVER THE INPUT: true; the input reads as it did. -/
def attrsAsksSpec : ChangeSpec := { name := "attrsAsks", fn := fun _ => fun
  | [d1, d2, d3] => { results := [.lit (.bool true)], args := [d1, d2, d3] }
  | _ => none }
def attrsAsksRow : OpenClaim := { program := "ytekfdfafhfhfbaadoor", sum := "cae03383967707d73066508cb96553111a33295f0b2bdbd54f4b6c3e3120fa64", func := "vellum/vellumlaw03.AttrsAsks", spec := "attrsAsks", inPlace := ["slices.overlaps[vellum/api.Attr]"], unfollowed := true, recurses := true, named := ["vellum/api.ErrNull", "vellum/api.ErrAttrs", "vellum/api.ErrKey", "vellum/api.ErrUtf8", "unicode/utf8.first", "unicode/utf8.acceptRanges", "vellum/api.ErrKind", "vellum/api.ErrLimit", "vellum/api.ErrJson", "vellum/api.ErrNest", "vellum/api.ErrNumber", "vellum/api.ErrOp", "vellum/api.ErrLong", "vellum/api.ErrRange", "vellum/api.ErrSchema", "vellum/api.ErrEnd", "vellum/api.ErrEmpty", "vellum/api.ErrMark", "vellum/api.ErrReplica", "vellum/api.ErrBytes", "vellum/api.ErrCommand"], apart := false, laid := [("unicode/utf8.acceptRanges", laid_unicode_utf8_acceptRanges), ("vellum/api.ErrUtf8", laid_vellum_api_ErrUtf8), ("vellum/api.ErrJson", laid_vellum_api_ErrJson), ("vellum/api.ErrNest", laid_vellum_api_ErrNest), ("vellum/api.ErrNumber", laid_vellum_api_ErrNumber), ("vellum/api.ErrKind", laid_vellum_api_ErrKind), ("vellum/api.ErrKey", laid_vellum_api_ErrKey), ("vellum/api.ErrNull", laid_vellum_api_ErrNull), ("vellum/api.ErrAttrs", laid_vellum_api_ErrAttrs), ("vellum/api.ErrOp", laid_vellum_api_ErrOp), ("vellum/api.ErrLimit", laid_vellum_api_ErrLimit), ("vellum/api.ErrLong", laid_vellum_api_ErrLong), ("vellum/api.ErrRange", laid_vellum_api_ErrRange), ("vellum/api.ErrSchema", laid_vellum_api_ErrSchema), ("vellum/api.ErrEnd", laid_vellum_api_ErrEnd), ("vellum/api.ErrEmpty", laid_vellum_api_ErrEmpty), ("vellum/api.ErrMark", laid_vellum_api_ErrMark), ("vellum/api.ErrReplica", laid_vellum_api_ErrReplica), ("vellum/api.ErrBytes", laid_vellum_api_ErrBytes), ("vellum/api.ErrCommand", laid_vellum_api_ErrCommand), ("unicode/utf8.first", laid_unicode_utf8_first)] }
def AttrsAsksSaid : Prop := attrsAsksRow.holds Tryd.pinned (OpenSpec.ofChange attrsAsksSpec)

/-- ITS FALSE NEIGHBOUR: 'it returns false'. Refute it at one input. -/
def attrsAsksWrong : ChangeSpec := { name := "attrsAsks", fn := fun _ => fun
  | [d1, d2, d3] => { results := [.lit (.bool false)], args := [d1, d2, d3] }
  | _ => none }
def AttrsAsksWrongFalsely : Prop := attrsAsksRow.holds Tryd.pinned (OpenSpec.ofChange attrsAsksWrong)

/-- 'vellumlaw03.AttrsOwns': WHATEVER THE INPUT: true; the input reads as it did. -/
def attrsOwnsSpec : ChangeSpec := { name := "attrsOwns", fn := fun _ => fun
  | [d1, d2, d3] => { results := [.lit (.bool true)], args := [d1, d2, d3] }
  | _ => none }
def attrsOwnsRow : OpenClaim := { program := "ytekfdfafhfhfbaadoor", sum := "cae03383967707d73066508cb96553111a33295f0b2bdbd54f4b6c3e3120fa64", func := "vellum/vellumlaw03.AttrsOwns", spec := "attrsOwns", inPlace := ["slices.overlaps[vellum/api.Attr]"], unfollowed := true, recurses := true, named := ["vellum/api.ErrNull", "vellum/api.ErrAttrs", "vellum/api.ErrKey", "vellum/api.ErrUtf8", "unicode/utf8.first", "unicode/utf8.acceptRanges", "vellum/api.ErrKind", "vellum/api.ErrLimit"], apart := false, laid := [("unicode/utf8.acceptRanges", laid_unicode_utf8_acceptRanges), ("vellum/api.ErrUtf8", laid_vellum_api_ErrUtf8), ("vellum/api.ErrKind", laid_vellum_api_ErrKind), ("vellum/api.ErrKey", laid_vellum_api_ErrKey), ("vellum/api.ErrNull", laid_vellum_api_ErrNull), ("vellum/api.ErrAttrs", laid_vellum_api_ErrAttrs), ("vellum/api.ErrLimit", laid_vellum_api_ErrLimit), ("unicode/utf8.first", laid_unicode_utf8_first)] }
def AttrsOwnsSaid : Prop := attrsOwnsRow.holds Tryd.pinned (OpenSpec.ofChange attrsOwnsSpec)

/-- ITS FALSE NEIGHBOUR: 'it returns false'. Refute it at one input. -/
def attrsOwnsWrong : ChangeSpec := { name := "attrsOwns", fn := fun _ => fun
  | [d1, d2, d3] => { results := [.lit (.bool false)], args := [d1, d2, d3] }
  | _ => none }
def AttrsOwnsWrongFalsely : Prop := attrsOwnsRow.holds Tryd.pinned (OpenSpec.ofChange attrsOwnsWrong)

/-- 'vellumlaw04.ContentAsks': WHATEVER THE INPUT: true; the input reads as it did. -/
def contentAsksSpec : ChangeSpec := { name := "contentAsks", fn := fun _ => fun
  | [d] => { results := [.lit (.bool true)], args := [d] }
  | _ => none }
def contentAsksRow : OpenClaim := { program := "ytekfdfafhfhfbaadoor", sum := "cae03383967707d73066508cb96553111a33295f0b2bdbd54f4b6c3e3120fa64", func := "vellum/vellumlaw04.ContentAsks", spec := "contentAsks", inPlace := ["internal/bytealg.CountString", "internal/bytealg.IndexByteString", "internal/bytealg.IndexString"], unfollowed := true, recurses := true, named := ["vellum/api.ErrRange", "vellum/api.ErrUtf8", "vellum/api.ErrKind", "vellum/api.ErrOp", "vellum/api.ErrKey", "unicode/utf8.first", "unicode/utf8.acceptRanges", "vellum/api.ErrLimit", "vellum/api.ErrNull", "vellum/api.ErrAttrs", "internal/bytealg.MaxLen", "vellum/api.ErrJson", "vellum/api.ErrNest", "vellum/api.ErrNumber", "vellum/api.ErrLong", "vellum/api.ErrSchema", "vellum/api.ErrEnd", "vellum/api.ErrEmpty", "vellum/api.ErrMark", "vellum/api.ErrReplica", "vellum/api.ErrBytes", "vellum/api.ErrCommand"], apart := false, laid := [("unicode/utf8.acceptRanges", laid_unicode_utf8_acceptRanges), ("vellum/api.ErrUtf8", laid_vellum_api_ErrUtf8), ("vellum/api.ErrJson", laid_vellum_api_ErrJson), ("vellum/api.ErrNest", laid_vellum_api_ErrNest), ("vellum/api.ErrNumber", laid_vellum_api_ErrNumber), ("vellum/api.ErrKind", laid_vellum_api_ErrKind), ("vellum/api.ErrKey", laid_vellum_api_ErrKey), ("vellum/api.ErrNull", laid_vellum_api_ErrNull), ("vellum/api.ErrAttrs", laid_vellum_api_ErrAttrs), ("vellum/api.ErrOp", laid_vellum_api_ErrOp), ("vellum/api.ErrLimit", laid_vellum_api_ErrLimit), ("vellum/api.ErrLong", laid_vellum_api_ErrLong), ("vellum/api.ErrRange", laid_vellum_api_ErrRange), ("vellum/api.ErrSchema", laid_vellum_api_ErrSchema), ("vellum/api.ErrEnd", laid_vellum_api_ErrEnd), ("vellum/api.ErrEmpty", laid_vellum_api_ErrEmpty), ("vellum/api.ErrMark", laid_vellum_api_ErrMark), ("vellum/api.ErrReplica", laid_vellum_api_ErrReplica), ("vellum/api.ErrBytes", laid_vellum_api_ErrBytes), ("vellum/api.ErrCommand", laid_vellum_api_ErrCommand), ("unicode/utf8.first", laid_unicode_utf8_first)] }
def ContentAsksSaid : Prop := contentAsksRow.holds Tryd.pinned (OpenSpec.ofChange contentAsksSpec)

/-- ITS FALSE NEIGHBOUR: 'it returns false'. Refute it at one input. -/
def contentAsksWrong : ChangeSpec := { name := "contentAsks", fn := fun _ => fun
  | [d] => { results := [.lit (.bool false)], args := [d] }
  | _ => none }
def ContentAsksWrongFalsely : Prop := contentAsksRow.holds Tryd.pinned (OpenSpec.ofChange contentAsksWrong)

/-- 'vellumlaw04.ContentCuts': WHATEVER THE INPUT: true; the input reads as it did. -/
def contentCutsSpec : ChangeSpec := { name := "contentCuts", fn := fun _ => fun
  | [d1, d2] => { results := [.lit (.bool true)], args := [d1, d2] }
  | _ => none }
def contentCutsRow : OpenClaim := { program := "ytekfdfafhfhfbaadoor", sum := "cae03383967707d73066508cb96553111a33295f0b2bdbd54f4b6c3e3120fa64", func := "vellum/vellumlaw04.ContentCuts", spec := "contentCuts", inPlace := ["internal/bytealg.CountString", "internal/bytealg.IndexByteString", "internal/bytealg.IndexString"], unfollowed := true, recurses := true, named := ["vellum/api.ErrRange", "vellum/api.ErrUtf8", "vellum/api.ErrKind", "vellum/api.ErrOp", "vellum/api.ErrKey", "unicode/utf8.first", "unicode/utf8.acceptRanges", "vellum/api.ErrLimit", "vellum/api.ErrNull", "vellum/api.ErrAttrs", "internal/bytealg.MaxLen", "vellum/api.ErrJson", "vellum/api.ErrNest", "vellum/api.ErrNumber", "vellum/api.ErrLong", "vellum/api.ErrSchema", "vellum/api.ErrEnd", "vellum/api.ErrEmpty", "vellum/api.ErrMark", "vellum/api.ErrReplica", "vellum/api.ErrBytes", "vellum/api.ErrCommand"], apart := false, laid := [("unicode/utf8.acceptRanges", laid_unicode_utf8_acceptRanges), ("vellum/api.ErrUtf8", laid_vellum_api_ErrUtf8), ("vellum/api.ErrJson", laid_vellum_api_ErrJson), ("vellum/api.ErrNest", laid_vellum_api_ErrNest), ("vellum/api.ErrNumber", laid_vellum_api_ErrNumber), ("vellum/api.ErrKind", laid_vellum_api_ErrKind), ("vellum/api.ErrKey", laid_vellum_api_ErrKey), ("vellum/api.ErrNull", laid_vellum_api_ErrNull), ("vellum/api.ErrAttrs", laid_vellum_api_ErrAttrs), ("vellum/api.ErrOp", laid_vellum_api_ErrOp), ("vellum/api.ErrLimit", laid_vellum_api_ErrLimit), ("vellum/api.ErrLong", laid_vellum_api_ErrLong), ("vellum/api.ErrRange", laid_vellum_api_ErrRange), ("vellum/api.ErrSchema", laid_vellum_api_ErrSchema), ("vellum/api.ErrEnd", laid_vellum_api_ErrEnd), ("vellum/api.ErrEmpty", laid_vellum_api_ErrEmpty), ("vellum/api.ErrMark", laid_vellum_api_ErrMark), ("vellum/api.ErrReplica", laid_vellum_api_ErrReplica), ("vellum/api.ErrBytes", laid_vellum_api_ErrBytes), ("vellum/api.ErrCommand", laid_vellum_api_ErrCommand), ("unicode/utf8.first", laid_unicode_utf8_first)] }
def ContentCutsSaid : Prop := contentCutsRow.holds Tryd.pinned (OpenSpec.ofChange contentCutsSpec)

/-- ITS FALSE NEIGHBOUR: 'it returns false'. Refute it at one input. -/
def contentCutsWrong : ChangeSpec := { name := "contentCuts", fn := fun _ => fun
  | [d1, d2] => { results := [.lit (.bool false)], args := [d1, d2] }
  | _ => none }
def ContentCutsWrongFalsely : Prop := contentCutsRow.holds Tryd.pinned (OpenSpec.ofChange contentCutsWrong)

/-- 'vellumlaw04.ContentJoins': WHATEVER THE INPUT: true; the input reads as it did. -/
def contentJoinsSpec : ChangeSpec := { name := "contentJoins", fn := fun _ => fun
  | [d1, d2] => { results := [.lit (.bool true)], args := [d1, d2] }
  | _ => none }
def contentJoinsRow : OpenClaim := { program := "ytekfdfafhfhfbaadoor", sum := "cae03383967707d73066508cb96553111a33295f0b2bdbd54f4b6c3e3120fa64", func := "vellum/vellumlaw04.ContentJoins", spec := "contentJoins", inPlace := ["internal/bytealg.CountString", "internal/bytealg.IndexByteString", "internal/bytealg.IndexString"], unfollowed := true, recurses := true, named := ["vellum/api.ErrRange", "vellum/api.ErrUtf8", "vellum/api.ErrKind", "vellum/api.ErrOp", "vellum/api.ErrKey", "unicode/utf8.first", "unicode/utf8.acceptRanges", "vellum/api.ErrLimit", "vellum/api.ErrNull", "vellum/api.ErrAttrs", "internal/bytealg.MaxLen", "vellum/api.ErrJson", "vellum/api.ErrNest", "vellum/api.ErrNumber", "vellum/api.ErrLong", "vellum/api.ErrSchema", "vellum/api.ErrEnd", "vellum/api.ErrEmpty", "vellum/api.ErrMark", "vellum/api.ErrReplica", "vellum/api.ErrBytes", "vellum/api.ErrCommand"], apart := false, laid := [("unicode/utf8.acceptRanges", laid_unicode_utf8_acceptRanges), ("vellum/api.ErrUtf8", laid_vellum_api_ErrUtf8), ("vellum/api.ErrJson", laid_vellum_api_ErrJson), ("vellum/api.ErrNest", laid_vellum_api_ErrNest), ("vellum/api.ErrNumber", laid_vellum_api_ErrNumber), ("vellum/api.ErrKind", laid_vellum_api_ErrKind), ("vellum/api.ErrKey", laid_vellum_api_ErrKey), ("vellum/api.ErrNull", laid_vellum_api_ErrNull), ("vellum/api.ErrAttrs", laid_vellum_api_ErrAttrs), ("vellum/api.ErrOp", laid_vellum_api_ErrOp), ("vellum/api.ErrLimit", laid_vellum_api_ErrLimit), ("vellum/api.ErrLong", laid_vellum_api_ErrLong), ("vellum/api.ErrRange", laid_vellum_api_ErrRange), ("vellum/api.ErrSchema", laid_vellum_api_ErrSchema), ("vellum/api.ErrEnd", laid_vellum_api_ErrEnd), ("vellum/api.ErrEmpty", laid_vellum_api_ErrEmpty), ("vellum/api.ErrMark", laid_vellum_api_ErrMark), ("vellum/api.ErrReplica", laid_vellum_api_ErrReplica), ("vellum/api.ErrBytes", laid_vellum_api_ErrBytes), ("vellum/api.ErrCommand", laid_vellum_api_ErrCommand), ("unicode/utf8.first", laid_unicode_utf8_first)] }
def ContentJoinsSaid : Prop := contentJoinsRow.holds Tryd.pinned (OpenSpec.ofChange contentJoinsSpec)

/-- ITS FALSE NEIGHBOUR: 'it returns false'. Refute it at one input. -/
def contentJoinsWrong : ChangeSpec := { name := "contentJoins", fn := fun _ => fun
  | [d1, d2] => { results := [.lit (.bool false)], args := [d1, d2] }
  | _ => none }
def ContentJoinsWrongFalsely : Prop := contentJoinsRow.holds Tryd.pinned (OpenSpec.ofChange contentJoinsWrong)

/-- 'vellumlaw04.ContentBack': WHATEVER THE INPUT: true; the input reads as it did. -/
def contentBackSpec : ChangeSpec := { name := "contentBack", fn := fun _ => fun
  | [d1, d2] => { results := [.lit (.bool true)], args := [d1, d2] }
  | _ => none }
def contentBackRow : OpenClaim := { program := "ytekfdfafhfhfbaadoor", sum := "cae03383967707d73066508cb96553111a33295f0b2bdbd54f4b6c3e3120fa64", func := "vellum/vellumlaw04.ContentBack", spec := "contentBack", inPlace := ["internal/bytealg.CountString", "internal/bytealg.IndexByteString", "internal/bytealg.IndexString"], unfollowed := true, recurses := true, named := ["vellum/api.ErrRange", "vellum/api.ErrUtf8", "vellum/api.ErrKind", "vellum/api.ErrOp", "vellum/api.ErrKey", "unicode/utf8.first", "unicode/utf8.acceptRanges", "vellum/api.ErrLimit", "vellum/api.ErrNull", "vellum/api.ErrAttrs", "internal/bytealg.MaxLen"], apart := false, laid := [("unicode/utf8.acceptRanges", laid_unicode_utf8_acceptRanges), ("vellum/api.ErrUtf8", laid_vellum_api_ErrUtf8), ("vellum/api.ErrKind", laid_vellum_api_ErrKind), ("vellum/api.ErrKey", laid_vellum_api_ErrKey), ("vellum/api.ErrNull", laid_vellum_api_ErrNull), ("vellum/api.ErrAttrs", laid_vellum_api_ErrAttrs), ("vellum/api.ErrOp", laid_vellum_api_ErrOp), ("vellum/api.ErrLimit", laid_vellum_api_ErrLimit), ("vellum/api.ErrRange", laid_vellum_api_ErrRange), ("unicode/utf8.first", laid_unicode_utf8_first)] }
def ContentBackSaid : Prop := contentBackRow.holds Tryd.pinned (OpenSpec.ofChange contentBackSpec)

/-- ITS FALSE NEIGHBOUR: 'it returns false'. Refute it at one input. -/
def contentBackWrong : ChangeSpec := { name := "contentBack", fn := fun _ => fun
  | [d1, d2] => { results := [.lit (.bool false)], args := [d1, d2] }
  | _ => none }
def ContentBackWrongFalsely : Prop := contentBackRow.holds Tryd.pinned (OpenSpec.ofChange contentBackWrong)

/-- 'vellumlaw04.ContentThree': WHATEVER THE INPUT: true; the input reads as it did. -/
def contentThreeSpec : ChangeSpec := { name := "contentThree", fn := fun _ => fun
  | [d1, d2, d3] => { results := [.lit (.bool true)], args := [d1, d2, d3] }
  | _ => none }
def contentThreeRow : OpenClaim := { program := "ytekfdfafhfhfbaadoor", sum := "cae03383967707d73066508cb96553111a33295f0b2bdbd54f4b6c3e3120fa64", func := "vellum/vellumlaw04.ContentThree", spec := "contentThree", inPlace := ["internal/bytealg.CountString", "internal/bytealg.IndexByteString", "internal/bytealg.IndexString"], unfollowed := true, recurses := true, named := ["vellum/api.ErrRange", "vellum/api.ErrUtf8", "vellum/api.ErrKind", "vellum/api.ErrOp", "vellum/api.ErrKey", "unicode/utf8.first", "unicode/utf8.acceptRanges", "vellum/api.ErrLimit", "vellum/api.ErrNull", "vellum/api.ErrAttrs", "internal/bytealg.MaxLen"], apart := false, laid := [("unicode/utf8.acceptRanges", laid_unicode_utf8_acceptRanges), ("vellum/api.ErrUtf8", laid_vellum_api_ErrUtf8), ("vellum/api.ErrKind", laid_vellum_api_ErrKind), ("vellum/api.ErrKey", laid_vellum_api_ErrKey), ("vellum/api.ErrNull", laid_vellum_api_ErrNull), ("vellum/api.ErrAttrs", laid_vellum_api_ErrAttrs), ("vellum/api.ErrOp", laid_vellum_api_ErrOp), ("vellum/api.ErrLimit", laid_vellum_api_ErrLimit), ("vellum/api.ErrRange", laid_vellum_api_ErrRange), ("unicode/utf8.first", laid_unicode_utf8_first)] }
def ContentThreeSaid : Prop := contentThreeRow.holds Tryd.pinned (OpenSpec.ofChange contentThreeSpec)

/-- ITS FALSE NEIGHBOUR: 'it returns false'. Refute it at one input. -/
def contentThreeWrong : ChangeSpec := { name := "contentThree", fn := fun _ => fun
  | [d1, d2, d3] => { results := [.lit (.bool false)], args := [d1, d2, d3] }
  | _ => none }
def ContentThreeWrongFalsely : Prop := contentThreeRow.holds Tryd.pinned (OpenSpec.ofChange contentThreeWrong)

/-- 'vellumlaw04.ContentPieces': WHATEVER THE INPUT: true; the input reads as it did. -/
def contentPiecesSpec : ChangeSpec := { name := "contentPieces", fn := fun _ => fun
  | [d] => { results := [.lit (.bool true)], args := [d] }
  | _ => none }
def contentPiecesRow : OpenClaim := { program := "ytekfdfafhfhfbaadoor", sum := "cae03383967707d73066508cb96553111a33295f0b2bdbd54f4b6c3e3120fa64", func := "vellum/vellumlaw04.ContentPieces", spec := "contentPieces", inPlace := ["internal/bytealg.CountString", "internal/bytealg.IndexByteString", "internal/bytealg.IndexString"], unfollowed := true, recurses := true, named := ["vellum/api.ErrRange", "vellum/api.ErrUtf8", "vellum/api.ErrKind", "vellum/api.ErrOp", "vellum/api.ErrKey", "unicode/utf8.first", "unicode/utf8.acceptRanges", "vellum/api.ErrLimit", "vellum/api.ErrNull", "vellum/api.ErrAttrs", "internal/bytealg.MaxLen"], apart := false, laid := [("unicode/utf8.acceptRanges", laid_unicode_utf8_acceptRanges), ("vellum/api.ErrUtf8", laid_vellum_api_ErrUtf8), ("vellum/api.ErrKind", laid_vellum_api_ErrKind), ("vellum/api.ErrKey", laid_vellum_api_ErrKey), ("vellum/api.ErrNull", laid_vellum_api_ErrNull), ("vellum/api.ErrAttrs", laid_vellum_api_ErrAttrs), ("vellum/api.ErrOp", laid_vellum_api_ErrOp), ("vellum/api.ErrLimit", laid_vellum_api_ErrLimit), ("vellum/api.ErrRange", laid_vellum_api_ErrRange), ("unicode/utf8.first", laid_unicode_utf8_first)] }
def ContentPiecesSaid : Prop := contentPiecesRow.holds Tryd.pinned (OpenSpec.ofChange contentPiecesSpec)

/-- ITS FALSE NEIGHBOUR: 'it returns false'. Refute it at one input. -/
def contentPiecesWrong : ChangeSpec := { name := "contentPieces", fn := fun _ => fun
  | [d] => { results := [.lit (.bool false)], args := [d] }
  | _ => none }
def ContentPiecesWrongFalsely : Prop := contentPiecesRow.holds Tryd.pinned (OpenSpec.ofChange contentPiecesWrong)

/- THE SECOND FORM. 'bulk': how many values and letters a reading holds, each counted each time it is reached (what is shared counts as often as it is met; a slice's spare places count too). A statement '..UptoSaid' is the law's where the arguments, and the package variables that the reading takes, are together of bulk at most 1048576: NARROWER than '..Said'. Prove '..Said' where nothing that the law and all that it calls make is longer than what came in: it says more and counts as full. Else prove '..UptoSaid'. A law counts once. -/
mutual
def uptoBulk {H : Type} : DataW H → Nat
  | .lit (.string bytes) => bytes.length + 1
  | .lit _ => 1
  | .nil => 1
  | .ptr d => uptoBulk d + 1
  | .slice elems spare => uptoBulkAll elems + uptoBulkAll spare + 1
  | .agg parts => uptoBulkAll parts + 1
  | .iface _ d => uptoBulk d + 1
  | .map entries => uptoBulkEntries entries + 1
  | .held _ => 1
def uptoBulkAll {H : Type} : List (DataW H) → Nat
  | [] => 0
  | d :: r => uptoBulk d + uptoBulkAll r
def uptoBulkEntries {H : Type} : List (Lit × DataW H) → Nat
  | [] => 0
  | x :: r => uptoBulkEntry x + uptoBulkEntries r
def uptoBulkEntry {H : Type} : Lit × DataW H → Nat
  | (.string bytes, d) => bytes.length + uptoBulk d + 1
  | (_, d) => uptoBulk d + 1
 end
def uptoSmall : (H : Type) → List (DataW H) → Bool := fun _ ds => decide (uptoBulkAll ds ≤ 1048576)
def OpenSpec.upto (s : _root_.Go.ChangeSpec) : _root_.Go.OpenSpec := { _root_.Go.OpenSpec.ofChange s with cond := some uptoSmall }

/-- 'vellumlaw05.OpsPlays', WHERE WHAT IT READS IS OF BULK AT MOST 1048576: true; the input reads as it did. -/
def opsPlaysUptoRow : OpenClaim := { program := "ytekfdfafhfhfbaadoor", sum := "cae03383967707d73066508cb96553111a33295f0b2bdbd54f4b6c3e3120fa64", func := "vellum/vellumlaw05.OpsPlays", spec := "opsPlays", unfollowed := true, recurses := true, named := ["vellum/api.ErrOp", "vellum/api.ErrLong", "vellum/api.ErrUtf8", "vellum/api.ErrKind", "vellum/api.ErrKey", "unicode/utf8.first", "unicode/utf8.acceptRanges", "vellum/api.ErrLimit", "vellum/api.ErrNull", "vellum/api.ErrAttrs", "vellum/api.ErrJson", "vellum/api.ErrNest", "vellum/api.ErrNumber", "vellum/api.ErrRange", "vellum/api.ErrSchema", "vellum/api.ErrEnd", "vellum/api.ErrEmpty", "vellum/api.ErrMark", "vellum/api.ErrReplica", "vellum/api.ErrBytes", "vellum/api.ErrCommand"], apart := false, laid := [("unicode/utf8.acceptRanges", laid_unicode_utf8_acceptRanges), ("vellum/api.ErrUtf8", laid_vellum_api_ErrUtf8), ("vellum/api.ErrJson", laid_vellum_api_ErrJson), ("vellum/api.ErrNest", laid_vellum_api_ErrNest), ("vellum/api.ErrNumber", laid_vellum_api_ErrNumber), ("vellum/api.ErrKind", laid_vellum_api_ErrKind), ("vellum/api.ErrKey", laid_vellum_api_ErrKey), ("vellum/api.ErrNull", laid_vellum_api_ErrNull), ("vellum/api.ErrAttrs", laid_vellum_api_ErrAttrs), ("vellum/api.ErrOp", laid_vellum_api_ErrOp), ("vellum/api.ErrLimit", laid_vellum_api_ErrLimit), ("vellum/api.ErrLong", laid_vellum_api_ErrLong), ("vellum/api.ErrRange", laid_vellum_api_ErrRange), ("vellum/api.ErrSchema", laid_vellum_api_ErrSchema), ("vellum/api.ErrEnd", laid_vellum_api_ErrEnd), ("vellum/api.ErrEmpty", laid_vellum_api_ErrEmpty), ("vellum/api.ErrMark", laid_vellum_api_ErrMark), ("vellum/api.ErrReplica", laid_vellum_api_ErrReplica), ("vellum/api.ErrBytes", laid_vellum_api_ErrBytes), ("vellum/api.ErrCommand", laid_vellum_api_ErrCommand), ("unicode/utf8.first", laid_unicode_utf8_first)], narrowed := true }
def OpsPlaysUptoSaid : Prop := opsPlaysUptoRow.holds Tryd.pinned (OpenSpec.upto opsPlaysSpec)

/-- 'vellumlaw05.OpsSums', WHERE WHAT IT READS IS OF BULK AT MOST 1048576: true; the input reads as it did. -/
def opsSumsUptoRow : OpenClaim := { program := "ytekfdfafhfhfbaadoor", sum := "cae03383967707d73066508cb96553111a33295f0b2bdbd54f4b6c3e3120fa64", func := "vellum/vellumlaw05.OpsSums", spec := "opsSums", unfollowed := true, recurses := true, named := ["vellum/api.ErrOp", "vellum/api.ErrLong", "vellum/api.ErrUtf8", "vellum/api.ErrKind", "vellum/api.ErrKey", "unicode/utf8.first", "unicode/utf8.acceptRanges", "vellum/api.ErrLimit", "vellum/api.ErrNull", "vellum/api.ErrAttrs", "vellum/api.ErrJson", "vellum/api.ErrNest", "vellum/api.ErrNumber", "vellum/api.ErrRange", "vellum/api.ErrSchema", "vellum/api.ErrEnd", "vellum/api.ErrEmpty", "vellum/api.ErrMark", "vellum/api.ErrReplica", "vellum/api.ErrBytes", "vellum/api.ErrCommand"], apart := false, laid := [("unicode/utf8.acceptRanges", laid_unicode_utf8_acceptRanges), ("vellum/api.ErrUtf8", laid_vellum_api_ErrUtf8), ("vellum/api.ErrJson", laid_vellum_api_ErrJson), ("vellum/api.ErrNest", laid_vellum_api_ErrNest), ("vellum/api.ErrNumber", laid_vellum_api_ErrNumber), ("vellum/api.ErrKind", laid_vellum_api_ErrKind), ("vellum/api.ErrKey", laid_vellum_api_ErrKey), ("vellum/api.ErrNull", laid_vellum_api_ErrNull), ("vellum/api.ErrAttrs", laid_vellum_api_ErrAttrs), ("vellum/api.ErrOp", laid_vellum_api_ErrOp), ("vellum/api.ErrLimit", laid_vellum_api_ErrLimit), ("vellum/api.ErrLong", laid_vellum_api_ErrLong), ("vellum/api.ErrRange", laid_vellum_api_ErrRange), ("vellum/api.ErrSchema", laid_vellum_api_ErrSchema), ("vellum/api.ErrEnd", laid_vellum_api_ErrEnd), ("vellum/api.ErrEmpty", laid_vellum_api_ErrEmpty), ("vellum/api.ErrMark", laid_vellum_api_ErrMark), ("vellum/api.ErrReplica", laid_vellum_api_ErrReplica), ("vellum/api.ErrBytes", laid_vellum_api_ErrBytes), ("vellum/api.ErrCommand", laid_vellum_api_ErrCommand), ("unicode/utf8.first", laid_unicode_utf8_first)], narrowed := true }
def OpsSumsUptoSaid : Prop := opsSumsUptoRow.holds Tryd.pinned (OpenSpec.upto opsSumsSpec)

/-- 'vellumlaw05.OpsBeginnings', WHERE WHAT IT READS IS OF BULK AT MOST 1048576: true; the input reads as it did. -/
def opsBeginningsUptoRow : OpenClaim := { program := "ytekfdfafhfhfbaadoor", sum := "cae03383967707d73066508cb96553111a33295f0b2bdbd54f4b6c3e3120fa64", func := "vellum/vellumlaw05.OpsBeginnings", spec := "opsBeginnings", unfollowed := true, recurses := true, named := ["vellum/api.ErrOp", "vellum/api.ErrLong", "vellum/api.ErrUtf8", "vellum/api.ErrKind", "vellum/api.ErrKey", "unicode/utf8.first", "unicode/utf8.acceptRanges", "vellum/api.ErrLimit", "vellum/api.ErrNull", "vellum/api.ErrAttrs"], apart := false, laid := [("unicode/utf8.acceptRanges", laid_unicode_utf8_acceptRanges), ("vellum/api.ErrUtf8", laid_vellum_api_ErrUtf8), ("vellum/api.ErrKind", laid_vellum_api_ErrKind), ("vellum/api.ErrKey", laid_vellum_api_ErrKey), ("vellum/api.ErrNull", laid_vellum_api_ErrNull), ("vellum/api.ErrAttrs", laid_vellum_api_ErrAttrs), ("vellum/api.ErrOp", laid_vellum_api_ErrOp), ("vellum/api.ErrLimit", laid_vellum_api_ErrLimit), ("vellum/api.ErrLong", laid_vellum_api_ErrLong), ("unicode/utf8.first", laid_unicode_utf8_first)], narrowed := true }
def OpsBeginningsUptoSaid : Prop := opsBeginningsUptoRow.holds Tryd.pinned (OpenSpec.upto opsBeginningsSpec)

/-- 'vellumlaw05.OpsTypes', WHERE WHAT IT READS IS OF BULK AT MOST 1048576: true; the input reads as it did. -/
def opsTypesUptoRow : OpenClaim := { program := "ytekfdfafhfhfbaadoor", sum := "cae03383967707d73066508cb96553111a33295f0b2bdbd54f4b6c3e3120fa64", func := "vellum/vellumlaw05.OpsTypes", spec := "opsTypes", unfollowed := true, recurses := true, named := ["vellum/api.ErrOp", "vellum/api.ErrLong", "vellum/api.ErrUtf8", "vellum/api.ErrKind", "vellum/api.ErrKey", "unicode/utf8.first", "unicode/utf8.acceptRanges", "vellum/api.ErrLimit", "vellum/api.ErrNull", "vellum/api.ErrAttrs"], apart := false, laid := [("unicode/utf8.acceptRanges", laid_unicode_utf8_acceptRanges), ("vellum/api.ErrUtf8", laid_vellum_api_ErrUtf8), ("vellum/api.ErrKind", laid_vellum_api_ErrKind), ("vellum/api.ErrKey", laid_vellum_api_ErrKey), ("vellum/api.ErrNull", laid_vellum_api_ErrNull), ("vellum/api.ErrAttrs", laid_vellum_api_ErrAttrs), ("vellum/api.ErrOp", laid_vellum_api_ErrOp), ("vellum/api.ErrLimit", laid_vellum_api_ErrLimit), ("vellum/api.ErrLong", laid_vellum_api_ErrLong), ("unicode/utf8.first", laid_unicode_utf8_first)], narrowed := true }
def OpsTypesUptoSaid : Prop := opsTypesUptoRow.holds Tryd.pinned (OpenSpec.upto opsTypesSpec)

/-- 'vellumlaw03.AttrsAsks', WHERE WHAT IT READS IS OF BULK AT MOST 1048576: true; the input reads as it did. -/
def attrsAsksUptoRow : OpenClaim := { program := "ytekfdfafhfhfbaadoor", sum := "cae03383967707d73066508cb96553111a33295f0b2bdbd54f4b6c3e3120fa64", func := "vellum/vellumlaw03.AttrsAsks", spec := "attrsAsks", inPlace := ["slices.overlaps[vellum/api.Attr]"], unfollowed := true, recurses := true, named := ["vellum/api.ErrNull", "vellum/api.ErrAttrs", "vellum/api.ErrKey", "vellum/api.ErrUtf8", "unicode/utf8.first", "unicode/utf8.acceptRanges", "vellum/api.ErrKind", "vellum/api.ErrLimit", "vellum/api.ErrJson", "vellum/api.ErrNest", "vellum/api.ErrNumber", "vellum/api.ErrOp", "vellum/api.ErrLong", "vellum/api.ErrRange", "vellum/api.ErrSchema", "vellum/api.ErrEnd", "vellum/api.ErrEmpty", "vellum/api.ErrMark", "vellum/api.ErrReplica", "vellum/api.ErrBytes", "vellum/api.ErrCommand"], apart := false, laid := [("unicode/utf8.acceptRanges", laid_unicode_utf8_acceptRanges), ("vellum/api.ErrUtf8", laid_vellum_api_ErrUtf8), ("vellum/api.ErrJson", laid_vellum_api_ErrJson), ("vellum/api.ErrNest", laid_vellum_api_ErrNest), ("vellum/api.ErrNumber", laid_vellum_api_ErrNumber), ("vellum/api.ErrKind", laid_vellum_api_ErrKind), ("vellum/api.ErrKey", laid_vellum_api_ErrKey), ("vellum/api.ErrNull", laid_vellum_api_ErrNull), ("vellum/api.ErrAttrs", laid_vellum_api_ErrAttrs), ("vellum/api.ErrOp", laid_vellum_api_ErrOp), ("vellum/api.ErrLimit", laid_vellum_api_ErrLimit), ("vellum/api.ErrLong", laid_vellum_api_ErrLong), ("vellum/api.ErrRange", laid_vellum_api_ErrRange), ("vellum/api.ErrSchema", laid_vellum_api_ErrSchema), ("vellum/api.ErrEnd", laid_vellum_api_ErrEnd), ("vellum/api.ErrEmpty", laid_vellum_api_ErrEmpty), ("vellum/api.ErrMark", laid_vellum_api_ErrMark), ("vellum/api.ErrReplica", laid_vellum_api_ErrReplica), ("vellum/api.ErrBytes", laid_vellum_api_ErrBytes), ("vellum/api.ErrCommand", laid_vellum_api_ErrCommand), ("unicode/utf8.first", laid_unicode_utf8_first)], narrowed := true }
def AttrsAsksUptoSaid : Prop := attrsAsksUptoRow.holds Tryd.pinned (OpenSpec.upto attrsAsksSpec)

/-- 'vellumlaw03.AttrsOwns', WHERE WHAT IT READS IS OF BULK AT MOST 1048576: true; the input reads as it did. -/
def attrsOwnsUptoRow : OpenClaim := { program := "ytekfdfafhfhfbaadoor", sum := "cae03383967707d73066508cb96553111a33295f0b2bdbd54f4b6c3e3120fa64", func := "vellum/vellumlaw03.AttrsOwns", spec := "attrsOwns", inPlace := ["slices.overlaps[vellum/api.Attr]"], unfollowed := true, recurses := true, named := ["vellum/api.ErrNull", "vellum/api.ErrAttrs", "vellum/api.ErrKey", "vellum/api.ErrUtf8", "unicode/utf8.first", "unicode/utf8.acceptRanges", "vellum/api.ErrKind", "vellum/api.ErrLimit"], apart := false, laid := [("unicode/utf8.acceptRanges", laid_unicode_utf8_acceptRanges), ("vellum/api.ErrUtf8", laid_vellum_api_ErrUtf8), ("vellum/api.ErrKind", laid_vellum_api_ErrKind), ("vellum/api.ErrKey", laid_vellum_api_ErrKey), ("vellum/api.ErrNull", laid_vellum_api_ErrNull), ("vellum/api.ErrAttrs", laid_vellum_api_ErrAttrs), ("vellum/api.ErrLimit", laid_vellum_api_ErrLimit), ("unicode/utf8.first", laid_unicode_utf8_first)], narrowed := true }
def AttrsOwnsUptoSaid : Prop := attrsOwnsUptoRow.holds Tryd.pinned (OpenSpec.upto attrsOwnsSpec)

/-- 'vellumlaw04.ContentAsks', WHERE WHAT IT READS IS OF BULK AT MOST 1048576: true; the input reads as it did. -/
def contentAsksUptoRow : OpenClaim := { program := "ytekfdfafhfhfbaadoor", sum := "cae03383967707d73066508cb96553111a33295f0b2bdbd54f4b6c3e3120fa64", func := "vellum/vellumlaw04.ContentAsks", spec := "contentAsks", inPlace := ["internal/bytealg.CountString", "internal/bytealg.IndexByteString", "internal/bytealg.IndexString"], unfollowed := true, recurses := true, named := ["vellum/api.ErrRange", "vellum/api.ErrUtf8", "vellum/api.ErrKind", "vellum/api.ErrOp", "vellum/api.ErrKey", "unicode/utf8.first", "unicode/utf8.acceptRanges", "vellum/api.ErrLimit", "vellum/api.ErrNull", "vellum/api.ErrAttrs", "internal/bytealg.MaxLen", "vellum/api.ErrJson", "vellum/api.ErrNest", "vellum/api.ErrNumber", "vellum/api.ErrLong", "vellum/api.ErrSchema", "vellum/api.ErrEnd", "vellum/api.ErrEmpty", "vellum/api.ErrMark", "vellum/api.ErrReplica", "vellum/api.ErrBytes", "vellum/api.ErrCommand"], apart := false, laid := [("unicode/utf8.acceptRanges", laid_unicode_utf8_acceptRanges), ("vellum/api.ErrUtf8", laid_vellum_api_ErrUtf8), ("vellum/api.ErrJson", laid_vellum_api_ErrJson), ("vellum/api.ErrNest", laid_vellum_api_ErrNest), ("vellum/api.ErrNumber", laid_vellum_api_ErrNumber), ("vellum/api.ErrKind", laid_vellum_api_ErrKind), ("vellum/api.ErrKey", laid_vellum_api_ErrKey), ("vellum/api.ErrNull", laid_vellum_api_ErrNull), ("vellum/api.ErrAttrs", laid_vellum_api_ErrAttrs), ("vellum/api.ErrOp", laid_vellum_api_ErrOp), ("vellum/api.ErrLimit", laid_vellum_api_ErrLimit), ("vellum/api.ErrLong", laid_vellum_api_ErrLong), ("vellum/api.ErrRange", laid_vellum_api_ErrRange), ("vellum/api.ErrSchema", laid_vellum_api_ErrSchema), ("vellum/api.ErrEnd", laid_vellum_api_ErrEnd), ("vellum/api.ErrEmpty", laid_vellum_api_ErrEmpty), ("vellum/api.ErrMark", laid_vellum_api_ErrMark), ("vellum/api.ErrReplica", laid_vellum_api_ErrReplica), ("vellum/api.ErrBytes", laid_vellum_api_ErrBytes), ("vellum/api.ErrCommand", laid_vellum_api_ErrCommand), ("unicode/utf8.first", laid_unicode_utf8_first)], narrowed := true }
def ContentAsksUptoSaid : Prop := contentAsksUptoRow.holds Tryd.pinned (OpenSpec.upto contentAsksSpec)

/-- 'vellumlaw04.ContentCuts', WHERE WHAT IT READS IS OF BULK AT MOST 1048576: true; the input reads as it did. -/
def contentCutsUptoRow : OpenClaim := { program := "ytekfdfafhfhfbaadoor", sum := "cae03383967707d73066508cb96553111a33295f0b2bdbd54f4b6c3e3120fa64", func := "vellum/vellumlaw04.ContentCuts", spec := "contentCuts", inPlace := ["internal/bytealg.CountString", "internal/bytealg.IndexByteString", "internal/bytealg.IndexString"], unfollowed := true, recurses := true, named := ["vellum/api.ErrRange", "vellum/api.ErrUtf8", "vellum/api.ErrKind", "vellum/api.ErrOp", "vellum/api.ErrKey", "unicode/utf8.first", "unicode/utf8.acceptRanges", "vellum/api.ErrLimit", "vellum/api.ErrNull", "vellum/api.ErrAttrs", "internal/bytealg.MaxLen", "vellum/api.ErrJson", "vellum/api.ErrNest", "vellum/api.ErrNumber", "vellum/api.ErrLong", "vellum/api.ErrSchema", "vellum/api.ErrEnd", "vellum/api.ErrEmpty", "vellum/api.ErrMark", "vellum/api.ErrReplica", "vellum/api.ErrBytes", "vellum/api.ErrCommand"], apart := false, laid := [("unicode/utf8.acceptRanges", laid_unicode_utf8_acceptRanges), ("vellum/api.ErrUtf8", laid_vellum_api_ErrUtf8), ("vellum/api.ErrJson", laid_vellum_api_ErrJson), ("vellum/api.ErrNest", laid_vellum_api_ErrNest), ("vellum/api.ErrNumber", laid_vellum_api_ErrNumber), ("vellum/api.ErrKind", laid_vellum_api_ErrKind), ("vellum/api.ErrKey", laid_vellum_api_ErrKey), ("vellum/api.ErrNull", laid_vellum_api_ErrNull), ("vellum/api.ErrAttrs", laid_vellum_api_ErrAttrs), ("vellum/api.ErrOp", laid_vellum_api_ErrOp), ("vellum/api.ErrLimit", laid_vellum_api_ErrLimit), ("vellum/api.ErrLong", laid_vellum_api_ErrLong), ("vellum/api.ErrRange", laid_vellum_api_ErrRange), ("vellum/api.ErrSchema", laid_vellum_api_ErrSchema), ("vellum/api.ErrEnd", laid_vellum_api_ErrEnd), ("vellum/api.ErrEmpty", laid_vellum_api_ErrEmpty), ("vellum/api.ErrMark", laid_vellum_api_ErrMark), ("vellum/api.ErrReplica", laid_vellum_api_ErrReplica), ("vellum/api.ErrBytes", laid_vellum_api_ErrBytes), ("vellum/api.ErrCommand", laid_vellum_api_ErrCommand), ("unicode/utf8.first", laid_unicode_utf8_first)], narrowed := true }
def ContentCutsUptoSaid : Prop := contentCutsUptoRow.holds Tryd.pinned (OpenSpec.upto contentCutsSpec)

/-- 'vellumlaw04.ContentJoins', WHERE WHAT IT READS IS OF BULK AT MOST 1048576: true; the input reads as it did. -/
def contentJoinsUptoRow : OpenClaim := { program := "ytekfdfafhfhfbaadoor", sum := "cae03383967707d73066508cb96553111a33295f0b2bdbd54f4b6c3e3120fa64", func := "vellum/vellumlaw04.ContentJoins", spec := "contentJoins", inPlace := ["internal/bytealg.CountString", "internal/bytealg.IndexByteString", "internal/bytealg.IndexString"], unfollowed := true, recurses := true, named := ["vellum/api.ErrRange", "vellum/api.ErrUtf8", "vellum/api.ErrKind", "vellum/api.ErrOp", "vellum/api.ErrKey", "unicode/utf8.first", "unicode/utf8.acceptRanges", "vellum/api.ErrLimit", "vellum/api.ErrNull", "vellum/api.ErrAttrs", "internal/bytealg.MaxLen", "vellum/api.ErrJson", "vellum/api.ErrNest", "vellum/api.ErrNumber", "vellum/api.ErrLong", "vellum/api.ErrSchema", "vellum/api.ErrEnd", "vellum/api.ErrEmpty", "vellum/api.ErrMark", "vellum/api.ErrReplica", "vellum/api.ErrBytes", "vellum/api.ErrCommand"], apart := false, laid := [("unicode/utf8.acceptRanges", laid_unicode_utf8_acceptRanges), ("vellum/api.ErrUtf8", laid_vellum_api_ErrUtf8), ("vellum/api.ErrJson", laid_vellum_api_ErrJson), ("vellum/api.ErrNest", laid_vellum_api_ErrNest), ("vellum/api.ErrNumber", laid_vellum_api_ErrNumber), ("vellum/api.ErrKind", laid_vellum_api_ErrKind), ("vellum/api.ErrKey", laid_vellum_api_ErrKey), ("vellum/api.ErrNull", laid_vellum_api_ErrNull), ("vellum/api.ErrAttrs", laid_vellum_api_ErrAttrs), ("vellum/api.ErrOp", laid_vellum_api_ErrOp), ("vellum/api.ErrLimit", laid_vellum_api_ErrLimit), ("vellum/api.ErrLong", laid_vellum_api_ErrLong), ("vellum/api.ErrRange", laid_vellum_api_ErrRange), ("vellum/api.ErrSchema", laid_vellum_api_ErrSchema), ("vellum/api.ErrEnd", laid_vellum_api_ErrEnd), ("vellum/api.ErrEmpty", laid_vellum_api_ErrEmpty), ("vellum/api.ErrMark", laid_vellum_api_ErrMark), ("vellum/api.ErrReplica", laid_vellum_api_ErrReplica), ("vellum/api.ErrBytes", laid_vellum_api_ErrBytes), ("vellum/api.ErrCommand", laid_vellum_api_ErrCommand), ("unicode/utf8.first", laid_unicode_utf8_first)], narrowed := true }
def ContentJoinsUptoSaid : Prop := contentJoinsUptoRow.holds Tryd.pinned (OpenSpec.upto contentJoinsSpec)

/-- 'vellumlaw04.ContentBack', WHERE WHAT IT READS IS OF BULK AT MOST 1048576: true; the input reads as it did. -/
def contentBackUptoRow : OpenClaim := { program := "ytekfdfafhfhfbaadoor", sum := "cae03383967707d73066508cb96553111a33295f0b2bdbd54f4b6c3e3120fa64", func := "vellum/vellumlaw04.ContentBack", spec := "contentBack", inPlace := ["internal/bytealg.CountString", "internal/bytealg.IndexByteString", "internal/bytealg.IndexString"], unfollowed := true, recurses := true, named := ["vellum/api.ErrRange", "vellum/api.ErrUtf8", "vellum/api.ErrKind", "vellum/api.ErrOp", "vellum/api.ErrKey", "unicode/utf8.first", "unicode/utf8.acceptRanges", "vellum/api.ErrLimit", "vellum/api.ErrNull", "vellum/api.ErrAttrs", "internal/bytealg.MaxLen"], apart := false, laid := [("unicode/utf8.acceptRanges", laid_unicode_utf8_acceptRanges), ("vellum/api.ErrUtf8", laid_vellum_api_ErrUtf8), ("vellum/api.ErrKind", laid_vellum_api_ErrKind), ("vellum/api.ErrKey", laid_vellum_api_ErrKey), ("vellum/api.ErrNull", laid_vellum_api_ErrNull), ("vellum/api.ErrAttrs", laid_vellum_api_ErrAttrs), ("vellum/api.ErrOp", laid_vellum_api_ErrOp), ("vellum/api.ErrLimit", laid_vellum_api_ErrLimit), ("vellum/api.ErrRange", laid_vellum_api_ErrRange), ("unicode/utf8.first", laid_unicode_utf8_first)], narrowed := true }
def ContentBackUptoSaid : Prop := contentBackUptoRow.holds Tryd.pinned (OpenSpec.upto contentBackSpec)

/-- 'vellumlaw04.ContentThree', WHERE WHAT IT READS IS OF BULK AT MOST 1048576: true; the input reads as it did. -/
def contentThreeUptoRow : OpenClaim := { program := "ytekfdfafhfhfbaadoor", sum := "cae03383967707d73066508cb96553111a33295f0b2bdbd54f4b6c3e3120fa64", func := "vellum/vellumlaw04.ContentThree", spec := "contentThree", inPlace := ["internal/bytealg.CountString", "internal/bytealg.IndexByteString", "internal/bytealg.IndexString"], unfollowed := true, recurses := true, named := ["vellum/api.ErrRange", "vellum/api.ErrUtf8", "vellum/api.ErrKind", "vellum/api.ErrOp", "vellum/api.ErrKey", "unicode/utf8.first", "unicode/utf8.acceptRanges", "vellum/api.ErrLimit", "vellum/api.ErrNull", "vellum/api.ErrAttrs", "internal/bytealg.MaxLen"], apart := false, laid := [("unicode/utf8.acceptRanges", laid_unicode_utf8_acceptRanges), ("vellum/api.ErrUtf8", laid_vellum_api_ErrUtf8), ("vellum/api.ErrKind", laid_vellum_api_ErrKind), ("vellum/api.ErrKey", laid_vellum_api_ErrKey), ("vellum/api.ErrNull", laid_vellum_api_ErrNull), ("vellum/api.ErrAttrs", laid_vellum_api_ErrAttrs), ("vellum/api.ErrOp", laid_vellum_api_ErrOp), ("vellum/api.ErrLimit", laid_vellum_api_ErrLimit), ("vellum/api.ErrRange", laid_vellum_api_ErrRange), ("unicode/utf8.first", laid_unicode_utf8_first)], narrowed := true }
def ContentThreeUptoSaid : Prop := contentThreeUptoRow.holds Tryd.pinned (OpenSpec.upto contentThreeSpec)

/-- 'vellumlaw04.ContentPieces', WHERE WHAT IT READS IS OF BULK AT MOST 1048576: true; the input reads as it did. -/
def contentPiecesUptoRow : OpenClaim := { program := "ytekfdfafhfhfbaadoor", sum := "cae03383967707d73066508cb96553111a33295f0b2bdbd54f4b6c3e3120fa64", func := "vellum/vellumlaw04.ContentPieces", spec := "contentPieces", inPlace := ["internal/bytealg.CountString", "internal/bytealg.IndexByteString", "internal/bytealg.IndexString"], unfollowed := true, recurses := true, named := ["vellum/api.ErrRange", "vellum/api.ErrUtf8", "vellum/api.ErrKind", "vellum/api.ErrOp", "vellum/api.ErrKey", "unicode/utf8.first", "unicode/utf8.acceptRanges", "vellum/api.ErrLimit", "vellum/api.ErrNull", "vellum/api.ErrAttrs", "internal/bytealg.MaxLen"], apart := false, laid := [("unicode/utf8.acceptRanges", laid_unicode_utf8_acceptRanges), ("vellum/api.ErrUtf8", laid_vellum_api_ErrUtf8), ("vellum/api.ErrKind", laid_vellum_api_ErrKind), ("vellum/api.ErrKey", laid_vellum_api_ErrKey), ("vellum/api.ErrNull", laid_vellum_api_ErrNull), ("vellum/api.ErrAttrs", laid_vellum_api_ErrAttrs), ("vellum/api.ErrOp", laid_vellum_api_ErrOp), ("vellum/api.ErrLimit", laid_vellum_api_ErrLimit), ("vellum/api.ErrRange", laid_vellum_api_ErrRange), ("unicode/utf8.first", laid_unicode_utf8_first)], narrowed := true }
def ContentPiecesUptoSaid : Prop := contentPiecesUptoRow.holds Tryd.pinned (OpenSpec.upto contentPiecesSpec)

end Rows
end Go.Proofs.YtekfdfafhfhfbaaDoor
