/-
  NARROWER THAN 'FOR EVERY INPUT', by the rows' own cells (each row's printed sentence says how): MarksPlays: laid · MarksNeighbours: laid · MarksAlone: laid · MarksMemory: laid.
  DERIVED. THE GIVEN ROWS OF THIS SEAT. 4 by the template 'for every input the law returns true; each argument reads behind the call as it read before'; 0 by the template 'total and deterministic' (their statements: YtlnnjfdonilgmaaGreatDoorTotals.lean).
  GIVEN WITH THE SEED: the statements are not yours to turn. If you find one false, say at which input.
  Laid BY PROGRAM, IN A SANDBOX (cutbox-rows.mjs): the forced cells as the released guide's own fill.sh prints them over the translation 86c9d0d245bc9e04… (all of the seat's roots in one cut). By AI agents, Wed Nov 11 2026. No macro, syntax, notation, axiom, sorry.
-/
import Derived.Test.YtlnnjfdonilgmaaGreatDoorChecked
import GoSem.PinnedTables
import GoSem.Claim
import GoSem.ClaimJoined
import GoSem.ClaimMapViews
import Derived.JoinedTies
import Derived.KernelRfl
namespace Go.Proofs.YtlnnjfdonilgmaaGreatDoor
/- THE CELL 'sum', in the pinned program and in every row, IS THE sha256 OF THE DUMP (.gsa) THAT YtlnnjfdonilgmaaGreatDoorProg.lean LOADS. Nothing in Lean hashes anything: it is a label: what it is worth is what the hold of that sum in a sandbox is worth. -/
noncomputable def Tryz.pinned : Pinned := { name := "ytlnnjfdonilgmaagreatdoor", sum := "86c9d0d245bc9e04e9f5718dce6ac9562ac74b2042ce3077b0fe79270947dffa", checked := Tryz.checked }
namespace Rows
def none {H : Type} : Left H := { results := [], args := [] }

/- WHAT THE LISTED PACKAGE-LEVEL VARIABLES READ AS WHEN THE CALL BEGINS. Each datum BY PROGRAM (the guide's laid-datum.mjs) off the statement by which the dump's own 'gosem.cut.vars' lays the variable. In a bare row this is a premise. The card (YtlnnjfdonilgmaaGreatDoorCards.lean) ties it to the program's text. -/
def laid_unicode_utf8_acceptRanges {H : Type} : DataW H := .agg [.agg [.lit (.int .u8 128), .lit (.int .u8 191)], .agg [.lit (.int .u8 160), .lit (.int .u8 191)], .agg [.lit (.int .u8 128), .lit (.int .u8 159)], .agg [.lit (.int .u8 144), .lit (.int .u8 191)], .agg [.lit (.int .u8 128), .lit (.int .u8 143)], .agg [.lit (.int .u8 0), .lit (.int .u8 0)], .agg [.lit (.int .u8 0), .lit (.int .u8 0)], .agg [.lit (.int .u8 0), .lit (.int .u8 0)], .agg [.lit (.int .u8 0), .lit (.int .u8 0)], .agg [.lit (.int .u8 0), .lit (.int .u8 0)], .agg [.lit (.int .u8 0), .lit (.int .u8 0)], .agg [.lit (.int .u8 0), .lit (.int .u8 0)], .agg [.lit (.int .u8 0), .lit (.int .u8 0)], .agg [.lit (.int .u8 0), .lit (.int .u8 0)], .agg [.lit (.int .u8 0), .lit (.int .u8 0)], .agg [.lit (.int .u8 0), .lit (.int .u8 0)]]
def laid_vellum_api_ErrUtf8 {H : Type} : DataW H := .iface "*errors.errorString" (.ptr (.agg [.lit (.string [118, 101, 108, 108, 117, 109, 58, 32, 117, 116, 102, 45, 56])]))
def laid_vellum_api_ErrJson {H : Type} : DataW H := .iface "*errors.errorString" (.ptr (.agg [.lit (.string [118, 101, 108, 108, 117, 109, 58, 32, 106, 115, 111, 110])]))
def laid_vellum_api_ErrNest {H : Type} : DataW H := .iface "*errors.errorString" (.ptr (.agg [.lit (.string [118, 101, 108, 108, 117, 109, 58, 32, 110, 101, 115, 116, 105, 110, 103])]))
def laid_vellum_api_ErrNumber {H : Type} : DataW H := .iface "*errors.errorString" (.ptr (.agg [.lit (.string [118, 101, 108, 108, 117, 109, 58, 32, 110, 117, 109, 98, 101, 114])]))
def laid_vellum_api_ErrKind {H : Type} : DataW H := .iface "*errors.errorString" (.ptr (.agg [.lit (.string [118, 101, 108, 108, 117, 109, 58, 32, 107, 105, 110, 100])]))
def laid_vellum_api_ErrKey {H : Type} : DataW H := .iface "*errors.errorString" (.ptr (.agg [.lit (.string [118, 101, 108, 108, 117, 109, 58, 32, 107, 101, 121])]))
def laid_vellum_api_ErrNull {H : Type} : DataW H := .iface "*errors.errorString" (.ptr (.agg [.lit (.string [118, 101, 108, 108, 117, 109, 58, 32, 110, 117, 108, 108])]))
def laid_vellum_api_ErrAttrs {H : Type} : DataW H := .iface "*errors.errorString" (.ptr (.agg [.lit (.string [118, 101, 108, 108, 117, 109, 58, 32, 97, 116, 116, 114, 105, 98, 117, 116, 101, 115])]))
def laid_vellum_api_ErrOp {H : Type} : DataW H := .iface "*errors.errorString" (.ptr (.agg [.lit (.string [118, 101, 108, 108, 117, 109, 58, 32, 111, 112, 101, 114, 97, 116, 105, 111, 110])]))
def laid_vellum_api_ErrLimit {H : Type} : DataW H := .iface "*errors.errorString" (.ptr (.agg [.lit (.string [118, 101, 108, 108, 117, 109, 58, 32, 108, 105, 109, 105, 116])]))
def laid_vellum_api_ErrLong {H : Type} : DataW H := .iface "*errors.errorString" (.ptr (.agg [.lit (.string [118, 101, 108, 108, 117, 109, 58, 32, 108, 111, 110, 103])]))
def laid_vellum_api_ErrRange {H : Type} : DataW H := .iface "*errors.errorString" (.ptr (.agg [.lit (.string [118, 101, 108, 108, 117, 109, 58, 32, 114, 97, 110, 103, 101])]))
def laid_vellum_api_ErrSchema {H : Type} : DataW H := .iface "*errors.errorString" (.ptr (.agg [.lit (.string [118, 101, 108, 108, 117, 109, 58, 32, 115, 99, 104, 101, 109, 97])]))
def laid_vellum_api_ErrEnd {H : Type} : DataW H := .iface "*errors.errorString" (.ptr (.agg [.lit (.string [118, 101, 108, 108, 117, 109, 58, 32, 101, 110, 100])]))
def laid_vellum_api_ErrEmpty {H : Type} : DataW H := .iface "*errors.errorString" (.ptr (.agg [.lit (.string [118, 101, 108, 108, 117, 109, 58, 32, 101, 109, 112, 116, 121])]))
def laid_vellum_api_ErrMark {H : Type} : DataW H := .iface "*errors.errorString" (.ptr (.agg [.lit (.string [118, 101, 108, 108, 117, 109, 58, 32, 109, 97, 114, 107])]))
def laid_vellum_api_ErrReplica {H : Type} : DataW H := .iface "*errors.errorString" (.ptr (.agg [.lit (.string [118, 101, 108, 108, 117, 109, 58, 32, 114, 101, 112, 108, 105, 99, 97])]))
def laid_vellum_api_ErrBytes {H : Type} : DataW H := .iface "*errors.errorString" (.ptr (.agg [.lit (.string [118, 101, 108, 108, 117, 109, 58, 32, 98, 121, 116, 101, 115])]))
def laid_vellum_api_ErrCommand {H : Type} : DataW H := .iface "*errors.errorString" (.ptr (.agg [.lit (.string [118, 101, 108, 108, 117, 109, 58, 32, 99, 111, 109, 109, 97, 110, 100])]))
/-- One of Go's own tables, pinned by name: the form's constant. -/
def laid_unicode_utf8_first : DataW Unit := Go.Pinned.utf8First

/-- 'vellumlaw23.MarksPlays': WHATEVER THE INPUT: true; the input reads as it did. -/
def marksPlaysSpec : ChangeSpec := { name := "marksPlays", fn := fun _ => fun
  | [d] => { results := [.lit (.bool true)], args := [d] }
  | _ => none }
def marksPlaysRow : OpenClaim := { program := "ytlnnjfdonilgmaagreatdoor", sum := "86c9d0d245bc9e04e9f5718dce6ac9562ac74b2042ce3077b0fe79270947dffa", func := "vellum/vellumlaw23.MarksPlays", spec := "marksPlays", unfollowed := true, recurses := true, named := ["vellum/api.ErrMark", "unicode/utf8.first", "unicode/utf8.acceptRanges", "vellum/api.ErrLong", "vellum/api.ErrOp", "vellum/api.ErrUtf8", "vellum/api.ErrKind", "vellum/api.ErrKey", "vellum/api.ErrLimit", "vellum/api.ErrNull", "vellum/api.ErrAttrs", "vellum/api.ErrRange", "vellum/api.ErrJson", "vellum/api.ErrNest", "vellum/api.ErrNumber", "vellum/api.ErrSchema", "vellum/api.ErrEnd", "vellum/api.ErrEmpty", "vellum/api.ErrReplica", "vellum/api.ErrBytes", "vellum/api.ErrCommand"], apart := false, laid := [("unicode/utf8.acceptRanges", laid_unicode_utf8_acceptRanges), ("vellum/api.ErrUtf8", laid_vellum_api_ErrUtf8), ("vellum/api.ErrJson", laid_vellum_api_ErrJson), ("vellum/api.ErrNest", laid_vellum_api_ErrNest), ("vellum/api.ErrNumber", laid_vellum_api_ErrNumber), ("vellum/api.ErrKind", laid_vellum_api_ErrKind), ("vellum/api.ErrKey", laid_vellum_api_ErrKey), ("vellum/api.ErrNull", laid_vellum_api_ErrNull), ("vellum/api.ErrAttrs", laid_vellum_api_ErrAttrs), ("vellum/api.ErrOp", laid_vellum_api_ErrOp), ("vellum/api.ErrLimit", laid_vellum_api_ErrLimit), ("vellum/api.ErrLong", laid_vellum_api_ErrLong), ("vellum/api.ErrRange", laid_vellum_api_ErrRange), ("vellum/api.ErrSchema", laid_vellum_api_ErrSchema), ("vellum/api.ErrEnd", laid_vellum_api_ErrEnd), ("vellum/api.ErrEmpty", laid_vellum_api_ErrEmpty), ("vellum/api.ErrMark", laid_vellum_api_ErrMark), ("vellum/api.ErrReplica", laid_vellum_api_ErrReplica), ("vellum/api.ErrBytes", laid_vellum_api_ErrBytes), ("vellum/api.ErrCommand", laid_vellum_api_ErrCommand), ("unicode/utf8.first", laid_unicode_utf8_first)] }
def MarksPlaysSaid : Prop := marksPlaysRow.holds Tryz.pinned (OpenSpec.ofChange marksPlaysSpec)

/-- ITS FALSE NEIGHBOUR: 'it returns false'. Refute it at one input. -/
def marksPlaysWrong : ChangeSpec := { name := "marksPlays", fn := fun _ => fun
  | [d] => { results := [.lit (.bool false)], args := [d] }
  | _ => none }
def MarksPlaysWrongFalsely : Prop := marksPlaysRow.holds Tryz.pinned (OpenSpec.ofChange marksPlaysWrong)

/-- 'vellumlaw23.MarksNeighbours': WHATEVER THE INPUT: true; the input reads as it did. -/
def marksNeighboursSpec : ChangeSpec := { name := "marksNeighbours", fn := fun _ => fun
  | [d1, d2, d3] => { results := [.lit (.bool true)], args := [d1, d2, d3] }
  | _ => none }
def marksNeighboursRow : OpenClaim := { program := "ytlnnjfdonilgmaagreatdoor", sum := "86c9d0d245bc9e04e9f5718dce6ac9562ac74b2042ce3077b0fe79270947dffa", func := "vellum/vellumlaw23.MarksNeighbours", spec := "marksNeighbours", unfollowed := true, recurses := true, named := ["vellum/api.ErrMark", "unicode/utf8.first", "unicode/utf8.acceptRanges", "vellum/api.ErrLong", "vellum/api.ErrOp", "vellum/api.ErrUtf8", "vellum/api.ErrKind", "vellum/api.ErrKey", "vellum/api.ErrLimit", "vellum/api.ErrNull", "vellum/api.ErrAttrs", "vellum/api.ErrRange"], apart := false, laid := [("unicode/utf8.acceptRanges", laid_unicode_utf8_acceptRanges), ("vellum/api.ErrUtf8", laid_vellum_api_ErrUtf8), ("vellum/api.ErrKind", laid_vellum_api_ErrKind), ("vellum/api.ErrKey", laid_vellum_api_ErrKey), ("vellum/api.ErrNull", laid_vellum_api_ErrNull), ("vellum/api.ErrAttrs", laid_vellum_api_ErrAttrs), ("vellum/api.ErrOp", laid_vellum_api_ErrOp), ("vellum/api.ErrLimit", laid_vellum_api_ErrLimit), ("vellum/api.ErrLong", laid_vellum_api_ErrLong), ("vellum/api.ErrRange", laid_vellum_api_ErrRange), ("vellum/api.ErrMark", laid_vellum_api_ErrMark), ("unicode/utf8.first", laid_unicode_utf8_first)] }
def MarksNeighboursSaid : Prop := marksNeighboursRow.holds Tryz.pinned (OpenSpec.ofChange marksNeighboursSpec)

/-- ITS FALSE NEIGHBOUR: 'it returns false'. Refute it at one input. -/
def marksNeighboursWrong : ChangeSpec := { name := "marksNeighbours", fn := fun _ => fun
  | [d1, d2, d3] => { results := [.lit (.bool false)], args := [d1, d2, d3] }
  | _ => none }
def MarksNeighboursWrongFalsely : Prop := marksNeighboursRow.holds Tryz.pinned (OpenSpec.ofChange marksNeighboursWrong)

/-- 'vellumlaw23.MarksAlone': WHATEVER THE INPUT: true; the input reads as it did. -/
def marksAloneSpec : ChangeSpec := { name := "marksAlone", fn := fun _ => fun
  | [d1, d2, d3] => { results := [.lit (.bool true)], args := [d1, d2, d3] }
  | _ => none }
def marksAloneRow : OpenClaim := { program := "ytlnnjfdonilgmaagreatdoor", sum := "86c9d0d245bc9e04e9f5718dce6ac9562ac74b2042ce3077b0fe79270947dffa", func := "vellum/vellumlaw23.MarksAlone", spec := "marksAlone", unfollowed := true, recurses := true, named := ["vellum/api.ErrMark", "unicode/utf8.first", "unicode/utf8.acceptRanges", "vellum/api.ErrLong", "vellum/api.ErrOp", "vellum/api.ErrUtf8", "vellum/api.ErrKind", "vellum/api.ErrKey", "vellum/api.ErrLimit", "vellum/api.ErrNull", "vellum/api.ErrAttrs", "vellum/api.ErrRange", "vellum/api.ErrJson", "vellum/api.ErrNest", "vellum/api.ErrNumber", "vellum/api.ErrSchema", "vellum/api.ErrEnd", "vellum/api.ErrEmpty", "vellum/api.ErrReplica", "vellum/api.ErrBytes", "vellum/api.ErrCommand"], apart := false, laid := [("unicode/utf8.acceptRanges", laid_unicode_utf8_acceptRanges), ("vellum/api.ErrUtf8", laid_vellum_api_ErrUtf8), ("vellum/api.ErrJson", laid_vellum_api_ErrJson), ("vellum/api.ErrNest", laid_vellum_api_ErrNest), ("vellum/api.ErrNumber", laid_vellum_api_ErrNumber), ("vellum/api.ErrKind", laid_vellum_api_ErrKind), ("vellum/api.ErrKey", laid_vellum_api_ErrKey), ("vellum/api.ErrNull", laid_vellum_api_ErrNull), ("vellum/api.ErrAttrs", laid_vellum_api_ErrAttrs), ("vellum/api.ErrOp", laid_vellum_api_ErrOp), ("vellum/api.ErrLimit", laid_vellum_api_ErrLimit), ("vellum/api.ErrLong", laid_vellum_api_ErrLong), ("vellum/api.ErrRange", laid_vellum_api_ErrRange), ("vellum/api.ErrSchema", laid_vellum_api_ErrSchema), ("vellum/api.ErrEnd", laid_vellum_api_ErrEnd), ("vellum/api.ErrEmpty", laid_vellum_api_ErrEmpty), ("vellum/api.ErrMark", laid_vellum_api_ErrMark), ("vellum/api.ErrReplica", laid_vellum_api_ErrReplica), ("vellum/api.ErrBytes", laid_vellum_api_ErrBytes), ("vellum/api.ErrCommand", laid_vellum_api_ErrCommand), ("unicode/utf8.first", laid_unicode_utf8_first)] }
def MarksAloneSaid : Prop := marksAloneRow.holds Tryz.pinned (OpenSpec.ofChange marksAloneSpec)

/-- ITS FALSE NEIGHBOUR: 'it returns false'. Refute it at one input. -/
def marksAloneWrong : ChangeSpec := { name := "marksAlone", fn := fun _ => fun
  | [d1, d2, d3] => { results := [.lit (.bool false)], args := [d1, d2, d3] }
  | _ => none }
def MarksAloneWrongFalsely : Prop := marksAloneRow.holds Tryz.pinned (OpenSpec.ofChange marksAloneWrong)

/-- 'vellumlaw23.MarksMemory': WHATEVER THE INPUT: true; the input reads as it did. -/
def marksMemorySpec : ChangeSpec := { name := "marksMemory", fn := fun _ => fun
  | [d1, d2] => { results := [.lit (.bool true)], args := [d1, d2] }
  | _ => none }
def marksMemoryRow : OpenClaim := { program := "ytlnnjfdonilgmaagreatdoor", sum := "86c9d0d245bc9e04e9f5718dce6ac9562ac74b2042ce3077b0fe79270947dffa", func := "vellum/vellumlaw23.MarksMemory", spec := "marksMemory", unfollowed := true, recurses := true, named := ["vellum/api.ErrMark", "unicode/utf8.first", "unicode/utf8.acceptRanges", "vellum/api.ErrLong", "vellum/api.ErrOp", "vellum/api.ErrUtf8", "vellum/api.ErrKind", "vellum/api.ErrKey", "vellum/api.ErrLimit", "vellum/api.ErrNull", "vellum/api.ErrAttrs", "vellum/api.ErrRange", "vellum/api.ErrJson", "vellum/api.ErrNest", "vellum/api.ErrNumber", "vellum/api.ErrSchema", "vellum/api.ErrEnd", "vellum/api.ErrEmpty", "vellum/api.ErrReplica", "vellum/api.ErrBytes", "vellum/api.ErrCommand"], apart := false, laid := [("unicode/utf8.acceptRanges", laid_unicode_utf8_acceptRanges), ("vellum/api.ErrUtf8", laid_vellum_api_ErrUtf8), ("vellum/api.ErrJson", laid_vellum_api_ErrJson), ("vellum/api.ErrNest", laid_vellum_api_ErrNest), ("vellum/api.ErrNumber", laid_vellum_api_ErrNumber), ("vellum/api.ErrKind", laid_vellum_api_ErrKind), ("vellum/api.ErrKey", laid_vellum_api_ErrKey), ("vellum/api.ErrNull", laid_vellum_api_ErrNull), ("vellum/api.ErrAttrs", laid_vellum_api_ErrAttrs), ("vellum/api.ErrOp", laid_vellum_api_ErrOp), ("vellum/api.ErrLimit", laid_vellum_api_ErrLimit), ("vellum/api.ErrLong", laid_vellum_api_ErrLong), ("vellum/api.ErrRange", laid_vellum_api_ErrRange), ("vellum/api.ErrSchema", laid_vellum_api_ErrSchema), ("vellum/api.ErrEnd", laid_vellum_api_ErrEnd), ("vellum/api.ErrEmpty", laid_vellum_api_ErrEmpty), ("vellum/api.ErrMark", laid_vellum_api_ErrMark), ("vellum/api.ErrReplica", laid_vellum_api_ErrReplica), ("vellum/api.ErrBytes", laid_vellum_api_ErrBytes), ("vellum/api.ErrCommand", laid_vellum_api_ErrCommand), ("unicode/utf8.first", laid_unicode_utf8_first)] }
def MarksMemorySaid : Prop := marksMemoryRow.holds Tryz.pinned (OpenSpec.ofChange marksMemorySpec)

/-- ITS FALSE NEIGHBOUR: 'it returns false'. Refute it at one input. -/
def marksMemoryWrong : ChangeSpec := { name := "marksMemory", fn := fun _ => fun
  | [d1, d2] => { results := [.lit (.bool false)], args := [d1, d2] }
  | _ => none }
def MarksMemoryWrongFalsely : Prop := marksMemoryRow.holds Tryz.pinned (OpenSpec.ofChange marksMemoryWrong)

/- THE SECOND FORM. 'bulk': how many values and letters a reading holds, each counted each time it is reached (what is shared counts as often as it is met; a slice's spare places count too). A statement '..UptoSaid' is the law's where the arguments, and the package variables that the reading takes, are together of bulk at most 1048576: NARROWER than '..Said'. Prove '..Said' where nothing that the law and all that it calls make is longer than what came in: it says more and counts as full. Else prove '..UptoSaid'. A law counts once. -/
mutual
def uptoBulk {H : Type} : DataW H → Nat
  | .lit (.string bytes) => bytes.length + 1
  | .lit _ => 1
  | .nil => 1
  | .ptr d => uptoBulk d + 1
  | .slice elems spare => uptoBulkAll elems + uptoBulkAll spare + 1
  | .agg parts => uptoBulkAll parts + 1
  | .iface _ d => uptoBulk d + 1
  | .map entries => uptoBulkEntries entries + 1
  | .held _ => 1
def uptoBulkAll {H : Type} : List (DataW H) → Nat
  | [] => 0
  | d :: r => uptoBulk d + uptoBulkAll r
def uptoBulkEntries {H : Type} : List (Lit × DataW H) → Nat
  | [] => 0
  | x :: r => uptoBulkEntry x + uptoBulkEntries r
def uptoBulkEntry {H : Type} : Lit × DataW H → Nat
  | (.string bytes, d) => bytes.length + uptoBulk d + 1
  | (_, d) => uptoBulk d + 1
 end
def uptoSmall : (H : Type) → List (DataW H) → Bool := fun _ ds => decide (uptoBulkAll ds ≤ 1048576)
def OpenSpec.upto (s : _root_.Go.ChangeSpec) : _root_.Go.OpenSpec := { _root_.Go.OpenSpec.ofChange s with cond := some uptoSmall }

/-- 'vellumlaw23.MarksPlays', WHERE WHAT IT READS IS OF BULK AT MOST 1048576: true; the input reads as it did. -/
def marksPlaysUptoRow : OpenClaim := { program := "ytlnnjfdonilgmaagreatdoor", sum := "86c9d0d245bc9e04e9f5718dce6ac9562ac74b2042ce3077b0fe79270947dffa", func := "vellum/vellumlaw23.MarksPlays", spec := "marksPlays", unfollowed := true, recurses := true, named := ["vellum/api.ErrMark", "unicode/utf8.first", "unicode/utf8.acceptRanges", "vellum/api.ErrLong", "vellum/api.ErrOp", "vellum/api.ErrUtf8", "vellum/api.ErrKind", "vellum/api.ErrKey", "vellum/api.ErrLimit", "vellum/api.ErrNull", "vellum/api.ErrAttrs", "vellum/api.ErrRange", "vellum/api.ErrJson", "vellum/api.ErrNest", "vellum/api.ErrNumber", "vellum/api.ErrSchema", "vellum/api.ErrEnd", "vellum/api.ErrEmpty", "vellum/api.ErrReplica", "vellum/api.ErrBytes", "vellum/api.ErrCommand"], apart := false, laid := [("unicode/utf8.acceptRanges", laid_unicode_utf8_acceptRanges), ("vellum/api.ErrUtf8", laid_vellum_api_ErrUtf8), ("vellum/api.ErrJson", laid_vellum_api_ErrJson), ("vellum/api.ErrNest", laid_vellum_api_ErrNest), ("vellum/api.ErrNumber", laid_vellum_api_ErrNumber), ("vellum/api.ErrKind", laid_vellum_api_ErrKind), ("vellum/api.ErrKey", laid_vellum_api_ErrKey), ("vellum/api.ErrNull", laid_vellum_api_ErrNull), ("vellum/api.ErrAttrs", laid_vellum_api_ErrAttrs), ("vellum/api.ErrOp", laid_vellum_api_ErrOp), ("vellum/api.ErrLimit", laid_vellum_api_ErrLimit), ("vellum/api.ErrLong", laid_vellum_api_ErrLong), ("vellum/api.ErrRange", laid_vellum_api_ErrRange), ("vellum/api.ErrSchema", laid_vellum_api_ErrSchema), ("vellum/api.ErrEnd", laid_vellum_api_ErrEnd), ("vellum/api.ErrEmpty", laid_vellum_api_ErrEmpty), ("vellum/api.ErrMark", laid_vellum_api_ErrMark), ("vellum/api.ErrReplica", laid_vellum_api_ErrReplica), ("vellum/api.ErrBytes", laid_vellum_api_ErrBytes), ("vellum/api.ErrCommand", laid_vellum_api_ErrCommand), ("unicode/utf8.first", laid_unicode_utf8_first)], narrowed := true }
def MarksPlaysUptoSaid : Prop := marksPlaysUptoRow.holds Tryz.pinned (OpenSpec.upto marksPlaysSpec)

/-- 'vellumlaw23.MarksNeighbours', WHERE WHAT IT READS IS OF BULK AT MOST 1048576: true; the input reads as it did. -/
def marksNeighboursUptoRow : OpenClaim := { program := "ytlnnjfdonilgmaagreatdoor", sum := "86c9d0d245bc9e04e9f5718dce6ac9562ac74b2042ce3077b0fe79270947dffa", func := "vellum/vellumlaw23.MarksNeighbours", spec := "marksNeighbours", unfollowed := true, recurses := true, named := ["vellum/api.ErrMark", "unicode/utf8.first", "unicode/utf8.acceptRanges", "vellum/api.ErrLong", "vellum/api.ErrOp", "vellum/api.ErrUtf8", "vellum/api.ErrKind", "vellum/api.ErrKey", "vellum/api.ErrLimit", "vellum/api.ErrNull", "vellum/api.ErrAttrs", "vellum/api.ErrRange"], apart := false, laid := [("unicode/utf8.acceptRanges", laid_unicode_utf8_acceptRanges), ("vellum/api.ErrUtf8", laid_vellum_api_ErrUtf8), ("vellum/api.ErrKind", laid_vellum_api_ErrKind), ("vellum/api.ErrKey", laid_vellum_api_ErrKey), ("vellum/api.ErrNull", laid_vellum_api_ErrNull), ("vellum/api.ErrAttrs", laid_vellum_api_ErrAttrs), ("vellum/api.ErrOp", laid_vellum_api_ErrOp), ("vellum/api.ErrLimit", laid_vellum_api_ErrLimit), ("vellum/api.ErrLong", laid_vellum_api_ErrLong), ("vellum/api.ErrRange", laid_vellum_api_ErrRange), ("vellum/api.ErrMark", laid_vellum_api_ErrMark), ("unicode/utf8.first", laid_unicode_utf8_first)], narrowed := true }
def MarksNeighboursUptoSaid : Prop := marksNeighboursUptoRow.holds Tryz.pinned (OpenSpec.upto marksNeighboursSpec)

/-- 'vellumlaw23.MarksAlone', WHERE WHAT IT READS IS OF BULK AT MOST 1048576: true; the input reads as it did. -/
def marksAloneUptoRow : OpenClaim := { program := "ytlnnjfdonilgmaagreatdoor", sum := "86c9d0d245bc9e04e9f5718dce6ac9562ac74b2042ce3077b0fe79270947dffa", func := "vellum/vellumlaw23.MarksAlone", spec := "marksAlone", unfollowed := true, recurses := true, named := ["vellum/api.ErrMark", "unicode/utf8.first", "unicode/utf8.acceptRanges", "vellum/api.ErrLong", "vellum/api.ErrOp", "vellum/api.ErrUtf8", "vellum/api.ErrKind", "vellum/api.ErrKey", "vellum/api.ErrLimit", "vellum/api.ErrNull", "vellum/api.ErrAttrs", "vellum/api.ErrRange", "vellum/api.ErrJson", "vellum/api.ErrNest", "vellum/api.ErrNumber", "vellum/api.ErrSchema", "vellum/api.ErrEnd", "vellum/api.ErrEmpty", "vellum/api.ErrReplica", "vellum/api.ErrBytes", "vellum/api.ErrCommand"], apart := false, laid := [("unicode/utf8.acceptRanges", laid_unicode_utf8_acceptRanges), ("vellum/api.ErrUtf8", laid_vellum_api_ErrUtf8), ("vellum/api.ErrJson", laid_vellum_api_ErrJson), ("vellum/api.ErrNest", laid_vellum_api_ErrNest), ("vellum/api.ErrNumber", laid_vellum_api_ErrNumber), ("vellum/api.ErrKind", laid_vellum_api_ErrKind), ("vellum/api.ErrKey", laid_vellum_api_ErrKey), ("vellum/api.ErrNull", laid_vellum_api_ErrNull), ("vellum/api.ErrAttrs", laid_vellum_api_ErrAttrs), ("vellum/api.ErrOp", laid_vellum_api_ErrOp), ("vellum/api.ErrLimit", laid_vellum_api_ErrLimit), ("vellum/api.ErrLong", laid_vellum_api_ErrLong), ("vellum/api.ErrRange", laid_vellum_api_ErrRange), ("vellum/api.ErrSchema", laid_vellum_api_ErrSchema), ("vellum/api.ErrEnd", laid_vellum_api_ErrEnd), ("vellum/api.ErrEmpty", laid_vellum_api_ErrEmpty), ("vellum/api.ErrMark", laid_vellum_api_ErrMark), ("vellum/api.ErrReplica", laid_vellum_api_ErrReplica), ("vellum/api.ErrBytes", laid_vellum_api_ErrBytes), ("vellum/api.ErrCommand", laid_vellum_api_ErrCommand), ("unicode/utf8.first", laid_unicode_utf8_first)], narrowed := true }
def MarksAloneUptoSaid : Prop := marksAloneUptoRow.holds Tryz.pinned (OpenSpec.upto marksAloneSpec)

/-- 'vellumlaw23.MarksMemory', WHERE WHAT IT READS IS OF BULK AT MOST 1048576: true; the input reads as it did. -/
def marksMemoryUptoRow : OpenClaim := { program := "ytlnnjfdonilgmaagreatdoor", sum := "86c9d0d245bc9e04e9f5718dce6ac9562ac74b2042ce3077b0fe79270947dffa", func := "vellum/vellumlaw23.MarksMemory", spec := "marksMemory", unfollowed := true, recurses := true, named := ["vellum/api.ErrMark", "unicode/utf8.first", "unicode/utf8.acceptRanges", "vellum/api.ErrLong", "vellum/api.ErrOp", "vellum/api.ErrUtf8", "vellum/api.ErrKind", "vellum/api.ErrKey", "vellum/api.ErrLimit", "vellum/api.ErrNull", "vellum/api.ErrAttrs", "vellum/api.ErrRange", "vellum/api.ErrJson", "vellum/api.ErrNest", "vellum/api.ErrNumber", "vellum/api.ErrSchema", "vellum/api.ErrEnd", "vellum/api.ErrEmpty", "vellum/api.ErrReplica", "vellum/api.ErrBytes", "vellum/api.ErrCommand"], apart := false, laid := [("unicode/utf8.acceptRanges", laid_unicode_utf8_acceptRanges), ("vellum/api.ErrUtf8", laid_vellum_api_ErrUtf8), ("vellum/api.ErrJson", laid_vellum_api_ErrJson), ("vellum/api.ErrNest", laid_vellum_api_ErrNest), ("vellum/api.ErrNumber", laid_vellum_api_ErrNumber), ("vellum/api.ErrKind", laid_vellum_api_ErrKind), ("vellum/api.ErrKey", laid_vellum_api_ErrKey), ("vellum/api.ErrNull", laid_vellum_api_ErrNull), ("vellum/api.ErrAttrs", laid_vellum_api_ErrAttrs), ("vellum/api.ErrOp", laid_vellum_api_ErrOp), ("vellum/api.ErrLimit", laid_vellum_api_ErrLimit), ("vellum/api.ErrLong", laid_vellum_api_ErrLong), ("vellum/api.ErrRange", laid_vellum_api_ErrRange), ("vellum/api.ErrSchema", laid_vellum_api_ErrSchema), ("vellum/api.ErrEnd", laid_vellum_api_ErrEnd), ("vellum/api.ErrEmpty", laid_vellum_api_ErrEmpty), ("vellum/api.ErrMark", laid_vellum_api_ErrMark), ("vellum/api.ErrReplica", laid_vellum_api_ErrReplica), ("vellum/api.ErrBytes", laid_vellum_api_ErrBytes), ("vellum/api.ErrCommand", laid_vellum_api_ErrCommand), ("unicode/utf8.first", laid_unicode_utf8_first)], narrowed := true }
def MarksMemoryUptoSaid : Prop := marksMemoryUptoRow.holds Tryz.pinned (OpenSpec.upto marksMemorySpec)

end Rows
end Go.Proofs.YtlnnjfdonilgmaaGreatDoor
