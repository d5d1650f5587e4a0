/-
  NARROWER THAN 'FOR EVERY INPUT', by the rows' own cells (each row's printed sentence says how): CellsList: laid · CellsBack: laid.
  DERIVED. THE GIVEN ROWS OF THIS SEAT. 2 by the template 'for every input the law returns true; each argument reads behind the call as it read before'; 0 by the template 'total and deterministic' (their statements: YtgphmfnkeolbcaaDoorTotals.lean).
  GIVEN WITH THE SEED: the statements are not yours to turn. If you find one false, say at which input.
  Laid BY PROGRAM, IN A SANDBOX (cutbox-rows.mjs): the forced cells as the released guide's own fill.sh prints them over the translation 70aa7eccf64646d6… (all of the seat's roots in one cut). By AI agents, Wed Nov 11 2026. No macro, syntax, notation, axiom, sorry.
-/
import Derived.Test.YtgphmfnkeolbcaaDoorChecked
import GoSem.PinnedTables
import GoSem.Claim
import GoSem.ClaimJoined
import GoSem.ClaimMapViews
import Derived.JoinedTies
import Derived.KernelRfl
namespace Go.Proofs.YtgphmfnkeolbcaaDoor
/- THE CELL 'sum', in the pinned program and in every row, IS THE sha256 OF THE DUMP (.gsa) THAT YtgphmfnkeolbcaaDoorProg.lean LOADS. Nothing in Lean hashes anything: it is a label: what it is worth is what the hold of that sum in a sandbox is worth. -/
noncomputable def Tryd.pinned : Pinned := { name := "ytgphmfnkeolbcaadoor", sum := "70aa7eccf64646d6ff46b8a7ac0de259ca3ee62074226f190a451aa55e73c75e", checked := Tryd.checked }
namespace Rows
def none {H : Type} : Left H := { results := [], args := [] }

/- WHAT THE LISTED PACKAGE-LEVEL VARIABLES READ AS WHEN THE CALL BEGINS. Each datum BY PROGRAM (the guide's laid-datum.mjs) off the statement by which the dump's own 'gosem.cut.vars' lays the variable. In a bare row this is a premise. The card (YtgphmfnkeolbcaaDoorCards.lean) ties it to the program's text. -/
def laid_unicode_utf8_acceptRanges {H : Type} : DataW H := .agg [.agg [.lit (.int .u8 128), .lit (.int .u8 191)], .agg [.lit (.int .u8 160), .lit (.int .u8 191)], .agg [.lit (.int .u8 128), .lit (.int .u8 159)], .agg [.lit (.int .u8 144), .lit (.int .u8 191)], .agg [.lit (.int .u8 128), .lit (.int .u8 143)], .agg [.lit (.int .u8 0), .lit (.int .u8 0)], .agg [.lit (.int .u8 0), .lit (.int .u8 0)], .agg [.lit (.int .u8 0), .lit (.int .u8 0)], .agg [.lit (.int .u8 0), .lit (.int .u8 0)], .agg [.lit (.int .u8 0), .lit (.int .u8 0)], .agg [.lit (.int .u8 0), .lit (.int .u8 0)], .agg [.lit (.int .u8 0), .lit (.int .u8 0)], .agg [.lit (.int .u8 0), .lit (.int .u8 0)], .agg [.lit (.int .u8 0), .lit (.int .u8 0)], .agg [.lit (.int .u8 0), .lit (.int .u8 0)], .agg [.lit (.int .u8 0), .lit (.int .u8 0)]]
def laid_vellum_api_ErrUtf8 {H : Type} : DataW H := .iface "*errors.errorString" (.ptr (.agg [.lit (.string [118, 101, 108, 108, 117, 109, 58, 32, 117, 116, 102, 45, 56])]))
def laid_vellum_api_ErrJson {H : Type} : DataW H := .iface "*errors.errorString" (.ptr (.agg [.lit (.string [118, 101, 108, 108, 117, 109, 58, 32, 106, 115, 111, 110])]))
def laid_vellum_api_ErrNest {H : Type} : DataW H := .iface "*errors.errorString" (.ptr (.agg [.lit (.string [118, 101, 108, 108, 117, 109, 58, 32, 110, 101, 115, 116, 105, 110, 103])]))
def laid_vellum_api_ErrNumber {H : Type} : DataW H := .iface "*errors.errorString" (.ptr (.agg [.lit (.string [118, 101, 108, 108, 117, 109, 58, 32, 110, 117, 109, 98, 101, 114])]))
def laid_vellum_api_ErrKind {H : Type} : DataW H := .iface "*errors.errorString" (.ptr (.agg [.lit (.string [118, 101, 108, 108, 117, 109, 58, 32, 107, 105, 110, 100])]))
def laid_vellum_api_ErrKey {H : Type} : DataW H := .iface "*errors.errorString" (.ptr (.agg [.lit (.string [118, 101, 108, 108, 117, 109, 58, 32, 107, 101, 121])]))
def laid_vellum_api_ErrNull {H : Type} : DataW H := .iface "*errors.errorString" (.ptr (.agg [.lit (.string [118, 101, 108, 108, 117, 109, 58, 32, 110, 117, 108, 108])]))
def laid_vellum_api_ErrAttrs {H : Type} : DataW H := .iface "*errors.errorString" (.ptr (.agg [.lit (.string [118, 101, 108, 108, 117, 109, 58, 32, 97, 116, 116, 114, 105, 98, 117, 116, 101, 115])]))
def laid_vellum_api_ErrOp {H : Type} : DataW H := .iface "*errors.errorString" (.ptr (.agg [.lit (.string [118, 101, 108, 108, 117, 109, 58, 32, 111, 112, 101, 114, 97, 116, 105, 111, 110])]))
def laid_vellum_api_ErrLimit {H : Type} : DataW H := .iface "*errors.errorString" (.ptr (.agg [.lit (.string [118, 101, 108, 108, 117, 109, 58, 32, 108, 105, 109, 105, 116])]))
def laid_vellum_api_ErrLong {H : Type} : DataW H := .iface "*errors.errorString" (.ptr (.agg [.lit (.string [118, 101, 108, 108, 117, 109, 58, 32, 108, 111, 110, 103])]))
def laid_vellum_api_ErrRange {H : Type} : DataW H := .iface "*errors.errorString" (.ptr (.agg [.lit (.string [118, 101, 108, 108, 117, 109, 58, 32, 114, 97, 110, 103, 101])]))
def laid_vellum_api_ErrSchema {H : Type} : DataW H := .iface "*errors.errorString" (.ptr (.agg [.lit (.string [118, 101, 108, 108, 117, 109, 58, 32, 115, 99, 104, 101, 109, 97])]))
def laid_vellum_api_ErrEnd {H : Type} : DataW H := .iface "*errors.errorString" (.ptr (.agg [.lit (.string [118, 101, 108, 108, 117, 109, 58, 32, 101, 110, 100])]))
def laid_vellum_api_ErrEmpty {H : Type} : DataW H := .iface "*errors.errorString" (.ptr (.agg [.lit (.string [118, 101, 108, 108, 117, 109, 58, 32, 101, 109, 112, 116, 121])]))
def laid_vellum_api_ErrMark {H : Type} : DataW H := .iface "*errors.errorString" (.ptr (.agg [.lit (.string [118, 101, 108, 108, 117, 109, 58, 32, 109, 97, 114, 107])]))
def laid_vellum_api_ErrReplica {H : Type} : DataW H := .iface "*errors.errorString" (.ptr (.agg [.lit (.string [118, 101, 108, 108, 117, 109, 58, 32, 114, 101, 112, 108, 105, 99, 97])]))
def laid_vellum_api_ErrBytes {H : Type} : DataW H := .iface "*errors.errorString" (.ptr (.agg [.lit (.string [118, 101, 108, 108, 117, 109, 58, 32, 98, 121, 116, 101, 115])]))
def laid_vellum_api_ErrCommand {H : Type} : DataW H := .iface "*errors.errorString" (.ptr (.agg [.lit (.string [118, 101, 108, 108, 117, 109, 58, 32, 99, 111, 109, 109, 97, 110, 100])]))
/-- One of Go's own tables, pinned by name: the form's constant. -/
def laid_unicode_utf8_first : DataW Unit := Go.Pinned.utf8First

/-- 'vellumlaw09.CellsList': WHATEVER THE INPUT: true; the input reads as it did. -/
def cellsListSpec : ChangeSpec := { name := "cellsList", fn := fun _ => fun
  | [d1, d2, d3] => { results := [.lit (.bool true)], args := [d1, d2, d3] }
  | _ => none }
def cellsListRow : OpenClaim := { program := "ytgphmfnkeolbcaadoor", sum := "70aa7eccf64646d6ff46b8a7ac0de259ca3ee62074226f190a451aa55e73c75e", func := "vellum/vellumlaw09.CellsList", spec := "cellsList", unfollowed := true, recurses := true, named := ["vellum/api.ErrRange", "vellum/api.ErrKey", "vellum/api.ErrKind", "vellum/api.ErrUtf8", "unicode/utf8.first", "unicode/utf8.acceptRanges", "vellum/api.ErrLimit", "vellum/api.ErrNull", "vellum/api.ErrAttrs", "vellum/api.ErrLong", "vellum/api.ErrOp", "vellum/api.ErrJson", "vellum/api.ErrNest", "vellum/api.ErrNumber", "vellum/api.ErrSchema", "vellum/api.ErrEnd", "vellum/api.ErrEmpty", "vellum/api.ErrMark", "vellum/api.ErrReplica", "vellum/api.ErrBytes", "vellum/api.ErrCommand"], apart := false, laid := [("unicode/utf8.acceptRanges", laid_unicode_utf8_acceptRanges), ("vellum/api.ErrUtf8", laid_vellum_api_ErrUtf8), ("vellum/api.ErrJson", laid_vellum_api_ErrJson), ("vellum/api.ErrNest", laid_vellum_api_ErrNest), ("vellum/api.ErrNumber", laid_vellum_api_ErrNumber), ("vellum/api.ErrKind", laid_vellum_api_ErrKind), ("vellum/api.ErrKey", laid_vellum_api_ErrKey), ("vellum/api.ErrNull", laid_vellum_api_ErrNull), ("vellum/api.ErrAttrs", laid_vellum_api_ErrAttrs), ("vellum/api.ErrOp", laid_vellum_api_ErrOp), ("vellum/api.ErrLimit", laid_vellum_api_ErrLimit), ("vellum/api.ErrLong", laid_vellum_api_ErrLong), ("vellum/api.ErrRange", laid_vellum_api_ErrRange), ("vellum/api.ErrSchema", laid_vellum_api_ErrSchema), ("vellum/api.ErrEnd", laid_vellum_api_ErrEnd), ("vellum/api.ErrEmpty", laid_vellum_api_ErrEmpty), ("vellum/api.ErrMark", laid_vellum_api_ErrMark), ("vellum/api.ErrReplica", laid_vellum_api_ErrReplica), ("vellum/api.ErrBytes", laid_vellum_api_ErrBytes), ("vellum/api.ErrCommand", laid_vellum_api_ErrCommand), ("unicode/utf8.first", laid_unicode_utf8_first)] }
def CellsListSaid : Prop := cellsListRow.holds Tryd.pinned (OpenSpec.ofChange cellsListSpec)

/-- ITS FALSE NEIGHBOUR: 'it returns false'. Refute it at one input. -/
def cellsListWrong : ChangeSpec := { name := "cellsList", fn := fun _ => fun
  | [d1, d2, d3] => { results := [.lit (.bool false)], args := [d1, d2, d3] }
  | _ => none }
def CellsListWrongFalsely : Prop := cellsListRow.holds Tryd.pinned (OpenSpec.ofChange cellsListWrong)

/-- 'vellumlaw09.CellsBack': WHATEVER THE INPUT: true; the input reads as it did. -/
def cellsBackSpec : ChangeSpec := { name := "cellsBack", fn := fun _ => fun
  | [d1, d2] => { results := [.lit (.bool true)], args := [d1, d2] }
  | _ => none }
def cellsBackRow : OpenClaim := { program := "ytgphmfnkeolbcaadoor", sum := "70aa7eccf64646d6ff46b8a7ac0de259ca3ee62074226f190a451aa55e73c75e", func := "vellum/vellumlaw09.CellsBack", spec := "cellsBack", unfollowed := true, recurses := true, named := ["vellum/api.ErrKey", "vellum/api.ErrKind", "vellum/api.ErrUtf8", "unicode/utf8.first", "unicode/utf8.acceptRanges", "vellum/api.ErrLimit", "vellum/api.ErrNull", "vellum/api.ErrAttrs", "vellum/api.ErrLong", "vellum/api.ErrOp"], apart := false, laid := [("unicode/utf8.acceptRanges", laid_unicode_utf8_acceptRanges), ("vellum/api.ErrUtf8", laid_vellum_api_ErrUtf8), ("vellum/api.ErrKind", laid_vellum_api_ErrKind), ("vellum/api.ErrKey", laid_vellum_api_ErrKey), ("vellum/api.ErrNull", laid_vellum_api_ErrNull), ("vellum/api.ErrAttrs", laid_vellum_api_ErrAttrs), ("vellum/api.ErrOp", laid_vellum_api_ErrOp), ("vellum/api.ErrLimit", laid_vellum_api_ErrLimit), ("vellum/api.ErrLong", laid_vellum_api_ErrLong), ("unicode/utf8.first", laid_unicode_utf8_first)] }
def CellsBackSaid : Prop := cellsBackRow.holds Tryd.pinned (OpenSpec.ofChange cellsBackSpec)

/-- ITS FALSE NEIGHBOUR: 'it returns false'. Refute it at one input. -/
def cellsBackWrong : ChangeSpec := { name := "cellsBack", fn := fun _ => fun
  | [d1, d2] => { results := [.lit (.bool false)], args := [d1, d2] }
  | _ => none }
def CellsBackWrongFalsely : Prop := cellsBackRow.holds Tryd.pinned (OpenSpec.ofChange cellsBackWrong)

/- THE SECOND FORM. 'bulk': how many values and letters a reading holds, each counted each time it is reached (what is shared counts as often as it is met; a slice's spare places count too). A statement '..UptoSaid' is the law's where the arguments, and the package variables that the reading takes, are together of bulk at most 1048576: NARROWER than '..Said'. Prove '..Said' where nothing that the law and all that it calls make is longer than what came in: it says more and counts as full. Else prove '..UptoSaid'. A law counts once. -/
mutual
def uptoBulk {H : Type} : DataW H → Nat
  | .lit (.string bytes) => bytes.length + 1
  | .lit _ => 1
  | .nil => 1
  | .ptr d => uptoBulk d + 1
  | .slice elems spare => uptoBulkAll elems + uptoBulkAll spare + 1
  | .agg parts => uptoBulkAll parts + 1
  | .iface _ d => uptoBulk d + 1
  | .map entries => uptoBulkEntries entries + 1
  | .held _ => 1
def uptoBulkAll {H : Type} : List (DataW H) → Nat
  | [] => 0
  | d :: r => uptoBulk d + uptoBulkAll r
def uptoBulkEntries {H : Type} : List (Lit × DataW H) → Nat
  | [] => 0
  | x :: r => uptoBulkEntry x + uptoBulkEntries r
def uptoBulkEntry {H : Type} : Lit × DataW H → Nat
  | (.string bytes, d) => bytes.length + uptoBulk d + 1
  | (_, d) => uptoBulk d + 1
 end
def uptoSmall : (H : Type) → List (DataW H) → Bool := fun _ ds => decide (uptoBulkAll ds ≤ 1048576)
def OpenSpec.upto (s : _root_.Go.ChangeSpec) : _root_.Go.OpenSpec := { _root_.Go.OpenSpec.ofChange s with cond := some uptoSmall }

/-- 'vellumlaw09.CellsList', WHERE WHAT IT READS IS OF BULK AT MOST 1048576: true; the input reads as it did. -/
def cellsListUptoRow : OpenClaim := { program := "ytgphmfnkeolbcaadoor", sum := "70aa7eccf64646d6ff46b8a7ac0de259ca3ee62074226f190a451aa55e73c75e", func := "vellum/vellumlaw09.CellsList", spec := "cellsList", unfollowed := true, recurses := true, named := ["vellum/api.ErrRange", "vellum/api.ErrKey", "vellum/api.ErrKind", "vellum/api.ErrUtf8", "unicode/utf8.first", "unicode/utf8.acceptRanges", "vellum/api.ErrLimit", "vellum/api.ErrNull", "vellum/api.ErrAttrs", "vellum/api.ErrLong", "vellum/api.ErrOp", "vellum/api.ErrJson", "vellum/api.ErrNest", "vellum/api.ErrNumber", "vellum/api.ErrSchema", "vellum/api.ErrEnd", "vellum/api.ErrEmpty", "vellum/api.ErrMark", "vellum/api.ErrReplica", "vellum/api.ErrBytes", "vellum/api.ErrCommand"], apart := false, laid := [("unicode/utf8.acceptRanges", laid_unicode_utf8_acceptRanges), ("vellum/api.ErrUtf8", laid_vellum_api_ErrUtf8), ("vellum/api.ErrJson", laid_vellum_api_ErrJson), ("vellum/api.ErrNest", laid_vellum_api_ErrNest), ("vellum/api.ErrNumber", laid_vellum_api_ErrNumber), ("vellum/api.ErrKind", laid_vellum_api_ErrKind), ("vellum/api.ErrKey", laid_vellum_api_ErrKey), ("vellum/api.ErrNull", laid_vellum_api_ErrNull), ("vellum/api.ErrAttrs", laid_vellum_api_ErrAttrs), ("vellum/api.ErrOp", laid_vellum_api_ErrOp), ("vellum/api.ErrLimit", laid_vellum_api_ErrLimit), ("vellum/api.ErrLong", laid_vellum_api_ErrLong), ("vellum/api.ErrRange", laid_vellum_api_ErrRange), ("vellum/api.ErrSchema", laid_vellum_api_ErrSchema), ("vellum/api.ErrEnd", laid_vellum_api_ErrEnd), ("vellum/api.ErrEmpty", laid_vellum_api_ErrEmpty), ("vellum/api.ErrMark", laid_vellum_api_ErrMark), ("vellum/api.ErrReplica", laid_vellum_api_ErrReplica), ("vellum/api.ErrBytes", laid_vellum_api_ErrBytes), ("vellum/api.ErrCommand", laid_vellum_api_ErrCommand), ("unicode/utf8.first", laid_unicode_utf8_first)], narrowed := true }
def CellsListUptoSaid : Prop := cellsListUptoRow.holds Tryd.pinned (OpenSpec.upto cellsListSpec)

/-- 'vellumlaw09.CellsBack', WHERE WHAT IT READS IS OF BULK AT MOST 1048576: true; the input reads as it did. -/
def cellsBackUptoRow : OpenClaim := { program := "ytgphmfnkeolbcaadoor", sum := "70aa7eccf64646d6ff46b8a7ac0de259ca3ee62074226f190a451aa55e73c75e", func := "vellum/vellumlaw09.CellsBack", spec := "cellsBack", unfollowed := true, recurses := true, named := ["vellum/api.ErrKey", "vellum/api.ErrKind", "vellum/api.ErrUtf8", "unicode/utf8.first", "unicode/utf8.acceptRanges", "vellum/api.ErrLimit", "vellum/api.ErrNull", "vellum/api.ErrAttrs", "vellum/api.ErrLong", "vellum/api.ErrOp"], apart := false, laid := [("unicode/utf8.acceptRanges", laid_unicode_utf8_acceptRanges), ("vellum/api.ErrUtf8", laid_vellum_api_ErrUtf8), ("vellum/api.ErrKind", laid_vellum_api_ErrKind), ("vellum/api.ErrKey", laid_vellum_api_ErrKey), ("vellum/api.ErrNull", laid_vellum_api_ErrNull), ("vellum/api.ErrAttrs", laid_vellum_api_ErrAttrs), ("vellum/api.ErrOp", laid_vellum_api_ErrOp), ("vellum/api.ErrLimit", laid_vellum_api_ErrLimit), ("vellum/api.ErrLong", laid_vellum_api_ErrLong), ("unicode/utf8.first", laid_unicode_utf8_first)], narrowed := true }
def CellsBackUptoSaid : Prop := cellsBackUptoRow.holds Tryd.pinned (OpenSpec.upto cellsBackSpec)

end Rows
end Go.Proofs.YtgphmfnkeolbcaaDoor
