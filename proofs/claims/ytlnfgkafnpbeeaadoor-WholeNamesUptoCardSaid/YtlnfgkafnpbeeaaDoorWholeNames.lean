/- WholeNames: the row and its card. -/
import Derived.Test.YtlnfgkafnpbeeaaDoorCards
import Derived.Test.YtlnfgkafnpbeeaaDoorTie
import Derived.Test.YtlnfgkafnpbeeaaDoorC1
import Derived.Test.YtlnfgkafnpbeeaaDoorClose
import Derived.Lib.LaidU8T
import Derived.WalkKit
import Derived.ProofKit
import Derived.OpenShut
import Derived.Deep.DeepWitnessRowRef
import Derived.LaidByTextLater
set_option linter.unusedVariables false
set_option linter.unusedSimpArgs false
set_option maxRecDepth 100000
namespace Go.Proofs.YtlnfgkafnpbeeaaDoor.WholeNames
open Go Go.ChangeShapes Go.WideShapes Go.ChangeAt Go.RowKit Go.Proofs.YtlnfgkafnpbeeaaDoorW.PrintWords RX
noncomputable def low : Nat := (World.holding Tryd.prog default ⟨#[], #[], []⟩).heap.size
/-- A world for the witness: the variables as their initialisers lay them. -/
noncomputable def laidWorld (os : Os) : World :=
  let w0 := World.holding Tryd.prog os ⟨#[.cells #[.string ⟨#[118, 101, 108, 108, 117, 109, 58, 32, 117, 116, 102, 45, 56]⟩] 97, .cells #[.string ⟨#[118, 101, 108, 108, 117, 109, 58, 32, 106, 115, 111, 110]⟩] 97, .cells #[.string ⟨#[118, 101, 108, 108, 117, 109, 58, 32, 110, 101, 115, 116, 105, 110, 103]⟩] 97, .cells #[.string ⟨#[118, 101, 108, 108, 117, 109, 58, 32, 110, 117, 109, 98, 101, 114]⟩] 97, .cells #[.string ⟨#[118, 101, 108, 108, 117, 109, 58, 32, 107, 105, 110, 100]⟩] 97, .cells #[.string ⟨#[118, 101, 108, 108, 117, 109, 58, 32, 107, 101, 121]⟩] 97, .cells #[.string ⟨#[118, 101, 108, 108, 117, 109, 58, 32, 110, 117, 108, 108]⟩] 97, .cells #[.string ⟨#[118, 101, 108, 108, 117, 109, 58, 32, 97, 116, 116, 114, 105, 98, 117, 116, 101, 115]⟩] 97, .cells #[.string ⟨#[118, 101, 108, 108, 117, 109, 58, 32, 111, 112, 101, 114, 97, 116, 105, 111, 110]⟩] 97, .cells #[.string ⟨#[118, 101, 108, 108, 117, 109, 58, 32, 108, 105, 109, 105, 116]⟩] 97, .cells #[.string ⟨#[118, 101, 108, 108, 117, 109, 58, 32, 108, 111, 110, 103]⟩] 97, .cells #[.string ⟨#[118, 101, 108, 108, 117, 109, 58, 32, 114, 97, 110, 103, 101]⟩] 97, .cells #[.string ⟨#[118, 101, 108, 108, 117, 109, 58, 32, 115, 99, 104, 101, 109, 97]⟩] 97, .cells #[.string ⟨#[118, 101, 108, 108, 117, 109, 58, 32, 101, 110, 100]⟩] 97, .cells #[.string ⟨#[118, 101, 108, 108, 117, 109, 58, 32, 101, 109, 112, 116, 121]⟩] 97, .cells #[.string ⟨#[118, 101, 108, 108, 117, 109, 58, 32, 109, 97, 114, 107]⟩] 97, .cells #[.string ⟨#[118, 101, 108, 108, 117, 109, 58, 32, 114, 101, 112, 108, 105, 99, 97]⟩] 97, .cells #[.string ⟨#[118, 101, 108, 108, 117, 109, 58, 32, 98, 121, 116, 101, 115]⟩] 97, .cells #[.string ⟨#[118, 101, 108, 108, 117, 109, 58, 32, 99, 111, 109, 109, 97, 110, 100]⟩] 97], #[], []⟩
  { w0 with heap := (((((((((((((((((((w0.heap.modify 0 fun | .cells _ t fz => .cells #[.iface 80 (.pointer (some ⟨low + 0, 0, none⟩))] t fz | o => o).modify 1 fun | .cells _ t fz => .cells #[.iface 80 (.pointer (some ⟨low + 1, 0, none⟩))] t fz | o => o).modify 2 fun | .cells _ t fz => .cells #[.iface 80 (.pointer (some ⟨low + 2, 0, none⟩))] t fz | o => o).modify 3 fun | .cells _ t fz => .cells #[.iface 80 (.pointer (some ⟨low + 3, 0, none⟩))] t fz | o => o).modify 4 fun | .cells _ t fz => .cells #[.iface 80 (.pointer (some ⟨low + 4, 0, none⟩))] t fz | o => o).modify 5 fun | .cells _ t fz => .cells #[.iface 80 (.pointer (some ⟨low + 5, 0, none⟩))] t fz | o => o).modify 6 fun | .cells _ t fz => .cells #[.iface 80 (.pointer (some ⟨low + 6, 0, none⟩))] t fz | o => o).modify 7 fun | .cells _ t fz => .cells #[.iface 80 (.pointer (some ⟨low + 7, 0, none⟩))] t fz | o => o).modify 8 fun | .cells _ t fz => .cells #[.iface 80 (.pointer (some ⟨low + 8, 0, none⟩))] t fz | o => o).modify 9 fun | .cells _ t fz => .cells #[.iface 80 (.pointer (some ⟨low + 9, 0, none⟩))] t fz | o => o).modify 10 fun | .cells _ t fz => .cells #[.iface 80 (.pointer (some ⟨low + 10, 0, none⟩))] t fz | o => o).modify 11 fun | .cells _ t fz => .cells #[.iface 80 (.pointer (some ⟨low + 11, 0, none⟩))] t fz | o => o).modify 12 fun | .cells _ t fz => .cells #[.iface 80 (.pointer (some ⟨low + 12, 0, none⟩))] t fz | o => o).modify 13 fun | .cells _ t fz => .cells #[.iface 80 (.pointer (some ⟨low + 13, 0, none⟩))] t fz | o => o).modify 14 fun | .cells _ t fz => .cells #[.iface 80 (.pointer (some ⟨low + 14, 0, none⟩))] t fz | o => o).modify 15 fun | .cells _ t fz => .cells #[.iface 80 (.pointer (some ⟨low + 15, 0, none⟩))] t fz | o => o).modify 16 fun | .cells _ t fz => .cells #[.iface 80 (.pointer (some ⟨low + 16, 0, none⟩))] t fz | o => o).modify 17 fun | .cells _ t fz => .cells #[.iface 80 (.pointer (some ⟨low + 17, 0, none⟩))] t fz | o => o).modify 18 fun | .cells _ t fz => .cells #[.iface 80 (.pointer (some ⟨low + 18, 0, none⟩))] t fz | o => o) }
theorem own : ownKnob Tryd.prog.godebug = none := by kernel_rfl
theorem laidOut : laidOutB Tryd.prog = true := by kernel_rfl
theorem txt_wholeNames {W : World} (h : laidMetH Tryd.prog Rows.wholeNamesUptoRow.laid W) {es : List Addr} (hE : Errs W es) : ErrTxt etx W es := by
  rw [MakeChecks.laidMetH_plain _ _ _ (by kernel_rfl)] at h
  refine errTxt_of h etx hE ?_
  intro n hn
  match n, hn with
  | 0, _ => exact ⟨0, "vellum/api.ErrUtf8", 0, by kernel_rfl, by kernel_rfl, by kernel_rfl, by kernel_rfl⟩
  | 1, _ => exact ⟨1, "vellum/api.ErrJson", 1, by kernel_rfl, by kernel_rfl, by kernel_rfl, by kernel_rfl⟩
  | 2, _ => exact ⟨2, "vellum/api.ErrNest", 2, by kernel_rfl, by kernel_rfl, by kernel_rfl, by kernel_rfl⟩
  | 3, _ => exact ⟨3, "vellum/api.ErrNumber", 3, by kernel_rfl, by kernel_rfl, by kernel_rfl, by kernel_rfl⟩
  | 4, _ => exact ⟨4, "vellum/api.ErrKind", 4, by kernel_rfl, by kernel_rfl, by kernel_rfl, by kernel_rfl⟩
  | 5, _ => exact ⟨5, "vellum/api.ErrKey", 5, by kernel_rfl, by kernel_rfl, by kernel_rfl, by kernel_rfl⟩
  | 6, _ => exact ⟨6, "vellum/api.ErrNull", 6, by kernel_rfl, by kernel_rfl, by kernel_rfl, by kernel_rfl⟩
  | 7, _ => exact ⟨7, "vellum/api.ErrAttrs", 7, by kernel_rfl, by kernel_rfl, by kernel_rfl, by kernel_rfl⟩
  | 8, _ => exact ⟨8, "vellum/api.ErrOp", 8, by kernel_rfl, by kernel_rfl, by kernel_rfl, by kernel_rfl⟩
  | 9, _ => exact ⟨9, "vellum/api.ErrLimit", 9, by kernel_rfl, by kernel_rfl, by kernel_rfl, by kernel_rfl⟩
  | 10, _ => exact ⟨10, "vellum/api.ErrLong", 10, by kernel_rfl, by kernel_rfl, by kernel_rfl, by kernel_rfl⟩
  | 11, _ => exact ⟨11, "vellum/api.ErrRange", 11, by kernel_rfl, by kernel_rfl, by kernel_rfl, by kernel_rfl⟩
  | 12, _ => exact ⟨12, "vellum/api.ErrSchema", 12, by kernel_rfl, by kernel_rfl, by kernel_rfl, by kernel_rfl⟩
  | 13, _ => exact ⟨13, "vellum/api.ErrEnd", 13, by kernel_rfl, by kernel_rfl, by kernel_rfl, by kernel_rfl⟩
  | 14, _ => exact ⟨14, "vellum/api.ErrEmpty", 14, by kernel_rfl, by kernel_rfl, by kernel_rfl, by kernel_rfl⟩
  | 15, _ => exact ⟨15, "vellum/api.ErrMark", 15, by kernel_rfl, by kernel_rfl, by kernel_rfl, by kernel_rfl⟩
  | 16, _ => exact ⟨16, "vellum/api.ErrReplica", 16, by kernel_rfl, by kernel_rfl, by kernel_rfl, by kernel_rfl⟩
  | 17, _ => exact ⟨17, "vellum/api.ErrBytes", 17, by kernel_rfl, by kernel_rfl, by kernel_rfl, by kernel_rfl⟩
  | 18, _ => exact ⟨18, "vellum/api.ErrCommand", 18, by kernel_rfl, by kernel_rfl, by kernel_rfl, by kernel_rfl⟩
  | k + 19, h => omega
theorem errs_wholeNames {W : World} (h : laidMetH Tryd.prog Rows.wholeNamesUptoRow.laid W) : ∃ es, Errs W es := by
  rw [MakeChecks.laidMetH_plain _ _ _ (by kernel_rfl)] at h
  refine errs_of (l' := [("vellum/api.ErrUtf8", Rows.laid_vellum_api_ErrUtf8), ("vellum/api.ErrJson", Rows.laid_vellum_api_ErrJson), ("vellum/api.ErrNest", Rows.laid_vellum_api_ErrNest), ("vellum/api.ErrNumber", Rows.laid_vellum_api_ErrNumber), ("vellum/api.ErrKind", Rows.laid_vellum_api_ErrKind), ("vellum/api.ErrKey", Rows.laid_vellum_api_ErrKey), ("vellum/api.ErrNull", Rows.laid_vellum_api_ErrNull), ("vellum/api.ErrAttrs", Rows.laid_vellum_api_ErrAttrs), ("vellum/api.ErrOp", Rows.laid_vellum_api_ErrOp), ("vellum/api.ErrLimit", Rows.laid_vellum_api_ErrLimit), ("vellum/api.ErrLong", Rows.laid_vellum_api_ErrLong), ("vellum/api.ErrRange", Rows.laid_vellum_api_ErrRange), ("vellum/api.ErrSchema", Rows.laid_vellum_api_ErrSchema), ("vellum/api.ErrEnd", Rows.laid_vellum_api_ErrEnd), ("vellum/api.ErrEmpty", Rows.laid_vellum_api_ErrEmpty), ("vellum/api.ErrMark", Rows.laid_vellum_api_ErrMark), ("vellum/api.ErrReplica", Rows.laid_vellum_api_ErrReplica), ("vellum/api.ErrBytes", Rows.laid_vellum_api_ErrBytes), ("vellum/api.ErrCommand", Rows.laid_vellum_api_ErrCommand)]) h (List.Sublist.cons_cons _ (List.Sublist.cons_cons _ (List.Sublist.cons_cons _ (List.Sublist.cons_cons _ (List.Sublist.cons_cons _ (List.Sublist.cons_cons _ (List.Sublist.cons_cons _ (List.Sublist.cons_cons _ (List.Sublist.cons_cons _ (List.Sublist.cons_cons _ (List.Sublist.cons_cons _ (List.Sublist.cons_cons _ (List.Sublist.cons_cons _ (List.Sublist.cons_cons _ (List.Sublist.cons_cons _ (List.Sublist.cons_cons _ (List.Sublist.cons_cons _ (List.Sublist.cons_cons _ (List.Sublist.cons_cons _ List.Sublist.slnil))))))))))))))))))) (by intro x hx; simp only [List.mem_cons, List.not_mem_nil, or_false] at hx; rcases hx with rfl | rfl | rfl | rfl | rfl | rfl | rfl | rfl | rfl | rfl | rfl | rfl | rfl | rfl | rfl | rfl | rfl | rfl | rfl; (· exact ⟨0, _, by kernel_rfl, by kernel_rfl, rfl⟩); (· exact ⟨1, _, by kernel_rfl, by kernel_rfl, rfl⟩); (· exact ⟨2, _, by kernel_rfl, by kernel_rfl, rfl⟩); (· exact ⟨3, _, by kernel_rfl, by kernel_rfl, rfl⟩); (· exact ⟨4, _, by kernel_rfl, by kernel_rfl, rfl⟩); (· exact ⟨5, _, by kernel_rfl, by kernel_rfl, rfl⟩); (· exact ⟨6, _, by kernel_rfl, by kernel_rfl, rfl⟩); (· exact ⟨7, _, by kernel_rfl, by kernel_rfl, rfl⟩); (· exact ⟨8, _, by kernel_rfl, by kernel_rfl, rfl⟩); (· exact ⟨9, _, by kernel_rfl, by kernel_rfl, rfl⟩); (· exact ⟨10, _, by kernel_rfl, by kernel_rfl, rfl⟩); (· exact ⟨11, _, by kernel_rfl, by kernel_rfl, rfl⟩); (· exact ⟨12, _, by kernel_rfl, by kernel_rfl, rfl⟩); (· exact ⟨13, _, by kernel_rfl, by kernel_rfl, rfl⟩); (· exact ⟨14, _, by kernel_rfl, by kernel_rfl, rfl⟩); (· exact ⟨15, _, by kernel_rfl, by kernel_rfl, rfl⟩); (· exact ⟨16, _, by kernel_rfl, by kernel_rfl, rfl⟩); (· exact ⟨17, _, by kernel_rfl, by kernel_rfl, rfl⟩); (· exact ⟨18, _, by kernel_rfl, by kernel_rfl, rfl⟩)) [0, 1, 2, 3, 4, 5, 6, 7, 8, 9, 10, 11, 12, 13, 14, 15, 16, 17, 18] rfl ?_ (by decide)
  intro i hi
  match i, hi with
  | 0, _ => exact ⟨_, 0, _, _, rfl, rfl, by kernel_rfl, by kernel_rfl⟩
  | 1, _ => exact ⟨_, 1, _, _, rfl, rfl, by kernel_rfl, by kernel_rfl⟩
  | 2, _ => exact ⟨_, 2, _, _, rfl, rfl, by kernel_rfl, by kernel_rfl⟩
  | 3, _ => exact ⟨_, 3, _, _, rfl, rfl, by kernel_rfl, by kernel_rfl⟩
  | 4, _ => exact ⟨_, 4, _, _, rfl, rfl, by kernel_rfl, by kernel_rfl⟩
  | 5, _ => exact ⟨_, 5, _, _, rfl, rfl, by kernel_rfl, by kernel_rfl⟩
  | 6, _ => exact ⟨_, 6, _, _, rfl, rfl, by kernel_rfl, by kernel_rfl⟩
  | 7, _ => exact ⟨_, 7, _, _, rfl, rfl, by kernel_rfl, by kernel_rfl⟩
  | 8, _ => exact ⟨_, 8, _, _, rfl, rfl, by kernel_rfl, by kernel_rfl⟩
  | 9, _ => exact ⟨_, 9, _, _, rfl, rfl, by kernel_rfl, by kernel_rfl⟩
  | 10, _ => exact ⟨_, 10, _, _, rfl, rfl, by kernel_rfl, by kernel_rfl⟩
  | 11, _ => exact ⟨_, 11, _, _, rfl, rfl, by kernel_rfl, by kernel_rfl⟩
  | 12, _ => exact ⟨_, 12, _, _, rfl, rfl, by kernel_rfl, by kernel_rfl⟩
  | 13, _ => exact ⟨_, 13, _, _, rfl, rfl, by kernel_rfl, by kernel_rfl⟩
  | 14, _ => exact ⟨_, 14, _, _, rfl, rfl, by kernel_rfl, by kernel_rfl⟩
  | 15, _ => exact ⟨_, 15, _, _, rfl, rfl, by kernel_rfl, by kernel_rfl⟩
  | 16, _ => exact ⟨_, 16, _, _, rfl, rfl, by kernel_rfl, by kernel_rfl⟩
  | 17, _ => exact ⟨_, 17, _, _, rfl, rfl, by kernel_rfl, by kernel_rfl⟩
  | 18, _ => exact ⟨_, 18, _, _, rfl, rfl, by kernel_rfl, by kernel_rfl⟩
  | k + 19, h => omega
theorem contract_wholeNames (H : Type) (enc : TypeId × Value → H) (W : World) (base : Nat) (args : Array Value) (ds gs : List (DataW H)) (before : List MemPlace)
    (hval : ∀ (j : Nat) t v, Tryd.f10.params[j]? = some t → args[j]? = some v → Value.okWide Tryd.prog W .any base t v)
    (hW : DataW.Whole enc Tryd.prog Tryd.f10.params.toList Rows.wholeNamesSpec.vars false W args.toList ds gs before) (hk : Rows.uptoSmall H (ds ++ gs) = true) (hL : laidMetH Tryd.prog Rows.wholeNamesUptoRow.laid W) :
    Calls Tryd.prog 10 args W fun e W' => ∃ v, e = .returned v ∧ Rows.wholeNamesSpec.post enc Tryd.prog Tryd.f10 false true false false W args v W' := by
  have hW' := hW
  obtain ⟨p, q, hA0, hV, rfl, hfz, hnd⟩ := hW
  have hA : DataW.TrodAll enc Tryd.prog W 0 (fun _ => true) true Tryd.f10.params.toList args.toList ds p := hA0
  rw [Tryd.params10] at hA hval
  obtain ⟨rfl, rfl, rfl⟩ := trodAll_none hA
  obtain ⟨rfl, rfl⟩ := trodVars_none hV
  obtain ⟨es, hE⟩ := errs_wholeNames hL
  have hX := txt_wholeNames hL hE
  refine (names_any W es hE hX).mono fun e W' ⟨he, hb⟩ => ?_
  subst he
  exact ⟨_, rfl, Close.law_post (s := Rows.wholeNamesSpec) laidOut (Close.params_ok (by kernel_rfl)) (show Tryd.f10.resultTypes = #[4] by kernel_rfl) Tryd.underlying4 rfl hW' rfl hb⟩
theorem laid_wholeNames (os : Os) : laidMet Tryd.prog Rows.wholeNamesUptoRow.laid ((laidWorld os).forCall (fun _ _ => 0) ⟨#[], #[], []⟩).memory := laidMet_of_run' 8 (by kernel_rfl) (by kernel_rfl)
theorem reads_wholeNames (os : Os) {H : Type} (enc : TypeId × Value → H) : ∃ places, DataW.whole enc Tryd.prog ((laidWorld os).forCall (fun _ _ => 0) ⟨#[], #[], []⟩).memory Tryd.f10.params.toList Rows.wholeNamesSpec.vars false (#[] : Array Value).toList 8 = some ([], [], places) := ⟨[], by kernel_rfl⟩
set_option maxRecDepth 100000 in
theorem lifted_wholeNames (os : Os) (started : os.Started) (H : Type) (enc : TypeId × Value → H) (F : Stop.Interp) :
    ReturnsInHanded {} Tryd.checked os 10 .any ((Rows.OpenSpec.upto Rows.wholeNamesSpec).preRow enc Tryd.prog Tryd.f10 Rows.wholeNamesUptoRow.domain false Rows.wholeNamesUptoRow.laid) (((Rows.OpenSpec.upto Rows.wholeNamesSpec).at F).post enc Tryd.prog Tryd.f10 false true false false) := by
  obtain ⟨places, hx⟩ := reads_wholeNames os enc
  refine returnsInHanded_of_row (C := Tryd.checked) (s := (Rows.OpenSpec.upto Rows.wholeNamesSpec)) own started (by kernel_rfl) Tryd.func10
    (witness_row_atRef (enc := enc) (C := Tryd.checked) false (laidWorld os) #[] rfl (by kernel_rfl) (by kernel_rfl) (by kernel_rfl)
      (OpenSpec.preRow_of_cond 8 hx (by kernel_rfl) (fun k hk => by cases hk; kernel_rfl) (by kernel_rfl) (by rw [MakeChecks.laidMetH_plain _ _ _ (by kernel_rfl)]; exact laid_wholeNames os))) ?_
  intro W base args ds gs before hval hW _ hcond _ hL _ _
  exact contract_wholeNames H enc W base args ds gs before hval hW (hcond _ rfl) hL
theorem said_wholeNames : Rows.WholeNamesUptoSaid :=
  OpenClaim.holds_of_cond 10 Tryd.f10 rfl rfl rfl rfl rfl rfl rfl ⟨rfl, rfl, rfl, rfl, rfl⟩ rfl rfl rfl rfl rfl (by kernel_rfl) Tryd.func10 (by kernel_rfl)
    (of_decide_eq_true (by kernel_rfl)) (by unfold Func.isWrapper; first | (rw [if_pos (by decide +kernel)]; kernel_rfl) | (rw [if_neg (by decide +kernel)]; exact ⟨rfl, rfl⟩))
    (fun os started H enc _ F => by rw [OpenClaim.pre_eq_preRow]; exact lifted_wholeNames os started H enc F)
theorem plain_wholeNames (f : FuncId) (fn : Func) (hf : Tryd.pinned.checked.prog.funcNamed "vellum/vellumtop.WholeNames" = some f) (hfn : Tryd.pinned.checked.prog.funcs[f]? = some fn) :
    true = Tryd.pinned.checked.prog.looks [] ∧ ∀ (j : Nat) t, fn.params[j]? = some t → Tryd.pinned.checked.prog.wantsStandIn t = false := by
  obtain rfl : f = 10 := Option.some.inj ((show Tryd.prog.funcNamed "vellum/vellumtop.WholeNames" = some 10 by kernel_rfl).symm.trans hf) |>.symm
  obtain rfl : fn = Tryd.f10 := (Option.some.inj (Tryd.func10.symm.trans hfn)).symm
  refine ⟨by kernel_rfl, fun j t ht => ?_⟩
  rw [Tryd.params10] at ht
  have hm := Array.mem_of_getElem? ht
  simp at hm
theorem card_wholeNames : Rows.WholeNamesUptoCardSaid :=
  Claim7.holds_tied_plain_at .later [] _ _ _ _ said_wholeNames (fun _ h => by cases h) (by kernel_rfl) (fun _ h => by cases h) wholeNamesUpto_row_tie rfl ⟨rfl, rfl⟩ (by kernel_rfl) rfl plain_wholeNames (by kernel_rfl)
#print axioms card_wholeNames
end Go.Proofs.YtlnfgkafnpbeeaaDoor.WholeNames
