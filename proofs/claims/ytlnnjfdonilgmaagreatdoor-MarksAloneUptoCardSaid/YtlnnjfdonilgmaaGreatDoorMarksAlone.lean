/- MarksAlone: the row and its card. -/
import Derived.Test.YtlnnjfdonilgmaaGreatDoorCards
import Derived.Test.YtlnnjfdonilgmaaGreatDoorTie
import Derived.Test.YtlnnjfdonilgmaaGreatDoorK14
import Derived.Test.YtlnnjfdonilgmaaGreatDoorCloseM
import Derived.Lib.LaidU8T
import Derived.WalkKit
import Derived.ProofKit
import Derived.OpenShut
import Derived.Deep.DeepWitnessRowRef
import Derived.LaidByTextLater
set_option linter.unusedVariables false
set_option linter.unusedSimpArgs false
set_option maxRecDepth 100000
namespace Go.Proofs.YtlnnjfdonilgmaaGreatDoor.MarksAlone
open Go Go.ChangeShapes Go.WideShapes Go.ChangeAt Go.RowKit Go.Proofs.YtlnnjfdonilgmaaGreatDoorW.PrintWords RX
noncomputable def low : Nat := (World.holding Tryz.prog default ⟨#[], #[], []⟩).heap.size
noncomputable def laidWorld (os : Os) : World :=
  let w0 := World.holding Tryz.prog os ⟨#[.cells #[.string ⟨#[118, 101, 108, 108, 117, 109, 58, 32, 117, 116, 102, 45, 56]⟩] 226, .cells #[.string ⟨#[118, 101, 108, 108, 117, 109, 58, 32, 106, 115, 111, 110]⟩] 226, .cells #[.string ⟨#[118, 101, 108, 108, 117, 109, 58, 32, 110, 101, 115, 116, 105, 110, 103]⟩] 226, .cells #[.string ⟨#[118, 101, 108, 108, 117, 109, 58, 32, 110, 117, 109, 98, 101, 114]⟩] 226, .cells #[.string ⟨#[118, 101, 108, 108, 117, 109, 58, 32, 107, 105, 110, 100]⟩] 226, .cells #[.string ⟨#[118, 101, 108, 108, 117, 109, 58, 32, 107, 101, 121]⟩] 226, .cells #[.string ⟨#[118, 101, 108, 108, 117, 109, 58, 32, 110, 117, 108, 108]⟩] 226, .cells #[.string ⟨#[118, 101, 108, 108, 117, 109, 58, 32, 97, 116, 116, 114, 105, 98, 117, 116, 101, 115]⟩] 226, .cells #[.string ⟨#[118, 101, 108, 108, 117, 109, 58, 32, 111, 112, 101, 114, 97, 116, 105, 111, 110]⟩] 226, .cells #[.string ⟨#[118, 101, 108, 108, 117, 109, 58, 32, 108, 105, 109, 105, 116]⟩] 226, .cells #[.string ⟨#[118, 101, 108, 108, 117, 109, 58, 32, 108, 111, 110, 103]⟩] 226, .cells #[.string ⟨#[118, 101, 108, 108, 117, 109, 58, 32, 114, 97, 110, 103, 101]⟩] 226, .cells #[.string ⟨#[118, 101, 108, 108, 117, 109, 58, 32, 115, 99, 104, 101, 109, 97]⟩] 226, .cells #[.string ⟨#[118, 101, 108, 108, 117, 109, 58, 32, 101, 110, 100]⟩] 226, .cells #[.string ⟨#[118, 101, 108, 108, 117, 109, 58, 32, 101, 109, 112, 116, 121]⟩] 226, .cells #[.string ⟨#[118, 101, 108, 108, 117, 109, 58, 32, 109, 97, 114, 107]⟩] 226, .cells #[.string ⟨#[118, 101, 108, 108, 117, 109, 58, 32, 114, 101, 112, 108, 105, 99, 97]⟩] 226, .cells #[.string ⟨#[118, 101, 108, 108, 117, 109, 58, 32, 98, 121, 116, 101, 115]⟩] 226, .cells #[.string ⟨#[118, 101, 108, 108, 117, 109, 58, 32, 99, 111, 109, 109, 97, 110, 100]⟩] 226], #[], []⟩
  { w0 with heap := (((((((((((((((((((((w0.heap.modify 20 fun | .cells _ t fz => .cells ((List.range 16).flatMap fun i => [Value.int .u8 (Go.Lib.accLo i : Nat), Value.int .u8 (Go.Lib.accHi i : Nat)]).toArray t fz | o => o).modify 4 fun | .cells _ t fz => .cells #[.iface 208 (.pointer (some ⟨low + 0, 0, none⟩))] t fz | o => o).modify 5 fun | .cells _ t fz => .cells #[.iface 208 (.pointer (some ⟨low + 1, 0, none⟩))] t fz | o => o).modify 6 fun | .cells _ t fz => .cells #[.iface 208 (.pointer (some ⟨low + 2, 0, none⟩))] t fz | o => o).modify 7 fun | .cells _ t fz => .cells #[.iface 208 (.pointer (some ⟨low + 3, 0, none⟩))] t fz | o => o).modify 8 fun | .cells _ t fz => .cells #[.iface 208 (.pointer (some ⟨low + 4, 0, none⟩))] t fz | o => o).modify 1 fun | .cells _ t fz => .cells #[.iface 208 (.pointer (some ⟨low + 5, 0, none⟩))] t fz | o => o).modify 9 fun | .cells _ t fz => .cells #[.iface 208 (.pointer (some ⟨low + 6, 0, none⟩))] t fz | o => o).modify 10 fun | .cells _ t fz => .cells #[.iface 208 (.pointer (some ⟨low + 7, 0, none⟩))] t fz | o => o).modify 11 fun | .cells _ t fz => .cells #[.iface 208 (.pointer (some ⟨low + 8, 0, none⟩))] t fz | o => o).modify 12 fun | .cells _ t fz => .cells #[.iface 208 (.pointer (some ⟨low + 9, 0, none⟩))] t fz | o => o).modify 3 fun | .cells _ t fz => .cells #[.iface 208 (.pointer (some ⟨low + 10, 0, none⟩))] t fz | o => o).modify 2 fun | .cells _ t fz => .cells #[.iface 208 (.pointer (some ⟨low + 11, 0, none⟩))] t fz | o => o).modify 13 fun | .cells _ t fz => .cells #[.iface 208 (.pointer (some ⟨low + 12, 0, none⟩))] t fz | o => o).modify 14 fun | .cells _ t fz => .cells #[.iface 208 (.pointer (some ⟨low + 13, 0, none⟩))] t fz | o => o).modify 15 fun | .cells _ t fz => .cells #[.iface 208 (.pointer (some ⟨low + 14, 0, none⟩))] t fz | o => o).modify 0 fun | .cells _ t fz => .cells #[.iface 208 (.pointer (some ⟨low + 15, 0, none⟩))] t fz | o => o).modify 16 fun | .cells _ t fz => .cells #[.iface 208 (.pointer (some ⟨low + 16, 0, none⟩))] t fz | o => o).modify 17 fun | .cells _ t fz => .cells #[.iface 208 (.pointer (some ⟨low + 17, 0, none⟩))] t fz | o => o).modify 18 fun | .cells _ t fz => .cells #[.iface 208 (.pointer (some ⟨low + 18, 0, none⟩))] t fz | o => o).modify 19 fun | .cells _ t fz => .cells (Go.Lib.firstTab.map fun n => Value.int .u8 n).toArray t fz | o => o) }
theorem own : ownKnob Tryz.prog.godebug = none := by kernel_rfl
theorem laidOut : laidOutB Tryz.prog = true := by kernel_rfl
theorem errs_marksAlone {W : World} (h : laidMetH Tryz.prog Rows.marksAloneUptoRow.laid W) : ∃ es, Errs W es := by
  rw [MakeChecks.laidMetH_plain _ _ _ (by kernel_rfl)] at h
  refine errs_of (l' := [("vellum/api.ErrUtf8", Rows.laid_vellum_api_ErrUtf8), ("vellum/api.ErrJson", Rows.laid_vellum_api_ErrJson), ("vellum/api.ErrNest", Rows.laid_vellum_api_ErrNest), ("vellum/api.ErrNumber", Rows.laid_vellum_api_ErrNumber), ("vellum/api.ErrKind", Rows.laid_vellum_api_ErrKind), ("vellum/api.ErrKey", Rows.laid_vellum_api_ErrKey), ("vellum/api.ErrNull", Rows.laid_vellum_api_ErrNull), ("vellum/api.ErrAttrs", Rows.laid_vellum_api_ErrAttrs), ("vellum/api.ErrOp", Rows.laid_vellum_api_ErrOp), ("vellum/api.ErrLimit", Rows.laid_vellum_api_ErrLimit), ("vellum/api.ErrLong", Rows.laid_vellum_api_ErrLong), ("vellum/api.ErrRange", Rows.laid_vellum_api_ErrRange), ("vellum/api.ErrSchema", Rows.laid_vellum_api_ErrSchema), ("vellum/api.ErrEnd", Rows.laid_vellum_api_ErrEnd), ("vellum/api.ErrEmpty", Rows.laid_vellum_api_ErrEmpty), ("vellum/api.ErrMark", Rows.laid_vellum_api_ErrMark), ("vellum/api.ErrReplica", Rows.laid_vellum_api_ErrReplica), ("vellum/api.ErrBytes", Rows.laid_vellum_api_ErrBytes), ("vellum/api.ErrCommand", Rows.laid_vellum_api_ErrCommand)]) h (List.Sublist.cons _ (List.Sublist.cons_cons _ (List.Sublist.cons_cons _ (List.Sublist.cons_cons _ (List.Sublist.cons_cons _ (List.Sublist.cons_cons _ (List.Sublist.cons_cons _ (List.Sublist.cons_cons _ (List.Sublist.cons_cons _ (List.Sublist.cons_cons _ (List.Sublist.cons_cons _ (List.Sublist.cons_cons _ (List.Sublist.cons_cons _ (List.Sublist.cons_cons _ (List.Sublist.cons_cons _ (List.Sublist.cons_cons _ (List.Sublist.cons_cons _ (List.Sublist.cons_cons _ (List.Sublist.cons_cons _ (List.Sublist.cons_cons _ (List.Sublist.cons _ List.Sublist.slnil))))))))))))))))))))) (by intro x hx; simp only [List.mem_cons, List.not_mem_nil, or_false] at hx; rcases hx with rfl | rfl | rfl | rfl | rfl | rfl | rfl | rfl | rfl | rfl | rfl | rfl | rfl | rfl | rfl | rfl | rfl | rfl | rfl; (· exact ⟨4, _, by kernel_rfl, by kernel_rfl, rfl⟩); (· exact ⟨5, _, by kernel_rfl, by kernel_rfl, rfl⟩); (· exact ⟨6, _, by kernel_rfl, by kernel_rfl, rfl⟩); (· exact ⟨7, _, by kernel_rfl, by kernel_rfl, rfl⟩); (· exact ⟨8, _, by kernel_rfl, by kernel_rfl, rfl⟩); (· exact ⟨1, _, by kernel_rfl, by kernel_rfl, rfl⟩); (· exact ⟨9, _, by kernel_rfl, by kernel_rfl, rfl⟩); (· exact ⟨10, _, by kernel_rfl, by kernel_rfl, rfl⟩); (· exact ⟨11, _, by kernel_rfl, by kernel_rfl, rfl⟩); (· exact ⟨12, _, by kernel_rfl, by kernel_rfl, rfl⟩); (· exact ⟨3, _, by kernel_rfl, by kernel_rfl, rfl⟩); (· exact ⟨2, _, by kernel_rfl, by kernel_rfl, rfl⟩); (· exact ⟨13, _, by kernel_rfl, by kernel_rfl, rfl⟩); (· exact ⟨14, _, by kernel_rfl, by kernel_rfl, rfl⟩); (· exact ⟨15, _, by kernel_rfl, by kernel_rfl, rfl⟩); (· exact ⟨0, _, by kernel_rfl, by kernel_rfl, rfl⟩); (· exact ⟨16, _, by kernel_rfl, by kernel_rfl, rfl⟩); (· exact ⟨17, _, by kernel_rfl, by kernel_rfl, rfl⟩); (· exact ⟨18, _, by kernel_rfl, by kernel_rfl, rfl⟩)) [0, 1, 2, 3, 4, 5, 6, 7, 8, 9, 10, 11, 12, 13, 14, 15, 16, 17, 18] rfl ?_ (by decide)
  intro i hi
  match i, hi with
  | 0, _ => exact ⟨_, 4, _, _, rfl, rfl, by kernel_rfl, by kernel_rfl⟩
  | 1, _ => exact ⟨_, 5, _, _, rfl, rfl, by kernel_rfl, by kernel_rfl⟩
  | 2, _ => exact ⟨_, 6, _, _, rfl, rfl, by kernel_rfl, by kernel_rfl⟩
  | 3, _ => exact ⟨_, 7, _, _, rfl, rfl, by kernel_rfl, by kernel_rfl⟩
  | 4, _ => exact ⟨_, 8, _, _, rfl, rfl, by kernel_rfl, by kernel_rfl⟩
  | 5, _ => exact ⟨_, 1, _, _, rfl, rfl, by kernel_rfl, by kernel_rfl⟩
  | 6, _ => exact ⟨_, 9, _, _, rfl, rfl, by kernel_rfl, by kernel_rfl⟩
  | 7, _ => exact ⟨_, 10, _, _, rfl, rfl, by kernel_rfl, by kernel_rfl⟩
  | 8, _ => exact ⟨_, 11, _, _, rfl, rfl, by kernel_rfl, by kernel_rfl⟩
  | 9, _ => exact ⟨_, 12, _, _, rfl, rfl, by kernel_rfl, by kernel_rfl⟩
  | 10, _ => exact ⟨_, 3, _, _, rfl, rfl, by kernel_rfl, by kernel_rfl⟩
  | 11, _ => exact ⟨_, 2, _, _, rfl, rfl, by kernel_rfl, by kernel_rfl⟩
  | 12, _ => exact ⟨_, 13, _, _, rfl, rfl, by kernel_rfl, by kernel_rfl⟩
  | 13, _ => exact ⟨_, 14, _, _, rfl, rfl, by kernel_rfl, by kernel_rfl⟩
  | 14, _ => exact ⟨_, 15, _, _, rfl, rfl, by kernel_rfl, by kernel_rfl⟩
  | 15, _ => exact ⟨_, 0, _, _, rfl, rfl, by kernel_rfl, by kernel_rfl⟩
  | 16, _ => exact ⟨_, 16, _, _, rfl, rfl, by kernel_rfl, by kernel_rfl⟩
  | 17, _ => exact ⟨_, 17, _, _, rfl, rfl, by kernel_rfl, by kernel_rfl⟩
  | 18, _ => exact ⟨_, 18, _, _, rfl, rfl, by kernel_rfl, by kernel_rfl⟩
  | k + 19, h => omega
theorem tabs_marksAlone {W : World} (h : laidMetH Tryz.prog Rows.marksAloneUptoRow.laid W) : Tabs W := by
  rw [MakeChecks.laidMetH_plain _ _ _ (by kernel_rfl)] at h
  exact utf8Tabs_of_readsT (P := Tryz.prog) (ρ := Tryz.lays260_ren) (U8Types.of260 Tryz.lays260) ⟨by kernel_rfl, by kernel_rfl, by kernel_rfl, by kernel_rfl, by kernel_rfl, by kernel_rfl, by kernel_rfl⟩ (Lib.laidMet.reads h (.tail _ (.tail _ (.tail _ (.tail _ (.tail _ (.tail _ (.tail _ (.tail _ (.tail _ (.tail _ (.tail _ (.tail _ (.tail _ (.tail _ (.tail _ (.tail _ (.tail _ (.tail _ (.tail _ (.tail _ (.head _)))))))))))))))))))))) (Lib.laidMet.reads h (.head _))
theorem contract_marksAlone (H : Type) (enc : TypeId × Value → H) (W : World) (base : Nat) (args : Array Value) (ds gs : List (DataW H)) (before : List MemPlace)
    (hval : ∀ (j : Nat) t v, Tryz.f5.params[j]? = some t → args[j]? = some v → Value.okWide Tryz.prog W .any base t v)
    (hW : DataW.Whole enc Tryz.prog Tryz.f5.params.toList Rows.marksAloneSpec.vars false W args.toList ds gs before) (hk : Rows.uptoSmall H (ds ++ gs) = true) (hL : laidMetH Tryz.prog Rows.marksAloneUptoRow.laid W) :
    Calls Tryz.prog 5 args W fun e W' => ∃ v, e = .returned v ∧ Rows.marksAloneSpec.post enc Tryz.prog Tryz.f5 false true false false W args v W' := by
  have hW' := hW
  obtain ⟨p, q, hA0, hV, rfl, hfz, hnd⟩ := hW
  have hA : DataW.TrodAll enc Tryz.prog W 0 (fun _ => true) true Tryz.f5.params.toList args.toList ds p := hA0
  rw [Tryz.params5] at hA hval
  obtain ⟨v0, v1, v2, d0, d1, d2, p0, p1, p2, rfl, rfl, rfl, h0, h1, h2⟩ := trodAll_three hA
  obtain ⟨rfl, rfl⟩ := trodVars_none hV
  have hbk : Rows.uptoBulkAll [d0, d1, d2] ≤ 1048576 := by simpa [Rows.uptoSmall] using hk
  simp only [Rows.uptoBulkAll] at hbk
  obtain ⟨es, hE⟩ := errs_marksAlone hL
  have hT := tabs_marksAlone hL
  obtain ⟨A0, c0, xs0, rfl, hc0, C0, k0⟩ := Close.open_slice_arg (d := kOp) Tryz.underlying32 (by kernel_rfl) Close.reads_op (hval 0 32 v0 rfl rfl) h0; obtain ⟨l0, s0, t0⟩ := Close.op_bulk3 k0 (by omega)
  obtain ⟨A1, c1, xs1, rfl, hc1, C1, k1⟩ := Close.open_slice_arg (d := Kd.int .i64) Tryz.underlying38 (by kernel_rfl) (Close.reads_int Tryz.underlying3) (hval 1 38 v1 rfl rfl) h1; rw [Close.wsum_one] at k1
  obtain ⟨x2, rfl, wf2⟩ := Close.open_int_arg (k := .i64) Tryz.underlying3 (hval 2 3 v2 rfl rfl) h2; have bd2 := bounds_i64 wf2
  refine (marksAlone_law A0 A1 c0 c1 xs0 xs1 x2 W C0 C1 hc0 l0 s0 t0 bd2 hT es hE).mono fun e W' ⟨he, hb⟩ => ?_
  subst he
  exact ⟨_, rfl, Close.law_post (s := Rows.marksAloneSpec) laidOut (Close.params_ok (by kernel_rfl)) (show Tryz.f5.resultTypes = #[4] by kernel_rfl) Tryz.underlying4 rfl hW' rfl hb⟩
theorem laid_marksAlone (os : Os) : laidMet Tryz.prog Rows.marksAloneUptoRow.laid ((laidWorld os).forCall (fun _ _ => 0) ⟨#[], #[.slice none 0 0, .slice none 0 0, .int .i64 0], []⟩).memory := laidMet_of_run' 8 (by kernel_rfl) (by kernel_rfl)
theorem reads_marksAlone (os : Os) {H : Type} (enc : TypeId × Value → H) : ∃ places, DataW.whole enc Tryz.prog ((laidWorld os).forCall (fun _ _ => 0) ⟨#[], #[.slice none 0 0, .slice none 0 0, .int .i64 0], []⟩).memory Tryz.f5.params.toList Rows.marksAloneSpec.vars false (#[.slice none 0 0, .slice none 0 0, .int .i64 0] : Array Value).toList 8 = some ([.nil, .nil, .lit (.int .i64 0)], [], places) := ⟨[], by kernel_rfl⟩
set_option maxRecDepth 100000 in
theorem lifted_marksAlone (os : Os) (started : os.Started) (H : Type) (enc : TypeId × Value → H) (F : Stop.Interp) :
    ReturnsInHanded {} Tryz.checked os 5 .any ((Rows.OpenSpec.upto Rows.marksAloneSpec).preRow enc Tryz.prog Tryz.f5 Rows.marksAloneUptoRow.domain false Rows.marksAloneUptoRow.laid) (((Rows.OpenSpec.upto Rows.marksAloneSpec).at F).post enc Tryz.prog Tryz.f5 false true false false) := by
  obtain ⟨places, hx⟩ := reads_marksAlone os enc
  refine returnsInHanded_of_row (C := Tryz.checked) (s := (Rows.OpenSpec.upto Rows.marksAloneSpec)) own started (by kernel_rfl) Tryz.func5
    (witness_row_atRef (enc := enc) (C := Tryz.checked) false (laidWorld os) #[.slice none 0 0, .slice none 0 0, .int .i64 0] rfl (by kernel_rfl) (by kernel_rfl) (by kernel_rfl)
      (OpenSpec.preRow_of_cond 8 hx (by kernel_rfl) (fun k hk => by cases hk; kernel_rfl) (by kernel_rfl) (by rw [MakeChecks.laidMetH_plain _ _ _ (by kernel_rfl)]; exact laid_marksAlone os))) ?_
  intro W base args ds gs before hval hW _ hcond _ hL _ _
  exact contract_marksAlone H enc W base args ds gs before hval hW (hcond _ rfl) hL
theorem said_marksAlone : Rows.MarksAloneUptoSaid :=
  OpenClaim.holds_of_cond 5 Tryz.f5 rfl rfl rfl rfl rfl rfl rfl ⟨rfl, rfl, rfl, rfl, rfl⟩ rfl rfl rfl rfl rfl (by kernel_rfl) Tryz.func5 (by kernel_rfl)
    (of_decide_eq_true (by kernel_rfl)) (by unfold Func.isWrapper; first | (rw [if_pos (by decide +kernel)]; kernel_rfl) | (rw [if_neg (by decide +kernel)]; exact ⟨rfl, rfl⟩))
    (fun os started H enc _ F => by rw [OpenClaim.pre_eq_preRow]; exact lifted_marksAlone os started H enc F)
theorem plain_marksAlone (f : FuncId) (fn : Func) (hf : Tryz.pinned.checked.prog.funcNamed "vellum/vellumlaw23.MarksAlone" = some f) (hfn : Tryz.pinned.checked.prog.funcs[f]? = some fn) :
    true = Tryz.pinned.checked.prog.looks [] ∧ ∀ (j : Nat) t, fn.params[j]? = some t → Tryz.pinned.checked.prog.wantsStandIn t = false := by
  obtain rfl : f = 5 := Option.some.inj ((show Tryz.prog.funcNamed "vellum/vellumlaw23.MarksAlone" = some 5 by kernel_rfl).symm.trans hf) |>.symm
  obtain rfl : fn = Tryz.f5 := (Option.some.inj (Tryz.func5.symm.trans hfn)).symm
  refine ⟨by kernel_rfl, fun j t ht => ?_⟩
  rw [Tryz.params5] at ht
  have hm := Array.mem_of_getElem? ht
  simp only [List.mem_toArray, List.mem_cons, List.not_mem_nil, or_false] at hm
  rcases hm with rfl | rfl | rfl
  · exact (show Tryz.prog.wantsStandIn 32 = false by kernel_rfl)
  · exact (show Tryz.prog.wantsStandIn 38 = false by kernel_rfl)
  · exact (show Tryz.prog.wantsStandIn 3 = false by kernel_rfl)
theorem card_marksAlone : Rows.MarksAloneUptoCardSaid :=
  Claim7.holds_tied_plain_at .later [] _ _ _ _ said_marksAlone (fun _ h => by cases h) (by kernel_rfl) (fun _ h => by cases h) marksAloneUpto_row_tie rfl ⟨rfl, rfl⟩ (by kernel_rfl) rfl plain_marksAlone (by kernel_rfl)
#print axioms card_marksAlone
end Go.Proofs.YtlnnjfdonilgmaaGreatDoor.MarksAlone
