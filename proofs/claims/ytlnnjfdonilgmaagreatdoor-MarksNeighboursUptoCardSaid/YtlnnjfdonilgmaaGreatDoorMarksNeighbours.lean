/- MarksNeighbours: the row and its card. -/
import Derived.Test.YtlnnjfdonilgmaaGreatDoorCards
import Derived.Test.YtlnnjfdonilgmaaGreatDoorTie
import Derived.Test.YtlnnjfdonilgmaaGreatDoorK16
import Derived.Test.YtlnnjfdonilgmaaGreatDoorCloseM
import Derived.Lib.LaidU8T
import Derived.WalkKit
import Derived.ProofKit
import Derived.OpenShut
import Derived.Deep.DeepWitnessRowRef
import Derived.LaidByTextLater
set_option linter.unusedVariables false
set_option linter.unusedSimpArgs false
set_option maxRecDepth 100000
namespace Go.Proofs.YtlnnjfdonilgmaaGreatDoor.MarksNeighbours
open Go Go.ChangeShapes Go.WideShapes Go.ChangeAt Go.RowKit Go.Proofs.YtlnnjfdonilgmaaGreatDoorW.PrintWords RX
noncomputable def low : Nat := (World.holding Tryz.prog default ⟨#[], #[], []⟩).heap.size
noncomputable def laidWorld (os : Os) : World :=
  let w0 := World.holding Tryz.prog os ⟨#[.cells #[.string ⟨#[118, 101, 108, 108, 117, 109, 58, 32, 117, 116, 102, 45, 56]⟩] 226, .cells #[.string ⟨#[118, 101, 108, 108, 117, 109, 58, 32, 107, 105, 110, 100]⟩] 226, .cells #[.string ⟨#[118, 101, 108, 108, 117, 109, 58, 32, 107, 101, 121]⟩] 226, .cells #[.string ⟨#[118, 101, 108, 108, 117, 109, 58, 32, 110, 117, 108, 108]⟩] 226, .cells #[.string ⟨#[118, 101, 108, 108, 117, 109, 58, 32, 97, 116, 116, 114, 105, 98, 117, 116, 101, 115]⟩] 226, .cells #[.string ⟨#[118, 101, 108, 108, 117, 109, 58, 32, 111, 112, 101, 114, 97, 116, 105, 111, 110]⟩] 226, .cells #[.string ⟨#[118, 101, 108, 108, 117, 109, 58, 32, 108, 105, 109, 105, 116]⟩] 226, .cells #[.string ⟨#[118, 101, 108, 108, 117, 109, 58, 32, 108, 111, 110, 103]⟩] 226, .cells #[.string ⟨#[118, 101, 108, 108, 117, 109, 58, 32, 114, 97, 110, 103, 101]⟩] 226, .cells #[.string ⟨#[118, 101, 108, 108, 117, 109, 58, 32, 109, 97, 114, 107]⟩] 226], #[], []⟩
  { w0 with heap := ((((((((((((w0.heap.modify 20 fun | .cells _ t fz => .cells ((List.range 16).flatMap fun i => [Value.int .u8 (Go.Lib.accLo i : Nat), Value.int .u8 (Go.Lib.accHi i : Nat)]).toArray t fz | o => o).modify 4 fun | .cells _ t fz => .cells #[.iface 208 (.pointer (some ⟨low + 0, 0, none⟩))] t fz | o => o).modify 8 fun | .cells _ t fz => .cells #[.iface 208 (.pointer (some ⟨low + 1, 0, none⟩))] t fz | o => o).modify 1 fun | .cells _ t fz => .cells #[.iface 208 (.pointer (some ⟨low + 2, 0, none⟩))] t fz | o => o).modify 9 fun | .cells _ t fz => .cells #[.iface 208 (.pointer (some ⟨low + 3, 0, none⟩))] t fz | o => o).modify 10 fun | .cells _ t fz => .cells #[.iface 208 (.pointer (some ⟨low + 4, 0, none⟩))] t fz | o => o).modify 11 fun | .cells _ t fz => .cells #[.iface 208 (.pointer (some ⟨low + 5, 0, none⟩))] t fz | o => o).modify 12 fun | .cells _ t fz => .cells #[.iface 208 (.pointer (some ⟨low + 6, 0, none⟩))] t fz | o => o).modify 3 fun | .cells _ t fz => .cells #[.iface 208 (.pointer (some ⟨low + 7, 0, none⟩))] t fz | o => o).modify 2 fun | .cells _ t fz => .cells #[.iface 208 (.pointer (some ⟨low + 8, 0, none⟩))] t fz | o => o).modify 0 fun | .cells _ t fz => .cells #[.iface 208 (.pointer (some ⟨low + 9, 0, none⟩))] t fz | o => o).modify 19 fun | .cells _ t fz => .cells (Go.Lib.firstTab.map fun n => Value.int .u8 n).toArray t fz | o => o) }
theorem own : ownKnob Tryz.prog.godebug = none := by kernel_rfl
theorem laidOut : laidOutB Tryz.prog = true := by kernel_rfl
theorem errs_marksNeighbours {W : World} (h : laidMetH Tryz.prog Rows.marksNeighboursUptoRow.laid W) : ∃ es, ErrsOn [1, 5, 6, 7, 8, 9, 10, 11, 12, 16] W es := by
  rw [MakeChecks.laidMetH_plain _ _ _ (by kernel_rfl)] at h
  refine errsOn_of (l' := [("vellum/api.ErrUtf8", Rows.laid_vellum_api_ErrUtf8), ("vellum/api.ErrKind", Rows.laid_vellum_api_ErrKind), ("vellum/api.ErrKey", Rows.laid_vellum_api_ErrKey), ("vellum/api.ErrNull", Rows.laid_vellum_api_ErrNull), ("vellum/api.ErrAttrs", Rows.laid_vellum_api_ErrAttrs), ("vellum/api.ErrOp", Rows.laid_vellum_api_ErrOp), ("vellum/api.ErrLimit", Rows.laid_vellum_api_ErrLimit), ("vellum/api.ErrLong", Rows.laid_vellum_api_ErrLong), ("vellum/api.ErrRange", Rows.laid_vellum_api_ErrRange), ("vellum/api.ErrMark", Rows.laid_vellum_api_ErrMark)]) h (List.Sublist.cons _ (List.Sublist.cons_cons _ (List.Sublist.cons_cons _ (List.Sublist.cons_cons _ (List.Sublist.cons_cons _ (List.Sublist.cons_cons _ (List.Sublist.cons_cons _ (List.Sublist.cons_cons _ (List.Sublist.cons_cons _ (List.Sublist.cons_cons _ (List.Sublist.cons_cons _ (List.Sublist.cons _ List.Sublist.slnil)))))))))))) (by intro x hx; simp only [List.mem_cons, List.not_mem_nil, or_false] at hx; rcases hx with rfl | rfl | rfl | rfl | rfl | rfl | rfl | rfl | rfl | rfl; (· exact ⟨4, _, by kernel_rfl, by kernel_rfl, rfl⟩); (· exact ⟨8, _, by kernel_rfl, by kernel_rfl, rfl⟩); (· exact ⟨1, _, by kernel_rfl, by kernel_rfl, rfl⟩); (· exact ⟨9, _, by kernel_rfl, by kernel_rfl, rfl⟩); (· exact ⟨10, _, by kernel_rfl, by kernel_rfl, rfl⟩); (· exact ⟨11, _, by kernel_rfl, by kernel_rfl, rfl⟩); (· exact ⟨12, _, by kernel_rfl, by kernel_rfl, rfl⟩); (· exact ⟨3, _, by kernel_rfl, by kernel_rfl, rfl⟩); (· exact ⟨2, _, by kernel_rfl, by kernel_rfl, rfl⟩); (· exact ⟨0, _, by kernel_rfl, by kernel_rfl, rfl⟩)) [0, 99, 99, 99, 1, 2, 3, 4, 5, 6, 7, 8, 99, 99, 99, 9, 99, 99, 99] ?_
  intro n hn
  simp only [List.mem_cons, List.not_mem_nil, or_false] at hn
  rcases hn with rfl | rfl | rfl | rfl | rfl | rfl | rfl | rfl | rfl | rfl
  · exact ⟨_, 4, _, _, rfl, rfl, by kernel_rfl, by kernel_rfl⟩
  · exact ⟨_, 8, _, _, rfl, rfl, by kernel_rfl, by kernel_rfl⟩
  · exact ⟨_, 1, _, _, rfl, rfl, by kernel_rfl, by kernel_rfl⟩
  · exact ⟨_, 9, _, _, rfl, rfl, by kernel_rfl, by kernel_rfl⟩
  · exact ⟨_, 10, _, _, rfl, rfl, by kernel_rfl, by kernel_rfl⟩
  · exact ⟨_, 11, _, _, rfl, rfl, by kernel_rfl, by kernel_rfl⟩
  · exact ⟨_, 12, _, _, rfl, rfl, by kernel_rfl, by kernel_rfl⟩
  · exact ⟨_, 3, _, _, rfl, rfl, by kernel_rfl, by kernel_rfl⟩
  · exact ⟨_, 2, _, _, rfl, rfl, by kernel_rfl, by kernel_rfl⟩
  · exact ⟨_, 0, _, _, rfl, rfl, by kernel_rfl, by kernel_rfl⟩
theorem tabs_marksNeighbours {W : World} (h : laidMetH Tryz.prog Rows.marksNeighboursUptoRow.laid W) : Tabs W := by
  rw [MakeChecks.laidMetH_plain _ _ _ (by kernel_rfl)] at h
  exact utf8Tabs_of_readsT (P := Tryz.prog) (ρ := Tryz.lays260_ren) (U8Types.of260 Tryz.lays260) ⟨by kernel_rfl, by kernel_rfl, by kernel_rfl, by kernel_rfl, by kernel_rfl, by kernel_rfl, by kernel_rfl⟩ (Lib.laidMet.reads h (.tail _ (.tail _ (.tail _ (.tail _ (.tail _ (.tail _ (.tail _ (.tail _ (.tail _ (.tail _ (.tail _ (.head _))))))))))))) (Lib.laidMet.reads h (.head _))
theorem contract_marksNeighbours (H : Type) (enc : TypeId × Value → H) (W : World) (base : Nat) (args : Array Value) (ds gs : List (DataW H)) (before : List MemPlace)
    (hval : ∀ (j : Nat) t v, Tryz.f4.params[j]? = some t → args[j]? = some v → Value.okWide Tryz.prog W .any base t v)
    (hW : DataW.Whole enc Tryz.prog Tryz.f4.params.toList Rows.marksNeighboursSpec.vars false W args.toList ds gs before) (hk : Rows.uptoSmall H (ds ++ gs) = true) (hL : laidMetH Tryz.prog Rows.marksNeighboursUptoRow.laid W) :
    Calls Tryz.prog 4 args W fun e W' => ∃ v, e = .returned v ∧ Rows.marksNeighboursSpec.post enc Tryz.prog Tryz.f4 false true false false W args v W' := by
  have hW' := hW
  obtain ⟨p, q, hA0, hV, rfl, hfz, hnd⟩ := hW
  have hA : DataW.TrodAll enc Tryz.prog W 0 (fun _ => true) true Tryz.f4.params.toList args.toList ds p := hA0
  rw [Tryz.params4] at hA hval
  obtain ⟨v0, v1, v2, d0, d1, d2, p0, p1, p2, rfl, rfl, rfl, h0, h1, h2⟩ := trodAll_three hA
  obtain ⟨rfl, rfl⟩ := trodVars_none hV
  have hbk : Rows.uptoBulkAll [d0, d1, d2] ≤ 1048576 := by simpa [Rows.uptoSmall] using hk
  simp only [Rows.uptoBulkAll] at hbk
  obtain ⟨es, hE⟩ := errs_marksNeighbours hL
  have hT := tabs_marksNeighbours hL
  obtain ⟨A0, c0, xs0, rfl, hc0, C0, k0⟩ := Close.open_slice_arg (d := kOp) Tryz.underlying32 (by kernel_rfl) Close.reads_op (hval 0 32 v0 rfl rfl) h0; obtain ⟨l0, s0, t0⟩ := Close.op_bulk3 k0 (by omega)
  obtain ⟨A1, c1, xs1, rfl, hc1, C1, k1⟩ := Close.open_slice_arg (d := Kd.int .i64) Tryz.underlying38 (by kernel_rfl) (Close.reads_int Tryz.underlying3) (hval 1 38 v1 rfl rfl) h1; rw [Close.wsum_one] at k1
  obtain ⟨x2, rfl, wf2⟩ := Close.open_int_arg (k := .i64) Tryz.underlying3 (hval 2 3 v2 rfl rfl) h2; have bd2 := bounds_i64 wf2
  refine (marksNeighbours_law A0 A1 c0 c1 xs0 xs1 x2 W C0 C1 hc0 l0 s0 t0 bd2 hT es hE).mono fun e W' ⟨he, hb⟩ => ?_
  subst he
  exact ⟨_, rfl, Close.law_post (s := Rows.marksNeighboursSpec) laidOut (Close.params_ok (by kernel_rfl)) (show Tryz.f4.resultTypes = #[4] by kernel_rfl) Tryz.underlying4 rfl hW' rfl hb⟩
theorem laid_marksNeighbours (os : Os) : laidMet Tryz.prog Rows.marksNeighboursUptoRow.laid ((laidWorld os).forCall (fun _ _ => 0) ⟨#[], #[.slice none 0 0, .slice none 0 0, .int .i64 0], []⟩).memory := laidMet_of_run' 8 (by kernel_rfl) (by kernel_rfl)
theorem reads_marksNeighbours (os : Os) {H : Type} (enc : TypeId × Value → H) : ∃ places, DataW.whole enc Tryz.prog ((laidWorld os).forCall (fun _ _ => 0) ⟨#[], #[.slice none 0 0, .slice none 0 0, .int .i64 0], []⟩).memory Tryz.f4.params.toList Rows.marksNeighboursSpec.vars false (#[.slice none 0 0, .slice none 0 0, .int .i64 0] : Array Value).toList 8 = some ([.nil, .nil, .lit (.int .i64 0)], [], places) := ⟨[], by kernel_rfl⟩
set_option maxRecDepth 100000 in
theorem lifted_marksNeighbours (os : Os) (started : os.Started) (H : Type) (enc : TypeId × Value → H) (F : Stop.Interp) :
    ReturnsInHanded {} Tryz.checked os 4 .any ((Rows.OpenSpec.upto Rows.marksNeighboursSpec).preRow enc Tryz.prog Tryz.f4 Rows.marksNeighboursUptoRow.domain false Rows.marksNeighboursUptoRow.laid) (((Rows.OpenSpec.upto Rows.marksNeighboursSpec).at F).post enc Tryz.prog Tryz.f4 false true false false) := by
  obtain ⟨places, hx⟩ := reads_marksNeighbours os enc
  refine returnsInHanded_of_row (C := Tryz.checked) (s := (Rows.OpenSpec.upto Rows.marksNeighboursSpec)) own started (by kernel_rfl) Tryz.func4
    (witness_row_atRef (enc := enc) (C := Tryz.checked) false (laidWorld os) #[.slice none 0 0, .slice none 0 0, .int .i64 0] rfl (by kernel_rfl) (by kernel_rfl) (by kernel_rfl)
      (OpenSpec.preRow_of_cond 8 hx (by kernel_rfl) (fun k hk => by cases hk; kernel_rfl) (by kernel_rfl) (by rw [MakeChecks.laidMetH_plain _ _ _ (by kernel_rfl)]; exact laid_marksNeighbours os))) ?_
  intro W base args ds gs before hval hW _ hcond _ hL _ _
  exact contract_marksNeighbours H enc W base args ds gs before hval hW (hcond _ rfl) hL
theorem said_marksNeighbours : Rows.MarksNeighboursUptoSaid :=
  OpenClaim.holds_of_cond 4 Tryz.f4 rfl rfl rfl rfl rfl rfl rfl ⟨rfl, rfl, rfl, rfl, rfl⟩ rfl rfl rfl rfl rfl (by kernel_rfl) Tryz.func4 (by kernel_rfl)
    (of_decide_eq_true (by kernel_rfl)) (by unfold Func.isWrapper; first | (rw [if_pos (by decide +kernel)]; kernel_rfl) | (rw [if_neg (by decide +kernel)]; exact ⟨rfl, rfl⟩))
    (fun os started H enc _ F => by rw [OpenClaim.pre_eq_preRow]; exact lifted_marksNeighbours os started H enc F)
theorem plain_marksNeighbours (f : FuncId) (fn : Func) (hf : Tryz.pinned.checked.prog.funcNamed "vellum/vellumlaw23.MarksNeighbours" = some f) (hfn : Tryz.pinned.checked.prog.funcs[f]? = some fn) :
    true = Tryz.pinned.checked.prog.looks [] ∧ ∀ (j : Nat) t, fn.params[j]? = some t → Tryz.pinned.checked.prog.wantsStandIn t = false := by
  obtain rfl : f = 4 := Option.some.inj ((show Tryz.prog.funcNamed "vellum/vellumlaw23.MarksNeighbours" = some 4 by kernel_rfl).symm.trans hf) |>.symm
  obtain rfl : fn = Tryz.f4 := (Option.some.inj (Tryz.func4.symm.trans hfn)).symm
  refine ⟨by kernel_rfl, fun j t ht => ?_⟩
  rw [Tryz.params4] at ht
  have hm := Array.mem_of_getElem? ht
  simp only [List.mem_toArray, List.mem_cons, List.not_mem_nil, or_false] at hm
  rcases hm with rfl | rfl | rfl
  · exact (show Tryz.prog.wantsStandIn 32 = false by kernel_rfl)
  · exact (show Tryz.prog.wantsStandIn 38 = false by kernel_rfl)
  · exact (show Tryz.prog.wantsStandIn 3 = false by kernel_rfl)
theorem card_marksNeighbours : Rows.MarksNeighboursUptoCardSaid :=
  Claim7.holds_tied_plain_at .later [] _ _ _ _ said_marksNeighbours (fun _ h => by cases h) (by kernel_rfl) (fun _ h => by cases h) marksNeighboursUpto_row_tie rfl ⟨rfl, rfl⟩ (by kernel_rfl) rfl plain_marksNeighbours (by kernel_rfl)
#print axioms card_marksNeighbours
end Go.Proofs.YtlnnjfdonilgmaaGreatDoor.MarksNeighbours
