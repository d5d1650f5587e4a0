import Derived.Test.YtgphmfnkeolbcaaDoorCards
import Derived.Test.YtgphmfnkeolbcaaDoorTie
import Derived.Test.YtgphmfnkeolbcaaDoorT65
import Derived.Test.YtgphmfnkeolbcaaDoorCloseC2
import Derived.Test.YtgphmfnkeolbcaaDoorAn3
import Derived.Lib.LaidU8T
import Derived.WalkKit
import Derived.ProofKit
import Derived.OpenShut
import Derived.Deep.DeepWitnessRowRef
import Derived.LaidByTextLater
/- CellsBack: the row and its card. -/
set_option linter.unusedVariables false
set_option linter.unusedSimpArgs false
set_option maxRecDepth 100000
namespace Go.Proofs.YtgphmfnkeolbcaaDoor.CellsBack
open Go Go.ChangeShapes Go.WideShapes Go.ChangeAt Go.RowKit Go.Proofs.YtgphmfnkeolbcaaDoorW.PrintWords RX
noncomputable def low : Nat := (World.holding Tryd.prog default ⟨#[], #[], []⟩).heap.size
/-- A world for the witness: the variables as their initialisers lay them. -/
noncomputable def laidWorld (os : Os) : World :=
  let w0 := World.holding Tryd.prog os ⟨#[.cells #[.string ⟨#[118, 101, 108, 108, 117, 109, 58, 32, 117, 116, 102, 45, 56]⟩] 181, .cells #[.string ⟨#[118, 101, 108, 108, 117, 109, 58, 32, 107, 105, 110, 100]⟩] 181, .cells #[.string ⟨#[118, 101, 108, 108, 117, 109, 58, 32, 107, 101, 121]⟩] 181, .cells #[.string ⟨#[118, 101, 108, 108, 117, 109, 58, 32, 110, 117, 108, 108]⟩] 181, .cells #[.string ⟨#[118, 101, 108, 108, 117, 109, 58, 32, 97, 116, 116, 114, 105, 98, 117, 116, 101, 115]⟩] 181, .cells #[.string ⟨#[118, 101, 108, 108, 117, 109, 58, 32, 111, 112, 101, 114, 97, 116, 105, 111, 110]⟩] 181, .cells #[.string ⟨#[118, 101, 108, 108, 117, 109, 58, 32, 108, 105, 109, 105, 116]⟩] 181, .cells #[.string ⟨#[118, 101, 108, 108, 117, 109, 58, 32, 108, 111, 110, 103]⟩] 181], #[], []⟩
  { w0 with heap := ((((((((((w0.heap.modify 20 fun | .cells _ t fz => .cells ((List.range 16).flatMap fun i => [Value.int .u8 (Go.Lib.accLo i : Nat), Value.int .u8 (Go.Lib.accHi i : Nat)]).toArray t fz | o => o).modify 2 fun | .cells _ t fz => .cells #[.iface 164 (.pointer (some ⟨low + 0, 0, none⟩))] t fz | o => o).modify 6 fun | .cells _ t fz => .cells #[.iface 164 (.pointer (some ⟨low + 1, 0, none⟩))] t fz | o => o).modify 7 fun | .cells _ t fz => .cells #[.iface 164 (.pointer (some ⟨low + 2, 0, none⟩))] t fz | o => o).modify 8 fun | .cells _ t fz => .cells #[.iface 164 (.pointer (some ⟨low + 3, 0, none⟩))] t fz | o => o).modify 9 fun | .cells _ t fz => .cells #[.iface 164 (.pointer (some ⟨low + 4, 0, none⟩))] t fz | o => o).modify 1 fun | .cells _ t fz => .cells #[.iface 164 (.pointer (some ⟨low + 5, 0, none⟩))] t fz | o => o).modify 10 fun | .cells _ t fz => .cells #[.iface 164 (.pointer (some ⟨low + 6, 0, none⟩))] t fz | o => o).modify 11 fun | .cells _ t fz => .cells #[.iface 164 (.pointer (some ⟨low + 7, 0, none⟩))] t fz | o => o).modify 19 fun | .cells _ t fz => .cells (Go.Lib.firstTab.map fun n => Value.int .u8 n).toArray t fz | o => o) }
theorem own : ownKnob Tryd.prog.godebug = none := by kernel_rfl
theorem laidOut : laidOutB Tryd.prog = true := by kernel_rfl
theorem errs_cellsBack {W : World} (h : laidMetH Tryd.prog Rows.cellsBackUptoRow.laid W) : ∃ es, ErrsOn [1, 5, 6, 7, 8, 9, 10, 11] W es := by
  rw [MakeChecks.laidMetH_plain _ _ _ (by kernel_rfl)] at h
  refine errsOn_of (l' := [("vellum/api.ErrUtf8", Rows.laid_vellum_api_ErrUtf8), ("vellum/api.ErrKind", Rows.laid_vellum_api_ErrKind), ("vellum/api.ErrKey", Rows.laid_vellum_api_ErrKey), ("vellum/api.ErrNull", Rows.laid_vellum_api_ErrNull), ("vellum/api.ErrAttrs", Rows.laid_vellum_api_ErrAttrs), ("vellum/api.ErrOp", Rows.laid_vellum_api_ErrOp), ("vellum/api.ErrLimit", Rows.laid_vellum_api_ErrLimit), ("vellum/api.ErrLong", Rows.laid_vellum_api_ErrLong)]) h (List.Sublist.cons _ (List.Sublist.cons_cons _ (List.Sublist.cons_cons _ (List.Sublist.cons_cons _ (List.Sublist.cons_cons _ (List.Sublist.cons_cons _ (List.Sublist.cons_cons _ (List.Sublist.cons_cons _ (List.Sublist.cons_cons _ (List.Sublist.cons _ List.Sublist.slnil)))))))))) (by intro x hx; simp only [List.mem_cons, List.not_mem_nil, or_false] at hx; rcases hx with rfl | rfl | rfl | rfl | rfl | rfl | rfl | rfl; (· exact ⟨2, _, by kernel_rfl, by kernel_rfl, rfl⟩); (· exact ⟨6, _, by kernel_rfl, by kernel_rfl, rfl⟩); (· exact ⟨7, _, by kernel_rfl, by kernel_rfl, rfl⟩); (· exact ⟨8, _, by kernel_rfl, by kernel_rfl, rfl⟩); (· exact ⟨9, _, by kernel_rfl, by kernel_rfl, rfl⟩); (· exact ⟨1, _, by kernel_rfl, by kernel_rfl, rfl⟩); (· exact ⟨10, _, by kernel_rfl, by kernel_rfl, rfl⟩); (· exact ⟨11, _, by kernel_rfl, by kernel_rfl, rfl⟩)) [0, 99, 99, 99, 1, 2, 3, 4, 5, 6, 7, 99, 99, 99, 99, 99, 99, 99, 99] ?_
  intro n hn
  simp only [List.mem_cons, List.not_mem_nil, or_false] at hn
  rcases hn with rfl | rfl | rfl | rfl | rfl | rfl | rfl | rfl
  · exact ⟨_, 2, _, _, rfl, rfl, by kernel_rfl, by kernel_rfl⟩
  · exact ⟨_, 6, _, _, rfl, rfl, by kernel_rfl, by kernel_rfl⟩
  · exact ⟨_, 7, _, _, rfl, rfl, by kernel_rfl, by kernel_rfl⟩
  · exact ⟨_, 8, _, _, rfl, rfl, by kernel_rfl, by kernel_rfl⟩
  · exact ⟨_, 9, _, _, rfl, rfl, by kernel_rfl, by kernel_rfl⟩
  · exact ⟨_, 1, _, _, rfl, rfl, by kernel_rfl, by kernel_rfl⟩
  · exact ⟨_, 10, _, _, rfl, rfl, by kernel_rfl, by kernel_rfl⟩
  · exact ⟨_, 11, _, _, rfl, rfl, by kernel_rfl, by kernel_rfl⟩
theorem tabs_cellsBack {W : World} (h : laidMetH Tryd.prog Rows.cellsBackUptoRow.laid W) : Tabs W := by
  rw [MakeChecks.laidMetH_plain _ _ _ (by kernel_rfl)] at h
  exact utf8Tabs_of_readsT (P := Tryd.prog) (ρ := Tryd.lays260_ren) (U8Types.of260 Tryd.lays260) ⟨by kernel_rfl, by kernel_rfl, by kernel_rfl, by kernel_rfl, by kernel_rfl, by kernel_rfl, by kernel_rfl⟩ (Lib.laidMet.reads h (.tail _ (.tail _ (.tail _ (.tail _ (.tail _ (.tail _ (.tail _ (.tail _ (.tail _ (.head _))))))))))) (Lib.laidMet.reads h (.head _))
theorem contract_cellsBack (H : Type) (enc : TypeId × Value → H) (W : World) (base : Nat) (args : Array Value) (ds gs : List (DataW H)) (before : List MemPlace)
    (hval : ∀ (j : Nat) t v, Tryd.f4.params[j]? = some t → args[j]? = some v → Value.okWide Tryd.prog W .any base t v)
    (hW : DataW.Whole enc Tryd.prog Tryd.f4.params.toList Rows.cellsBackSpec.vars false W args.toList ds gs before) (hk : Rows.uptoSmall H (ds ++ gs) = true) (hL : laidMetH Tryd.prog Rows.cellsBackUptoRow.laid W) :
    Calls Tryd.prog 4 args W fun e W' => ∃ v, e = .returned v ∧ Rows.cellsBackSpec.post enc Tryd.prog Tryd.f4 false true false false W args v W' := by
  have hW' := hW
  obtain ⟨p, q, hA0, hV, rfl, hfz, hnd⟩ := hW
  have hA : DataW.TrodAll enc Tryd.prog W 0 (fun _ => true) true Tryd.f4.params.toList args.toList ds p := hA0
  rw [Tryd.params4] at hA hval
  obtain ⟨v0, v1, d0, d1, p0, p1, rfl, rfl, rfl, h0, h1⟩ := trodAll_two hA
  obtain ⟨rfl, rfl⟩ := trodVars_none hV
  have hbk : Rows.uptoBulkAll [d0, d1] ≤ 1048576 := by simpa [Rows.uptoSmall] using hk
  simp only [Rows.uptoBulkAll] at hbk
  obtain ⟨es, hE⟩ := errs_cellsBack hL
  have hT := tabs_cellsBack hL
  obtain ⟨A0, c0, xs0, rfl, hc0, C0, k0⟩ := Close.open_slice_arg (d := kCell) Tryd.underlying28 (by kernel_rfl) Close.reads_cell (hval 0 28 v0 rfl rfl) h0; obtain ⟨l0, s0⟩ := Close.cell_bulk2 k0 (by omega)
  obtain ⟨A1, c1, xs1, rfl, hc1, C1, k1⟩ := Close.open_slice_arg (d := kCell) Tryd.underlying28 (by kernel_rfl) Close.reads_cell (hval 1 28 v1 rfl rfl) h1; obtain ⟨l1, s1⟩ := Close.cell_bulk2 k1 (by omega)
  refine (cellsBack_law A0 A1 c0 c1 xs0 xs1 W C0 C1 hc0 hc1 l0 l1 s0 s1 hT es hE (hE.sub (by decide))).mono fun e W' ⟨he, hb⟩ => ?_
  subst he
  exact ⟨_, rfl, Close.law_post (s := Rows.cellsBackSpec) laidOut (Close.params_ok (by kernel_rfl)) (show Tryd.f4.resultTypes = #[4] by kernel_rfl) Tryd.underlying4 rfl hW' rfl hb⟩
theorem laid_cellsBack (os : Os) : laidMet Tryd.prog Rows.cellsBackUptoRow.laid ((laidWorld os).forCall (fun _ _ => 0) ⟨#[], #[.slice none 0 0, .slice none 0 0], []⟩).memory := laidMet_of_run' 8 (by kernel_rfl) (by kernel_rfl)
theorem reads_cellsBack (os : Os) {H : Type} (enc : TypeId × Value → H) : ∃ places, DataW.whole enc Tryd.prog ((laidWorld os).forCall (fun _ _ => 0) ⟨#[], #[.slice none 0 0, .slice none 0 0], []⟩).memory Tryd.f4.params.toList Rows.cellsBackSpec.vars false (#[.slice none 0 0, .slice none 0 0] : Array Value).toList 8 = some ([.nil, .nil], [], places) := ⟨[], by kernel_rfl⟩
set_option maxRecDepth 100000 in
theorem lifted_cellsBack (os : Os) (started : os.Started) (H : Type) (enc : TypeId × Value → H) (F : Stop.Interp) :
    ReturnsInHanded {} Tryd.checked os 4 .any ((Rows.OpenSpec.upto Rows.cellsBackSpec).preRow enc Tryd.prog Tryd.f4 Rows.cellsBackUptoRow.domain false Rows.cellsBackUptoRow.laid) (((Rows.OpenSpec.upto Rows.cellsBackSpec).at F).post enc Tryd.prog Tryd.f4 false true false false) := by
  obtain ⟨places, hx⟩ := reads_cellsBack os enc
  refine returnsInHanded_of_row (C := Tryd.checked) (s := (Rows.OpenSpec.upto Rows.cellsBackSpec)) own started (by kernel_rfl) Tryd.func4
    (witness_row_atRef (enc := enc) (C := Tryd.checked) false (laidWorld os) #[.slice none 0 0, .slice none 0 0] rfl (by kernel_rfl) (by kernel_rfl) (by kernel_rfl)
      (OpenSpec.preRow_of_cond 8 hx (by kernel_rfl) (fun k hk => by cases hk; kernel_rfl) (by kernel_rfl) (by rw [MakeChecks.laidMetH_plain _ _ _ (by kernel_rfl)]; exact laid_cellsBack os))) ?_
  intro W base args ds gs before hval hW _ hcond _ hL _ _
  exact contract_cellsBack H enc W base args ds gs before hval hW (hcond _ rfl) hL
theorem said_cellsBack : Rows.CellsBackUptoSaid :=
  OpenClaim.holds_of_cond 4 Tryd.f4 rfl rfl rfl rfl rfl rfl rfl ⟨rfl, rfl, rfl, rfl, rfl⟩ rfl rfl rfl rfl rfl (by kernel_rfl) Tryd.func4 (by kernel_rfl)
    (of_decide_eq_true (by kernel_rfl)) (by unfold Func.isWrapper; first | (rw [if_pos (by decide +kernel)]; kernel_rfl) | (rw [if_neg (by decide +kernel)]; exact ⟨rfl, rfl⟩))
    (fun os started H enc _ F => by rw [OpenClaim.pre_eq_preRow]; exact lifted_cellsBack os started H enc F)
theorem plain_cellsBack (f : FuncId) (fn : Func) (hf : Tryd.pinned.checked.prog.funcNamed "vellum/vellumlaw09.CellsBack" = some f) (hfn : Tryd.pinned.checked.prog.funcs[f]? = some fn) :
    true = Tryd.pinned.checked.prog.looks [] ∧ ∀ (j : Nat) t, fn.params[j]? = some t → Tryd.pinned.checked.prog.wantsStandIn t = false := by
  obtain rfl : f = 4 := Option.some.inj ((show Tryd.prog.funcNamed "vellum/vellumlaw09.CellsBack" = some 4 by kernel_rfl).symm.trans hf) |>.symm
  obtain rfl : fn = Tryd.f4 := (Option.some.inj (Tryd.func4.symm.trans hfn)).symm
  refine ⟨by kernel_rfl, fun j t ht => ?_⟩
  rw [Tryd.params4] at ht
  have hm := Array.mem_of_getElem? ht
  simp only [List.mem_toArray, List.mem_cons, List.not_mem_nil, or_false] at hm
  rcases hm with rfl | rfl
  · exact (show Tryd.prog.wantsStandIn 28 = false by kernel_rfl)
  · exact (show Tryd.prog.wantsStandIn 28 = false by kernel_rfl)
theorem card_cellsBack : Rows.CellsBackUptoCardSaid :=
  Claim7.holds_tied_plain_at .later [] _ _ _ _ said_cellsBack (fun _ h => by cases h) (by kernel_rfl) (fun _ h => by cases h) cellsBackUpto_row_tie rfl ⟨rfl, rfl⟩ (by kernel_rfl) rfl plain_cellsBack (by kernel_rfl)
#print axioms card_cellsBack
end Go.Proofs.YtgphmfnkeolbcaaDoor.CellsBack
