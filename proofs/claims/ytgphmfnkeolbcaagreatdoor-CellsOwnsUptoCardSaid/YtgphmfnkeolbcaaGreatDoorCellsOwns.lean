/- CellsOwns: the row and its card. -/
import Derived.Test.YtgphmfnkeolbcaaGreatDoorCards
import Derived.Test.YtgphmfnkeolbcaaGreatDoorTie
import Derived.Test.YtgphmfnkeolbcaaGreatDoorT80
import Derived.Test.YtgphmfnkeolbcaaGreatDoorCloseC2
import Derived.Lib.LaidU8T
import Derived.WalkKit
import Derived.ProofKit
import Derived.OpenShut
import Derived.Deep.DeepWitnessRowRef
import Derived.LaidByTextLater
set_option linter.unusedVariables false
set_option linter.unusedSimpArgs false
set_option maxRecDepth 100000
namespace Go.Proofs.YtgphmfnkeolbcaaGreatDoor.CellsOwns
open Go Go.ChangeShapes Go.WideShapes Go.ChangeAt Go.RowKit Go.Proofs.YtgphmfnkeolbcaaGreatDoorW.PrintWords RX
noncomputable def low : Nat := (World.holding Tryz.prog default ⟨#[], #[], []⟩).heap.size
noncomputable def laidWorld (os : Os) : World :=
  let w0 := World.holding Tryz.prog os ⟨#[.cells #[.string ⟨#[118, 101, 108, 108, 117, 109, 58, 32, 117, 116, 102, 45, 56]⟩] 318, .cells #[.string ⟨#[118, 101, 108, 108, 117, 109, 58, 32, 107, 105, 110, 100]⟩] 318, .cells #[.string ⟨#[118, 101, 108, 108, 117, 109, 58, 32, 107, 101, 121]⟩] 318, .cells #[.string ⟨#[118, 101, 108, 108, 117, 109, 58, 32, 110, 117, 108, 108]⟩] 318, .cells #[.string ⟨#[118, 101, 108, 108, 117, 109, 58, 32, 97, 116, 116, 114, 105, 98, 117, 116, 101, 115]⟩] 318, .cells #[.string ⟨#[118, 101, 108, 108, 117, 109, 58, 32, 111, 112, 101, 114, 97, 116, 105, 111, 110]⟩] 318, .cells #[.string ⟨#[118, 101, 108, 108, 117, 109, 58, 32, 108, 105, 109, 105, 116]⟩] 318, .cells #[.string ⟨#[118, 101, 108, 108, 117, 109, 58, 32, 108, 111, 110, 103]⟩] 318, .cells #[.string ⟨#[118, 101, 108, 108, 117, 109, 58, 32, 114, 97, 110, 103, 101]⟩] 318], #[], []⟩
  { w0 with heap := (((((((((((w0.heap.modify 20 fun | .cells _ t fz => .cells ((List.range 16).flatMap fun i => [Value.int .u8 (Go.Lib.accLo i : Nat), Value.int .u8 (Go.Lib.accHi i : Nat)]).toArray t fz | o => o).modify 6 fun | .cells _ t fz => .cells #[.iface 301 (.pointer (some ⟨low + 0, 0, none⟩))] t fz | o => o).modify 5 fun | .cells _ t fz => .cells #[.iface 301 (.pointer (some ⟨low + 1, 0, none⟩))] t fz | o => o).modify 4 fun | .cells _ t fz => .cells #[.iface 301 (.pointer (some ⟨low + 2, 0, none⟩))] t fz | o => o).modify 10 fun | .cells _ t fz => .cells #[.iface 301 (.pointer (some ⟨low + 3, 0, none⟩))] t fz | o => o).modify 11 fun | .cells _ t fz => .cells #[.iface 301 (.pointer (some ⟨low + 4, 0, none⟩))] t fz | o => o).modify 0 fun | .cells _ t fz => .cells #[.iface 301 (.pointer (some ⟨low + 5, 0, none⟩))] t fz | o => o).modify 12 fun | .cells _ t fz => .cells #[.iface 301 (.pointer (some ⟨low + 6, 0, none⟩))] t fz | o => o).modify 3 fun | .cells _ t fz => .cells #[.iface 301 (.pointer (some ⟨low + 7, 0, none⟩))] t fz | o => o).modify 1 fun | .cells _ t fz => .cells #[.iface 301 (.pointer (some ⟨low + 8, 0, none⟩))] t fz | o => o).modify 19 fun | .cells _ t fz => .cells (Go.Lib.firstTab.map fun n => Value.int .u8 n).toArray t fz | o => o) }
theorem own : ownKnob Tryz.prog.godebug = none := by kernel_rfl
theorem laidOut : laidOutB Tryz.prog = true := by kernel_rfl
theorem errs_cellsOwns {W : World} (h : laidMetH Tryz.prog Rows.cellsOwnsUptoRow.laid W) : ∃ es, ErrsOn [1, 5, 6, 7, 8, 9, 10, 11, 12] W es := by
  rw [MakeChecks.laidMetH_plain _ _ _ (by kernel_rfl)] at h
  refine errsOn_of (l' := [("vellum/api.ErrUtf8", Rows.laid_vellum_api_ErrUtf8), ("vellum/api.ErrKind", Rows.laid_vellum_api_ErrKind), ("vellum/api.ErrKey", Rows.laid_vellum_api_ErrKey), ("vellum/api.ErrNull", Rows.laid_vellum_api_ErrNull), ("vellum/api.ErrAttrs", Rows.laid_vellum_api_ErrAttrs), ("vellum/api.ErrOp", Rows.laid_vellum_api_ErrOp), ("vellum/api.ErrLimit", Rows.laid_vellum_api_ErrLimit), ("vellum/api.ErrLong", Rows.laid_vellum_api_ErrLong), ("vellum/api.ErrRange", Rows.laid_vellum_api_ErrRange)]) h (List.Sublist.cons _ (List.Sublist.cons_cons _ (List.Sublist.cons_cons _ (List.Sublist.cons_cons _ (List.Sublist.cons_cons _ (List.Sublist.cons_cons _ (List.Sublist.cons_cons _ (List.Sublist.cons_cons _ (List.Sublist.cons_cons _ (List.Sublist.cons_cons _ (List.Sublist.cons _ List.Sublist.slnil))))))))))) (by intro x hx; simp only [List.mem_cons, List.not_mem_nil, or_false] at hx; rcases hx with rfl | rfl | rfl | rfl | rfl | rfl | rfl | rfl | rfl; (· exact ⟨6, _, by kernel_rfl, by kernel_rfl, rfl⟩); (· exact ⟨5, _, by kernel_rfl, by kernel_rfl, rfl⟩); (· exact ⟨4, _, by kernel_rfl, by kernel_rfl, rfl⟩); (· exact ⟨10, _, by kernel_rfl, by kernel_rfl, rfl⟩); (· exact ⟨11, _, by kernel_rfl, by kernel_rfl, rfl⟩); (· exact ⟨0, _, by kernel_rfl, by kernel_rfl, rfl⟩); (· exact ⟨12, _, by kernel_rfl, by kernel_rfl, rfl⟩); (· exact ⟨3, _, by kernel_rfl, by kernel_rfl, rfl⟩); (· exact ⟨1, _, by kernel_rfl, by kernel_rfl, rfl⟩)) [0, 99, 99, 99, 1, 2, 3, 4, 5, 6, 7, 8, 99, 99, 99, 99, 99, 99, 99] ?_
  intro n hn
  simp only [List.mem_cons, List.not_mem_nil, or_false] at hn
  rcases hn with rfl | rfl | rfl | rfl | rfl | rfl | rfl | rfl | rfl
  · exact ⟨_, 6, _, _, rfl, rfl, by kernel_rfl, by kernel_rfl⟩
  · exact ⟨_, 5, _, _, rfl, rfl, by kernel_rfl, by kernel_rfl⟩
  · exact ⟨_, 4, _, _, rfl, rfl, by kernel_rfl, by kernel_rfl⟩
  · exact ⟨_, 10, _, _, rfl, rfl, by kernel_rfl, by kernel_rfl⟩
  · exact ⟨_, 11, _, _, rfl, rfl, by kernel_rfl, by kernel_rfl⟩
  · exact ⟨_, 0, _, _, rfl, rfl, by kernel_rfl, by kernel_rfl⟩
  · exact ⟨_, 12, _, _, rfl, rfl, by kernel_rfl, by kernel_rfl⟩
  · exact ⟨_, 3, _, _, rfl, rfl, by kernel_rfl, by kernel_rfl⟩
  · exact ⟨_, 1, _, _, rfl, rfl, by kernel_rfl, by kernel_rfl⟩
theorem tabs_cellsOwns {W : World} (h : laidMetH Tryz.prog Rows.cellsOwnsUptoRow.laid W) : Tabs W := by
  rw [MakeChecks.laidMetH_plain _ _ _ (by kernel_rfl)] at h
  exact utf8Tabs_of_readsT (P := Tryz.prog) (ρ := Tryz.lays260_ren) (U8Types.of260 Tryz.lays260) ⟨by kernel_rfl, by kernel_rfl, by kernel_rfl, by kernel_rfl, by kernel_rfl, by kernel_rfl, by kernel_rfl⟩ (Lib.laidMet.reads h (.tail _ (.tail _ (.tail _ (.tail _ (.tail _ (.tail _ (.tail _ (.tail _ (.tail _ (.tail _ (.head _)))))))))))) (Lib.laidMet.reads h (.head _))
theorem contract_cellsOwns (H : Type) (enc : TypeId × Value → H) (W : World) (base : Nat) (args : Array Value) (ds gs : List (DataW H)) (before : List MemPlace)
    (hval : ∀ (j : Nat) t v, Tryz.f4.params[j]? = some t → args[j]? = some v → Value.okWide Tryz.prog W .any base t v)
    (hW : DataW.Whole enc Tryz.prog Tryz.f4.params.toList Rows.cellsOwnsSpec.vars false W args.toList ds gs before) (hk : Rows.uptoSmall H (ds ++ gs) = true) (hL : laidMetH Tryz.prog Rows.cellsOwnsUptoRow.laid W) :
    Calls Tryz.prog 4 args W fun e W' => ∃ v, e = .returned v ∧ Rows.cellsOwnsSpec.post enc Tryz.prog Tryz.f4 false true false false W args v W' := by
  have hW' := hW
  obtain ⟨p, q, hA0, hV, rfl, hfz, hnd⟩ := hW
  have hA : DataW.TrodAll enc Tryz.prog W 0 (fun _ => true) true Tryz.f4.params.toList args.toList ds p := hA0
  rw [Tryz.params4] at hA hval
  obtain ⟨v0, d0, rfl, rfl, h0⟩ := trodAll_one hA
  obtain ⟨rfl, rfl⟩ := trodVars_none hV
  have hbk : Rows.uptoBulkAll [d0] ≤ 1048576 := by simpa [Rows.uptoSmall] using hk
  simp only [Rows.uptoBulkAll] at hbk
  obtain ⟨es, hE⟩ := errs_cellsOwns hL
  have hT := tabs_cellsOwns hL
  obtain ⟨A0, c0, xs0, rfl, hc0, C0, k0⟩ := Close.open_slice_arg (d := kCell) Tryz.underlying39 (by kernel_rfl) Close.reads_cell (hval 0 39 v0 rfl rfl) h0; obtain ⟨l0, s0⟩ := Close.cell_bulk2 k0 (by omega)
  refine (cellsOwns_law A0 c0 xs0 W C0 hc0 l0 s0 hT es hE).mono fun e W' ⟨he, hb⟩ => ?_
  subst he
  exact ⟨_, rfl, Close.law_post (s := Rows.cellsOwnsSpec) laidOut (Close.params_ok (by kernel_rfl)) (show Tryz.f4.resultTypes = #[4] by kernel_rfl) Tryz.underlying4 rfl hW' rfl hb⟩
theorem laid_cellsOwns (os : Os) : laidMet Tryz.prog Rows.cellsOwnsUptoRow.laid ((laidWorld os).forCall (fun _ _ => 0) ⟨#[], #[.slice none 0 0], []⟩).memory := laidMet_of_run' 8 (by kernel_rfl) (by kernel_rfl)
theorem reads_cellsOwns (os : Os) {H : Type} (enc : TypeId × Value → H) : ∃ places, DataW.whole enc Tryz.prog ((laidWorld os).forCall (fun _ _ => 0) ⟨#[], #[.slice none 0 0], []⟩).memory Tryz.f4.params.toList Rows.cellsOwnsSpec.vars false (#[.slice none 0 0] : Array Value).toList 8 = some ([.nil], [], places) := ⟨[], by kernel_rfl⟩
set_option maxRecDepth 100000 in
theorem lifted_cellsOwns (os : Os) (started : os.Started) (H : Type) (enc : TypeId × Value → H) (F : Stop.Interp) :
    ReturnsInHanded {} Tryz.checked os 4 .any ((Rows.OpenSpec.upto Rows.cellsOwnsSpec).preRow enc Tryz.prog Tryz.f4 Rows.cellsOwnsUptoRow.domain false Rows.cellsOwnsUptoRow.laid) (((Rows.OpenSpec.upto Rows.cellsOwnsSpec).at F).post enc Tryz.prog Tryz.f4 false true false false) := by
  obtain ⟨places, hx⟩ := reads_cellsOwns os enc
  refine returnsInHanded_of_row (C := Tryz.checked) (s := (Rows.OpenSpec.upto Rows.cellsOwnsSpec)) own started (by kernel_rfl) Tryz.func4
    (witness_row_atRef (enc := enc) (C := Tryz.checked) false (laidWorld os) #[.slice none 0 0] rfl (by kernel_rfl) (by kernel_rfl) (by kernel_rfl)
      (OpenSpec.preRow_of_cond 8 hx (by kernel_rfl) (fun k hk => by cases hk; kernel_rfl) (by kernel_rfl) (by rw [MakeChecks.laidMetH_plain _ _ _ (by kernel_rfl)]; exact laid_cellsOwns os))) ?_
  intro W base args ds gs before hval hW _ hcond _ hL _ _
  exact contract_cellsOwns H enc W base args ds gs before hval hW (hcond _ rfl) hL
theorem said_cellsOwns : Rows.CellsOwnsUptoSaid :=
  OpenClaim.holds_of_cond 4 Tryz.f4 rfl rfl rfl rfl rfl rfl rfl ⟨rfl, rfl, rfl, rfl, rfl⟩ rfl rfl rfl rfl rfl (by kernel_rfl) Tryz.func4 (by kernel_rfl)
    (of_decide_eq_true (by kernel_rfl)) (by unfold Func.isWrapper; first | (rw [if_pos (by decide +kernel)]; kernel_rfl) | (rw [if_neg (by decide +kernel)]; exact ⟨rfl, rfl⟩))
    (fun os started H enc _ F => by rw [OpenClaim.pre_eq_preRow]; exact lifted_cellsOwns os started H enc F)
theorem plain_cellsOwns (f : FuncId) (fn : Func) (hf : Tryz.pinned.checked.prog.funcNamed "vellum/vellumlaw09.CellsOwns" = some f) (hfn : Tryz.pinned.checked.prog.funcs[f]? = some fn) :
    true = Tryz.pinned.checked.prog.looks [] ∧ ∀ (j : Nat) t, fn.params[j]? = some t → Tryz.pinned.checked.prog.wantsStandIn t = false := by
  obtain rfl : f = 4 := Option.some.inj ((show Tryz.prog.funcNamed "vellum/vellumlaw09.CellsOwns" = some 4 by kernel_rfl).symm.trans hf) |>.symm
  obtain rfl : fn = Tryz.f4 := (Option.some.inj (Tryz.func4.symm.trans hfn)).symm
  refine ⟨by kernel_rfl, fun j t ht => ?_⟩
  rw [Tryz.params4] at ht
  have hm := Array.mem_of_getElem? ht
  simp only [List.mem_toArray, List.mem_cons, List.not_mem_nil, or_false] at hm
  rcases hm with rfl
  · exact (show Tryz.prog.wantsStandIn 39 = false by kernel_rfl)
theorem card_cellsOwns : Rows.CellsOwnsUptoCardSaid :=
  Claim7.holds_tied_plain_at .later [] _ _ _ _ said_cellsOwns (fun _ h => by cases h) (by kernel_rfl) (fun _ h => by cases h) cellsOwnsUpto_row_tie rfl ⟨rfl, rfl⟩ (by kernel_rfl) rfl plain_cellsOwns (by kernel_rfl)
#print axioms card_cellsOwns
end Go.Proofs.YtgphmfnkeolbcaaGreatDoor.CellsOwns
