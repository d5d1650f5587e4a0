/- MatchMore: the row and its card. -/
import Derived.Test.YtmhkeojbjliieaaDoorCards
import Derived.Test.YtmhkeojbjliieaaDoorTie
import Derived.Test.YtmhkeojbjliieaaDoorV11
import Derived.Test.YtmhkeojbjliieaaDoorClose
import Derived.WalkKit
import Derived.ProofKit
import Derived.OpenShut
import Derived.Deep.DeepWitnessRowRef
import Derived.LaidByTextLater
set_option linter.unusedVariables false
set_option linter.unusedSimpArgs false
set_option maxRecDepth 100000
namespace Go.Proofs.YtmhkeojbjliieaaDoor.MatchMore
open Go Go.ChangeShapes Go.WideShapes Go.ChangeAt Go.RowKit Go.Proofs.YtmhkeojbjliieaaDoorW.PrintWords MM RX
noncomputable def low : Nat := (World.holding Tryd.prog default ⟨#[], #[], []⟩).heap.size
/-- A world for the witness: the errors as their initialisers lay them. -/
noncomputable def laidWorld (os : Os) : World :=
  let w0 := World.holding Tryd.prog os ⟨#[.cells #[.string ⟨#[118, 101, 108, 108, 117, 109, 58, 32, 117, 116, 102, 45, 56]⟩] 69, .cells #[.string ⟨#[118, 101, 108, 108, 117, 109, 58, 32, 106, 115, 111, 110]⟩] 69, .cells #[.string ⟨#[118, 101, 108, 108, 117, 109, 58, 32, 110, 101, 115, 116, 105, 110, 103]⟩] 69, .cells #[.string ⟨#[118, 101, 108, 108, 117, 109, 58, 32, 110, 117, 109, 98, 101, 114]⟩] 69, .cells #[.string ⟨#[118, 101, 108, 108, 117, 109, 58, 32, 107, 105, 110, 100]⟩] 69, .cells #[.string ⟨#[118, 101, 108, 108, 117, 109, 58, 32, 107, 101, 121]⟩] 69, .cells #[.string ⟨#[118, 101, 108, 108, 117, 109, 58, 32, 110, 117, 108, 108]⟩] 69, .cells #[.string ⟨#[118, 101, 108, 108, 117, 109, 58, 32, 97, 116, 116, 114, 105, 98, 117, 116, 101, 115]⟩] 69, .cells #[.string ⟨#[118, 101, 108, 108, 117, 109, 58, 32, 111, 112, 101, 114, 97, 116, 105, 111, 110]⟩] 69, .cells #[.string ⟨#[118, 101, 108, 108, 117, 109, 58, 32, 108, 105, 109, 105, 116]⟩] 69, .cells #[.string ⟨#[118, 101, 108, 108, 117, 109, 58, 32, 108, 111, 110, 103]⟩] 69, .cells #[.string ⟨#[118, 101, 108, 108, 117, 109, 58, 32, 114, 97, 110, 103, 101]⟩] 69, .cells #[.string ⟨#[118, 101, 108, 108, 117, 109, 58, 32, 115, 99, 104, 101, 109, 97]⟩] 69, .cells #[.string ⟨#[118, 101, 108, 108, 117, 109, 58, 32, 101, 110, 100]⟩] 69, .cells #[.string ⟨#[118, 101, 108, 108, 117, 109, 58, 32, 101, 109, 112, 116, 121]⟩] 69, .cells #[.string ⟨#[118, 101, 108, 108, 117, 109, 58, 32, 109, 97, 114, 107]⟩] 69, .cells #[.string ⟨#[118, 101, 108, 108, 117, 109, 58, 32, 114, 101, 112, 108, 105, 99, 97]⟩] 69, .cells #[.string ⟨#[118, 101, 108, 108, 117, 109, 58, 32, 98, 121, 116, 101, 115]⟩] 69, .cells #[.string ⟨#[118, 101, 108, 108, 117, 109, 58, 32, 99, 111, 109, 109, 97, 110, 100]⟩] 69], #[], []⟩
  { w0 with heap := (((((((((((((((((((w0.heap.modify 3 fun | .cells _ t fz => .cells #[.iface 51 (.pointer (some ⟨low + 0, 0, none⟩))] t fz | o => o).modify 4 fun | .cells _ t fz => .cells #[.iface 51 (.pointer (some ⟨low + 1, 0, none⟩))] t fz | o => o).modify 5 fun | .cells _ t fz => .cells #[.iface 51 (.pointer (some ⟨low + 2, 0, none⟩))] t fz | o => o).modify 6 fun | .cells _ t fz => .cells #[.iface 51 (.pointer (some ⟨low + 3, 0, none⟩))] t fz | o => o).modify 7 fun | .cells _ t fz => .cells #[.iface 51 (.pointer (some ⟨low + 4, 0, none⟩))] t fz | o => o).modify 8 fun | .cells _ t fz => .cells #[.iface 51 (.pointer (some ⟨low + 5, 0, none⟩))] t fz | o => o).modify 9 fun | .cells _ t fz => .cells #[.iface 51 (.pointer (some ⟨low + 6, 0, none⟩))] t fz | o => o).modify 10 fun | .cells _ t fz => .cells #[.iface 51 (.pointer (some ⟨low + 7, 0, none⟩))] t fz | o => o).modify 2 fun | .cells _ t fz => .cells #[.iface 51 (.pointer (some ⟨low + 8, 0, none⟩))] t fz | o => o).modify 0 fun | .cells _ t fz => .cells #[.iface 51 (.pointer (some ⟨low + 9, 0, none⟩))] t fz | o => o).modify 11 fun | .cells _ t fz => .cells #[.iface 51 (.pointer (some ⟨low + 10, 0, none⟩))] t fz | o => o).modify 1 fun | .cells _ t fz => .cells #[.iface 51 (.pointer (some ⟨low + 11, 0, none⟩))] t fz | o => o).modify 12 fun | .cells _ t fz => .cells #[.iface 51 (.pointer (some ⟨low + 12, 0, none⟩))] t fz | o => o).modify 13 fun | .cells _ t fz => .cells #[.iface 51 (.pointer (some ⟨low + 13, 0, none⟩))] t fz | o => o).modify 14 fun | .cells _ t fz => .cells #[.iface 51 (.pointer (some ⟨low + 14, 0, none⟩))] t fz | o => o).modify 15 fun | .cells _ t fz => .cells #[.iface 51 (.pointer (some ⟨low + 15, 0, none⟩))] t fz | o => o).modify 16 fun | .cells _ t fz => .cells #[.iface 51 (.pointer (some ⟨low + 16, 0, none⟩))] t fz | o => o).modify 17 fun | .cells _ t fz => .cells #[.iface 51 (.pointer (some ⟨low + 17, 0, none⟩))] t fz | o => o).modify 18 fun | .cells _ t fz => .cells #[.iface 51 (.pointer (some ⟨low + 18, 0, none⟩))] t fz | o => o) }
theorem own : ownKnob Tryd.prog.godebug = none := by kernel_rfl
theorem laidOut : laidOutB Tryd.prog = true := by kernel_rfl
theorem errs_matchMore {W : World} (h : laidMetH Tryd.prog Rows.matchMoreUptoRow.laid W) : ∃ es, Errs W es := by
  rw [MakeChecks.laidMetH_plain _ _ _ (by kernel_rfl)] at h
  refine errs_of_laid h rfl ?_
  intro i hi
  match i, hi with
  | 0, _ => exact ⟨_, _, _, rfl, rfl, by kernel_rfl, by kernel_rfl⟩
  | 1, _ => exact ⟨_, _, _, rfl, rfl, by kernel_rfl, by kernel_rfl⟩
  | 2, _ => exact ⟨_, _, _, rfl, rfl, by kernel_rfl, by kernel_rfl⟩
  | 3, _ => exact ⟨_, _, _, rfl, rfl, by kernel_rfl, by kernel_rfl⟩
  | 4, _ => exact ⟨_, _, _, rfl, rfl, by kernel_rfl, by kernel_rfl⟩
  | 5, _ => exact ⟨_, _, _, rfl, rfl, by kernel_rfl, by kernel_rfl⟩
  | 6, _ => exact ⟨_, _, _, rfl, rfl, by kernel_rfl, by kernel_rfl⟩
  | 7, _ => exact ⟨_, _, _, rfl, rfl, by kernel_rfl, by kernel_rfl⟩
  | 8, _ => exact ⟨_, _, _, rfl, rfl, by kernel_rfl, by kernel_rfl⟩
  | 9, _ => exact ⟨_, _, _, rfl, rfl, by kernel_rfl, by kernel_rfl⟩
  | 10, _ => exact ⟨_, _, _, rfl, rfl, by kernel_rfl, by kernel_rfl⟩
  | 11, _ => exact ⟨_, _, _, rfl, rfl, by kernel_rfl, by kernel_rfl⟩
  | 12, _ => exact ⟨_, _, _, rfl, rfl, by kernel_rfl, by kernel_rfl⟩
  | 13, _ => exact ⟨_, _, _, rfl, rfl, by kernel_rfl, by kernel_rfl⟩
  | 14, _ => exact ⟨_, _, _, rfl, rfl, by kernel_rfl, by kernel_rfl⟩
  | 15, _ => exact ⟨_, _, _, rfl, rfl, by kernel_rfl, by kernel_rfl⟩
  | 16, _ => exact ⟨_, _, _, rfl, rfl, by kernel_rfl, by kernel_rfl⟩
  | 17, _ => exact ⟨_, _, _, rfl, rfl, by kernel_rfl, by kernel_rfl⟩
  | 18, _ => exact ⟨_, _, _, rfl, rfl, by kernel_rfl, by kernel_rfl⟩
  | k + 19, h => omega
theorem contract_matchMore (H : Type) (enc : TypeId × Value → H) (W : World) (base : Nat) (args : Array Value) (ds gs : List (DataW H)) (before : List MemPlace)
    (hval : ∀ (j : Nat) t v, Tryd.f6.params[j]? = some t → args[j]? = some v → Value.okWide Tryd.prog W .any base t v)
    (hW : DataW.Whole enc Tryd.prog Tryd.f6.params.toList Rows.matchMoreSpec.vars false W args.toList ds gs before) (hk : Rows.uptoSmall H (ds ++ gs) = true) (hL : laidMetH Tryd.prog Rows.matchMoreUptoRow.laid W) :
    Calls Tryd.prog 6 args W fun e W' => ∃ v, e = .returned v ∧ Rows.matchMoreSpec.post enc Tryd.prog Tryd.f6 false true false false W args v W' := by
  have hW' := hW
  obtain ⟨p, q, hA0, hV, rfl, hfz, hnd⟩ := hW
  have hA : DataW.TrodAll enc Tryd.prog W 0 (fun _ => true) true Tryd.f6.params.toList args.toList ds p := hA0
  rw [Tryd.params6] at hA hval
  obtain ⟨v0, v1, v2, v3, d0, d1, d2, d3, p0, p1, p2, p3, rfl, rfl, rfl, h0, h1, h2, h3⟩ := trodAll_four hA
  obtain ⟨rfl, rfl⟩ := trodVars_none hV
  have hbk : Rows.uptoBulkAll [d0, d1, d2, d3] ≤ 1048576 := by simpa [Rows.uptoSmall] using hk
  simp only [Rows.uptoBulkAll] at hbk
  obtain ⟨es, hE⟩ := errs_matchMore hL
  obtain ⟨A0, c0, xs0, rfl, _, C0, k0⟩ := Close.open_slice_arg Tryd.underlying22 (by kernel_rfl) (Close.reads_int Tryd.underlying3) (hval 0 22 v0 rfl rfl) h0; rw [Close.wsum_one] at k0
  obtain ⟨A1, c1, xs1, rfl, _, C1, k1⟩ := Close.open_slice_arg Tryd.underlying22 (by kernel_rfl) (Close.reads_int Tryd.underlying3) (hval 1 22 v1 rfl rfl) h1; rw [Close.wsum_one] at k1
  obtain ⟨A2, c2, xs2, rfl, _, C2, k2⟩ := Close.open_slice_arg Tryd.underlying22 (by kernel_rfl) (Close.reads_int Tryd.underlying3) (hval 2 22 v2 rfl rfl) h2; rw [Close.wsum_one] at k2
  obtain ⟨A3, c3, xs3, rfl, _, C3, k3⟩ := Close.open_slice_arg Tryd.underlying22 (by kernel_rfl) (Close.reads_int Tryd.underlying3) (hval 3 22 v3 rfl rfl) h3; rw [Close.wsum_one] at k3
  refine (more_any A0 A1 A2 A3 c0 c1 c2 c3 xs0 xs1 xs2 xs3 W C0 C1 C2 C3 es hE (by omega) (by omega) (by omega) (by omega)).mono fun e W' ⟨he, hb⟩ => ?_
  subst he
  exact ⟨_, rfl, Close.law_post (s := Rows.matchMoreSpec) laidOut (Close.params_ok (by kernel_rfl)) (show Tryd.f6.resultTypes = #[4] by kernel_rfl) Tryd.underlying4 rfl hW' rfl hb⟩
theorem laid_matchMore (os : Os) : laidMet Tryd.prog Rows.matchMoreUptoRow.laid ((laidWorld os).forCall (fun _ _ => 0) ⟨#[], #[.slice none 0 0, .slice none 0 0, .slice none 0 0, .slice none 0 0], []⟩).memory := laidMet_of_run' 8 (by kernel_rfl) (by kernel_rfl)
theorem reads_matchMore (os : Os) {H : Type} (enc : TypeId × Value → H) : ∃ places, DataW.whole enc Tryd.prog ((laidWorld os).forCall (fun _ _ => 0) ⟨#[], #[.slice none 0 0, .slice none 0 0, .slice none 0 0, .slice none 0 0], []⟩).memory Tryd.f6.params.toList Rows.matchMoreSpec.vars false (#[.slice none 0 0, .slice none 0 0, .slice none 0 0, .slice none 0 0] : Array Value).toList 8 = some ([.nil, .nil, .nil, .nil], [], places) := ⟨[], by kernel_rfl⟩
set_option maxRecDepth 100000 in
theorem lifted_matchMore (os : Os) (started : os.Started) (H : Type) (enc : TypeId × Value → H) (F : Stop.Interp) :
    ReturnsInHanded {} Tryd.checked os 6 .any ((Rows.OpenSpec.upto Rows.matchMoreSpec).preRow enc Tryd.prog Tryd.f6 Rows.matchMoreUptoRow.domain false Rows.matchMoreUptoRow.laid) (((Rows.OpenSpec.upto Rows.matchMoreSpec).at F).post enc Tryd.prog Tryd.f6 false true false false) := by
  obtain ⟨places, hx⟩ := reads_matchMore os enc
  refine returnsInHanded_of_row (C := Tryd.checked) (s := (Rows.OpenSpec.upto Rows.matchMoreSpec)) own started (by kernel_rfl) Tryd.func6
    (witness_row_atRef (enc := enc) (C := Tryd.checked) false (laidWorld os) #[.slice none 0 0, .slice none 0 0, .slice none 0 0, .slice none 0 0] rfl (by kernel_rfl) (by kernel_rfl) (by kernel_rfl)
      (OpenSpec.preRow_of_cond 8 hx (by kernel_rfl) (fun k hk => by cases hk; kernel_rfl) (by kernel_rfl) (by rw [MakeChecks.laidMetH_plain _ _ _ (by kernel_rfl)]; exact laid_matchMore os))) ?_
  intro W base args ds gs before hval hW _ hcond _ hL _ _
  exact contract_matchMore H enc W base args ds gs before hval hW (hcond _ rfl) hL
theorem said_matchMore : Rows.MatchMoreUptoSaid :=
  OpenClaim.holds_of_cond 6 Tryd.f6 rfl rfl rfl rfl rfl rfl rfl ⟨rfl, rfl, rfl, rfl, rfl⟩ rfl rfl rfl rfl rfl (by kernel_rfl) Tryd.func6 (by kernel_rfl)
    (of_decide_eq_true (by kernel_rfl)) (by unfold Func.isWrapper; first | (rw [if_pos (by decide +kernel)]; kernel_rfl) | (rw [if_neg (by decide +kernel)]; exact ⟨rfl, rfl⟩))
    (fun os started H enc _ F => by rw [OpenClaim.pre_eq_preRow]; exact lifted_matchMore os started H enc F)
theorem plain_matchMore (f : FuncId) (fn : Func) (hf : Tryd.pinned.checked.prog.funcNamed "vellum/vellumlaw15.MatchMore" = some f) (hfn : Tryd.pinned.checked.prog.funcs[f]? = some fn) :
    true = Tryd.pinned.checked.prog.looks [] ∧ ∀ (j : Nat) t, fn.params[j]? = some t → Tryd.pinned.checked.prog.wantsStandIn t = false := by
  obtain rfl : f = 6 := Option.some.inj ((show Tryd.prog.funcNamed "vellum/vellumlaw15.MatchMore" = some 6 by kernel_rfl).symm.trans hf) |>.symm
  obtain rfl : fn = Tryd.f6 := (Option.some.inj (Tryd.func6.symm.trans hfn)).symm
  refine ⟨by kernel_rfl, fun j t ht => ?_⟩
  rw [Tryd.params6] at ht
  have hm := Array.mem_of_getElem? ht
  simp only [List.mem_toArray, List.mem_cons, List.not_mem_nil, or_false] at hm
  rcases hm with rfl | rfl | rfl | rfl
  · exact (show Tryd.prog.wantsStandIn 22 = false by kernel_rfl)
  · exact (show Tryd.prog.wantsStandIn 22 = false by kernel_rfl)
  · exact (show Tryd.prog.wantsStandIn 22 = false by kernel_rfl)
  · exact (show Tryd.prog.wantsStandIn 22 = false by kernel_rfl)
theorem card_matchMore : Rows.MatchMoreUptoCardSaid :=
  Claim7.holds_tied_plain_at .later [] _ _ _ _ said_matchMore (fun _ h => by cases h) (by kernel_rfl) (fun _ h => by cases h) matchMoreUpto_row_tie rfl ⟨rfl, rfl⟩ (by kernel_rfl) rfl plain_matchMore (by kernel_rfl)
#print axioms card_matchMore
end Go.Proofs.YtmhkeojbjliieaaDoor.MatchMore
