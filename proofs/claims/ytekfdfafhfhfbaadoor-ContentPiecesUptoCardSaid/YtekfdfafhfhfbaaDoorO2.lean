/- What ops.Check, Of, Lengths, Canonical and Same answer. Conditions: sizes, the tables of utf8, the errors' variables. -/
import Derived.Test.YtekfdfafhfhfbaaDoorO1
import Derived.Test.YtekfdfafhfhfbaaDoorA3
import Derived.Test.YtekfdfafhfhfbaaDoorInv
set_option linter.unusedVariables false
set_option linter.unusedSimpArgs false
set_option maxRecDepth 100000
namespace Go.Proofs.YtekfdfafhfhfbaaDoor
open Go Go.RowKit Go.Proofs.YtekfdfafhfhfbaaDoorW.PrintWords RX
theorem insertLen_any (A : Option Addr) (n c : Nat) (t : ByteArray) (k : Int) (w : World) : Calls Tryd.prog 165 #[.agg #[.slice A n c, .string t, .int .i64 k]] w fun e w' => e = .returned (.int .i64 k) ∧ Below w.heap.size w w' := by
  refine RX.enter Tryd.func165 rfl 5 rfl [(0, .agg #[.slice A n c, .string t, .int .i64 k])] rfl (by kernel_rfl) (fun R_ hR_ => ?_)
  refine X_seq ?_
  refine X_region ?_
  refine XL_run 1 [] [(1, .pointer (some ⟨w.heap.size, 0, none⟩))] (w.alloc (.cells #[.slice A n c, .string t, .int .i64 k] 51)) [] (by kernel_rfl) trivial ?_
  obtain ⟨w_1, hw_5, hb_2, hk_3, hz_4⟩ := new_world w #[.slice A n c, .string t, .int .i64 k] 51
  rw [hw_5]
  refine XL_run 1 [] [(1, .pointer (some ⟨w.heap.size, 0, none⟩))] w_1 [] (by kernel_rfl) trivial ?_
  refine XL_nil ?_
  refine X_seq ?_
  refine X_region ?_
  refine XL_run 3 [(4, .load (.int .i64 k))] [(2, .int .i64 k)] w_1 [LoadsAs Tryd.prog 3 (⟨w.heap.size, 2, none⟩) (.int .i64 k) w_1] (by kernel_rfl) ⟨loads1 rfl (Blk.cell hk_3 2 _ rfl), trivial⟩ ?_
  refine XL_nil ?_
  refine X_ret ?_
  refine RX.ret_ok (P := Tryd.prog) (fn := Tryd.f165) (N := 5) (R := R_) [.int .i64 k] (by kernel_rfl) (hR_ _ _ ?_)
  exact ⟨rfl, hb_2⟩
theorem embedLen_any (A : Option Addr) (n c : Nat) (t : ByteArray) (v : Value) (w : World) : Calls Tryd.prog 167 #[.agg #[.slice A n c, .string t, v]] w fun e w' => e = .returned (.int .i64 1) ∧ Below w.heap.size w w' := by
  refine RX.enter Tryd.func167 rfl 3 rfl [(0, .agg #[.slice A n c, .string t, v])] rfl (by kernel_rfl) (fun R_ hR_ => ?_)
  refine X_seq ?_
  refine X_region ?_
  refine XL_run 1 [] [] (w.alloc (.cells #[.slice A n c, .string t, v] 56)) [] (by kernel_rfl) trivial ?_
  obtain ⟨w_1, hw_5, hb_2, hk_3, hz_4⟩ := new_world w #[.slice A n c, .string t, v] 56
  rw [hw_5]
  refine XL_run 1 [] [] w_1 [] (by kernel_rfl) trivial ?_
  refine XL_nil ?_
  refine X_seq ?_
  refine X_region ?_
  refine XL_run 1 [] [(2, .int .i64 1)] w_1 [] (by kernel_rfl) trivial ?_
  refine XL_nil ?_
  refine X_ret ?_
  refine RX.ret_ok (P := Tryd.prog) (fn := Tryd.f167) (N := 3) (R := R_) [.int .i64 1] (by kernel_rfl) (hR_ _ _ ?_)
  exact ⟨rfl, hb_2⟩
theorem kPiece_iface {w : World} {p : PieceA} {v : Value} (h : kPiece.K w p [v]) : ∃ T u, v = .iface T u := by
  cases p with
  | ins a t n => obtain ⟨A, c, e, _⟩ := kPiece_ins h; exact ⟨_, _, (List.cons.inj e).1⟩
  | emb a t n => obtain ⟨A, c, e, _⟩ := kPiece_emb h; exact ⟨_, _, (List.cons.inj e).1⟩
  | ret a n => obtain ⟨A, c, e, _⟩ := kPiece_ret h; exact ⟨_, _, (List.cons.inj e).1⟩
  | del n => have e := kPiece_del h; exact ⟨_, _, (List.cons.inj e).1⟩
def opEqP (a b : OpA) : Bool := decide (a.kind = b.kind) && (decide (a.text = b.text) && (decide (a.count = b.count) && (decide (((a.vk, a.vn, a.vt) : Pl) = (b.vk, b.vn, b.vt)) && decide (a.attrs = b.attrs))))
theorem opEqP_iff (a b : OpA) : opEqP a b = true ↔ a = b := by
  obtain ⟨a1, a2, a3, a4, a5, a6, a7⟩ := a
  obtain ⟨b1, b2, b3, b4, b5, b6, b7⟩ := b
  simp only [opEqP, Bool.and_eq_true, decide_eq_true_eq, Prod.mk.injEq, OpA.mk.injEq]
  exact ⟨fun ⟨h1, h2, h3, ⟨h4, h5, h6⟩, h7⟩ => ⟨h1, h2, h4, h5, h6, h3, h7⟩, fun ⟨h1, h2, h4, h5, h6, h3, h7⟩ => ⟨h1, h2, h3, ⟨h4, h5, h6⟩, h7⟩⟩
noncomputable def opsEqP (xs ys : List OpA) : Bool := @decide (xs = ys) (Classical.propDecidable _)
theorem opsEqP_iff (xs ys : List OpA) : opsEqP xs ys = true ↔ xs = ys := by unfold opsEqP; exact @decide_eq_true_iff _ (Classical.propDecidable _)
theorem opsEqP_false (xs ys : List OpA) : opsEqP xs ys = false ↔ ¬ xs = ys := by rw [← opsEqP_iff]; cases opsEqP xs ys <;> simp
theorem ops_ext {xs ys : List OpA} (hl : xs.length = ys.length) (h : ∀ q, q < xs.length → xs.getD q op0 = ys.getD q op0) : xs = ys :=
  List.ext_getElem hl fun q h1 h2 => by have := h q h1; simpa [List.getD_eq_getElem?_getD, List.getElem?_eq_getElem h1, List.getElem?_eq_getElem h2] using this
end Go.Proofs.YtekfdfafhfhfbaaDoor
