/- What ops.Check, Of, Lengths, Canonical and Same answer. Conditions: sizes, the tables of utf8, the errors' variables. -/
import Derived.Test.YtekfdfafhfhfbaaDoorO1
import Derived.Test.YtekfdfafhfhfbaaDoorA3
import Derived.Test.YtekfdfafhfhfbaaDoorInv
set_option linter.unusedVariables false
set_option linter.unusedSimpArgs false
set_option maxRecDepth 100000
namespace Go.Proofs.YtekfdfafhfhfbaaDoor
open Go Go.RowKit Go.Proofs.YtekfdfafhfhfbaaDoorW.PrintWords RX
theorem insertLen_any (A : Option Addr) (n c : Nat) (t : ByteArray) (k : Int) (w : World) : Calls Tryd.prog 165 #[.agg #[.slice A n c, .string t, .int .i64 k]] w fun e w' => e = .returned (.int .i64 k) ∧ Below w.heap.size w w' := by
  refine RX.enter Tryd.func165 rfl 5 rfl [(0, .agg #[.slice A n c, .string t, .int .i64 k])] rfl (by kernel_rfl) (fun R_ hR_ => ?_)
  refine X_seq ?_
  refine X_region ?_
  refine XL_run 1 [] [(1, .pointer (some ⟨w.heap.size, 0, none⟩))] (w.alloc (.cells #[.slice A n c, .string t, .int .i64 k] 51)) [] (by kernel_rfl) trivial ?_
  obtain ⟨w_1, hw_5, hb_2, hk_3, hz_4⟩ := new_world w #[.slice A n c, .string t, .int .i64 k] 51
  rw [hw_5]
  refine XL_run 1 [] [(1, .pointer (some ⟨w.heap.size, 0, none⟩))] w_1 [] (by kernel_rfl) trivial ?_
  refine XL_nil ?_
  refine X_seq ?_
  refine X_region ?_
  refine XL_run 3 [(4, .load (.int .i64 k))] [(2, .int .i64 k)] w_1 [LoadsAs Tryd.prog 3 (⟨w.heap.size, 2, none⟩) (.int .i64 k) w_1] (by kernel_rfl) ⟨loads1 rfl (Blk.cell hk_3 2 _ rfl), trivial⟩ ?_
  refine XL_nil ?_
  refine X_ret ?_
  refine RX.ret_ok (P := Tryd.prog) (fn := Tryd.f165) (N := 5) (R := R_) [.int .i64 k] (by kernel_rfl) (hR_ _ _ ?_)
  exact ⟨rfl, hb_2⟩
theorem embedLen_any (A : Option Addr) (n c : Nat) (t : ByteArray) (v : Value) (w : World) : Calls Tryd.prog 167 #[.agg #[.slice A n c, .string t, v]] w fun e w' => e = .returned (.int .i64 1) ∧ Below w.heap.size w w' := by
  refine RX.enter Tryd.func167 rfl 3 rfl [(0, .agg #[.slice A n c, .string t, v])] rfl (by kernel_rfl) (fun R_ hR_ => ?_)
  refine X_seq ?_
  refine X_region ?_
  refine XL_run 1 [] [] (w.alloc (.cells #[.slice A n c, .string t, v] 56)) [] (by kernel_rfl) trivial ?_
  obtain ⟨w_1, hw_5, hb_2, hk_3, hz_4⟩ := new_world w #[.slice A n c, .string t, v] 56
  rw [hw_5]
  refine XL_run 1 [] [] w_1 [] (by kernel_rfl) trivial ?_
  refine XL_nil ?_
  refine X_seq ?_
  refine X_region ?_
  refine XL_run 1 [] [(2, .int .i64 1)] w_1 [] (by kernel_rfl) trivial ?_
  refine XL_nil ?_
  refine X_ret ?_
  refine RX.ret_ok (P := Tryd.prog) (fn := Tryd.f167) (N := 3) (R := R_) [.int .i64 1] (by kernel_rfl) (hR_ _ _ ?_)
  exact ⟨rfl, hb_2⟩
theorem kPiece_iface {w : World} {p : PieceA} {v : Value} (h : kPiece.K w p [v]) : ∃ T u, v = .iface T u := by
  cases p with
  | ins a t n => obtain ⟨A, c, e, _⟩ := kPiece_ins h; exact ⟨_, _, (List.cons.inj e).1⟩
  | emb a t n => obtain ⟨A, c, e, _⟩ := kPiece_emb h; exact ⟨_, _, (List.cons.inj e).1⟩
  | ret a n => obtain ⟨A, c, e, _⟩ := kPiece_ret h; exact ⟨_, _, (List.cons.inj e).1⟩
  | del n => have e := kPiece_del h; exact ⟨_, _, (List.cons.inj e).1⟩
def opEqP (a b : OpA) : Bool := decide (a.kind = b.kind) && (decide (a.text = b.text) && (decide (a.count = b.count) && (decide (((a.vk, a.vn, a.vt) : Pl) = (b.vk, b.vn, b.vt)) && decide (a.attrs = b.attrs))))
theorem opEqP_iff (a b : OpA) : opEqP a b = true ↔ a = b := by
  obtain ⟨a1, a2, a3, a4, a5, a6, a7⟩ := a
  obtain ⟨b1, b2, b3, b4, b5, b6, b7⟩ := b
  simp only [opEqP, Bool.and_eq_true, decide_eq_true_eq, Prod.mk.injEq, OpA.mk.injEq]
  exact ⟨fun ⟨h1, h2, h3, ⟨h4, h5, h6⟩, h7⟩ => ⟨h1, h2, h4, h5, h6, h3, h7⟩, fun ⟨h1, h2, h4, h5, h6, h3, h7⟩ => ⟨h1, h2, h3, ⟨h4, h5, h6⟩, h7⟩⟩
noncomputable def opsEqP (xs ys : List OpA) : Bool := @decide (xs = ys) (Classical.propDecidable _)
theorem opsEqP_iff (xs ys : List OpA) : opsEqP xs ys = true ↔ xs = ys := by unfold opsEqP; exact @decide_eq_true_iff _ (Classical.propDecidable _)
theorem opsEqP_false (xs ys : List OpA) : opsEqP xs ys = false ↔ ¬ xs = ys := by rw [← opsEqP_iff]; cases opsEqP xs ys <;> simp
theorem ops_ext {xs ys : List OpA} (hl : xs.length = ys.length) (h : ∀ q, q < xs.length → xs.getD q op0 = ys.getD q op0) : xs = ys :=
  List.ext_getElem hl fun q h1 h2 => by have := h q h1; simpa [List.getD_eq_getElem?_getD, List.getElem?_eq_getElem h1, List.getElem?_eq_getElem h2] using this
theorem same1_any (a b : OpA) (A B : Option Addr) (c d : Nat) (w : World) (hA : kAttr.C w A a.attrs.length a.attrs) (hB : kAttr.C w B b.attrs.length b.attrs) : Calls Tryd.prog 75 #[.agg #[.int .i64 a.kind, .string a.text, .int .i64 a.vk, .int .i64 a.vn, .string a.vt, .int .i64 a.count, .slice A a.attrs.length c], .agg #[.int .i64 b.kind, .string b.text, .int .i64 b.vk, .int .i64 b.vn, .string b.vt, .int .i64 b.count, .slice B b.attrs.length d]] w fun e w' => e = .returned (.bool (opEqP a b)) ∧ Below w.heap.size w w' := by
  refine RX.enter Tryd.func75 rfl 38 rfl [(0, .agg #[.int .i64 a.kind, .string a.text, .int .i64 a.vk, .int .i64 a.vn, .string a.vt, .int .i64 a.count, .slice A a.attrs.length c]), (1, .agg #[.int .i64 b.kind, .string b.text, .int .i64 b.vk, .int .i64 b.vn, .string b.vt, .int .i64 b.count, .slice B b.attrs.length d])] rfl (by kernel_rfl) (fun R_ hR_ => ?_)
  refine X_seq ?_
  refine X_region ?_
  refine XL_run 1 [] [(1, .agg #[.int .i64 b.kind, .string b.text, .int .i64 b.vk, .int .i64 b.vn, .string b.vt, .int .i64 b.count, .slice B b.attrs.length d]), (2, .pointer (some ⟨w.heap.size, 0, none⟩))] (w.alloc (.cells #[.int .i64 a.kind, .string a.text, .int .i64 a.vk, .int .i64 a.vn, .string a.vt, .int .i64 a.count, .slice A a.attrs.length c] 33)) [] (by kernel_rfl) trivial ?_
  obtain ⟨w_1, hw_5, hb_2, hk_3, hz_4⟩ := new_world w #[.int .i64 a.kind, .string a.text, .int .i64 a.vk, .int .i64 a.vn, .string a.vt, .int .i64 a.count, .slice A a.attrs.length c] 33
  rw [hw_5]
  refine XL_run 1 [] [(2, .pointer (some ⟨w.heap.size, 0, none⟩)), (3, .pointer (some ⟨w_1.heap.size, 0, none⟩))] (w_1.alloc (.cells #[.int .i64 b.kind, .string b.text, .int .i64 b.vk, .int .i64 b.vn, .string b.vt, .int .i64 b.count, .slice B b.attrs.length d] 33)) [] (by kernel_rfl) trivial ?_
  obtain ⟨w_6, hw_10, hb_7, hk_8, hz_9⟩ := new_world w_1 #[.int .i64 b.kind, .string b.text, .int .i64 b.vk, .int .i64 b.vn, .string b.vt, .int .i64 b.count, .slice B b.attrs.length d] 33
  rw [hw_10]
  refine XL_run 1 [] [(2, .pointer (some ⟨w.heap.size, 0, none⟩)), (3, .pointer (some ⟨w_1.heap.size, 0, none⟩))] w_6 [] (by kernel_rfl) trivial ?_
  refine XL_nil ?_
  refine X_seq ?_
  refine X_region ?_
  refine XL_run 4 [(6, .load (.int .i64 a.kind)), (8, .load (.int .i64 b.kind))] [(2, .pointer (some ⟨w.heap.size, 0, none⟩)), (3, .pointer (some ⟨w_1.heap.size, 0, none⟩)), (6, .int .i64 a.kind), (8, .int .i64 b.kind)] w_6 [LoadsAs Tryd.prog 3 (⟨w.heap.size, 0, none⟩) (.int .i64 a.kind) w_6, LoadsAs Tryd.prog 3 (⟨w_1.heap.size, 0, none⟩) (.int .i64 b.kind) w_6] (by kernel_rfl) ⟨loads1 rfl (Blk.cell (Blk.below hk_3 hb_7) 0 _ rfl), loads1 rfl (Blk.cell hk_8 0 _ rfl), trivial⟩ ?_
  by_cases c_11 : a.kind = b.kind
  · refine XL_run 6 [(9, .eq (.bool true)), (12, .load (.string a.text)), (14, .load (.string b.text))] [(2, .pointer (some ⟨w.heap.size, 0, none⟩)), (3, .pointer (some ⟨w_1.heap.size, 0, none⟩)), (10, .bool true), (12, .string a.text), (14, .string b.text)] w_6 [Value.bool (a.kind == b.kind) = Value.bool true, LoadsAs Tryd.prog 9 (⟨w.heap.size, 1, none⟩) (.string a.text) w_6, LoadsAs Tryd.prog 9 (⟨w_1.heap.size, 1, none⟩) (.string b.text) w_6] (by kernel_rfl) ⟨congrArg Value.bool (beq_iff_eq.2 (c_11)), loads1 rfl (Blk.cell (Blk.below hk_3 hb_7) 1 _ rfl), loads1 rfl (Blk.cell hk_8 1 _ rfl), trivial⟩ ?_
    by_cases c_12 : a.text = b.text
    · refine XL_run 7 [(15, .eq (.bool true)), (19, .load (.int .i64 a.count)), (21, .load (.int .i64 b.count))] [(2, .pointer (some ⟨w.heap.size, 0, none⟩)), (3, .pointer (some ⟨w_1.heap.size, 0, none⟩)), (17, .bool true), (19, .int .i64 a.count), (21, .int .i64 b.count)] w_6 [Value.bool (a.text.toList == b.text.toList) = Value.bool true, LoadsAs Tryd.prog 3 (⟨w.heap.size, 5, none⟩) (.int .i64 a.count) w_6, LoadsAs Tryd.prog 3 (⟨w_1.heap.size, 5, none⟩) (.int .i64 b.count) w_6] (by kernel_rfl) ⟨congrArg Value.bool (strEqT (c_12)), loads1 rfl (Blk.cell (Blk.below hk_3 hb_7) 5 _ rfl), loads1 rfl (Blk.cell hk_8 5 _ rfl), trivial⟩ ?_
      by_cases c_13 : a.count = b.count
      · refine XL_run 7 [(22, .eq (.bool true)), (26, .load (.agg #[.int .i64 a.vk, .int .i64 a.vn, .string a.vt])), (28, .load (.agg #[.int .i64 b.vk, .int .i64 b.vn, .string b.vt]))] [(2, .pointer (some ⟨w.heap.size, 0, none⟩)), (3, .pointer (some ⟨w_1.heap.size, 0, none⟩)), (24, .bool true), (26, .agg #[.int .i64 a.vk, .int .i64 a.vn, .string a.vt]), (28, .agg #[.int .i64 b.vk, .int .i64 b.vn, .string b.vt])] w_6 [Value.bool (a.count == b.count) = Value.bool true, LoadsAs Tryd.prog 30 (⟨w.heap.size, 2, none⟩) (.agg #[.int .i64 a.vk, .int .i64 a.vn, .string a.vt]) w_6, LoadsAs Tryd.prog 30 (⟨w_1.heap.size, 2, none⟩) (.agg #[.int .i64 b.vk, .int .i64 b.vn, .string b.vt]) w_6] (by kernel_rfl) ⟨congrArg Value.bool (beq_iff_eq.2 (c_13)), loadsB rfl rfl (Blk.below hk_3 hb_7) 2 ⟨by kernel_rfl, by kernel_rfl⟩, loadsB rfl rfl hk_8 2 ⟨by kernel_rfl, by kernel_rfl⟩, trivial⟩ ?_
        refine XL_call 111 rfl rfl rfl ent111 [.agg #[.int .i64 a.vk, .int .i64 a.vn, .string a.vt], .agg #[.int .i64 b.vk, .int .i64 b.vn, .string b.vt]] (by kernel_rfl) (vsame_any (a.vk, a.vn, a.vt) (b.vk, b.vn, b.vt) _) ?_
        rintro e w_14 ⟨rfl, hb_15⟩; refine ⟨_, rfl, ?_⟩
        refine XL_run 2 [] [(2, .pointer (some ⟨w.heap.size, 0, none⟩)), (3, .pointer (some ⟨w_1.heap.size, 0, none⟩)), (31, .bool (decide (((a.vk, a.vn, a.vt) : Pl) = (b.vk, b.vn, b.vt))))] w_14 [] (by kernel_rfl) trivial ?_
        by_cases c_16 : decide (((a.vk, a.vn, a.vt) : Pl) = (b.vk, b.vn, b.vt)) = true
        · rw [show (decide (((a.vk, a.vn, a.vt) : Pl) = (b.vk, b.vn, b.vt)) : Bool) = true from by simpa using c_16]
          refine XL_run 4 [(33, .load (.slice A a.attrs.length c)), (35, .load (.slice B b.attrs.length d))] [(31, .bool true), (33, .slice A a.attrs.length c), (35, .slice B b.attrs.length d)] w_14 [LoadsAs Tryd.prog 31 (⟨w.heap.size, 6, none⟩) (.slice A a.attrs.length c) w_14, LoadsAs Tryd.prog 31 (⟨w_1.heap.size, 6, none⟩) (.slice B b.attrs.length d) w_14] (by kernel_rfl) ⟨loads1 rfl (Blk.cell (Blk.below hk_3 (bt hb_7 hb_15)) 6 _ rfl), loads1 rfl (Blk.cell (Blk.below hk_8 hb_15) 6 _ rfl), trivial⟩ ?_
          refine XL_call 108 rfl rfl rfl ent108 [.slice A a.attrs.length c, .slice B b.attrs.length d] (by kernel_rfl) (asame_any _ _ _ _ a.attrs b.attrs _ (Kd.C_below hA (bt (bt hb_2 hb_7) hb_15)) (Kd.C_below hB (bt (bt hb_2 hb_7) hb_15))) ?_
          rintro e w_17 ⟨rfl, hb_18⟩; refine ⟨_, rfl, ?_⟩
          refine XL_run 2 [] [(4, .bool (decide (a.attrs = b.attrs)))] w_17 [] (by kernel_rfl) trivial ?_
          refine XL_nil ?_
          refine X_ret ?_
          refine RX.ret_ok (P := Tryd.prog) (fn := Tryd.f75) (N := 38) (R := R_) [.bool (decide (a.attrs = b.attrs))] (by kernel_rfl) (hR_ _ _ ?_)
          rw [show opEqP a b = decide (a.attrs = b.attrs) from by unfold opEqP; simp_all]
          exact ⟨rfl, (bt (bt (bt hb_2 hb_7) hb_15) hb_18)⟩
        · rw [show (decide (((a.vk, a.vn, a.vt) : Pl) = (b.vk, b.vn, b.vt)) : Bool) = false from by simpa using c_16]
          refine XL_run 7 [] [(4, .bool false)] w_14 [] (by kernel_rfl) trivial ?_
          refine XL_nil ?_
          refine X_ret ?_
          refine RX.ret_ok (P := Tryd.prog) (fn := Tryd.f75) (N := 38) (R := R_) [.bool false] (by kernel_rfl) (hR_ _ _ ?_)
          rw [show opEqP a b = false from by unfold opEqP; simp_all]
          exact ⟨rfl, (bt (bt hb_2 hb_7) hb_15)⟩
      · refine XL_run 17 [(22, .eq (.bool false))] [(4, .bool false)] w_6 [Value.bool (a.count == b.count) = Value.bool false] (by kernel_rfl) ⟨congrArg Value.bool (beq_eq_false_iff_ne.2 (c_13)), trivial⟩ ?_
        refine XL_nil ?_
        refine X_ret ?_
        refine RX.ret_ok (P := Tryd.prog) (fn := Tryd.f75) (N := 38) (R := R_) [.bool false] (by kernel_rfl) (hR_ _ _ ?_)
        rw [show opEqP a b = false from by unfold opEqP; simp_all]
        exact ⟨rfl, (bt hb_2 hb_7)⟩
    · refine XL_run 24 [(15, .eq (.bool false))] [(4, .bool false)] w_6 [Value.bool (a.text.toList == b.text.toList) = Value.bool false] (by kernel_rfl) ⟨congrArg Value.bool (strEqF (c_12)), trivial⟩ ?_
      refine XL_nil ?_
      refine X_ret ?_
      refine RX.ret_ok (P := Tryd.prog) (fn := Tryd.f75) (N := 38) (R := R_) [.bool false] (by kernel_rfl) (hR_ _ _ ?_)
      rw [show opEqP a b = false from by unfold opEqP; simp_all]
      exact ⟨rfl, (bt hb_2 hb_7)⟩
  · refine XL_run 30 [(9, .eq (.bool false))] [(4, .bool false)] w_6 [Value.bool (a.kind == b.kind) = Value.bool false] (by kernel_rfl) ⟨congrArg Value.bool (beq_eq_false_iff_ne.2 (c_11)), trivial⟩ ?_
    refine XL_nil ?_
    refine X_ret ?_
    refine RX.ret_ok (P := Tryd.prog) (fn := Tryd.f75) (N := 38) (R := R_) [.bool false] (by kernel_rfl) (hR_ _ _ ?_)
    rw [show opEqP a b = false from by unfold opEqP; simp_all]
    exact ⟨rfl, (bt hb_2 hb_7)⟩
end Go.Proofs.YtekfdfafhfhfbaaDoor
