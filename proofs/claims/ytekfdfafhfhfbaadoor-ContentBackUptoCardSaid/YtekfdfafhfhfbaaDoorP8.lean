/- ContentBack returns true. Conditions: sizes, the tables of utf8, the errors' variables. -/
import Derived.Test.YtekfdfafhfhfbaaDoorP4
import Derived.Test.YtekfdfafhfhfbaaDoorP2
import Derived.Test.YtekfdfafhfhfbaaDoorAn3
set_option linter.unusedVariables false
set_option linter.unusedSimpArgs false
set_option maxRecDepth 100000
namespace Go.Proofs.YtekfdfafhfhfbaaDoor
open Go Go.RowKit Go.Proofs.YtekfdfafhfhfbaaDoorW.PrintWords RX
theorem ent12 : Ent Tryd.prog 12 := ent_of Tryd.func12 (by kernel_rfl) rfl
theorem run_rem {t : TypeId} {k : IntKind} {a b : Int} (hb : b ≠ 0) (w : World) : (binOp .rem t (.int k a) (.int k b)).run Tryd.prog w = .ok (.int k (Int.tmod a b)) w := by
  rw [binOp_rem]
  simp [Op.intDiv, hb]
theorem tm_bd {x y : Int} (hx : 0 ≤ x) (hy : 0 < y) : 0 ≤ x.tmod y ∧ x.tmod y < y := by
  rw [Int.tmod_eq_emod_of_nonneg hx]
  exact ⟨Int.emod_nonneg _ (by omega), Int.emod_lt_of_pos _ hy⟩
theorem u64_nonneg (x : Int) : 0 ≤ IntKind.u64.wrap x := by rw [IntKind.wrap_u64]; omega
set_option maxHeartbeats 2000000 in
theorem cback_any (o : OpA) (A : Option Addr) (c : Nat) (n : Int) (w : World) (hA : kAttr.C w A o.attrs.length o.attrs) (hAc : o.attrs.length ≤ c) (hz : opSz o) (hn0 : -9223372036854775808 ≤ n) (hn1 : n ≤ 9223372036854775807) (hT : Tabs w) (es : List Addr) (hE : ErrsC w es) : Calls Tryd.prog 12 #[.agg #[.int .i64 o.kind, .string o.text, .int .i64 o.vk, .int .i64 o.vn, .string o.vt, .int .i64 o.count, .slice A o.attrs.length c], .int .i64 n] w fun e w' => e = .returned (.bool true) ∧ Below w.heap.size w w' := by
  have hz1 := hz.1
  have hscl := U.sc_le o.text
  refine RX.enter Tryd.func12 rfl 143 rfl [(0, .agg #[.int .i64 o.kind, .string o.text, .int .i64 o.vk, .int .i64 o.vn, .string o.vt, .int .i64 o.count, .slice A o.attrs.length c]), (1, .int .i64 n)] rfl (by kernel_rfl) (fun R_ hR_ => ?_)
  refine X_seq ?_
  refine X_region ?_
  refine XL_run 1 [] [(1, .int .i64 n), (2, .pointer (some ⟨w.heap.size, 0, none⟩))] (w.alloc (.cells #[.int .i64 o.kind, .string o.text, .int .i64 o.vk, .int .i64 o.vn, .string o.vt, .int .i64 o.count, .slice A o.attrs.length c] 33)) [] (by kernel_rfl) trivial ?_
  obtain ⟨w_1, hw_5, hb_2, hk_3, hz_4⟩ := new_world w #[.int .i64 o.kind, .string o.text, .int .i64 o.vk, .int .i64 o.vn, .string o.vt, .int .i64 o.count, .slice A o.attrs.length c] 33
  rw [hw_5]
  refine XL_run 1 [] [(1, .int .i64 n), (2, .pointer (some ⟨w.heap.size, 0, none⟩))] w_1 [] (by kernel_rfl) trivial ?_
  refine XL_nil ?_
  refine X_seq ?_
  refine X_seq ?_
  refine X_region ?_
  refine XL_call 45 rfl rfl rfl ent45 [] (by kernel_rfl) (lives_any _ (hT.below hb_2) es (hE.below hb_2)) ?_
  rintro e w_6 ⟨rfl, hb_7⟩; refine ⟨_, rfl, ?_⟩
  refine XL_run 1 [] [(1, .int .i64 n), (2, .pointer (some ⟨w.heap.size, 0, none⟩)), (19, .bool false)] w_6 [] (by kernel_rfl) trivial ?_
  refine XL_nil ?_
  refine X_cond false rfl ?_
  refine X_skip ?_
  refine X_seq ?_
  refine X_region ?_
  refine XL_run 1 [(21, .load (.agg #[.int .i64 o.kind, .string o.text, .int .i64 o.vk, .int .i64 o.vn, .string o.vt, .int .i64 o.count, .slice A o.attrs.length c]))] [(1, .int .i64 n), (2, .pointer (some ⟨w.heap.size, 0, none⟩)), (21, .agg #[.int .i64 o.kind, .string o.text, .int .i64 o.vk, .int .i64 o.vn, .string o.vt, .int .i64 o.count, .slice A o.attrs.length c])] w_6 [LoadsAs Tryd.prog 33 (⟨w.heap.size, 0, none⟩) (.agg #[.int .i64 o.kind, .string o.text, .int .i64 o.vk, .int .i64 o.vn, .string o.vt, .int .i64 o.count, .slice A o.attrs.length c]) w_6] (by kernel_rfl) ⟨loadsB rfl rfl (Blk.below hk_3 hb_7) 0 ⟨by kernel_rfl, by kernel_rfl⟩, trivial⟩ ?_
  refine XL_call 48 rfl rfl rfl ent48 [.agg #[.int .i64 o.kind, .string o.text, .int .i64 o.vk, .int .i64 o.vn, .string o.vt, .int .i64 o.count, .slice A o.attrs.length c]] (by kernel_rfl) (clen_any o _ _ _ (Kd.C_below hA (bt hb_2 hb_7)) hz (hT.below (bt hb_2 hb_7)) es (hE.below (bt hb_2 hb_7))) ?_
  rintro e w_8 ⟨rfl, hb_9⟩; refine ⟨_, rfl, ?_⟩
  refine XL_run 5 [] [(1, .int .i64 n), (2, .pointer (some ⟨w.heap.size, 0, none⟩)), (5, .int .i64 (lenO o)), (6, errV es (refuseP o))] w_8 [] (by kernel_rfl) trivial ?_
  refine XL_nil ?_
  refine X_seq ?_
  refine X_seq ?_
  refine X_region ?_
  refine XL_run 1 [] [(1, .int .i64 n), (2, .pointer (some ⟨w.heap.size, 0, none⟩)), (5, .int .i64 (lenO o)), (6, errV es (refuseP o)), (25, errV es (refuseP o))] w_8 [] (by kernel_rfl) trivial ?_
  by_cases c_10 : (refuseP o) = 0
  · rw [show errV es (refuseP o) = .nilIface from by rw [c_10]; rfl]
    refine XL_run 3 [] [(1, .int .i64 n), (2, .pointer (some ⟨w.heap.size, 0, none⟩)), (5, .int .i64 (lenO o)), (6, .nilIface), (27, .bool false), (28, .int .i64 (lenO o))] w_8 [] (by kernel_rfl) trivial ?_
    by_cases c_11 : lenO o < 2
    · refine XL_run 2 [(29, .eq (.bool true))] [(1, .int .i64 n), (2, .pointer (some ⟨w.heap.size, 0, none⟩)), (5, .int .i64 (lenO o)), (6, .nilIface), (30, .bool true)] w_8 [Value.bool (decide (lenO o < 2)) = Value.bool true] (by kernel_rfl) ⟨congrArg Value.bool (decide_eq_true (c_11)), trivial⟩ ?_
      refine XL_nil ?_
      refine X_cond true rfl ?_
      refine X_seq ?_
      refine X_region ?_
      refine XL_run 7 [(35, .eq (.bool true))] [(4, .bool true)] w_8 [Value.bool (lenO o == 1) = Value.bool true] (by kernel_rfl) ⟨congrArg Value.bool (beq_iff_eq.2 ((by have h_ := len4_pos c_10; rw [← lenO_ok c_10] at h_; omega))), trivial⟩ ?_
      refine XL_nil ?_
      refine X_ret ?_
      refine RX.ret_ok (P := Tryd.prog) (fn := Tryd.f12) (N := 143) (R := R_) [.bool true] (by kernel_rfl) (hR_ _ _ ?_)
      exact ⟨rfl, (bt (bt hb_2 hb_7) hb_9)⟩
    · refine XL_run 2 [(29, .eq (.bool false))] [(1, .int .i64 n), (2, .pointer (some ⟨w.heap.size, 0, none⟩)), (5, .int .i64 (lenO o)), (6, .nilIface), (30, .bool false)] w_8 [Value.bool (decide (lenO o < 2)) = Value.bool false] (by kernel_rfl) ⟨congrArg Value.bool (decide_eq_false (c_11)), trivial⟩ ?_
      refine XL_nil ?_
      refine X_cond false rfl ?_
      refine X_skip ?_
      refine X_seq ?_
      refine X_region ?_
      have hkd : o.kind = 1 := by rcases refuse_kind c_10 with h_ | h_; (· exact h_); (· have h1_ := lenO_ok c_10; rw [len4_2 h_] at h1_; omega)
      have hlk : lenO o = ((U.sc o.text).length : Int) := by rw [lenO_ok c_10, len4_1 hkd]
      obtain ⟨p, hpe, hp0, hp1⟩ : ∃ p : Int, Int.tmod (IntKind.u64.wrap (n)) ((lenO o) - 1) = p ∧ 0 ≤ p ∧ p < (lenO o) - 1 := ⟨_, rfl, (tm_bd (u64_nonneg _) (by omega)).1, (tm_bd (u64_nonneg _) (by omega)).2⟩
      obtain ⟨q, hq⟩ : ∃ q : Int, 1 + p = q := ⟨_, rfl⟩
      refine XL_run 9 [(40, .eq (.int .i64 ((lenO o) - 1))), (41, .eq (.int .u64 ((lenO o) - 1))), (42, .as (.int .u64 p)), (43, .eq (.int .i64 p)), (44, .eq (.int .i64 q))] [(1, .int .i64 q), (2, .pointer (some ⟨w.heap.size, 0, none⟩)), (5, .int .i64 (lenO o))] w_8 [Value.int .i64 (IntKind.i64.wrap ((lenO o) - 1)) = Value.int .i64 ((lenO o) - 1), Value.int .u64 (IntKind.u64.wrap ((lenO o) - 1)) = Value.int .u64 ((lenO o) - 1), RunsAs Tryd.prog [(38, .int .u64 (IntKind.u64.wrap (n))), (41, .int .u64 ((lenO o) - 1))] (Go.Op.binOp Go.BinOp.rem 41 (Go.Operand.tmp 38) (Go.Operand.tmp 41) 41) 41 (.int .u64 p) w_8, Value.int .i64 (IntKind.i64.wrap (p)) = Value.int .i64 p, Value.int .i64 (IntKind.i64.wrap (1 + p)) = Value.int .i64 q] (by kernel_rfl) ⟨wr_i64 (by omega) (by omega), wr_u64 (by omega) (by omega), runs_bin rfl rfl rfl (by have h_ := run_rem (t := 41) (k := .u64) (a := (IntKind.u64.wrap (n))) (b := ((lenO o) - 1)) (by omega) w_8; rwa [hpe] at h_), wr_i64 (by omega) (by omega), by rw [hq]; exact wr_i64 (by omega) (by omega), trivial⟩ ?_
      refine XL_nil ?_
      refine X_seq ?_
      refine X_region ?_
      refine XL_run 2 [(46, .load (.agg #[.int .i64 o.kind, .string o.text, .int .i64 o.vk, .int .i64 o.vn, .string o.vt, .int .i64 o.count, .slice A o.attrs.length c]))] [(1, .int .i64 q), (2, .pointer (some ⟨w.heap.size, 0, none⟩)), (5, .int .i64 (lenO o)), (46, .agg #[.int .i64 o.kind, .string o.text, .int .i64 o.vk, .int .i64 o.vn, .string o.vt, .int .i64 o.count, .slice A o.attrs.length c]), (47, .int .i64 q)] w_8 [LoadsAs Tryd.prog 33 (⟨w.heap.size, 0, none⟩) (.agg #[.int .i64 o.kind, .string o.text, .int .i64 o.vk, .int .i64 o.vn, .string o.vt, .int .i64 o.count, .slice A o.attrs.length c]) w_8] (by kernel_rfl) ⟨loadsB rfl rfl (Blk.below hk_3 (bt hb_7 hb_9)) 0 ⟨by kernel_rfl, by kernel_rfl⟩, trivial⟩ ?_
      refine XL_call 58 rfl rfl rfl ent58 [.agg #[.int .i64 o.kind, .string o.text, .int .i64 o.vk, .int .i64 o.vn, .string o.vt, .int .i64 o.count, .slice A o.attrs.length c], .int .i64 q] (by kernel_rfl) (ccut_any o _ _ q _ (Kd.C_below hA (bt (bt hb_2 hb_7) hb_9)) hz (by omega) (by omega) (hT.below (bt (bt hb_2 hb_7) hb_9)) es (hE.below (bt (bt hb_2 hb_7) hb_9))) ?_
      rintro e w_19 ⟨A_12, c_13, A_14, c_15, rfl, hr_16, hr_17, hne_18, hb_20⟩; refine ⟨_, rfl, ?_⟩
      have hcf := cut_fine c_10 hkd (n := q) (by omega) (by omega)
      have hco := cut_of (refuse_utf c_10).1 (q := q) (by omega) (by omega)
      have hsa : opSz (mkT (U.cutP o.text q).1 o.attrs) := opSz_mkT hz (by have h_ := hco.la; omega)
      have hsb : opSz (mkT (U.cutP o.text q).2.1 o.attrs) := opSz_mkT hz (by have h_ := hco.lb; omega)
      have hcc := cut_cells c_10 hkd (n := q) (by omega) (by omega)
      rw [show cutO o q = ((mkT (U.cutP o.text q).1 o.attrs), (mkT (U.cutP o.text q).2.1 o.attrs), 0) from hcf.1] at hr_16 hr_17 ⊢
      refine XL_run 5 [] [(1, .int .i64 q), (2, .pointer (some ⟨w.heap.size, 0, none⟩)), (5, .int .i64 (lenO o)), (7, .pointer (some ⟨w_19.heap.size, 0, none⟩)), (49, .agg #[.int .i64 ((mkT (U.cutP o.text q).1 o.attrs).kind), .string ((mkT (U.cutP o.text q).1 o.attrs).text), .int .i64 ((mkT (U.cutP o.text q).1 o.attrs).vk), .int .i64 ((mkT (U.cutP o.text q).1 o.attrs).vn), .string ((mkT (U.cutP o.text q).1 o.attrs).vt), .int .i64 ((mkT (U.cutP o.text q).1 o.attrs).count), .slice A_12 ((mkT (U.cutP o.text q).1 o.attrs).attrs.length) c_13]), (50, .agg #[.int .i64 ((mkT (U.cutP o.text q).2.1 o.attrs).kind), .string ((mkT (U.cutP o.text q).2.1 o.attrs).text), .int .i64 ((mkT (U.cutP o.text q).2.1 o.attrs).vk), .int .i64 ((mkT (U.cutP o.text q).2.1 o.attrs).vn), .string ((mkT (U.cutP o.text q).2.1 o.attrs).vt), .int .i64 ((mkT (U.cutP o.text q).2.1 o.attrs).count), .slice A_14 ((mkT (U.cutP o.text q).2.1 o.attrs).attrs.length) c_15]), (51, .nilIface)] (w_19.alloc (.cells #[.int .i64 0, .string ByteArray.empty, .int .i64 0, .int .i64 0, .string ByteArray.empty, .int .i64 0, .slice none 0 0] 33)) [] (by kernel_rfl) trivial ?_
      obtain ⟨w_21, hw_25, hb_22, hk_23, hz_24⟩ := new_world w_19 #[.int .i64 0, .string ByteArray.empty, .int .i64 0, .int .i64 0, .string ByteArray.empty, .int .i64 0, .slice none 0 0] 33
      rw [hw_25]
      refine XL_run 1 [] [(1, .int .i64 q), (2, .pointer (some ⟨w.heap.size, 0, none⟩)), (5, .int .i64 (lenO o)), (7, .pointer (some ⟨w_19.heap.size, 0, none⟩)), (8, .pointer (some ⟨w_21.heap.size, 0, none⟩)), (49, .agg #[.int .i64 ((mkT (U.cutP o.text q).1 o.attrs).kind), .string ((mkT (U.cutP o.text q).1 o.attrs).text), .int .i64 ((mkT (U.cutP o.text q).1 o.attrs).vk), .int .i64 ((mkT (U.cutP o.text q).1 o.attrs).vn), .string ((mkT (U.cutP o.text q).1 o.attrs).vt), .int .i64 ((mkT (U.cutP o.text q).1 o.attrs).count), .slice A_12 ((mkT (U.cutP o.text q).1 o.attrs).attrs.length) c_13]), (50, .agg #[.int .i64 ((mkT (U.cutP o.text q).2.1 o.attrs).kind), .string ((mkT (U.cutP o.text q).2.1 o.attrs).text), .int .i64 ((mkT (U.cutP o.text q).2.1 o.attrs).vk), .int .i64 ((mkT (U.cutP o.text q).2.1 o.attrs).vn), .string ((mkT (U.cutP o.text q).2.1 o.attrs).vt), .int .i64 ((mkT (U.cutP o.text q).2.1 o.attrs).count), .slice A_14 ((mkT (U.cutP o.text q).2.1 o.attrs).attrs.length) c_15]), (51, .nilIface)] (w_21.alloc (.cells #[.int .i64 0, .string ByteArray.empty, .int .i64 0, .int .i64 0, .string ByteArray.empty, .int .i64 0, .slice none 0 0] 33)) [] (by kernel_rfl) trivial ?_
      obtain ⟨w_26, hw_30, hb_27, hk_28, hz_29⟩ := new_world w_21 #[.int .i64 0, .string ByteArray.empty, .int .i64 0, .int .i64 0, .string ByteArray.empty, .int .i64 0, .slice none 0 0] 33
      rw [hw_30]
      refine XL_store (v := .agg #[.int .i64 ((mkT (U.cutP o.text q).1 o.attrs).kind), .string ((mkT (U.cutP o.text q).1 o.attrs).text), .int .i64 ((mkT (U.cutP o.text q).1 o.attrs).vk), .int .i64 ((mkT (U.cutP o.text q).1 o.attrs).vn), .string ((mkT (U.cutP o.text q).1 o.attrs).vt), .int .i64 ((mkT (U.cutP o.text q).1 o.attrs).count), .slice A_12 ((mkT (U.cutP o.text q).1 o.attrs).attrs.length) c_13]) rfl rfl rfl (by kernel_rfl) (Blk.below hk_23 hb_27) 0 [.int .i64 ((mkT (U.cutP o.text q).1 o.attrs).kind), .string ((mkT (U.cutP o.text q).1 o.attrs).text), .int .i64 ((mkT (U.cutP o.text q).1 o.attrs).vk), .int .i64 ((mkT (U.cutP o.text q).1 o.attrs).vn), .string ((mkT (U.cutP o.text q).1 o.attrs).vt), .int .i64 ((mkT (U.cutP o.text q).1 o.attrs).count), .slice A_12 ((mkT (U.cutP o.text q).1 o.attrs).attrs.length) c_13] #[.int .i64 ((mkT (U.cutP o.text q).1 o.attrs).kind), .string ((mkT (U.cutP o.text q).1 o.attrs).text), .int .i64 ((mkT (U.cutP o.text q).1 o.attrs).vk), .int .i64 ((mkT (U.cutP o.text q).1 o.attrs).vn), .string ((mkT (U.cutP o.text q).1 o.attrs).vt), .int .i64 ((mkT (U.cutP o.text q).1 o.attrs).count), .slice A_12 ((mkT (U.cutP o.text q).1 o.attrs).attrs.length) c_13] ⟨by kernel_rfl, rfl, by kernel_rfl⟩ ⟨by kernel_rfl, by kernel_rfl⟩ (Nat.le_of_ble_eq_true (by kernel_rfl)) (fun w_31 hg_32 hk_33 hz_34 => ?_)
      have hne_35 : w_21.heap.size ≠ w_19.heap.size := Nat.ne_of_gt (Nat.lt_of_lt_of_le (Blk.lt hk_23) (Nat.le_refl _))
      have hk_36 := Blk.other hk_28 hg_32 hne_35
      refine XL_store (v := .agg #[.int .i64 ((mkT (U.cutP o.text q).2.1 o.attrs).kind), .string ((mkT (U.cutP o.text q).2.1 o.attrs).text), .int .i64 ((mkT (U.cutP o.text q).2.1 o.attrs).vk), .int .i64 ((mkT (U.cutP o.text q).2.1 o.attrs).vn), .string ((mkT (U.cutP o.text q).2.1 o.attrs).vt), .int .i64 ((mkT (U.cutP o.text q).2.1 o.attrs).count), .slice A_14 ((mkT (U.cutP o.text q).2.1 o.attrs).attrs.length) c_15]) rfl rfl rfl (by kernel_rfl) hk_36 0 [.int .i64 ((mkT (U.cutP o.text q).2.1 o.attrs).kind), .string ((mkT (U.cutP o.text q).2.1 o.attrs).text), .int .i64 ((mkT (U.cutP o.text q).2.1 o.attrs).vk), .int .i64 ((mkT (U.cutP o.text q).2.1 o.attrs).vn), .string ((mkT (U.cutP o.text q).2.1 o.attrs).vt), .int .i64 ((mkT (U.cutP o.text q).2.1 o.attrs).count), .slice A_14 ((mkT (U.cutP o.text q).2.1 o.attrs).attrs.length) c_15] #[.int .i64 ((mkT (U.cutP o.text q).2.1 o.attrs).kind), .string ((mkT (U.cutP o.text q).2.1 o.attrs).text), .int .i64 ((mkT (U.cutP o.text q).2.1 o.attrs).vk), .int .i64 ((mkT (U.cutP o.text q).2.1 o.attrs).vn), .string ((mkT (U.cutP o.text q).2.1 o.attrs).vt), .int .i64 ((mkT (U.cutP o.text q).2.1 o.attrs).count), .slice A_14 ((mkT (U.cutP o.text q).2.1 o.attrs).attrs.length) c_15] ⟨by kernel_rfl, rfl, by kernel_rfl⟩ ⟨by kernel_rfl, by kernel_rfl⟩ (Nat.le_of_ble_eq_true (by kernel_rfl)) (fun w_37 hg_38 hk_39 hz_40 => ?_)
      have hne_41 : w_19.heap.size ≠ w_21.heap.size := Nat.ne_of_lt (Nat.lt_of_lt_of_le (Blk.lt hk_23) (Nat.le_refl _))
      have hk_42 := Blk.other hk_33 hg_38 hne_41
      refine XL_run 1 [] [(1, .int .i64 q), (2, .pointer (some ⟨w.heap.size, 0, none⟩)), (5, .int .i64 (lenO o)), (6, .nilIface), (7, .pointer (some ⟨w_19.heap.size, 0, none⟩)), (8, .pointer (some ⟨w_21.heap.size, 0, none⟩))] w_37 [] (by kernel_rfl) trivial ?_
      refine XL_nil ?_
      refine X_seq ?_
      refine X_region ?_
      refine XL_run 1 [(53, .load (.agg #[.int .i64 ((mkT (U.cutP o.text q).1 o.attrs).kind), .string ((mkT (U.cutP o.text q).1 o.attrs).text), .int .i64 ((mkT (U.cutP o.text q).1 o.attrs).vk), .int .i64 ((mkT (U.cutP o.text q).1 o.attrs).vn), .string ((mkT (U.cutP o.text q).1 o.attrs).vt), .int .i64 ((mkT (U.cutP o.text q).1 o.attrs).count), .slice A_12 ((mkT (U.cutP o.text q).1 o.attrs).attrs.length) c_13]))] [(1, .int .i64 q), (2, .pointer (some ⟨w.heap.size, 0, none⟩)), (5, .int .i64 (lenO o)), (6, .nilIface), (7, .pointer (some ⟨w_19.heap.size, 0, none⟩)), (8, .pointer (some ⟨w_21.heap.size, 0, none⟩)), (53, .agg #[.int .i64 ((mkT (U.cutP o.text q).1 o.attrs).kind), .string ((mkT (U.cutP o.text q).1 o.attrs).text), .int .i64 ((mkT (U.cutP o.text q).1 o.attrs).vk), .int .i64 ((mkT (U.cutP o.text q).1 o.attrs).vn), .string ((mkT (U.cutP o.text q).1 o.attrs).vt), .int .i64 ((mkT (U.cutP o.text q).1 o.attrs).count), .slice A_12 ((mkT (U.cutP o.text q).1 o.attrs).attrs.length) c_13])] w_37 [LoadsAs Tryd.prog 33 (⟨w_19.heap.size, 0, none⟩) (.agg #[.int .i64 ((mkT (U.cutP o.text q).1 o.attrs).kind), .string ((mkT (U.cutP o.text q).1 o.attrs).text), .int .i64 ((mkT (U.cutP o.text q).1 o.attrs).vk), .int .i64 ((mkT (U.cutP o.text q).1 o.attrs).vn), .string ((mkT (U.cutP o.text q).1 o.attrs).vt), .int .i64 ((mkT (U.cutP o.text q).1 o.attrs).count), .slice A_12 ((mkT (U.cutP o.text q).1 o.attrs).attrs.length) c_13]) w_37] (by kernel_rfl) ⟨loadsB rfl rfl hk_42 0 ⟨by kernel_rfl, by kernel_rfl⟩, trivial⟩ ?_
      have hB_43 : Below w_19.heap.size w_19 w_37 := (bg (bg (bt hb_22 hb_27) hg_32 (Nat.le_refl _)) hg_38 (hb_22).size)
      have hB_44 : Below w.heap.size w w_21 := (bt (bt (bt (bt hb_2 hb_7) hb_9) hb_20) hb_22)
      have hB_45 : Below w.heap.size w w_37 := (bg (bg (bt (bt (bt (bt (bt hb_2 hb_7) hb_9) hb_20) hb_22) hb_27) hg_32 ((bt (bt (bt hb_2 hb_7) hb_9) hb_20)).size) hg_38 (hB_44).size)
      refine XL_call 48 rfl rfl rfl ent48 [.agg #[.int .i64 ((mkT (U.cutP o.text q).1 o.attrs).kind), .string ((mkT (U.cutP o.text q).1 o.attrs).text), .int .i64 ((mkT (U.cutP o.text q).1 o.attrs).vk), .int .i64 ((mkT (U.cutP o.text q).1 o.attrs).vn), .string ((mkT (U.cutP o.text q).1 o.attrs).vt), .int .i64 ((mkT (U.cutP o.text q).1 o.attrs).count), .slice A_12 ((mkT (U.cutP o.text q).1 o.attrs).attrs.length) c_13]] (by kernel_rfl) (clen_any (mkT (U.cutP o.text q).1 o.attrs) _ _ _ (Kd.R_C (Kd.R_below hr_16 hB_43)) hsa (hT.below hB_45) es (hE.below hB_45)) ?_
      rintro e w_46 ⟨rfl, hb_47⟩; refine ⟨_, rfl, ?_⟩
      rw [show lenO (mkT (U.cutP o.text q).1 o.attrs) = q from by rw [lenO_ok hcf.2.1]; exact hcf.2.2.2.1, hcf.2.1]
      refine XL_run 5 [] [(1, .int .i64 q), (2, .pointer (some ⟨w.heap.size, 0, none⟩)), (5, .int .i64 (lenO o)), (6, .nilIface), (7, .pointer (some ⟨w_19.heap.size, 0, none⟩)), (8, .pointer (some ⟨w_21.heap.size, 0, none⟩)), (9, .int .i64 q), (10, .nilIface)] w_46 [] (by kernel_rfl) trivial ?_
      refine XL_nil ?_
      refine X_seq ?_
      refine X_region ?_
      refine XL_run 1 [(58, .load (.agg #[.int .i64 ((mkT (U.cutP o.text q).2.1 o.attrs).kind), .string ((mkT (U.cutP o.text q).2.1 o.attrs).text), .int .i64 ((mkT (U.cutP o.text q).2.1 o.attrs).vk), .int .i64 ((mkT (U.cutP o.text q).2.1 o.attrs).vn), .string ((mkT (U.cutP o.text q).2.1 o.attrs).vt), .int .i64 ((mkT (U.cutP o.text q).2.1 o.attrs).count), .slice A_14 ((mkT (U.cutP o.text q).2.1 o.attrs).attrs.length) c_15]))] [(1, .int .i64 q), (2, .pointer (some ⟨w.heap.size, 0, none⟩)), (5, .int .i64 (lenO o)), (6, .nilIface), (7, .pointer (some ⟨w_19.heap.size, 0, none⟩)), (8, .pointer (some ⟨w_21.heap.size, 0, none⟩)), (9, .int .i64 q), (10, .nilIface), (58, .agg #[.int .i64 ((mkT (U.cutP o.text q).2.1 o.attrs).kind), .string ((mkT (U.cutP o.text q).2.1 o.attrs).text), .int .i64 ((mkT (U.cutP o.text q).2.1 o.attrs).vk), .int .i64 ((mkT (U.cutP o.text q).2.1 o.attrs).vn), .string ((mkT (U.cutP o.text q).2.1 o.attrs).vt), .int .i64 ((mkT (U.cutP o.text q).2.1 o.attrs).count), .slice A_14 ((mkT (U.cutP o.text q).2.1 o.attrs).attrs.length) c_15])] w_46 [LoadsAs Tryd.prog 33 (⟨w_21.heap.size, 0, none⟩) (.agg #[.int .i64 ((mkT (U.cutP o.text q).2.1 o.attrs).kind), .string ((mkT (U.cutP o.text q).2.1 o.attrs).text), .int .i64 ((mkT (U.cutP o.text q).2.1 o.attrs).vk), .int .i64 ((mkT (U.cutP o.text q).2.1 o.attrs).vn), .string ((mkT (U.cutP o.text q).2.1 o.attrs).vt), .int .i64 ((mkT (U.cutP o.text q).2.1 o.attrs).count), .slice A_14 ((mkT (U.cutP o.text q).2.1 o.attrs).attrs.length) c_15]) w_46] (by kernel_rfl) ⟨loadsB rfl rfl (Blk.below hk_39 hb_47) 0 ⟨by kernel_rfl, by kernel_rfl⟩, trivial⟩ ?_
      refine XL_call 48 rfl rfl rfl ent48 [.agg #[.int .i64 ((mkT (U.cutP o.text q).2.1 o.attrs).kind), .string ((mkT (U.cutP o.text q).2.1 o.attrs).text), .int .i64 ((mkT (U.cutP o.text q).2.1 o.attrs).vk), .int .i64 ((mkT (U.cutP o.text q).2.1 o.attrs).vn), .string ((mkT (U.cutP o.text q).2.1 o.attrs).vt), .int .i64 ((mkT (U.cutP o.text q).2.1 o.attrs).count), .slice A_14 ((mkT (U.cutP o.text q).2.1 o.attrs).attrs.length) c_15]] (by kernel_rfl) (clen_any (mkT (U.cutP o.text q).2.1 o.attrs) _ _ _ (Kd.R_C (Kd.R_below hr_17 (bt hB_43 hb_47))) hsb (hT.below (bt hB_45 hb_47)) es (hE.below (bt hB_45 hb_47))) ?_
      rintro e w_48 ⟨rfl, hb_49⟩; refine ⟨_, rfl, ?_⟩
      rw [show lenO (mkT (U.cutP o.text q).2.1 o.attrs) = (lenO o) - q from by rw [lenO_ok hcf.2.2.1, hlk]; exact hcf.2.2.2.2.1, hcf.2.2.1]
      refine XL_run 5 [] [(1, .int .i64 q), (2, .pointer (some ⟨w.heap.size, 0, none⟩)), (5, .int .i64 (lenO o)), (6, .nilIface), (7, .pointer (some ⟨w_19.heap.size, 0, none⟩)), (8, .pointer (some ⟨w_21.heap.size, 0, none⟩)), (9, .int .i64 q), (10, .nilIface), (11, .int .i64 ((lenO o) - q)), (12, .nilIface)] w_48 [] (by kernel_rfl) trivial ?_
      refine XL_nil ?_
      refine X_seq ?_
      refine X_seq ?_
      refine X_region ?_
      refine XL_run 22 [(75, .eq (.bool false)), (81, .eq (.int .i64 ((lenO o) - q))), (82, .eq (.bool false))] [(1, .int .i64 q), (2, .pointer (some ⟨w.heap.size, 0, none⟩)), (7, .pointer (some ⟨w_19.heap.size, 0, none⟩)), (8, .pointer (some ⟨w_21.heap.size, 0, none⟩)), (83, .bool false)] w_48 [Value.bool (q != q) = Value.bool false, Value.int .i64 (IntKind.i64.wrap ((lenO o) - q)) = Value.int .i64 ((lenO o) - q), Value.bool ((lenO o) - q != (lenO o) - q) = Value.bool false] (by kernel_rfl) ⟨congrArg Value.bool (bneF rfl), wr_i64 (by omega) (by omega), congrArg Value.bool (bneF rfl), trivial⟩ ?_
      refine XL_nil ?_
      refine X_cond false rfl ?_
      refine X_skip ?_
      refine X_seq ?_
      refine X_region ?_
      refine XL_run 2 [(85, .load (.agg #[.int .i64 ((mkT (U.cutP o.text q).1 o.attrs).kind), .string ((mkT (U.cutP o.text q).1 o.attrs).text), .int .i64 ((mkT (U.cutP o.text q).1 o.attrs).vk), .int .i64 ((mkT (U.cutP o.text q).1 o.attrs).vn), .string ((mkT (U.cutP o.text q).1 o.attrs).vt), .int .i64 ((mkT (U.cutP o.text q).1 o.attrs).count), .slice A_12 ((mkT (U.cutP o.text q).1 o.attrs).attrs.length) c_13])), (86, .load (.agg #[.int .i64 ((mkT (U.cutP o.text q).2.1 o.attrs).kind), .string ((mkT (U.cutP o.text q).2.1 o.attrs).text), .int .i64 ((mkT (U.cutP o.text q).2.1 o.attrs).vk), .int .i64 ((mkT (U.cutP o.text q).2.1 o.attrs).vn), .string ((mkT (U.cutP o.text q).2.1 o.attrs).vt), .int .i64 ((mkT (U.cutP o.text q).2.1 o.attrs).count), .slice A_14 ((mkT (U.cutP o.text q).2.1 o.attrs).attrs.length) c_15]))] [(1, .int .i64 q), (2, .pointer (some ⟨w.heap.size, 0, none⟩)), (7, .pointer (some ⟨w_19.heap.size, 0, none⟩)), (8, .pointer (some ⟨w_21.heap.size, 0, none⟩)), (85, .agg #[.int .i64 ((mkT (U.cutP o.text q).1 o.attrs).kind), .string ((mkT (U.cutP o.text q).1 o.attrs).text), .int .i64 ((mkT (U.cutP o.text q).1 o.attrs).vk), .int .i64 ((mkT (U.cutP o.text q).1 o.attrs).vn), .string ((mkT (U.cutP o.text q).1 o.attrs).vt), .int .i64 ((mkT (U.cutP o.text q).1 o.attrs).count), .slice A_12 ((mkT (U.cutP o.text q).1 o.attrs).attrs.length) c_13]), (86, .agg #[.int .i64 ((mkT (U.cutP o.text q).2.1 o.attrs).kind), .string ((mkT (U.cutP o.text q).2.1 o.attrs).text), .int .i64 ((mkT (U.cutP o.text q).2.1 o.attrs).vk), .int .i64 ((mkT (U.cutP o.text q).2.1 o.attrs).vn), .string ((mkT (U.cutP o.text q).2.1 o.attrs).vt), .int .i64 ((mkT (U.cutP o.text q).2.1 o.attrs).count), .slice A_14 ((mkT (U.cutP o.text q).2.1 o.attrs).attrs.length) c_15])] w_48 [LoadsAs Tryd.prog 33 (⟨w_19.heap.size, 0, none⟩) (.agg #[.int .i64 ((mkT (U.cutP o.text q).1 o.attrs).kind), .string ((mkT (U.cutP o.text q).1 o.attrs).text), .int .i64 ((mkT (U.cutP o.text q).1 o.attrs).vk), .int .i64 ((mkT (U.cutP o.text q).1 o.attrs).vn), .string ((mkT (U.cutP o.text q).1 o.attrs).vt), .int .i64 ((mkT (U.cutP o.text q).1 o.attrs).count), .slice A_12 ((mkT (U.cutP o.text q).1 o.attrs).attrs.length) c_13]) w_48, LoadsAs Tryd.prog 33 (⟨w_21.heap.size, 0, none⟩) (.agg #[.int .i64 ((mkT (U.cutP o.text q).2.1 o.attrs).kind), .string ((mkT (U.cutP o.text q).2.1 o.attrs).text), .int .i64 ((mkT (U.cutP o.text q).2.1 o.attrs).vk), .int .i64 ((mkT (U.cutP o.text q).2.1 o.attrs).vn), .string ((mkT (U.cutP o.text q).2.1 o.attrs).vt), .int .i64 ((mkT (U.cutP o.text q).2.1 o.attrs).count), .slice A_14 ((mkT (U.cutP o.text q).2.1 o.attrs).attrs.length) c_15]) w_48] (by kernel_rfl) ⟨loadsB rfl rfl (Blk.below hk_42 (bt hb_47 hb_49)) 0 ⟨by kernel_rfl, by kernel_rfl⟩, loadsB rfl rfl (Blk.below hk_39 (bt hb_47 hb_49)) 0 ⟨by kernel_rfl, by kernel_rfl⟩, trivial⟩ ?_
      refine XL_call 61 rfl rfl rfl ent61 [.agg #[.int .i64 ((mkT (U.cutP o.text q).1 o.attrs).kind), .string ((mkT (U.cutP o.text q).1 o.attrs).text), .int .i64 ((mkT (U.cutP o.text q).1 o.attrs).vk), .int .i64 ((mkT (U.cutP o.text q).1 o.attrs).vn), .string ((mkT (U.cutP o.text q).1 o.attrs).vt), .int .i64 ((mkT (U.cutP o.text q).1 o.attrs).count), .slice A_12 ((mkT (U.cutP o.text q).1 o.attrs).attrs.length) c_13], .agg #[.int .i64 ((mkT (U.cutP o.text q).2.1 o.attrs).kind), .string ((mkT (U.cutP o.text q).2.1 o.attrs).text), .int .i64 ((mkT (U.cutP o.text q).2.1 o.attrs).vk), .int .i64 ((mkT (U.cutP o.text q).2.1 o.attrs).vn), .string ((mkT (U.cutP o.text q).2.1 o.attrs).vt), .int .i64 ((mkT (U.cutP o.text q).2.1 o.attrs).count), .slice A_14 ((mkT (U.cutP o.text q).2.1 o.attrs).attrs.length) c_15]] (by kernel_rfl) (cjoin_any (mkT (U.cutP o.text q).1 o.attrs) (mkT (U.cutP o.text q).2.1 o.attrs) _ _ _ _ _ (Kd.R_C (Kd.R_below hr_16 (bt (bt hB_43 hb_47) hb_49))) (Kd.R_C (Kd.R_below hr_17 (bt (bt hB_43 hb_47) hb_49))) hsa hsb (hT.below (bt (bt hB_45 hb_47) hb_49)) es (hE.below (bt (bt hB_45 hb_47) hb_49))) ?_
      rintro e w_53 ⟨A_50, c_51, rfl, hr_52, hb_54⟩; refine ⟨_, rfl, ?_⟩
      rw [show joinO (mkT (U.cutP o.text q).1 o.attrs) (mkT (U.cutP o.text q).2.1 o.attrs) = (o, true, 0) from cut_join c_10 hkd (by omega) (by omega)] at hr_52 ⊢
      refine XL_run 5 [] [(1, .int .i64 q), (2, .pointer (some ⟨w.heap.size, 0, none⟩)), (7, .pointer (some ⟨w_19.heap.size, 0, none⟩)), (8, .pointer (some ⟨w_21.heap.size, 0, none⟩)), (13, .pointer (some ⟨w_53.heap.size, 0, none⟩)), (88, .agg #[.int .i64 o.kind, .string o.text, .int .i64 o.vk, .int .i64 o.vn, .string o.vt, .int .i64 o.count, .slice A_50 o.attrs.length c_51]), (89, .bool true), (90, .nilIface)] (w_53.alloc (.cells #[.int .i64 0, .string ByteArray.empty, .int .i64 0, .int .i64 0, .string ByteArray.empty, .int .i64 0, .slice none 0 0] 33)) [] (by kernel_rfl) trivial ?_
      obtain ⟨w_55, hw_59, hb_56, hk_57, hz_58⟩ := new_world w_53 #[.int .i64 0, .string ByteArray.empty, .int .i64 0, .int .i64 0, .string ByteArray.empty, .int .i64 0, .slice none 0 0] 33
      rw [hw_59]
      refine XL_store (v := .agg #[.int .i64 o.kind, .string o.text, .int .i64 o.vk, .int .i64 o.vn, .string o.vt, .int .i64 o.count, .slice A_50 o.attrs.length c_51]) rfl rfl rfl (by kernel_rfl) hk_57 0 [.int .i64 o.kind, .string o.text, .int .i64 o.vk, .int .i64 o.vn, .string o.vt, .int .i64 o.count, .slice A_50 o.attrs.length c_51] #[.int .i64 o.kind, .string o.text, .int .i64 o.vk, .int .i64 o.vn, .string o.vt, .int .i64 o.count, .slice A_50 o.attrs.length c_51] ⟨by kernel_rfl, rfl, by kernel_rfl⟩ ⟨by kernel_rfl, by kernel_rfl⟩ (Nat.le_of_ble_eq_true (by kernel_rfl)) (fun w_60 hg_61 hk_62 hz_63 => ?_)
      have hB_64 : Below w_1.heap.size w_1 w_53 := (bt (bt (bt (bg (bg (bt (bt (bt (bt hb_7 hb_9) hb_20) hb_22) hb_27) hg_32 ((bt (bt hb_7 hb_9) hb_20)).size) hg_38 ((bt (bt (bt hb_7 hb_9) hb_20) hb_22)).size) hb_47) hb_49) hb_54)
      refine XL_run 2 [] [(1, .int .i64 q), (2, .pointer (some ⟨w.heap.size, 0, none⟩)), (6, .nilIface), (7, .pointer (some ⟨w_19.heap.size, 0, none⟩)), (8, .pointer (some ⟨w_21.heap.size, 0, none⟩)), (13, .pointer (some ⟨w_53.heap.size, 0, none⟩)), (14, .bool true)] w_60 [] (by kernel_rfl) trivial ?_
      refine XL_nil ?_
      refine X_seq ?_
      refine X_seq ?_
      refine X_region ?_
      refine XL_run 9 [(98, .load (.agg #[.int .i64 o.kind, .string o.text, .int .i64 o.vk, .int .i64 o.vn, .string o.vt, .int .i64 o.count, .slice A_50 o.attrs.length c_51])), (99, .load (.agg #[.int .i64 o.kind, .string o.text, .int .i64 o.vk, .int .i64 o.vn, .string o.vt, .int .i64 o.count, .slice A o.attrs.length c]))] [(1, .int .i64 q), (2, .pointer (some ⟨w.heap.size, 0, none⟩)), (7, .pointer (some ⟨w_19.heap.size, 0, none⟩)), (8, .pointer (some ⟨w_21.heap.size, 0, none⟩)), (97, .bool false), (98, .agg #[.int .i64 o.kind, .string o.text, .int .i64 o.vk, .int .i64 o.vn, .string o.vt, .int .i64 o.count, .slice A_50 o.attrs.length c_51]), (99, .agg #[.int .i64 o.kind, .string o.text, .int .i64 o.vk, .int .i64 o.vn, .string o.vt, .int .i64 o.count, .slice A o.attrs.length c])] w_60 [LoadsAs Tryd.prog 33 (⟨w_53.heap.size, 0, none⟩) (.agg #[.int .i64 o.kind, .string o.text, .int .i64 o.vk, .int .i64 o.vn, .string o.vt, .int .i64 o.count, .slice A_50 o.attrs.length c_51]) w_60, LoadsAs Tryd.prog 33 (⟨w.heap.size, 0, none⟩) (.agg #[.int .i64 o.kind, .string o.text, .int .i64 o.vk, .int .i64 o.vn, .string o.vt, .int .i64 o.count, .slice A o.attrs.length c]) w_60] (by kernel_rfl) ⟨loadsB rfl rfl hk_62 0 ⟨by kernel_rfl, by kernel_rfl⟩, loadsB rfl rfl (Blk.below hk_3 (bg (bt hB_64 hb_56) hg_61 (hB_64).size)) 0 ⟨by kernel_rfl, by kernel_rfl⟩, trivial⟩ ?_
      have hB_65 : Below w.heap.size w w_60 := (bg (bt (bt (bt (bt hB_45 hb_47) hb_49) hb_54) hb_56) hg_61 ((bt (bt (bt hB_45 hb_47) hb_49) hb_54)).size)
      refine XL_call 63 rfl rfl rfl ent63 [.agg #[.int .i64 o.kind, .string o.text, .int .i64 o.vk, .int .i64 o.vn, .string o.vt, .int .i64 o.count, .slice A_50 o.attrs.length c_51], .agg #[.int .i64 o.kind, .string o.text, .int .i64 o.vk, .int .i64 o.vn, .string o.vt, .int .i64 o.count, .slice A o.attrs.length c]] (by kernel_rfl) (csame_any o o _ _ _ _ _ (Kd.R_C (Kd.R_below hr_52 (bg hb_56 hg_61 (Nat.le_refl _)))) (Kd.C_below hA hB_65)) ?_
      rintro e w_66 ⟨rfl, hb_67⟩; refine ⟨_, rfl, ?_⟩
      rw [(opEqP_iff o o).2 rfl]
      refine XL_run 2 [] [(1, .int .i64 q), (2, .pointer (some ⟨w.heap.size, 0, none⟩)), (7, .pointer (some ⟨w_19.heap.size, 0, none⟩)), (8, .pointer (some ⟨w_21.heap.size, 0, none⟩)), (102, .bool false)] w_66 [] (by kernel_rfl) trivial ?_
      refine XL_nil ?_
      refine X_cond false rfl ?_
      refine X_skip ?_
      refine X_seq ?_
      refine X_region ?_
      have hB_68 : Below w_1.heap.size w_1 w_66 := (bt (bg (bt hB_64 hb_56) hg_61 (hB_64).size) hb_67)
      refine XL_run 1 [(104, .load (.agg #[.int .i64 o.kind, .string o.text, .int .i64 o.vk, .int .i64 o.vn, .string o.vt, .int .i64 o.count, .slice A o.attrs.length c]))] [(1, .int .i64 q), (7, .pointer (some ⟨w_19.heap.size, 0, none⟩)), (8, .pointer (some ⟨w_21.heap.size, 0, none⟩)), (104, .agg #[.int .i64 o.kind, .string o.text, .int .i64 o.vk, .int .i64 o.vn, .string o.vt, .int .i64 o.count, .slice A o.attrs.length c])] w_66 [LoadsAs Tryd.prog 33 (⟨w.heap.size, 0, none⟩) (.agg #[.int .i64 o.kind, .string o.text, .int .i64 o.vk, .int .i64 o.vn, .string o.vt, .int .i64 o.count, .slice A o.attrs.length c]) w_66] (by kernel_rfl) ⟨loadsB rfl rfl (Blk.below hk_3 hB_68) 0 ⟨by kernel_rfl, by kernel_rfl⟩, trivial⟩ ?_
      refine XL_call 49 rfl rfl rfl ent49 [.agg #[.int .i64 o.kind, .string o.text, .int .i64 o.vk, .int .i64 o.vn, .string o.vt, .int .i64 o.count, .slice A o.attrs.length c]] (by kernel_rfl) (ccells_any o _ _ _ (Kd.C_below hA (bt hB_65 hb_67)) hz (hT.below (bt hB_65 hb_67)) es (hE.below (bt hB_65 hb_67))) ?_
      rintro e w_72 ⟨A_69, c_70, rfl, hr_71, hb_73⟩; refine ⟨_, rfl, ?_⟩
      obtain ⟨l1, hl1⟩ : ∃ x_, (((U.sc o.text).take q.toNat).map (cellR o.attrs)) = x_ := ⟨_, rfl⟩; obtain ⟨l2, hl2⟩ : ∃ x_, (((U.sc o.text).drop q.toNat).map (cellR o.attrs)) = x_ := ⟨_, rfl⟩; rw [hl1, hl2] at hcc; have hn1_ : l1.length = q.toNat := by rw [← hl1, List.length_map, List.length_take]; omega
      have hn2_ : l2.length ≤ 50000000 := by rw [← hl2, List.length_map, List.length_drop]; omega
      rw [show cellsO o = l1 ++ l2 from hcc.2.2] at hr_71 ⊢; rw [c_10]
      refine XL_run 5 [] [(1, .int .i64 q), (6, .nilIface), (7, .pointer (some ⟨w_19.heap.size, 0, none⟩)), (8, .pointer (some ⟨w_21.heap.size, 0, none⟩)), (15, .slice A_69 ((l1 ++ l2).length) c_70)] w_72 [] (by kernel_rfl) trivial ?_
      refine XL_nil ?_
      refine X_seq ?_
      refine X_region ?_
      have hB_74 : Below w_37.heap.size w_37 w_72 := (bt (bt (bg (bt (bt (bt hb_47 hb_49) hb_54) hb_56) hg_61 ((bt (bt hb_47 hb_49) hb_54)).size) hb_67) hb_73)
      refine XL_run 1 [(109, .load (.agg #[.int .i64 ((mkT (U.cutP o.text q).1 o.attrs).kind), .string ((mkT (U.cutP o.text q).1 o.attrs).text), .int .i64 ((mkT (U.cutP o.text q).1 o.attrs).vk), .int .i64 ((mkT (U.cutP o.text q).1 o.attrs).vn), .string ((mkT (U.cutP o.text q).1 o.attrs).vt), .int .i64 ((mkT (U.cutP o.text q).1 o.attrs).count), .slice A_12 ((mkT (U.cutP o.text q).1 o.attrs).attrs.length) c_13]))] [(1, .int .i64 q), (6, .nilIface), (8, .pointer (some ⟨w_21.heap.size, 0, none⟩)), (15, .slice A_69 ((l1 ++ l2).length) c_70), (109, .agg #[.int .i64 ((mkT (U.cutP o.text q).1 o.attrs).kind), .string ((mkT (U.cutP o.text q).1 o.attrs).text), .int .i64 ((mkT (U.cutP o.text q).1 o.attrs).vk), .int .i64 ((mkT (U.cutP o.text q).1 o.attrs).vn), .string ((mkT (U.cutP o.text q).1 o.attrs).vt), .int .i64 ((mkT (U.cutP o.text q).1 o.attrs).count), .slice A_12 ((mkT (U.cutP o.text q).1 o.attrs).attrs.length) c_13])] w_72 [LoadsAs Tryd.prog 33 (⟨w_19.heap.size, 0, none⟩) (.agg #[.int .i64 ((mkT (U.cutP o.text q).1 o.attrs).kind), .string ((mkT (U.cutP o.text q).1 o.attrs).text), .int .i64 ((mkT (U.cutP o.text q).1 o.attrs).vk), .int .i64 ((mkT (U.cutP o.text q).1 o.attrs).vn), .string ((mkT (U.cutP o.text q).1 o.attrs).vt), .int .i64 ((mkT (U.cutP o.text q).1 o.attrs).count), .slice A_12 ((mkT (U.cutP o.text q).1 o.attrs).attrs.length) c_13]) w_72] (by kernel_rfl) ⟨loadsB rfl rfl (Blk.below hk_42 hB_74) 0 ⟨by kernel_rfl, by kernel_rfl⟩, trivial⟩ ?_
      have hB_80 : Below w_19.heap.size w_19 w_72 := (bt (bt (bg (bt (bt (bt (bt hB_43 hb_47) hb_49) hb_54) hb_56) hg_61 ((bt (bt (bt hB_43 hb_47) hb_49) hb_54)).size) hb_67) hb_73)
      refine XL_call 49 rfl rfl rfl ent49 [.agg #[.int .i64 ((mkT (U.cutP o.text q).1 o.attrs).kind), .string ((mkT (U.cutP o.text q).1 o.attrs).text), .int .i64 ((mkT (U.cutP o.text q).1 o.attrs).vk), .int .i64 ((mkT (U.cutP o.text q).1 o.attrs).vn), .string ((mkT (U.cutP o.text q).1 o.attrs).vt), .int .i64 ((mkT (U.cutP o.text q).1 o.attrs).count), .slice A_12 ((mkT (U.cutP o.text q).1 o.attrs).attrs.length) c_13]] (by kernel_rfl) (ccells_any (mkT (U.cutP o.text q).1 o.attrs) _ _ _ (Kd.R_C (Kd.R_below hr_16 hB_80)) hsa (hT.below (bt (bt hB_65 hb_67) hb_73)) es (hE.below (bt (bt hB_65 hb_67) hb_73))) ?_
      rintro e w_78 ⟨A_75, c_76, rfl, hr_77, hb_79⟩; refine ⟨_, rfl, ?_⟩
      rw [show cellsO (mkT (U.cutP o.text q).1 o.attrs) = l1 from hcc.1] at hr_77 ⊢; rw [hcf.2.1]
      refine XL_run 5 [] [(1, .int .i64 q), (6, .nilIface), (8, .pointer (some ⟨w_21.heap.size, 0, none⟩)), (10, .nilIface), (15, .slice A_69 ((l1 ++ l2).length) c_70), (16, .slice A_75 l1.length c_76)] w_78 [] (by kernel_rfl) trivial ?_
      refine XL_nil ?_
      refine X_seq ?_
      refine X_region ?_
      refine XL_run 1 [(114, .load (.agg #[.int .i64 ((mkT (U.cutP o.text q).2.1 o.attrs).kind), .string ((mkT (U.cutP o.text q).2.1 o.attrs).text), .int .i64 ((mkT (U.cutP o.text q).2.1 o.attrs).vk), .int .i64 ((mkT (U.cutP o.text q).2.1 o.attrs).vn), .string ((mkT (U.cutP o.text q).2.1 o.attrs).vt), .int .i64 ((mkT (U.cutP o.text q).2.1 o.attrs).count), .slice A_14 ((mkT (U.cutP o.text q).2.1 o.attrs).attrs.length) c_15]))] [(1, .int .i64 q), (6, .nilIface), (10, .nilIface), (15, .slice A_69 ((l1 ++ l2).length) c_70), (16, .slice A_75 l1.length c_76), (114, .agg #[.int .i64 ((mkT (U.cutP o.text q).2.1 o.attrs).kind), .string ((mkT (U.cutP o.text q).2.1 o.attrs).text), .int .i64 ((mkT (U.cutP o.text q).2.1 o.attrs).vk), .int .i64 ((mkT (U.cutP o.text q).2.1 o.attrs).vn), .string ((mkT (U.cutP o.text q).2.1 o.attrs).vt), .int .i64 ((mkT (U.cutP o.text q).2.1 o.attrs).count), .slice A_14 ((mkT (U.cutP o.text q).2.1 o.attrs).attrs.length) c_15])] w_78 [LoadsAs Tryd.prog 33 (⟨w_21.heap.size, 0, none⟩) (.agg #[.int .i64 ((mkT (U.cutP o.text q).2.1 o.attrs).kind), .string ((mkT (U.cutP o.text q).2.1 o.attrs).text), .int .i64 ((mkT (U.cutP o.text q).2.1 o.attrs).vk), .int .i64 ((mkT (U.cutP o.text q).2.1 o.attrs).vn), .string ((mkT (U.cutP o.text q).2.1 o.attrs).vt), .int .i64 ((mkT (U.cutP o.text q).2.1 o.attrs).count), .slice A_14 ((mkT (U.cutP o.text q).2.1 o.attrs).attrs.length) c_15]) w_78] (by kernel_rfl) ⟨loadsB rfl rfl (Blk.below hk_39 (bt hB_74 hb_79)) 0 ⟨by kernel_rfl, by kernel_rfl⟩, trivial⟩ ?_
      refine XL_call 49 rfl rfl rfl ent49 [.agg #[.int .i64 ((mkT (U.cutP o.text q).2.1 o.attrs).kind), .string ((mkT (U.cutP o.text q).2.1 o.attrs).text), .int .i64 ((mkT (U.cutP o.text q).2.1 o.attrs).vk), .int .i64 ((mkT (U.cutP o.text q).2.1 o.attrs).vn), .string ((mkT (U.cutP o.text q).2.1 o.attrs).vt), .int .i64 ((mkT (U.cutP o.text q).2.1 o.attrs).count), .slice A_14 ((mkT (U.cutP o.text q).2.1 o.attrs).attrs.length) c_15]] (by kernel_rfl) (ccells_any (mkT (U.cutP o.text q).2.1 o.attrs) _ _ _ (Kd.R_C (Kd.R_below hr_17 (bt hB_80 hb_79))) hsb (hT.below (bt (bt (bt hB_65 hb_67) hb_73) hb_79)) es (hE.below (bt (bt (bt hB_65 hb_67) hb_73) hb_79))) ?_
      rintro e w_84 ⟨A_81, c_82, rfl, hr_83, hb_85⟩; refine ⟨_, rfl, ?_⟩
      rw [show cellsO (mkT (U.cutP o.text q).2.1 o.attrs) = l2 from hcc.2.1] at hr_83 ⊢; rw [hcf.2.2.1]
      refine XL_run 5 [] [(1, .int .i64 q), (6, .nilIface), (10, .nilIface), (12, .nilIface), (15, .slice A_69 ((l1 ++ l2).length) c_70), (16, .slice A_75 l1.length c_76), (17, .slice A_81 l2.length c_82)] w_84 [] (by kernel_rfl) trivial ?_
      refine XL_nil ?_
      refine X_seq ?_
      refine X_region ?_
      refine XL_run 19 [(132, .eq (.bool true))] [(16, .slice A_75 l1.length c_76), (17, .slice A_81 l2.length c_82), (134, .bool true), (135, .slice A_69 ((l1 ++ l2).length) c_70), (136, .slice (some ⟨w_84.heap.size, 0, none⟩) 0 0)] (w_84.alloc (.cells #[] 98)) [Value.bool ((l1.length : Int) == q) = Value.bool true] (by kernel_rfl) ⟨congrArg Value.bool (beq_iff_eq.2 ((by omega))), trivial⟩ ?_
      obtain ⟨w_86, hw_90, hb_87, hk_88, hz_89⟩ := new_world w_84 #[] 98
      rw [hw_90]
      refine XL_run 1 [] [(17, .slice A_81 l2.length c_82), (134, .bool true), (135, .slice A_69 ((l1 ++ l2).length) c_70), (136, .slice (some ⟨w_84.heap.size, 0, none⟩) 0 0), (137, .slice A_75 l1.length c_76)] w_86 [] (by kernel_rfl) trivial ?_
      have hr_91 := Kd.R_litB kCell (W := w_84) (e := 98) (cs := #[]) [] hk_88 (repsCell0) (Nat.le_of_ble_eq_true (by kernel_rfl))
      obtain ⟨vs_92, hC_93, hK_94⟩ := Kd.C_raw (d := kCell) cell0 (Kd.R_C (Kd.R_below hr_77 hb_85))
      refine XL_appendMix (d := kCell) (W0 := w_84) (c' := c_76) (m := l1.length) cell0 rfl rfl rfl 98 (.agg #[.int .i32 0, .string ByteArray.empty, .int .i64 0, .int .i64 0, .string ByteArray.empty, .slice none 0 0]) 80 Tryd.underlying90 info98 rfl (by decide) (by omega) ([]) l1 vs_92 (by kernel_rfl) (Mix.of_R hr_91) (Kd.C_below hC_93 hb_87) rfl hK_94 (hb_87).size (by (try simp only [List.length_append, List.length_nil]); omega) ?_
      intro A_95 c_96 w_97 hm_98 hg_99 hl_100
      rw [List.nil_append] at hm_98 ⊢
      have hC_101 : kCell.C w_97 A_95 l1.length l1 := Mix.C (bgo hb_87 hg_99 hl_100 (Nat.le_refl _)) hm_98
      refine XL_run 1 [] [(134, .bool true), (135, .slice A_69 ((l1 ++ l2).length) c_70), (138, .slice A_95 l1.length c_96), (139, .slice A_81 l2.length c_82)] w_97 [] (by kernel_rfl) trivial ?_
      obtain ⟨vs_102, hC_103, hK_104⟩ := Kd.C_raw (d := kCell) cell0 (Kd.R_C hr_83)
      refine XL_appendMix (d := kCell) (W0 := w_84) (c' := c_82) (m := l2.length) cell0 rfl rfl rfl 98 (.agg #[.int .i32 0, .string ByteArray.empty, .int .i64 0, .int .i64 0, .string ByteArray.empty, .slice none 0 0]) 80 Tryd.underlying90 info98 rfl (by decide) (by omega) l1 l2 vs_102 (by kernel_rfl) hm_98 (Kd.C_below hC_103 (bgo hb_87 hg_99 hl_100 (Nat.le_refl _))) rfl hK_104 ((bgo hb_87 hg_99 hl_100 (Nat.le_refl _))).size (by (try simp only [List.length_append, List.length_nil]); omega) ?_
      intro A_105 c_106 w_107 hm_108 hg_109 hl_110
      have hB_112 : Below w_84.heap.size w_84 w_107 := (bgo (bgo hb_87 hg_99 hl_100 (Nat.le_refl _)) hg_109 hl_110 (Nat.le_refl _))
      have hC_111 : kCell.C w_107 A_105 (l1 ++ l2).length (l1 ++ l2) := Mix.C hB_112 hm_108
      have hB_113 : Below w_72.heap.size w_72 w_107 := (bgo (bgo (bt (bt hb_79 hb_85) hb_87) hg_99 hl_100 ((bt hb_79 hb_85)).size) hg_109 hl_110 ((bt hb_79 hb_85)).size)
      refine XL_call 55 rfl rfl rfl ent55 [.slice A_69 ((l1 ++ l2).length) c_70, .slice A_105 ((l1 ++ l2).length) c_106] (by kernel_rfl) (sameCells_any _ _ _ _ (l1 ++ l2) (l1 ++ l2) _ (Kd.R_C (Kd.R_below hr_71 hB_113)) hC_111) ?_
      rintro e w_114 ⟨rfl, hb_115⟩; refine ⟨_, rfl, ?_⟩
      rw [show cellsEqP (l1 ++ l2) (l1 ++ l2) = true from (cellsEqP_iff _ _).2 (by simp)]
      refine XL_run 2 [] [(4, .bool true)] w_114 [] (by kernel_rfl) trivial ?_
      refine XL_nil ?_
      refine X_ret ?_
      refine RX.ret_ok (P := Tryd.prog) (fn := Tryd.f12) (N := 143) (R := R_) [.bool true] (by kernel_rfl) (hR_ _ _ ?_)
      have hB_116 : Below w.heap.size w w_84 := (bt (bt (bt (bt hB_65 hb_67) hb_73) hb_79) hb_85)
      have hB_117 : Below w.heap.size w w_114 := (bt (bgo (bgo (bt (bt (bt (bt (bt hB_65 hb_67) hb_73) hb_79) hb_85) hb_87) hg_99 hl_100 (hB_116).size) hg_109 hl_110 (hB_116).size) hb_115)
      exact ⟨rfl, hB_117⟩
  · rw [errV_pos es (refuseP o) (Nat.pos_of_ne_zero c_10)]
    refine XL_run 5 [] [(1, .int .i64 n), (2, .pointer (some ⟨w.heap.size, 0, none⟩)), (5, .int .i64 (lenO o)), (6, .iface 184 (.pointer (some (errAt es (refuseP o))))), (30, .bool true)] w_8 [] (by kernel_rfl) trivial ?_
    refine XL_nil ?_
    refine X_cond true rfl ?_
    refine X_seq ?_
    refine X_region ?_
    refine XL_run 7 [] [(4, .bool true)] w_8 [] (by kernel_rfl) trivial ?_
    refine XL_nil ?_
    refine X_ret ?_
    refine RX.ret_ok (P := Tryd.prog) (fn := Tryd.f12) (N := 143) (R := R_) [.bool true] (by kernel_rfl) (hR_ _ _ ?_)
    exact ⟨rfl, (bt (bt hb_2 hb_7) hb_9)⟩
end Go.Proofs.YtekfdfafhfhfbaaDoor
