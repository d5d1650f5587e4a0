/- The reference of layer cells: documents of cells. Conditions: sizes, the tables of utf8. -/
import Derived.Test.YtkehomiogkoomaaDoorT30
import Derived.Test.YtkehomiogkoomaaDoorT16
import Derived.Test.YtkehomiogkoomaaDoorMixC
set_option linter.unusedVariables false
set_option linter.unusedSimpArgs false
set_option maxRecDepth 100000
namespace Go.Proofs.YtkehomiogkoomaaDoor
open Go Go.RowKit Go.Proofs.YtkehomiogkoomaaDoorW.PrintWords RX
theorem ent165 : Ent Tryd.prog 165 := ent_of Tryd.func165 (by kernel_rfl) rfl
theorem ent135 : Ent Tryd.prog 135 := ent_of Tryd.func135 (by kernel_rfl) rfl
theorem ent76 : Ent Tryd.prog 76 := ent_of Tryd.func76 (by kernel_rfl) rfl
theorem rb_one (r : Int) : Utf8.encode r = runesBytes [r] := (B.empty_app _).symm
theorem r9op_any (c : CellA) (A : Option Addr) (k : Nat) (w : World) : Calls Tryd.prog 165 #[.agg (c6A c (.slice A c.attrs.length k))] w fun e w' => e = .returned (.agg (o7A (B.opC c) (.slice A c.attrs.length k))) ∧ Below w.heap.size w w' := by
 refine RX.enter Tryd.func165 rfl 19 rfl [(0, .agg (c6A c (.slice A c.attrs.length k)))] rfl (by kernel_rfl) (fun R_ hR_ => ?_)
 refine sq (rg (xwe 1 [] [(1, pw w.heap.size 0)] (w.alloc (.cells (c6A c (.slice A c.attrs.length k)) 126)) [] trivial ?_))
 obtain ⟨w_1, hw_5, hb_2, hk_3, hz_4⟩ := new_world w (c6A c (.slice A c.attrs.length k)) 126
 rw [hw_5]
 refine xw 1 [] [(2, pw w_1.heap.size 0)] [] (w_1.alloc (.cells #[.int .i64 0, .string ByteArray.empty, .int .i64 0, .int .i64 0, .string ByteArray.empty, .int .i64 0, .slice none 0 0] 47)) [] trivial ?_
 obtain ⟨w_6, hw_10, hb_7, hk_8, hz_9⟩ := new_world w_1 #[.int .i64 0, .string ByteArray.empty, .int .i64 0, .int .i64 0, .string ByteArray.empty, .int .i64 0, .slice none 0 0] 47
 rw [hw_10]
 refine nl (sq (sq (rg (xr 2 [(4, .load (.int .i32 c.rune))] [(4, .int .i32 c.rune)] [] [LoadsAs Tryd.prog 21 (⟨w.heap.size, 0, none⟩) (.int .i32 c.rune) w_6] ⟨loads1 rfl (Blk.cell (Blk.below hk_3 hb_7) 0 _ rfl), trivial⟩ ?_))))
 by_cases c_11 : c.rune = (-1)
 ·refine xr 1 [(5, .eq (.bool true))] [(5, .bool true)] [4] [Value.bool (c.rune == (-1)) = Value.bool true] ⟨congrArg Value.bool (beq_iff_eq.2 (c_11)), trivial⟩ ?_
  refine nl (ct (sq (rg (xr 7 [(7, .load (.string c.kind)), (9, .load (.agg #[.int .i64 c.vk, .int .i64 c.vn, .string c.vt])), (11, .load (.slice A c.attrs.length k))] [(12, .agg #[.int .i64 2, .string c.kind, .int .i64 c.vk, .int .i64 c.vn, .string c.vt, .int .i64 0, .slice A c.attrs.length k])] [1, 5] [LoadsAs Tryd.prog 9 (⟨w.heap.size, 1, none⟩) (.string c.kind) w_6, LoadsAs Tryd.prog 44 (⟨w.heap.size, 2, none⟩) (.agg #[.int .i64 c.vk, .int .i64 c.vn, .string c.vt]) w_6, LoadsAs Tryd.prog 45 (⟨w.heap.size, 5, none⟩) (.slice A c.attrs.length k) w_6] ⟨loads1 rfl (Blk.cell (Blk.below hk_3 hb_7) 1 _ rfl), loadsB rfl rfl (Blk.below hk_3 hb_7) 2 ⟨by kernel_rfl, by kernel_rfl⟩, loads1 rfl (Blk.cell (Blk.below hk_3 hb_7) 5 _ rfl), trivial⟩ ?_))))
  refine xst (.agg #[.int .i64 2, .string c.kind, .int .i64 c.vk, .int .i64 c.vn, .string c.vt, .int .i64 0, .slice A c.attrs.length k]) hk_8 0 #[.int .i64 2, .string c.kind, .int .i64 c.vk, .int .i64 c.vn, .string c.vt, .int .i64 0, .slice A c.attrs.length k] (fun w_12 hg_13 hk_14 hz_15 => ?_)
  refine nl (X_ret (RX.ret_cell (P := Tryd.prog) (fn := Tryd.f165) (N := 19) (R := R_) (c := 2) (t := 47) (p := ⟨w_1.heap.size, 0, none⟩) (v := .agg #[.int .i64 2, .string c.kind, .int .i64 c.vk, .int .i64 c.vn, .string c.vt, .int .i64 0, .slice A c.attrs.length k]) rfl rfl (loadsB rfl rfl hk_14 0 ⟨by kernel_rfl, by kernel_rfl⟩) (hR_ _ _ ?_)))
  rw [B.op_emb c_11]
  exact ⟨rfl, (bg (bt hb_2 hb_7) hg_13 (hb_2).size)⟩
 refine xr 1 [(5, .eq (.bool false))] [(5, .bool false)] [4] [Value.bool (c.rune == (-1)) = Value.bool false] ⟨congrArg Value.bool (beq_eq_false_iff_ne.2 (c_11)), trivial⟩ ?_
 refine nl (cf (sk (sq (rg (xr 6 [(14, .load (.int .i32 c.rune)), (15, .as (.string (Utf8.encode c.rune))), (17, .load (.slice A c.attrs.length k))] [(18, .agg #[.int .i64 1, .string (Utf8.encode c.rune), .int .i64 0, .int .i64 0, .string ByteArray.empty, .int .i64 0, .slice A c.attrs.length k])] [1, 5] [LoadsAs Tryd.prog 21 (⟨w.heap.size, 0, none⟩) (.int .i32 c.rune) w_6, RunsAs Tryd.prog [(14, .int .i32 c.rune)] (Go.Op.convert 21 9 (Go.Operand.tmp 14)) 9 (.string (Utf8.encode c.rune)) w_6, LoadsAs Tryd.prog 45 (⟨w.heap.size, 5, none⟩) (.slice A c.attrs.length k) w_6] ⟨loads1 rfl (Blk.cell (Blk.below hk_3 hb_7) 0 _ rfl), runs_conv rfl (run_convert_int_string _ _ _ _ _ (by kernel_rfl) Tryd.underlying9), loads1 rfl (Blk.cell (Blk.below hk_3 hb_7) 5 _ rfl), trivial⟩ ?_)))))
 refine xst (.agg #[.int .i64 1, .string (Utf8.encode c.rune), .int .i64 0, .int .i64 0, .string ByteArray.empty, .int .i64 0, .slice A c.attrs.length k]) hk_8 0 #[.int .i64 1, .string (Utf8.encode c.rune), .int .i64 0, .int .i64 0, .string ByteArray.empty, .int .i64 0, .slice A c.attrs.length k] (fun w_16 hg_17 hk_18 hz_19 => ?_)
 refine nl (X_ret (RX.ret_cell (P := Tryd.prog) (fn := Tryd.f165) (N := 19) (R := R_) (c := 2) (t := 47) (p := ⟨w_1.heap.size, 0, none⟩) (v := .agg #[.int .i64 1, .string (Utf8.encode c.rune), .int .i64 0, .int .i64 0, .string ByteArray.empty, .int .i64 0, .slice A c.attrs.length k]) rfl rfl (loadsB rfl rfl hk_18 0 ⟨by kernel_rfl, by kernel_rfl⟩) (hR_ _ _ ?_)))
 rw [B.op_txt c_11]
 rw [rb_one]
 exact ⟨rfl, (bg (bt hb_2 hb_7) hg_17 (hb_2).size)⟩
theorem opC_attrs (c : CellA) : (B.opC c).attrs = c.attrs := by unfold B.opC; split <;> rfl
theorem map_snocC (cs : List CellA) (i : Nat) (h : i < cs.length) : (cs.take i).map B.opC ++ [B.opC (cs.getD i cell0)] = (cs.take (i + 1)).map B.opC := by rw [take_snocD cell0 cs i h, List.map_append]; rfl
theorem opK_cell {w : World} {c : CellA} {D : Option Addr} {d : Nat} (hl : c.attrs.length ≤ d) (hC : kAttr.C w D c.attrs.length c.attrs) : kOp.K w (B.opC c) (o7L (B.opC c) (.slice D c.attrs.length d)) := by
 have h := kOp_K_of (x := B.opC c) (A := D) (c := d) (w := w) (by rw [opC_attrs]; exact hl) (by rw [opC_attrs]; exact hC)
 unfold opV at h
 rw [opC_attrs] at h
 exact h
theorem docSz {cs : List CellA} (h : ∀ c ∈ cs, B.cErr c = 0) (hz : ∀ i, i < cs.length → B.cellSz (cs.getD i cell0)) : (∀ i, i < (cs.map B.opC).length → opSz ((cs.map B.opC).getD i op0)) ∧ B.txS (cs.map B.opC) ≤ 64 * cs.length := by
 have hz' : ∀ c ∈ cs, B.cellSz c := fun c hc => by
  obtain ⟨i, hi, rfl⟩ := List.mem_iff_getElem.1 hc
  have := hz i hi
  rwa [List.getD_eq_getElem?_getD, List.getElem?_eq_getElem hi] at this
 refine ⟨fun i hi => ?_, B.doc_tx cs fun c hc => ⟨h c hc, hz' c hc⟩⟩
 have hm := getD_mem op0 hi
 obtain ⟨c, hc, e⟩ := List.mem_map.1 hm
 rw [← e]
 exact (B.op_sz (h c hc) (hz' c hc)).1
set_option maxHeartbeats 4000000 in
theorem r9doc_any (A : Option Addr) (c : Nat) (cs : List CellA) (W0 w : World) (hW : Below W0.heap.size W0 w) (hx : kCell.C W0 A cs.length cs) (hn : cs.length ≤ 500000) (hz : ∀ i, i < cs.length → B.cellSz (cs.getD i cell0)) (hg : ∀ c ∈ cs, B.cErr c = 0) : Calls Tryd.prog 135 #[.slice A cs.length c] w fun e w' => ∃ A1 c1, e = .returned (.slice A1 (B.can (cs.map B.opC)).length c1) ∧ MixK kOp op0 47 w.heap.size W0 w' A1 (B.can (cs.map B.opC)).length c1 (B.can (cs.map B.opC)) ∧ Below w.heap.size w w' := by
 have hpl : cs.length ≤ 9223372036854775807 := hx.2.1
 obtain ⟨hsz, htx⟩ := docSz hg hz
 refine RX.enter Tryd.func135 rfl 21 rfl [(0, .slice A cs.length c)] rfl (by kernel_rfl) (fun R_ hR_ => ?_)
 refine sq (rg (xe0 1 [(0, .slice A cs.length c)] ?_))
 refine nl (sq (rg (xw 1 [] [(6, .slice (some ⟨w.heap.size, 0, none⟩) 0 0)] [] (w.alloc (.cells #[] 47)) [] trivial ?_)))
 obtain ⟨w_1, hw_5, hb_2, hk_3, hz_4⟩ := new_world w #[] 47
 rw [hw_5]
 refine xr0 1 [(3, .slice (some ⟨w.heap.size, 0, none⟩) 0 0)] [6] ?_
 refine nl (sq (sq (rg (xr0 3 [(7, .slice A cs.length c), (8, .int .i64 (cs.length : Int)), (9, .int .i64 0)] [0] ?_))))
 refine nl (X_block ?_)
 have hr_6 := Kd.R_litB kOp (W := w) (e := 47) (cs := #[]) [] hk_3 (repsOp0 [] (fun _ h => by cases h)) (Nat.le_of_ble_eq_true (by kernel_rfl))
 refine X_loop (ι := Nat × Option Addr × Nat) (fun ⟨i, A3, c3⟩ => [(3, .slice A3 (((cs.take i).map B.opC).length) c3), (7, .slice A cs.length c), (8, .int .i64 (cs.length : Int)), (9, .int .i64 (i : Int))]) (fun ⟨i, A3, c3⟩ wl => i ≤ cs.length ∧ MixK kOp op0 47 w.heap.size W0 wl A3 ((cs.take i).map B.opC).length c3 ((cs.take i).map B.opC) ∧ w.heap.size ≤ wl.heap.size ∧ Below w.heap.size w wl) (fun ⟨i, A3, c3⟩ => cs.length - i) (0, (some ⟨w.heap.size, 0, none⟩), 0) ⟨Nat.zero_le _, (MixK.nil (z := op0) (B := w.heap.size) (W0 := W0) hr_6 (Nat.le_refl _)), (hb_2).size, hb_2⟩ (by kernel_rfl) ?_
 rintro ⟨i, A3, c3⟩ wl ⟨hi, hm3, hle, HB⟩
 refine sq (X_region ?_)
 by_cases c_7 : (i : Int) < (cs.length : Int)
 ·refine xr 1 [(10, .eq (.bool true))] [(10, .bool true)] [] [Value.bool (decide ((i : Int) < (cs.length : Int))) = Value.bool true] ⟨congrArg Value.bool (decide_eq_true (c_7)), trivial⟩ ?_
  refine nl (sq (ct (sk (sq (bk (sq (X_region ?_)))))))
  obtain ⟨ad_8, B_11, c_12, ha_9, hc_10, hl_13, hC_14⟩ := C_cellK hx (bt hW HB) (i := (i : Int)) (by omega) (by omega)
  replace hc_10 : CellsAt wl (ad_8.add ((i : Int).toNat * 6)) (c6L (cs.getD i cell0) (.slice B_11 ((cs.getD i cell0).attrs.length) c_12)) := hc_10
  replace hl_13 : (cs.getD i cell0).attrs.length ≤ c_12 := hl_13
  replace hC_14 : kAttr.C W0 B_11 ((cs.getD i cell0).attrs.length) (cs.getD i cell0).attrs := hC_14
  refine xw 3 [(11, .idx ad_8), (12, .load (.agg (c6A (cs.getD i cell0) (.slice B_11 ((cs.getD i cell0).attrs.length) c_12))))] [(5, pw wl.heap.size 0), (12, .agg (c6A (cs.getD i cell0) (.slice B_11 ((cs.getD i cell0).attrs.length) c_12)))] [10] (wl.alloc (.cells #[.int .i32 0, .string ByteArray.empty, .int .i64 0, .int .i64 0, .string ByteArray.empty, .slice none 0 0] 126)) [A = some ad_8, (0 : Int) ≤ (i : Int), (i : Int) < (cs.length : Int), LoadsAs Tryd.prog 126 (ad_8.add ((i : Int).toNat * 6)) (.agg (c6A (cs.getD i cell0) (.slice B_11 ((cs.getD i cell0).attrs.length) c_12))) wl] ⟨ha_9, (by omega), (by omega), loadsE rfl rfl hc_10 0 ⟨by kernel_rfl, by kernel_rfl⟩, trivial⟩ ?_
  obtain ⟨w_15, hw_19, hb_16, hk_17, hz_18⟩ := new_world wl #[.int .i32 0, .string ByteArray.empty, .int .i64 0, .int .i64 0, .string ByteArray.empty, .slice none 0 0] 126
  rw [hw_19]
  refine xst (.agg (c6A (cs.getD i cell0) (.slice B_11 ((cs.getD i cell0).attrs.length) c_12))) hk_17 0 (c6A (cs.getD i cell0) (.slice B_11 ((cs.getD i cell0).attrs.length) c_12)) (fun w_20 hg_21 hk_22 hz_23 => ?_)
  refine nl (rg (xr 2 [(14, .load (.agg (c6A (cs.getD i cell0) (.slice B_11 ((cs.getD i cell0).attrs.length) c_12))))] [(13, .slice A3 (((cs.take i).map B.opC).length) c3), (14, .agg (c6A (cs.getD i cell0) (.slice B_11 ((cs.getD i cell0).attrs.length) c_12)))] [3, 5, 12] [LoadsAs Tryd.prog 126 (⟨wl.heap.size, 0, none⟩) (.agg (c6A (cs.getD i cell0) (.slice B_11 ((cs.getD i cell0).attrs.length) c_12))) w_20] ⟨loadsB rfl rfl hk_22 0 ⟨by kernel_rfl, by kernel_rfl⟩, trivial⟩ ?_))
  refine xc 165 ent165 [.agg (c6A (cs.getD i cell0) (.slice B_11 ((cs.getD i cell0).attrs.length) c_12))] (r9op_any (cs.getD i cell0) _ _ _) ?_
  rintro e w_24 ⟨rfl, hb_25⟩; refine ⟨_, rfl, ?_⟩
  refine xw 1 [] [(16, .slice (some ⟨w_24.heap.size, 0, none⟩) 1 1)] [14, 15] (w_24.alloc (.cells (o7A (B.opC (cs.getD i cell0)) (.slice B_11 ((cs.getD i cell0).attrs.length) c_12)) 47)) [] trivial ?_
  obtain ⟨w_26, hw_30, hb_27, hk_28, hz_29⟩ := new_world w_24 (o7A (B.opC (cs.getD i cell0)) (.slice B_11 ((cs.getD i cell0).attrs.length) c_12)) 47
  rw [hw_30]
  have hB_31 : Below wl.heap.size wl w_26 := (bt (bt (bg hb_16 hg_21 (Nat.le_refl _)) hb_25) hb_27)
  have hR_32 := Kd.R_litB (kRaw 7) (W := w_24) (e := 47) (cs := (o7A (B.opC (cs.getD i cell0)) (.slice B_11 ((cs.getD i cell0).attrs.length) c_12))) [(o7L (B.opC (cs.getD i cell0)) (.slice B_11 ((cs.getD i cell0).attrs.length) c_12))] hk_28 (rawL1 _ rfl (by kernel_rfl)) (Nat.le_of_ble_eq_true (by kernel_rfl))
  have hB_39 : Below w.heap.size w w_26 := (bt (bt (bg (bt HB hb_16) hg_21 hle) hb_25) hb_27)
  refine XL_appendMixK (d := kOp) (W0 := W0) (B := w.heap.size) (c' := 1) (m := 1) op0 rfl rfl rfl 47 (.agg #[.int .i64 0, .string ByteArray.empty, .int .i64 0, .int .i64 0, .string ByteArray.empty, .int .i64 0, .slice none 0 0]) 88 Tryd.underlying37 info47 rfl (by decide) (by omega) ((cs.take i).map B.opC) [B.opC (cs.getD i cell0)] [(o7L (B.opC (cs.getD i cell0)) (.slice B_11 ((cs.getD i cell0).attrs.length) c_12))] (by kernel_rfl) (MixK.below hm3 hB_31) (Kd.R_C hR_32) rfl (fun i_ hi_ => by have h_ : i_ = 0 := (by omega); subst h_; exact opK_cell hl_13 hC_14) (hB_39).size (by rw [List.length_map, List.length_take]; omega) ?_
  intro A_33 c_34 w_35 hm_36 hg_37 hl_38
  rw [map_snocC cs i (by omega)] at hm_36 ⊢
  refine xr0 1 [(3, .slice A_33 (((cs.take (i + 1)).map B.opC).length) c_34)] [13, 16, 17] ?_
  refine nl (rg (xe 2 [(18, .eq (.int .i64 ((i : Int) + 1)))] [(3, .slice A_33 (((cs.take (i + 1)).map B.opC).length) c_34), (7, .slice A cs.length c), (8, .int .i64 (cs.length : Int)), (9, .int .i64 ((i : Int) + 1))] [Value.int .i64 (IntKind.i64.wrap ((i : Int) + 1)) = Value.int .i64 ((i : Int) + 1)] ⟨wr_i64 (by omega) (by omega), trivial⟩ ?_))
  refine nl ?_
  refine ⟨(i + 1, A_33, c_34), by kernel_rfl, ?_, ?_⟩
  ·exact ⟨by omega, hm_36, ((bgo hB_39 hg_37 hl_38 (Nat.le_refl _))).size, (bgo hB_39 hg_37 hl_38 (Nat.le_refl _))⟩
  (try dsimp only); omega
 refine xr 1 [(10, .eq (.bool false))] [(10, .bool false)] [] [Value.bool (decide ((i : Int) < (cs.length : Int))) = Value.bool false] ⟨congrArg Value.bool (decide_eq_false (c_7)), trivial⟩ ?_
 refine nl (sq (cf (X_exit (sq (rg (xe0 1 [(19, .slice A3 (((cs.take i).map B.opC).length) c3)] ?_))))))
 have hxi : cs.take i = cs := List.take_of_length_le (by omega)
 obtain ⟨hd1, hd2, hd3⟩ := B.doc_ok cs hg
 have hdl : (cs.map B.opC).length = cs.length := List.length_map ..
 rw [hxi] at hm3
 rw [hxi]
 refine xc 54 ent54 [.slice A3 ((cs.map B.opC).length) c3] (r6canonical_any _ _ (cs.map B.opC) W0 _ (bt hW HB) (RX.OpK.of_mix hm3 (bt hW HB)) hd1 (by rw [hd2]; decide) (by omega) hsz (by omega)) ?_
 rintro e w_42 ⟨A_40, c_41, rfl, hm_43, hb_44⟩; refine ⟨_, rfl, ?_⟩
 refine xe0 1 [(2, .slice A_40 ((B.can (cs.map B.opC)).length) c_41)] ?_
 refine nl (X_ret (rk [.slice A_40 ((B.can (cs.map B.opC)).length) c_41] (hR_ _ _ ?_)))
 exact ⟨_, _, rfl, (MixK.low hm_43 hle), (bt HB hb_44)⟩
set_option maxHeartbeats 4000000 in
theorem r9of_any (A : Option Addr) (c : Nat) (cs : List CellA) (W0 w : World) (hW : Below W0.heap.size W0 w) (hx : kCell.C W0 A cs.length cs) (hn : cs.length ≤ 500000) (hz : ∀ i, i < cs.length → B.cellSz (cs.getD i cell0)) (hT : Tabs w) : Calls Tryd.prog 76 #[.slice A cs.length c] w fun e w' => Below w.heap.size w w' ∧ (((B.cOf cs).2 = 0 ∧ ∃ A1 c1, e = .returned (.tuple #[.slice A1 (B.can (cs.map B.opC)).length c1, .int .i64 0, .int .i64 0]) ∧ MixK kOp op0 47 w.heap.size W0 w' A1 (B.can (cs.map B.opC)).length c1 (B.can (cs.map B.opC))) ∨ ((B.cOf cs).2 ≠ 0 ∧ e = .returned (.tuple #[.slice none 0 0, .int .i64 ((B.cOf cs).1 : Int), .int .i64 ((B.cOf cs).2 : Int)]))) := by
 have hpl : cs.length ≤ 9223372036854775807 := hx.2.1
 refine RX.enter Tryd.func76 rfl 24 rfl [(0, .slice A cs.length c)] rfl (by kernel_rfl) (fun R_ hR_ => ?_)
 refine sq (rg (xe0 3 [(0, .slice A cs.length c)] ?_))
 refine nl (sq (sq (rg (xr0 3 [(8, .slice A cs.length c), (9, .int .i64 (cs.length : Int)), (10, .int .i64 0)] [] ?_))))
 refine nl (bk (X_loop (ι := Nat) (fun i => [(0, .slice A cs.length c), (8, .slice A cs.length c), (9, .int .i64 (cs.length : Int)), (10, .int .i64 (i : Int))]) (fun i wl => i ≤ cs.length ∧ (∀ j, j < i → B.cErr (cs.getD j cell0) = 0) ∧ Below w.heap.size w wl) (fun i => cs.length - i) 0 ⟨Nat.zero_le _, fun _ h_ => absurd h_ (Nat.not_lt_zero _), (Below.refl _ _)⟩ (by kernel_rfl) ?_))
 rintro i wl ⟨hi, hb0, HB⟩
 refine sq (X_region ?_)
 by_cases c_1 : (i : Int) < (cs.length : Int)
 ·refine xr 1 [(11, .eq (.bool true))] [(11, .bool true)] [] [Value.bool (decide ((i : Int) < (cs.length : Int))) = Value.bool true] ⟨congrArg Value.bool (decide_eq_true (c_1)), trivial⟩ ?_
  refine nl (sq (ct (sk (sq (bk (sq (rg (xr0 1 [(12, nv i)] [11] ?_))))))))
  obtain ⟨ad_2, B_5, c_6, ha_3, hc_4, hl_7, hC_8⟩ := C_cellK hx (bt hW HB) (i := (i : Int)) (by omega) (by omega)
  replace hc_4 : CellsAt wl (ad_2.add ((i : Int).toNat * 6)) (c6L (cs.getD i cell0) (.slice B_5 ((cs.getD i cell0).attrs.length) c_6)) := hc_4
  replace hl_7 : (cs.getD i cell0).attrs.length ≤ c_6 := hl_7
  replace hC_8 : kAttr.C W0 B_5 ((cs.getD i cell0).attrs.length) (cs.getD i cell0).attrs := hC_8
  refine xw 3 [(13, .idx ad_2), (14, .load (.agg (c6A (cs.getD i cell0) (.slice B_5 ((cs.getD i cell0).attrs.length) c_6))))] [(6, pw wl.heap.size 0), (14, .agg (c6A (cs.getD i cell0) (.slice B_5 ((cs.getD i cell0).attrs.length) c_6)))] [] (wl.alloc (.cells #[.int .i32 0, .string ByteArray.empty, .int .i64 0, .int .i64 0, .string ByteArray.empty, .slice none 0 0] 126)) [A = some ad_2, (0 : Int) ≤ (i : Int), (i : Int) < (cs.length : Int), LoadsAs Tryd.prog 126 (ad_2.add ((i : Int).toNat * 6)) (.agg (c6A (cs.getD i cell0) (.slice B_5 ((cs.getD i cell0).attrs.length) c_6))) wl] ⟨ha_3, (by omega), (by omega), loadsE rfl rfl hc_4 0 ⟨by kernel_rfl, by kernel_rfl⟩, trivial⟩ ?_
  obtain ⟨w_9, hw_13, hb_10, hk_11, hz_12⟩ := new_world wl #[.int .i32 0, .string ByteArray.empty, .int .i64 0, .int .i64 0, .string ByteArray.empty, .slice none 0 0] 126
  rw [hw_13]
  refine xr0 1 [(5, nv i)] [12] ?_
  refine xst (.agg (c6A (cs.getD i cell0) (.slice B_5 ((cs.getD i cell0).attrs.length) c_6))) hk_11 0 (c6A (cs.getD i cell0) (.slice B_5 ((cs.getD i cell0).attrs.length) c_6)) (fun w_14 hg_15 hk_16 hz_17 => ?_)
  refine nl (sq (rg (xr 1 [(15, .load (.agg (c6A (cs.getD i cell0) (.slice B_5 ((cs.getD i cell0).attrs.length) c_6))))] [(15, .agg (c6A (cs.getD i cell0) (.slice B_5 ((cs.getD i cell0).attrs.length) c_6)))] [6, 14] [LoadsAs Tryd.prog 126 (⟨wl.heap.size, 0, none⟩) (.agg (c6A (cs.getD i cell0) (.slice B_5 ((cs.getD i cell0).attrs.length) c_6))) w_14] ⟨loadsB rfl rfl hk_16 0 ⟨by kernel_rfl, by kernel_rfl⟩, trivial⟩ ?_)))
  have hB_18 : Below W0.heap.size W0 w_14 := (bg (bt (bt hW HB) hb_10) hg_15 ((bt hW HB)).size)
  refine xc 74 ent74 [.agg (c6A (cs.getD i cell0) (.slice B_5 ((cs.getD i cell0).attrs.length) c_6))] (r9check_any (cs.getD i cell0) _ _ _ (Kd.C_below hC_8 hB_18) (hz i (by omega)) (hT.below (bg (bt HB hb_10) hg_15 (HB).size))) ?_
  rintro e w_19 ⟨rfl, hb_20⟩; refine ⟨_, rfl, ?_⟩
  refine xe0 1 [(0, .slice A cs.length c), (5, nv i), (7, .int .i64 (B.cErr (cs.getD i cell0) : Int)), (8, .slice A cs.length c), (9, .int .i64 (cs.length : Int)), (10, nv i)] ?_
  refine nl (sq (rg (xr0 1 [(17, .int .i64 (B.cErr (cs.getD i cell0) : Int))] [] ?_)))
  by_cases c_21 : (B.cErr (cs.getD i cell0) : Int) = 0
  ·refine xr 1 [(18, .eq (.bool false))] [(18, .bool false)] [17] [Value.bool ((B.cErr (cs.getD i cell0) : Int) != 0) = Value.bool false] ⟨congrArg Value.bool (bneF (c_21)), trivial⟩ ?_
   refine nl (cf (sk (rg (xr 2 [(21, .eq (.int .i64 ((i : Int) + 1)))] [(10, .int .i64 ((i : Int) + 1))] [5, 7, 18] [Value.int .i64 (IntKind.i64.wrap ((i : Int) + 1)) = Value.int .i64 ((i : Int) + 1)] ⟨wr_i64 (by omega) (by omega), trivial⟩ ?_))))
   refine nl ?_
   have hB_22 : Below w.heap.size w w_19 := (bt (bg (bt HB hb_10) hg_15 (HB).size) hb_20)
   refine ⟨(i + 1), by kernel_rfl, ?_, ?_⟩
   ·have hci : B.cErr (cs.getD i cell0) = 0 := by omega
    exact ⟨by omega, fun j_ hj_ => (by by_cases h_ : j_ < i; (· exact hb0 j_ h_); (· obtain rfl : j_ = i := (by omega); exact hci)), hB_22⟩
   (try dsimp only); omega
  refine xr 1 [(18, .eq (.bool true))] [(18, .bool true)] [17] [Value.bool ((B.cErr (cs.getD i cell0) : Int) != 0) = Value.bool true] ⟨congrArg Value.bool (bneT (c_21)), trivial⟩ ?_
  refine nl (ct (sq (rg (xe0 5 [(2, .slice none 0 0), (3, nv i), (4, .int .i64 (B.cErr (cs.getD i cell0) : Int))] ?_))))
  refine nl (X_ret (rk [.slice none 0 0, .int .i64 (i : Int), .int .i64 (B.cErr (cs.getD i cell0) : Int)] (hR_ _ _ ?_)))
  have hB_23 : Below w.heap.size w w_19 := (bt (bg (bt HB hb_10) hg_15 (HB).size) hb_20)
  have hbn : B.cErr (cs.getD i cell0) ≠ 0 := by omega
  have hof : B.cOf cs = (i, B.cErr (cs.getD i cell0)) := B.first_at hb0 hbn (show i < cs.length by omega)
  rw [hof]
  exact ⟨hB_23, .inr ⟨hbn, rfl⟩⟩
 refine xr 1 [(11, .eq (.bool false))] [(11, .bool false)] [] [Value.bool (decide ((i : Int) < (cs.length : Int))) = Value.bool false] ⟨congrArg Value.bool (decide_eq_false (c_1)), trivial⟩ ?_
 refine nl (sq (cf (X_exit (sq (rg (xe0 1 [(22, .slice A cs.length c)] ?_))))))
 have hof : B.cOf cs = (0, 0) := B.first_none fun j_ hj_ => hb0 j_ (by omega)
 have hg := B.cOf_ok (cs := cs) (by rw [hof])
 refine xc 135 ent135 [.slice A cs.length c] (r9doc_any A c cs W0 _ (bt hW HB) hx hn hz hg) ?_
 rintro e w_26 ⟨A_24, c_25, rfl, hm_27, hb_28⟩; refine ⟨_, rfl, ?_⟩
 refine xe0 3 [(2, .slice A_24 ((B.can (cs.map B.opC)).length) c_25), (3, .int .i64 0), (4, .int .i64 0)] ?_
 refine nl (X_ret (rk [.slice A_24 ((B.can (cs.map B.opC)).length) c_25, .int .i64 0, .int .i64 0] (hR_ _ _ ?_)))
 rw [hof]
 exact ⟨(bt HB hb_28), .inl ⟨rfl, A_24, c_25, rfl, (MixK.low hm_27 (HB).size)⟩⟩
end Go.Proofs.YtkehomiogkoomaaDoor
