import Derived.Test.YtgphmfnkeolbcaaDoorMixL
/- vellumref09.Cells: the cells, their attributes where the operations have them. Conditions: sizes, texts of scalars. -/
set_option linter.unusedVariables false
set_option linter.unusedSimpArgs false
set_option maxRecDepth 100000
namespace Go.Proofs.YtgphmfnkeolbcaaDoor
open Go Go.RowKit Go.Proofs.YtgphmfnkeolbcaaDoorW.PrintWords RX
theorem ent29 : Ent Tryd.prog 29 := ent_of Tryd.func29 (by kernel_rfl) rfl
theorem came_snoc (s : ByteArray) (at4 : List At) (i : Nat) (h : i < (U.sc s).length) : ((U.sc s).take i).map (B.cR at4) ++ [B.cR at4 ((U.sc s)[i])] = ((U.sc s).take (i + 1)).map (B.cR at4) := by
 rw [take_snocD 0 (U.sc s) i h, List.map_append, List.getD_eq_getElem?_getD, List.getElem?_eq_getElem h]; rfl
set_option maxHeartbeats 4000000 in
theorem cells9_any (A : Option Addr) (c : Nat) (xs : List OpA) (w : World) (hx : kOp.C w A xs.length xs) (hn : xs.length ≤ 1100000) (hb : badE xs = 0) (hz : ∀ i, i < xs.length → opSz (xs.getD i op0)) (hu : ∀ i, i < xs.length → ¬ (xs.getD i op0).kind = 2 → U.utf (xs.getD i op0).text) (hL : (cellsAll xs).length ≤ 100000000) : Calls Tryd.prog 29 #[.slice A xs.length c] w fun e w' => ∃ A1 c1 zs, zs = cellsAll xs ∧ e = .returned (.slice A1 zs.length c1) ∧ MixK kCell cell0 44 w.heap.size w w' A1 zs.length c1 zs ∧ Below w.heap.size w w' := by
 have hpl : xs.length ≤ 9223372036854775807 := hx.2.1
 refine RX.enter Tryd.func29 rfl 43 rfl [(0, .slice A xs.length c)] rfl (by kernel_rfl) (fun R_ hR_ => ?_)
 refine sq (rg (xe0 1 [(0, .slice A xs.length c)] ?_))
 refine nl (sq (rg (xw 1 [] [(8, .slice (some ⟨w.heap.size, 0, none⟩) 0 0)] [] (w.alloc (.cells #[] 44)) [] trivial ?_)))
 obtain ⟨w_1, hw_5, hb_2, hk_3, hz_4⟩ := new_world w #[] 44
 rw [hw_5]
 refine xr0 1 [(3, .slice (some ⟨w.heap.size, 0, none⟩) 0 0)] [8] ?_
 refine nl (sq (sq (rg (xr0 3 [(9, .slice A xs.length c), (10, .int .i64 (xs.length : Int)), (11, .int .i64 0)] [0] ?_))))
 refine nl (X_block ?_)
 have hr_6 := Kd.R_litB kCell (W := w) (e := 44) (cs := #[]) [] hk_3 (repsCell0) (Nat.le_of_ble_eq_true (by kernel_rfl))
 refine X_loop (ι := Nat × Option Addr × Nat × List CellA) (fun ⟨i, A6, c6, zs6⟩ => [(3, .slice A6 zs6.length c6), (9, .slice A xs.length c), (10, .int .i64 (xs.length : Int)), (11, .int .i64 (i : Int))]) (fun ⟨i, A6, c6, zs6⟩ wl => i ≤ xs.length ∧ zs6 = cellsAll (xs.take i) ∧ MixK kCell cell0 44 w.heap.size w wl A6 zs6.length c6 zs6 ∧ Below w.heap.size w wl) (fun ⟨i, A6, c6, zs6⟩ => xs.length - i) (0, (some ⟨w.heap.size, 0, none⟩), 0, []) ⟨Nat.zero_le _, rfl, (MixK.nil (z := cell0) (B := w.heap.size) (W0 := w) hr_6 (Nat.le_refl _)), hb_2⟩ (by kernel_rfl) ?_
 rintro ⟨i, A6, c6, zs6⟩ wl ⟨hi, he6, hm6, HB⟩
 have hz6_ : zs6.length ≤ 100000000 := by rw [he6]; exact Nat.le_trans (cellsAll_le xs i) hL
 refine sq (X_region ?_)
 by_cases c_7 : (i : Int) < (xs.length : Int)
 ·refine xr 1 [(12, .eq (.bool true))] [(12, .bool true)] [] [Value.bool (decide ((i : Int) < (xs.length : Int))) = Value.bool true] ⟨congrArg Value.bool (decide_eq_true (c_7)), trivial⟩ ?_
  refine nl (sq (ct (sk (sq (bk (sq (X_region ?_)))))))
  obtain ⟨ad_8, B_11, c_12, ha_9, hc_10, hl_13, hC_14⟩ := C_opK hx HB (i := (i : Int)) (by omega) (by omega)
  replace hc_10 : CellsAt wl (ad_8.add ((i : Int).toNat * 7)) (o7L (xs.getD i op0) (.slice B_11 ((xs.getD i op0).attrs.length) c_12)) := hc_10
  replace hl_13 : (xs.getD i op0).attrs.length ≤ c_12 := hl_13
  replace hC_14 : kAttr.C w B_11 ((xs.getD i op0).attrs.length) (xs.getD i op0).attrs := hC_14
  refine xw 3 [(13, .idx ad_8), (14, .load (.agg (o7A (xs.getD i op0) (.slice B_11 ((xs.getD i op0).attrs.length) c_12))))] [(5, pw wl.heap.size 0), (14, .agg (o7A (xs.getD i op0) (.slice B_11 ((xs.getD i op0).attrs.length) c_12)))] [12] (wl.alloc (.cells #[.int .i64 0, .string ByteArray.empty, .int .i64 0, .int .i64 0, .string ByteArray.empty, .int .i64 0, .slice none 0 0] 59)) [A = some ad_8, (0 : Int) ≤ (i : Int), (i : Int) < (xs.length : Int), LoadsAs Tryd.prog 59 (ad_8.add ((i : Int).toNat * 7)) (.agg (o7A (xs.getD i op0) (.slice B_11 ((xs.getD i op0).attrs.length) c_12))) wl] ⟨ha_9, (by omega), (by omega), loadsE rfl rfl hc_10 0 ⟨by kernel_rfl, by kernel_rfl⟩, trivial⟩ ?_
  obtain ⟨w_15, hw_19, hb_16, hk_17, hz_18⟩ := new_world wl #[.int .i64 0, .string ByteArray.empty, .int .i64 0, .int .i64 0, .string ByteArray.empty, .int .i64 0, .slice none 0 0] 59
  rw [hw_19]
  refine xst (.agg (o7A (xs.getD i op0) (.slice B_11 ((xs.getD i op0).attrs.length) c_12))) hk_17 0 (o7A (xs.getD i op0) (.slice B_11 ((xs.getD i op0).attrs.length) c_12)) (fun w_20 hg_21 hk_22 hz_23 => ?_)
  refine nl (sq (sq (rg (xr 2 [(16, .load (.int .i64 ((xs.getD i op0).kind)))] [(16, .int .i64 ((xs.getD i op0).kind))] [14] [LoadsAs Tryd.prog 3 (⟨wl.heap.size, 0, none⟩) (.int .i64 ((xs.getD i op0).kind)) w_20] ⟨loads1 rfl (Blk.cell hk_22 0 _ rfl), trivial⟩ ?_))))
  by_cases c_24 : (xs.getD i op0).kind = 2
  ·refine xr 1 [(17, .eq (.bool true))] [(17, .bool true)] [16] [Value.bool ((xs.getD i op0).kind == 2) = Value.bool true] ⟨congrArg Value.bool (beq_iff_eq.2 (c_24)), trivial⟩ ?_
   refine nl (ct (sq (rg (xw 9 [(20, .load (.string ((xs.getD i op0).text))), (22, .load (.agg #[.int .i64 ((xs.getD i op0).vk), .int .i64 ((xs.getD i op0).vn), .string ((xs.getD i op0).vt)])), (24, .load (.slice B_11 ((xs.getD i op0).attrs.length) c_12))] [(18, .slice A6 zs6.length c6), (26, .slice (some ⟨w_20.heap.size, 0, none⟩) 1 1)] [3, 5, 17] (w_20.alloc (.cells #[.int .i32 (-1), .string ((xs.getD i op0).text), .int .i64 ((xs.getD i op0).vk), .int .i64 ((xs.getD i op0).vn), .string ((xs.getD i op0).vt), .slice B_11 ((xs.getD i op0).attrs.length) c_12] 44)) [LoadsAs Tryd.prog 9 (⟨wl.heap.size, 1, none⟩) (.string ((xs.getD i op0).text)) w_20, LoadsAs Tryd.prog 41 (⟨wl.heap.size, 2, none⟩) (.agg #[.int .i64 ((xs.getD i op0).vk), .int .i64 ((xs.getD i op0).vn), .string ((xs.getD i op0).vt)]) w_20, LoadsAs Tryd.prog 42 (⟨wl.heap.size, 6, none⟩) (.slice B_11 ((xs.getD i op0).attrs.length) c_12) w_20] ⟨loads1 rfl (Blk.cell hk_22 1 _ rfl), loadsB rfl rfl hk_22 2 ⟨by kernel_rfl, by kernel_rfl⟩, loads1 rfl (Blk.cell hk_22 6 _ rfl), trivial⟩ ?_))))
   obtain ⟨w_25, hw_29, hb_26, hk_27, hz_28⟩ := new_world w_20 #[.int .i32 (-1), .string ((xs.getD i op0).text), .int .i64 ((xs.getD i op0).vk), .int .i64 ((xs.getD i op0).vn), .string ((xs.getD i op0).vt), .slice B_11 ((xs.getD i op0).attrs.length) c_12] 44
   rw [hw_29]
   have hB_30 : Below wl.heap.size wl w_25 := (bt (bg hb_16 hg_21 (Nat.le_refl _)) hb_26)
   have hR_31 := Kd.R_litB (kRaw 6) (W := w_20) (e := 44) (cs := #[.int .i32 (-1), .string ((xs.getD i op0).text), .int .i64 ((xs.getD i op0).vk), .int .i64 ((xs.getD i op0).vn), .string ((xs.getD i op0).vt), .slice B_11 ((xs.getD i op0).attrs.length) c_12]) [[.int .i32 (-1), .string ((xs.getD i op0).text), .int .i64 ((xs.getD i op0).vk), .int .i64 ((xs.getD i op0).vn), .string ((xs.getD i op0).vt), .slice B_11 ((xs.getD i op0).attrs.length) c_12]] hk_27 (rawL1 _ rfl (by kernel_rfl)) (Nat.le_of_ble_eq_true (by kernel_rfl))
   have hB_38 : Below w.heap.size w w_25 := (bt (bg (bt HB hb_16) hg_21 (HB).size) hb_26)
   refine XL_appendMixK (d := kCell) (W0 := w) (B := w.heap.size) (c' := 1) (m := 1) cell0 rfl rfl rfl 44 (.agg #[.int .i32 0, .string ByteArray.empty, .int .i64 0, .int .i64 0, .string ByteArray.empty, .slice none 0 0]) 80 Tryd.underlying28 info44 rfl (by decide) (by omega) zs6 [(⟨(-1), (xs.getD i op0).text, (xs.getD i op0).vk, (xs.getD i op0).vn, (xs.getD i op0).vt, (xs.getD i op0).attrs⟩ : CellA)] [[.int .i32 (-1), .string ((xs.getD i op0).text), .int .i64 ((xs.getD i op0).vk), .int .i64 ((xs.getD i op0).vn), .string ((xs.getD i op0).vt), .slice B_11 ((xs.getD i op0).attrs.length) c_12]] (by kernel_rfl) (MixK.below hm6 hB_30) (Kd.R_C hR_31) rfl (fun i_ hi_ => by have h_ : i_ = 0 := (by omega); subst h_; exact (kCell_K_of (x := (⟨(-1), (xs.getD i op0).text, (xs.getD i op0).vk, (xs.getD i op0).vn, (xs.getD i op0).vt, (xs.getD i op0).attrs⟩ : CellA)) hl_13 hC_14)) (hB_38).size (by omega) ?_
   intro A_32 c_33 w_34 hm_35 hg_36 hl_37
   refine xe0 1 [(3, .slice A_32 ((zs6 ++ [(⟨(-1), (xs.getD i op0).text, (xs.getD i op0).vk, (xs.getD i op0).vn, (xs.getD i op0).vt, (xs.getD i op0).attrs⟩ : CellA)]).length) c_33), (9, .slice A xs.length c), (10, .int .i64 (xs.length : Int)), (11, nv i)] ?_
   refine nl (X_exit (rg (xr 2 [(41, .eq (.int .i64 ((i : Int) + 1)))] [(11, .int .i64 ((i : Int) + 1))] [] [Value.int .i64 (IntKind.i64.wrap ((i : Int) + 1)) = Value.int .i64 ((i : Int) + 1)] ⟨wr_i64 (by omega) (by omega), trivial⟩ ?_)))
   refine nl ?_
   refine ⟨(i + 1, A_32, c_33, (zs6 ++ [(⟨(-1), (xs.getD i op0).text, (xs.getD i op0).vk, (xs.getD i op0).vn, (xs.getD i op0).vt, (xs.getD i op0).attrs⟩ : CellA)])), by kernel_rfl, ?_, ?_⟩
   ·exact ⟨by omega, by rw [cellsAll_take (by omega), ← he6]; rw [show cellsP (xs.getD i op0) = _ from if_pos c_24], hm_35, (bgo hB_38 hg_36 hl_37 (Nat.le_refl _))⟩
   (try dsimp only); omega
  refine xr 1 [(17, .eq (.bool false))] [(17, .bool false)] [16] [Value.bool ((xs.getD i op0).kind == 2) = Value.bool false] ⟨congrArg Value.bool (beq_eq_false_iff_ne.2 (c_24)), trivial⟩ ?_
  refine nl (cf (sk (sq (rg (xr 2 [(29, .load (.string ((xs.getD i op0).text)))] [(29, .string ((xs.getD i op0).text))] [17] [LoadsAs Tryd.prog 9 (⟨wl.heap.size, 1, none⟩) (.string ((xs.getD i op0).text)) w_20] ⟨loads1 rfl (Blk.cell hk_22 1 _ rfl), trivial⟩ ?_)))))
  refine XL_range (s := (xs.getD i op0).text) rfl rfl rfl Tryd.underlying9 rfl (fun w_39 hb_40 hi_41 => ?_)
  refine nl (X_block ?_)
  have hu1 := hu i (by omega) c_24
  have hsz1_ := (hz i (by omega)).1
  have hscl := U.sc_le (xs.getD i op0).text
  have hB_42 : Below wl.heap.size wl w_39 := (bt (bg hb_16 hg_21 (Nat.le_refl _)) hb_40)
  have hB_43 : Below w.heap.size w w_39 := (bt (bg (bt HB hb_16) hg_21 (HB).size) hb_40)
  refine X_loop (ι := Nat × Option Addr × Nat × List CellA) (fun ⟨j, A7, c7, zs7⟩ => [(3, .slice A7 zs7.length c7), (5, .pointer (some ⟨wl.heap.size, 0, none⟩)), (9, .slice A xs.length c), (10, .int .i64 (xs.length : Int)), (11, .int .i64 (i : Int)), (30, .pointer (some ⟨w_20.heap.size, 0, none⟩))]) (fun ⟨j, A7, c7, zs7⟩ wm => j ≤ (U.sc (xs.getD i op0).text).length ∧ wm.heap[w_20.heap.size]? = some (.stringIter (xs.getD i op0).text (U.pl (xs.getD i op0).text j)) ∧ zs7 = zs6 ++ ((U.sc (xs.getD i op0).text).take j).map (B.cR (xs.getD i op0).attrs) ∧ MixK kCell cell0 44 w.heap.size w wm A7 zs7.length c7 zs7 ∧ RX.Blk wm wl.heap.size 59 (o7A (xs.getD i op0) (.slice B_11 ((xs.getD i op0).attrs.length) c_12)) ∧ Below w.heap.size w wm) (fun ⟨j, A7, c7, zs7⟩ => (U.sc (xs.getD i op0).text).length - j) (0, A6, c6, zs6) ⟨Nat.zero_le _, by rw [U.pl_zero]; exact hi_41, by simp, (MixK.below hm6 hB_42), (Blk.below hk_22 hb_40), hB_43⟩ (by kernel_rfl) ?_
  rintro ⟨j, A7, c7, zs7⟩ wm ⟨hj, hit, he7, hm7, h5_, HC⟩
  have hzl : zs7.length = zs6.length + min j (U.sc (xs.getD i op0).text).length := by rw [he7, List.length_append, List.length_map, List.length_take]
  refine sq (rg (XL_next (s := (xs.getD i op0).text) (g := w_20.heap.size) (pos := (U.pl (xs.getD i op0).text j)) rfl rfl rfl rfl hit ?_ ?_))
  ·intro hp_44 w_45 hg_46 hi_47
   refine xr0 1 [(31, .tuple #[.bool true, .int .i64 ((U.pl (xs.getD i op0).text j) : Int), .int .i32 ((Utf8.decode ((xs.getD i op0).text) (U.pl (xs.getD i op0).text j)).1 : Int)]), (32, .bool true)] [] ?_
   refine nl (sq (ct (sk (bk (sq (X_region ?_))))))
   have hlt := (U.pl_lt_iff hu1 j hj).1 hp_44
   have hst := U.pl_step hu1 j hlt
   have hdr : ((Utf8.decode (xs.getD i op0).text (U.pl (xs.getD i op0).text j)).1 : Int) = (((U.sc (xs.getD i op0).text)[j] : Nat) : Int) := by rw [hst.1]
   have hm_48 := MixK.iter hm7 hit hg_46
   have hne5_ : wl.heap.size ≠ w_20.heap.size := fun e_ => by have h_ : _ = _ := h5_; rw [e_, hit] at h_; cases h_
   have hk_49 := Blk.off h5_ hg_46 (fun x_ e_ => by injection e_ with e_; subst e_; exact Ne.symm hne5_)
   refine xr0 2 [(7, .int .i32 ((Utf8.decode ((xs.getD i op0).text) (U.pl (xs.getD i op0).text j)).1 : Int))] [31, 32] ?_
   refine nl (rg (xw 6 [(37, .load (.slice B_11 ((xs.getD i op0).attrs.length) c_12))] [(34, .slice A7 zs7.length c7), (39, .slice (some ⟨w_45.heap.size, 0, none⟩) 1 1)] [3, 7] (w_45.alloc (.cells #[.int .i32 ((Utf8.decode ((xs.getD i op0).text) (U.pl (xs.getD i op0).text j)).1 : Int), .string ByteArray.empty, .int .i64 0, .int .i64 0, .string ByteArray.empty, .slice B_11 ((xs.getD i op0).attrs.length) c_12] 44)) [LoadsAs Tryd.prog 42 (⟨wl.heap.size, 6, none⟩) (.slice B_11 ((xs.getD i op0).attrs.length) c_12) w_45] ⟨loads1 rfl (Blk.cell hk_49 6 _ rfl), trivial⟩ ?_))
   obtain ⟨w_50, hw_54, hb_51, hk_52, hz_53⟩ := new_world w_45 #[.int .i32 ((Utf8.decode ((xs.getD i op0).text) (U.pl (xs.getD i op0).text j)).1 : Int), .string ByteArray.empty, .int .i64 0, .int .i64 0, .string ByteArray.empty, .slice B_11 ((xs.getD i op0).attrs.length) c_12] 44
   rw [hw_54]
   have hR_55 := Kd.R_litB (kRaw 6) (W := w_45) (e := 44) (cs := #[.int .i32 ((Utf8.decode ((xs.getD i op0).text) (U.pl (xs.getD i op0).text j)).1 : Int), .string ByteArray.empty, .int .i64 0, .int .i64 0, .string ByteArray.empty, .slice B_11 ((xs.getD i op0).attrs.length) c_12]) [[.int .i32 ((Utf8.decode ((xs.getD i op0).text) (U.pl (xs.getD i op0).text j)).1 : Int), .string ByteArray.empty, .int .i64 0, .int .i64 0, .string ByteArray.empty, .slice B_11 ((xs.getD i op0).attrs.length) c_12]] hk_52 (rawL1 _ rfl (by kernel_rfl)) (Nat.le_of_ble_eq_true (by kernel_rfl))
   have hB_62 : Below w.heap.size w w_50 := (bt (bg HC hg_46 ((bg (bt HB hb_16) hg_21 (HB).size)).size) hb_51)
   refine XL_appendMixK (d := kCell) (W0 := w) (B := w.heap.size) (c' := 1) (m := 1) cell0 rfl rfl rfl 44 (.agg #[.int .i32 0, .string ByteArray.empty, .int .i64 0, .int .i64 0, .string ByteArray.empty, .slice none 0 0]) 80 Tryd.underlying28 info44 rfl (by decide) (by omega) zs7 [(⟨((Utf8.decode ((xs.getD i op0).text) (U.pl (xs.getD i op0).text j)).1 : Int), ByteArray.empty, 0, 0, ByteArray.empty, (xs.getD i op0).attrs⟩ : CellA)] [[.int .i32 ((Utf8.decode ((xs.getD i op0).text) (U.pl (xs.getD i op0).text j)).1 : Int), .string ByteArray.empty, .int .i64 0, .int .i64 0, .string ByteArray.empty, .slice B_11 ((xs.getD i op0).attrs.length) c_12]] (by kernel_rfl) (MixK.below hm_48 hb_51) (Kd.R_C hR_55) rfl (fun i_ hi_ => by have h_ : i_ = 0 := (by omega); subst h_; exact (kCell_K_of (x := (⟨((Utf8.decode ((xs.getD i op0).text) (U.pl (xs.getD i op0).text j)).1 : Int), ByteArray.empty, 0, 0, ByteArray.empty, (xs.getD i op0).attrs⟩ : CellA)) hl_13 hC_14)) (hB_62).size (by omega) ?_
   intro A_56 c_57 w_58 hm_59 hg_60 hl_61
   have hi_63 := MixK.iter_kept ((hb_51.block _ (Array.getElem?_eq_some_iff.1 hi_47).1).trans hi_47) (MixK.below hm_48 hb_51) hg_60
   have hk_64 := Blk.off (Blk.below hk_49 hb_51) hg_60 (MixK.blk_ne (MixK.below hm_48 hb_51) (Blk.below hk_49 hb_51) rfl)
   refine xr0 1 [(3, .slice A_56 ((zs7 ++ [(⟨((Utf8.decode ((xs.getD i op0).text) (U.pl (xs.getD i op0).text j)).1 : Int), ByteArray.empty, 0, 0, ByteArray.empty, (xs.getD i op0).attrs⟩ : CellA)]).length) c_57)] [34, 39, 40] ?_
   refine nl ?_
   refine ⟨(j + 1, A_56, c_57, (zs7 ++ [(⟨((Utf8.decode ((xs.getD i op0).text) (U.pl (xs.getD i op0).text j)).1 : Int), ByteArray.empty, 0, 0, ByteArray.empty, (xs.getD i op0).attrs⟩ : CellA)])), by kernel_rfl, ?_, ?_⟩
   ·have hdc : (Utf8.decode (xs.getD i op0).text (U.pl (xs.getD i op0).text j)).2 = (U.enc (U.sc (xs.getD i op0).text)[j]).length := by rw [hst.1]
    rw [hdc, ← hst.2.1] at hi_63
    exact ⟨by omega, hi_63, by rw [hdr, he7, List.append_assoc]; exact congrArg (zs6 ++ ·) (came_snoc (xs.getD i op0).text (xs.getD i op0).attrs j hlt), hm_59, hk_64, (bgo hB_62 hg_60 hl_61 (Nat.le_refl _))⟩
   (try dsimp only); omega
  intro hp_65
  refine xr0 1 [(31, .tuple #[.bool false]), (32, .bool false)] [] ?_
  refine nl (sq (cf (X_exit (rg (xr 2 [(41, .eq (.int .i64 ((i : Int) + 1)))] [(11, .int .i64 ((i : Int) + 1))] [5, 30, 31, 32] [Value.int .i64 (IntKind.i64.wrap ((i : Int) + 1)) = Value.int .i64 ((i : Int) + 1)] ⟨wr_i64 (by omega) (by omega), trivial⟩ ?_)))))
  refine nl ?_
  refine ⟨(i + 1, A7, c7, zs7), by kernel_rfl, ?_, ?_⟩
  ·exact ⟨by omega, by rw [cellsAll_take (by omega), ← he6]; (have hend : j = (U.sc (xs.getD i op0).text).length := by have := mt (U.pl_lt_iff hu1 j hj).2 hp_65; omega); rw [hend, List.take_length] at he7; rw [he7, show cellsP (xs.getD i op0) = _ from if_neg c_24]; rfl, hm7, HC⟩
  (try dsimp only); omega
 refine xr 1 [(12, .eq (.bool false))] [(12, .bool false)] [] [Value.bool (decide ((i : Int) < (xs.length : Int))) = Value.bool false] ⟨congrArg Value.bool (decide_eq_false (c_7)), trivial⟩ ?_
 refine nl (sq (cf (X_exit (sq (rg (xe0 2 [(2, .slice A6 zs6.length c6)] ?_))))))
 refine nl (X_ret (rk [.slice A6 zs6.length c6] (hR_ _ _ ?_)))
 have hxi : xs.take i = xs := List.take_of_length_le (by omega)
 rw [hxi] at he6
 exact ⟨_, _, zs6, he6, rfl, MixK.low hm6 (Nat.le_refl _), HB⟩
end Go.Proofs.YtgphmfnkeolbcaaDoor
