/- vellumref21.Lines, At, Place, Touched, Text; vellumref10.Result of documents. Conditions: sizes. -/
import Derived.Test.YtgphmfnkeolbcaaGreatDoorT69
import Derived.Test.YtgphmfnkeolbcaaGreatDoorO3
set_option linter.unusedVariables false
set_option linter.unusedSimpArgs false
set_option maxRecDepth 100000
namespace Go.Proofs.YtgphmfnkeolbcaaGreatDoor
open Go Go.RowKit Go.Proofs.YtgphmfnkeolbcaaGreatDoorW.PrintWords RX
theorem len4_cells (o : OpA) (h : o.kind = 1 ∨ o.kind = 2) : len4 o = ((cellsP o).length : Int) := by
 rw [len4_op h]
 rcases h with h | h
 ·rw [cellsP_1 h, List.length_map]; exact if_pos h
 rw [cellsP_2 h]; unfold opLen; rw [if_neg (by omega), if_pos h]; rfl
theorem r10res_any (A : Option Addr) (c : Nat) (xs : List OpA) (w : World) (hx : kOp.C w A xs.length xs) (hn : xs.length ≤ 1100000) (hz : ∀ i, i < xs.length → opSz (xs.getD i op0)) (hL : (cellsAll xs).length ≤ 100000000) (hdoc : isDoc xs = true) : Calls Tryz.prog 64 #[.slice A xs.length c] w fun e w' => e = .returned (i6 ((cellsAll xs).length : Int)) ∧ Below w.heap.size w w' := by
 refine en Tryz.func64 rfl 31 [(0, aL A xs c)] (fun R_ hR_ => ?_)
 refine sg (xe0 1 [(0, aL A xs c)] ?_)
 refine nl (sg (xr0 1 [(3, i6 0)] [] ?_))
 refine nl (sq (sg (xr0 3 [(7, aL A xs c), (8, i6 (xs.length : Int)), (9, i6 0)] [0] ?_)))
 refine nl (bk (X_loop (ι := Nat × Nat) (fun ⟨i, n⟩ => [(3, i6 (n : Int)), (7, aL A xs c), (8, i6 (xs.length : Int)), (9, i6 (i : Int))]) (fun ⟨i, n⟩ wl => i ≤ xs.length ∧ n = (cellsAll (xs.take i)).length ∧ Below w.heap.size w wl) (fun ⟨i, n⟩ => xs.length - i) (0, 0) ⟨Nat.zero_le _, rfl, (Below.refl _ _)⟩ (by kernel_rfl) ?_))
 rintro ⟨i, n⟩ wl ⟨hi, he, HB⟩
 refine sq (X_region ?_)
 by_cases c_1 : (i : Int) < (xs.length : Int)
 ·refine xr1 1 [(10, .eq bT)] [(10, bT)] [] (dT c_1) ?_
  refine nl (sq (ct (sk (sq (bk (sq (X_region ?_)))))))
  obtain ⟨ad_2, B_5, c_6, ha_3, hc_4, hl_7, hC_8⟩ := Kd.atOp (Kd.C_below hx HB) (i := (i : Int)) (by omega) (by omega)
  replace hc_4 : CellsAt wl (ad_2.add ((i : Int).toNat * 7)) (o7L (xs.getD i op0) (aL B_5 (xs.getD i op0).attrs c_6)) := hc_4
  replace hl_7 : (xs.getD i op0).attrs.length ≤ c_6 := hl_7
  replace hC_8 : kAttr.C wl B_5 ((xs.getD i op0).attrs.length) (xs.getD i op0).attrs := hC_8
  refine xw 3 [(11, .idx ad_2), (12, .load (.agg (o7A (xs.getD i op0) (aL B_5 (xs.getD i op0).attrs c_6))))] [(5, pw wl.heap.size 0), (12, .agg (o7A (xs.getD i op0) (aL B_5 (xs.getD i op0).attrs c_6)))] [10] (wl.alloc (.cells #[i6 0, s0, i6 0, i6 0, s0, i6 0, .slice none 0 0] 102)) [A = some ad_2, (0 : Int) ≤ (i : Int), (i : Int) < (xs.length : Int), la 102 (ad_2.add ((i : Int).toNat * 7)) (.agg (o7A (xs.getD i op0) (aL B_5 (xs.getD i op0).attrs c_6))) wl] ⟨ha_3, (by omega), (by omega), loadsE rfl rfl hc_4 0 ⟨by kernel_rfl, by kernel_rfl⟩, trivial⟩ ?_
  obtain ⟨w_9, hw_13, hb_10, hk_11, hz_12⟩ := new_world wl #[i6 0, s0, i6 0, i6 0, s0, i6 0, .slice none 0 0] 102
  rw [hw_13]
  refine xst (.agg (o7A (xs.getD i op0) (aL B_5 (xs.getD i op0).attrs c_6))) hk_11 0 (o7A (xs.getD i op0) (aL B_5 (xs.getD i op0).attrs c_6)) (fun w_14 hg_15 hk_16 hz_17 => ?_)
  refine nl (sg (xr 1 [(13, .load (.agg (o7A (xs.getD i op0) (aL B_5 (xs.getD i op0).attrs c_6))))] [(13, .agg (o7A (xs.getD i op0) (aL B_5 (xs.getD i op0).attrs c_6)))] [12] [la 102 (⟨wl.heap.size, 0, none⟩) (.agg (o7A (xs.getD i op0) (aL B_5 (xs.getD i op0).attrs c_6))) w_14] ⟨loadsB rfl rfl hk_16 0 ⟨by kernel_rfl, by kernel_rfl⟩, trivial⟩ ?_))
  have hki_ := isDoc_at hdoc (show i < xs.length by omega)
  refine xc 129 ent129 [.agg (o7A (xs.getD i op0) (aL B_5 (xs.getD i op0).attrs c_6))] (r10ins_any (xs.getD i op0) _ _ _) ?_
  rintro e w_18 ⟨rfl, hb_19⟩; refine ⟨_, rfl, ?_⟩
  rw [decide_eq_true hki_]
  refine xr0 1 [(6, bT)] [13, 14] ?_
  refine nl (bk (sg (xr0 2 [(15, bT)] [6] ?_)))
  refine nl (ct (rg (xe 2 [(18, .load (.agg (o7A (xs.getD i op0) (aL B_5 (xs.getD i op0).attrs c_6))))] [(7, aL A xs c), (8, i6 (xs.length : Int)), (9, nv i), (17, nv n), (18, .agg (o7A (xs.getD i op0) (aL B_5 (xs.getD i op0).attrs c_6)))] [la 102 (⟨wl.heap.size, 0, none⟩) (.agg (o7A (xs.getD i op0) (aL B_5 (xs.getD i op0).attrs c_6))) w_18] ⟨loadsB rfl rfl (Blk.below hk_16 hb_19) 0 ⟨by kernel_rfl, by kernel_rfl⟩, trivial⟩ ?_)))
  have hB_20 : Below wl.heap.size wl w_18 := (bt (bg hb_10 hg_15 (Nat.le_refl _)) hb_19)
  refine xc 67 ent67 [.agg (o7A (xs.getD i op0) (aL B_5 (xs.getD i op0).attrs c_6))] (r4len_any (xs.getD i op0) _ _ _ (Kd.C_below hC_8 hB_20) (hz i (by omega))) ?_
  rintro e w_21 ⟨rfl, hb_22⟩; refine ⟨_, rfl, ?_⟩
  rw [len4_cells (xs.getD i op0) hki_]
  have hcap_ := congrArg List.length (cellsAll_take (xs := xs) (i := i) (by omega))
  rw [List.length_append] at hcap_
  have hcl_ : (cellsAll (xs.take (i + 1))).length ≤ (cellsAll xs).length := cellsAll_le xs (i + 1)
  refine xr 2 [(20, .eq (i6 ((cellsAll (xs.take (i + 1))).length : Int)))] [(3, i6 ((cellsAll (xs.take (i + 1))).length : Int))] [17, 18, 19] [i6 (IntKind.i64.wrap ((n : Int) + ((cellsP (xs.getD i op0)).length : Int))) = i6 ((cellsAll (xs.take (i + 1))).length : Int)] ⟨(by rw [show (n : Int) + ((cellsP (xs.getD i op0)).length : Int) = ((cellsAll (xs.take (i + 1))).length : Int) from by omega]; exact wr_i64 (by omega) (by omega)), trivial⟩ ?_
  refine nl (rg (xr1 2 [(29, .eq (i6 ((i : Int) + 1)))] [(9, i6 ((i : Int) + 1))] [] (w6 ((i : Int) + 1)) ?_))
  refine nl ?_
  have hB_23 : Below w.heap.size w w_21 := (bt (bt (bg (bt HB hb_10) hg_15 (HB).size) hb_19) hb_22)
  refine ⟨(i + 1, (cellsAll (xs.take (i + 1))).length), by kernel_rfl, ?_, ?_⟩
  ·exact ⟨by omega, rfl, hB_23⟩
  (try dsimp only); omega
 refine xr1 1 [(10, .eq bF)] [(10, bF)] [] (dF c_1) ?_
 refine nl (sq (cf (X_exit (sg (xe0 2 [(2, nv n)] ?_)))))
 refine nl (X_ret (rj [i6 (n : Int)] hR_ ?_))
 have hxi : xs.take i = xs := List.take_of_length_le (by omega)
 rw [hxi] at he
 rw [← he]
 exact ⟨rfl, HB⟩
theorem cellsAll_att {xs : List OpA} (hz : ∀ i, i < xs.length → opSz (xs.getD i op0)) : ∀ c ∈ cellsAll xs, c.attrs.length ≤ 100000000 := by
 intro c hc
 obtain ⟨o, ho, hc⟩ := List.mem_flatMap.1 hc
 have h1 : opSz o := by
  obtain ⟨i, hi, rfl⟩ := List.getElem_of_mem ho
  have h1 := hz i hi
  rwa [List.getD_eq_getElem?_getD, List.getElem?_eq_getElem hi] at h1
 obtain ⟨j, hj, rfl⟩ := List.getElem_of_mem hc
 have h2 := cellsP_len h1 hj
 rwa [List.getD_eq_getElem?_getD, List.getElem?_eq_getElem hj] at h2
theorem ln_sub {zs : List CellA} {i : Nat} (hi : i ≤ zs.length) : (lnRun (zs.take i)).2.2.1 ≤ i ∧ (lnRun (zs.take i)).2.1 = ((zs.take i).drop (lnRun (zs.take i)).2.2.1).map letL ∧ (lnRun (zs.take i)).2.1.length = i - (lnRun (zs.take i)).2.2.1 ∧ (lnRun (zs.take i)).2.2.2 = i ∧ (lnRun (zs.take i)).1.length ≤ i := by
 obtain ⟨h1, h2, h3, h4⟩ := lnRun_inv (zs.take i)
 rw [List.length_take, Nat.min_eq_left hi] at h1 h2 h4
 exact ⟨by omega, h3, by omega, h1, h4⟩
set_option maxHeartbeats 1000000 in
theorem r21lines_any (A : Option Addr) (c : Nat) (xs : List OpA) (w : World) (hx : kOp.C w A xs.length xs) (hn : xs.length ≤ 1100000) (hz : ∀ i, i < xs.length → opSz (xs.getD i op0)) (hL : (cellsAll xs).length ≤ 100000000) : Calls Tryz.prog 37 #[.slice A xs.length c] w fun e w' => ∃ A' c' ls, ls = lnOf xs ∧ e = .returned (.tuple #[.slice A' ls.length c', i6 (lnErr xs : Int)]) ∧ ls.length ≤ c' ∧ kLine.R 78 w' w.heap.size (OkFrom w.heap.size) (.slice A' ls.length c') ls ∧ Below w.heap.size w w' := by
 refine en Tryz.func37 rfl 49 [(0, aL A xs c)] (fun R_ hR_ => ?_)
 refine sg (xe0 2 [(0, aL A xs c)] ?_)
 refine nl (sg (xr0 1 [(10, aL A xs c)] [] ?_))
 refine xc 104 ent104 [aL A xs c] (r21refuse_any _ _ xs _ hx hn hz hL) ?_
 rintro e w_1 ⟨rfl, hb_2⟩; refine ⟨_, rfl, ?_⟩
 refine xr0 1 [(4, i6 (lnErr xs : Int))] [10, 11] ?_
 refine nl (sq (sg (xr0 1 [(12, i6 (lnErr xs : Int))] [] ?_)))
 by_cases c_3 : (lnErr xs : Int) = 0
 ·refine xr1 1 [(13, .eq bF)] [(13, bF)] [12] (nF c_3) ?_
  refine nl (cf (sk (sg (xw 1 [] [(15, .slice (some ⟨w_1.heap.size, 0, none⟩) 0 0)] [4, 13] (w_1.alloc (.cells #[] 78)) [] trivial ?_))))
  obtain ⟨w_4, hw_8, hb_5, hk_6, hz_7⟩ := new_world w_1 #[] 78
  rw [hw_8]
  refine xe0 1 [(0, aL A xs c), (5, .slice (some ⟨w_1.heap.size, 0, none⟩) 0 0)] ?_
  refine nl (sg (xr0 1 [(6, i6 0)] [] ?_))
  refine nl (sg (xr0 1 [(16, aL A xs c)] [0] ?_))
  refine xc 52 ent52 [aL A xs c] (r10cells_any _ _ xs _ (Kd.C_below hx (bt hb_2 hb_5)) hn hz hL) ?_
  rintro e w_15 ⟨A_9, c_10, zs_11, ez_12, rfl, hl_13, hr_14, hb_16⟩; refine ⟨_, rfl, ?_⟩
  have hzl_ : zs_11.length = (cellsAll xs).length := by rw [ez_12]
  refine xr0 1 [(7, aL A_9 zs_11 c_10)] [16, 17] ?_
  refine nl (sq (sg (xr0 3 [(18, aL A_9 zs_11 c_10), (19, i6 (zs_11.length : Int)), (20, i6 0)] [] ?_)))
  refine nl (X_block ?_)
  have hr_17 := Kd.R_litB kLine (W := w_1) (e := 78) (cs := #[]) [] hk_6 (repsLine0) (Nat.le_of_ble_eq_true (by kernel_rfl))
  refine X_loop (ι := Nat × Option Addr × Nat × List LineA × Nat) (fun ⟨i, A5, c5, ls5, fr⟩ => [(5, aL A5 ls5 c5), (6, i6 (fr : Int)), (7, aL A_9 zs_11 c_10), (18, aL A_9 zs_11 c_10), (19, i6 (zs_11.length : Int)), (20, i6 (i : Int))]) (fun ⟨i, A5, c5, ls5, fr⟩ wl => i ≤ zs_11.length ∧ ls5 = (lnRun (zs_11.take i)).1 ∧ fr = (lnRun (zs_11.take i)).2.2.1 ∧ kLine.R 78 wl w_1.heap.size (OkFrom w_1.heap.size) (aL A5 ls5 c5) ls5 ∧ kCell.R 51 wl w_4.heap.size (OkFrom w_4.heap.size) (aL A_9 zs_11 c_10) zs_11 ∧ w_1.heap.size ≤ wl.heap.size ∧ w_4.heap.size ≤ wl.heap.size ∧ Below w.heap.size w wl) (fun ⟨i, A5, c5, ls5, fr⟩ => zs_11.length - i) (0, (some ⟨w_1.heap.size, 0, none⟩), 0, [], 0) ⟨Nat.zero_le _, rfl, rfl, (Kd.R_below hr_17 hb_16), hr_14, ((bt hb_5 hb_16)).size, (hb_16).size, (bt (bt hb_2 hb_5) hb_16)⟩ (by kernel_rfl) ?_
  rintro ⟨i, A5, c5, ls5, fr⟩ wl ⟨hi, he5, hfr, hr5, hCl, hle5, hleC, HB⟩
  have hat_ := fun (h_ : i < zs_11.length) => cellsAll_att hz (zs_11.getD i cell0) (by rw [← ez_12]; exact getD_mem cell0 h_)
  obtain ⟨hs1_, hs2_, hs3_, hs4_, hs5_⟩ := ln_sub (zs := zs_11) (i := i) (by omega)
  have hl5_ : ls5.length ≤ i := by rw [he5]; exact hs5_
  rw [← hfr] at hs1_ hs2_ hs3_
  have hrun_ : lnRun (zs_11.take i) = (ls5, (lnRun (zs_11.take i)).2.1, fr, i) := by rw [he5, hfr]; exact Prod.ext rfl (Prod.ext rfl (Prod.ext rfl hs4_))
  refine sq (X_region ?_)
  by_cases c_18 : (i : Int) < (zs_11.length : Int)
  ·refine xr1 1 [(21, .eq bT)] [(21, bT)] [] (dT c_18) ?_
   refine nl (sq (ct (sk (sq (bk (sg (xr0 1 [(22, nv i)] [21] ?_)))))))
   obtain ⟨ad_19, B_22, c_23, ha_20, hc_21, hl_24, hC_25⟩ := Kd.atCell (Kd.R_C hCl) (i := (i : Int)) (by omega) (by omega)
   replace hc_21 : CellsAt wl (ad_19.add ((i : Int).toNat * 6)) (c6L (zs_11.getD i cell0) (aL B_22 (zs_11.getD i cell0).attrs c_23)) := hc_21
   replace hl_24 : (zs_11.getD i cell0).attrs.length ≤ c_23 := hl_24
   replace hC_25 : kAttr.C wl B_22 ((zs_11.getD i cell0).attrs.length) (zs_11.getD i cell0).attrs := hC_25
   refine xw 3 [(23, .idx ad_19), (24, .load (.agg (c6A (zs_11.getD i cell0) (aL B_22 (zs_11.getD i cell0).attrs c_23))))] [(9, pw wl.heap.size 0), (24, .agg (c6A (zs_11.getD i cell0) (aL B_22 (zs_11.getD i cell0).attrs c_23)))] [] (wl.alloc (.cells #[.int .i32 0, s0, i6 0, i6 0, s0, .slice none 0 0] 51)) [A_9 = some ad_19, (0 : Int) ≤ (i : Int), (i : Int) < (zs_11.length : Int), la 51 (ad_19.add ((i : Int).toNat * 6)) (.agg (c6A (zs_11.getD i cell0) (aL B_22 (zs_11.getD i cell0).attrs c_23))) wl] ⟨ha_20, (by omega), (by omega), loadsE rfl rfl hc_21 0 ⟨by kernel_rfl, by kernel_rfl⟩, trivial⟩ ?_
   obtain ⟨w_26, hw_30, hb_27, hk_28, hz_29⟩ := new_world wl #[.int .i32 0, s0, i6 0, i6 0, s0, .slice none 0 0] 51
   rw [hw_30]
   refine xr0 1 [(8, nv i)] [22] ?_
   refine xst (.agg (c6A (zs_11.getD i cell0) (aL B_22 (zs_11.getD i cell0).attrs c_23))) hk_28 0 (c6A (zs_11.getD i cell0) (aL B_22 (zs_11.getD i cell0).attrs c_23)) (fun w_31 hg_32 hk_33 hz_34 => ?_)
   have hr_35 := Kd.R_off (Kd.R_below hr5 hb_27) hk_28 (by decide) hg_32
   refine nl (sq (X_region ?_))
   have hat2_ := hat_ (by omega)
   refine xr1 2 [(26, .load (.int .i32 ((zs_11.getD i cell0).rune)))] [(26, .int .i32 ((zs_11.getD i cell0).rune))] [24] (lc 21 hk_33 0) ?_
   by_cases c_36 : (zs_11.getD i cell0).rune = 10
   ·refine xe1 1 [(27, .eq bT)] [(5, aL A5 ls5 c5), (6, nv fr), (7, aL A_9 zs_11 c_10), (8, nv i), (9, pw wl.heap.size 0), (18, aL A_9 zs_11 c_10), (19, i6 (zs_11.length : Int)), (20, nv i), (27, bT)] (bE c_36) ?_
    refine nl (ct (sq (X_grow [16] 18 (tf 0 18) (by kernel_rfl) (by kernel_rfl) (by kernel_rfl) (fun wd_37 hb_38 hh_39 => ?_))))
    obtain ⟨A_40, hA_41⟩ : ∃ A_, (if c_10 = fr then A_9 else A_9.map (·.add (fr * 6))) = A_ := ⟨_, rfl⟩
    have hC_42 : kCell.C wl A_40 (i - fr) ((zs_11.take i).drop fr) := by have h := RX.Kd.C_lh (Kd.R_C hCl) (i := fr) (j := i) (cap := c_10) (by omega) (by omega) (by omega); first | (rw [← hA_41]; exact h)
    refine XB_run (fuel' := 7) (Below.refl _ _) [0, 1, 2, 3, 4, 6, 7, 9, 10, 11, 12] [(32, .eq (i6 ((i : Int) - (fr : Int)))), (35, .load (aL B_22 (zs_11.getD i cell0).attrs c_23)), (40, .as (.slice A_40 (i - fr) (c_10 - fr)))] [.slice A5 ls5.length c5, i6 (fr : Int), i6 (i : Int), i6 (fr : Int), i6 ((i : Int) - (fr : Int)), pw wl.heap.size 5, .slice B_22 ((zs_11.getD i cell0).attrs.length) c_23, .slice A_9 zs_11.length c_10, i6 (fr : Int), i6 (i : Int), .slice A_40 (i - fr) (c_10 - fr)] #[true, true, true, true, true, false, true, true, false, true, true, true, true, false, false, false, false, false] [(7, aL A_9 zs_11 c_10), (8, i6 (i : Int)), (18, aL A_9 zs_11 c_10), (19, i6 (zs_11.length : Int)), (20, i6 (i : Int)), (28, aL A5 ls5 c5), (29, i6 (fr : Int)), (32, i6 ((i : Int) - (fr : Int))), (35, aL B_22 (zs_11.getD i cell0).attrs c_23), (40, .slice A_40 (i - fr) (c_10 - fr))] (fun w_ => [i6 (IntKind.i64.wrap ((i : Int) - (fr : Int))) = i6 ((i : Int) - (fr : Int)), la 49 (⟨wl.heap.size, 5, none⟩) (aL B_22 (zs_11.getD i cell0).attrs c_23) w_, RunsAs Tryz.prog [(37, aL A_9 zs_11 c_10), (38, i6 (fr : Int)), (39, i6 (i : Int))] (Go.Op.slice 39 (Go.Operand.tmp 37) (some (Go.Operand.tmp 38)) (some (Go.Operand.tmp 39)) none) 39 (.slice A_40 (i - fr) (c_10 - fr)) w_]) (fun w_ hC_ => ⟨wr_i64 (by omega) (by omega), loads1 rfl (Blk.cell (Blk.below hk_33 (bt hb_38 hC_)) 5 _ rfl), (hA_41 ▸ RX.runs_slice_lh (i := (fr : Int)) (j := (i : Int)) rfl rfl rfl rfl rfl (by omega) (by omega) (by omega)), trivial⟩) ?_
    refine XB_mid (fuel' := 6) 5 #[true, true, true, true, true, true, true, true, false, true, true, true, true, false, false, false, false, false] _ rfl (by kernel_rfl) (by kernel_rfl) rfl ?_
    refine xw 1 [] [(33, .slice (some ⟨wd_37.heap.size, 0, none⟩) 0 0)] [] (wd_37.alloc (.cells #[] 57)) [] trivial ?_
    obtain ⟨w_43, hw_47, hb_44, hk_45, hz_46⟩ := new_world wd_37 #[] 57
    rw [hw_47]
    refine nl ?_
    refine ⟨hb_44, ?_⟩
    refine XB_mid (fuel' := 5) 8 (tf 13 5) _ rfl (by kernel_rfl) (by kernel_rfl) rfl ?_
    have hr_48 := Kd.R_litB kAttr (W := wd_37) (e := 57) (cs := #[]) [] hk_45 (repsAttr []) (Nat.le_of_ble_eq_true (by kernel_rfl))
    have hB_49 : Below wl.heap.size wl w_43 := (bt (bt (bg hb_27 hg_32 (Nat.le_refl _)) hb_38) hb_44)
    refine XL_appendAll (c' := c_23) kAttr rfl rfl rfl wd_37.heap.size 57 (.agg #[s0, i6 0, i6 0, s0]) 48 Tryz.underlying49 info57 rfl (by decide) (by omega) ([]) ((zs_11.getD i cell0).attrs) (by kernel_rfl) hr_48 (Kd.C_below hC_25 hB_49) kAttr_KM (hb_44).size (by simp only [List.length_nil]; omega) ?_
    intro A_50 c_51 w_52 hr_53 hc_54 hg_55 hl_56 ha_57
    have hB_58 : Below w_31.heap.size w_31 w_52 := (bgo (bt hb_38 hb_44) hg_55 hl_56 (hb_38).size)
    have hB_59 : Below wl.heap.size wl wd_37 := (bt (bg hb_27 hg_32 (Nat.le_refl _)) hb_38)
    have he_62 : ([] ++ ((zs_11.getD i cell0).attrs)) = ((zs_11.getD i cell0).attrs) := List.nil_append _
    rw [he_62] at hr_53 ⊢
    refine nl ?_
    refine ⟨(bgo hb_44 hg_55 hl_56 (Nat.le_refl _)), ?_⟩
    refine XB_mid (fuel' := 4) 13 (tf 14 4) _ rfl (by kernel_rfl) (by kernel_rfl) rfl ?_
    refine xc 105 ent105 [.slice A_40 (i - fr) (c_10 - fr)] (by have h_ := r21text_any A_40 (c_10 - fr) ((zs_11.take i).drop fr) _ (by rw [show ((zs_11.take i).drop fr).length = (i - fr) from by rw [List.length_drop, List.length_take]; omega]; exact (Kd.C_below hC_42 (bgo hB_49 hg_55 hl_56 (hB_59).size))) (by rw [List.length_drop, List.length_take]; omega) (fun c_ h_ => sc_letL c_ (by rw [← ez_12]; exact List.mem_of_mem_take (List.mem_of_mem_drop h_))); rw [show ((zs_11.take i).drop fr).length = (i - fr) from by rw [List.length_drop, List.length_take]; omega] at h_; exact h_) ?_
    rintro e w_63 ⟨rfl, hb_64⟩; refine ⟨_, rfl, ?_⟩
    refine nl ?_
    have hB_65 : Below wd_37.heap.size wd_37 w_63 := (bt (bgo hb_44 hg_55 hl_56 (Nat.le_refl _)) hb_64)
    refine ⟨hB_65, ?_⟩
    refine XB_run (fuel' := 3) hB_65 [14] [] [.agg #[i6 (fr : Int), i6 ((i : Int) - (fr : Int)), .slice A_50 (((zs_11.getD i cell0).attrs).length) c_51, sT (lnText ((zs_11.take i).drop fr))]] (tf 15 3) [(7, aL A_9 zs_11 c_10), (8, i6 (i : Int)), (18, aL A_9 zs_11 c_10), (19, i6 (zs_11.length : Int)), (20, i6 (i : Int)), (28, aL A5 ls5 c5), (42, .agg #[i6 (fr : Int), i6 ((i : Int) - (fr : Int)), .slice A_50 (((zs_11.getD i cell0).attrs).length) c_51, sT (lnText ((zs_11.take i).drop fr))])] (fun w_ => []) (fun w_ hC_ => trivial) ?_
    refine XB_mid (fuel' := 2) 15 (tf 16 2) _ rfl (by kernel_rfl) (by kernel_rfl) rfl ?_
    refine xw 1 [] [(43, .slice (some ⟨w_63.heap.size, 0, none⟩) 1 1)] [42] (w_63.alloc (.cells #[i6 (fr : Int), i6 ((i : Int) - (fr : Int)), .slice A_50 (((zs_11.getD i cell0).attrs).length) c_51, sT (lnText ((zs_11.take i).drop fr))] 78)) [] trivial ?_
    obtain ⟨w_66, hw_70, hb_67, hk_68, hz_69⟩ := new_world w_63 #[i6 (fr : Int), i6 ((i : Int) - (fr : Int)), .slice A_50 (((zs_11.getD i cell0).attrs).length) c_51, sT (lnText ((zs_11.take i).drop fr))] 78
    rw [hw_70]
    refine nl ?_
    refine ⟨(bt hB_65 hb_67), ?_⟩
    refine XB_act (fuel' := 1) 16 (tf 17 1) _ rfl (by kernel_rfl) rfl (by kernel_rfl) rfl ?_
    obtain ⟨okp_71, hM_72, hok_73⟩ := Kd.M_rowApart (Kd.R_below hr_53 hb_64) (Nat.le_trans hle5 (Nat.le_trans (Nat.le_trans hb_27.size hg_32.size) hb_38.size)) (Kd.R_below hr_35 (bt hB_58 hb_64)) (by decide)
    rw [← hw_70]
    refine XL_append kLine rfl rfl rfl w_1.heap.size 78 (.agg #[i6 0, i6 0, .slice none 0 0, s0]) 56 Tryz.underlying66 info78 rfl (by decide) (by omega) ls5 (⟨(fr : Int), (i : Int) - (fr : Int), ((zs_11.getD i cell0).attrs), (lnText ((zs_11.take i).drop fr))⟩ : LineA) [i6 (fr : Int), i6 ((i : Int) - (fr : Int)), .slice A_50 (((zs_11.getD i cell0).attrs).length) c_51, sT (lnText ((zs_11.take i).drop fr))] okp_71 (by kernel_rfl) (kLine_M (x := (⟨(fr : Int), (i : Int) - (fr : Int), ((zs_11.getD i cell0).attrs), (lnText ((zs_11.take i).drop fr))⟩ : LineA)) hM_72) hok_73 (Kd.R_below hr_35 (bt hB_58 hb_64)) (Nat.le_trans hle5 (Nat.le_trans (Nat.le_trans (Nat.le_trans (Nat.le_trans (Nat.le_trans hb_27.size hg_32.size) hb_38.size) hb_44.size) hg_55.size) hb_64.size)) (by first | omega | (simp; omega)) ?_
    intro A_74 c_75 w_76 hr_77 hc_78 hg_79 hl_80 ha_81
    have hB_84 : Below wl.heap.size wl w_63 := (bt (bgo hB_49 hg_55 hl_56 (hB_59).size) hb_64)
    have hr_83 := Kd.R_apart (Kd.R_below hCl hB_84) (Kd.R_below hr_35 (bt hB_58 hb_64)) (by decide) hg_79
    refine nl (XB_pure (fuel' := 0) [17] [] [aL A_74 (ls5 ++ [(⟨(fr : Int), (i : Int) - (fr : Int), ((zs_11.getD i cell0).attrs), (lnText ((zs_11.take i).drop fr))⟩ : LineA)]) c_75] (tf 18 0) [(5, aL A_74 (ls5 ++ [(⟨(fr : Int), (i : Int) - (fr : Int), ((zs_11.getD i cell0).attrs), (lnText ((zs_11.take i).drop fr))⟩ : LineA)]) c_75), (7, aL A_9 zs_11 c_10), (8, i6 (i : Int)), (18, aL A_9 zs_11 c_10), (19, i6 (zs_11.length : Int)), (20, i6 (i : Int))] (fun w_ => []) (fun _ _ _ _ h => h) (fun w_ => by kernel_rfl) rfl (fun w_ => trivial) ?_)
    refine XB_done (by kernel_rfl) ?_
    refine rg (xr1 3 [(46, .eq (i6 ((i : Int) + 1)))] [(6, i6 ((i : Int) + 1))] [8] (w6 ((i : Int) + 1)) ?_)
    refine nl (rg (xr1 2 [(47, .eq (i6 ((i : Int) + 1)))] [(20, i6 ((i : Int) + 1))] [] (w6 ((i : Int) + 1)) ?_))
    refine nl ?_
    have hnl_ := lnRun_nl (cs := (zs_11.take i)) c_36; rw [← cells_take (by omega), hrun_] at hnl_
    have heq_ : (⟨(fr : Int), ((lnRun (zs_11.take i)).2.1.length : Int), (zs_11.getD i cell0).attrs, runesBytes (lnRun (zs_11.take i)).2.1⟩ : LineA) = ⟨(fr : Int), (i : Int) - (fr : Int), (zs_11.getD i cell0).attrs, lnText ((zs_11.take i).drop fr)⟩ := by rw [hs3_, show ((i - fr : Nat) : Int) = (i : Int) - (fr : Int) from by omega, hs2_]; rfl
    rw [heq_] at hnl_
    have hB_87 : Below w.heap.size w wd_37 := (bt (bg (bt HB hb_27) hg_32 (HB).size) hb_38)
    have hB_88 : Below w.heap.size w w_76 := (bgo (bt (bgo (bt (bt (bg (bt HB hb_27) hg_32 (HB).size) hb_38) hb_44) hg_55 hl_56 (hB_87).size) hb_64) hg_79 hl_80 (hb_2).size)
    refine ⟨(i + 1, A_74, c_75, (ls5 ++ [(⟨(fr : Int), (i : Int) - (fr : Int), ((zs_11.getD i cell0).attrs), (lnText ((zs_11.take i).drop fr))⟩ : LineA)]), i + 1), by kernel_rfl, ?_, ?_⟩
    ·exact ⟨by omega, by rw [hnl_], by rw [hnl_], hr_77, hr_83, (Nat.le_trans hle5 (Nat.le_trans (Nat.le_trans (Nat.le_trans (Nat.le_trans (Nat.le_trans (Nat.le_trans hb_27.size hg_32.size) hb_38.size) hb_44.size) hg_55.size) hb_64.size) hg_79.size)), (Nat.le_trans hleC (Nat.le_trans (Nat.le_trans (Nat.le_trans (Nat.le_trans (Nat.le_trans (Nat.le_trans hb_27.size hg_32.size) hb_38.size) hb_44.size) hg_55.size) hb_64.size) hg_79.size)), hB_88⟩
    (try dsimp only); omega
   refine xe1 1 [(27, .eq bF)] [(5, aL A5 ls5 c5), (6, nv fr), (7, aL A_9 zs_11 c_10), (8, nv i), (9, pw wl.heap.size 0), (18, aL A_9 zs_11 c_10), (19, i6 (zs_11.length : Int)), (20, nv i), (27, bF)] (bN c_36) ?_
   refine nl (cf (sk (rg (xr1 2 [(47, .eq (i6 ((i : Int) + 1)))] [(20, i6 ((i : Int) + 1))] [8, 9, 27] (w6 ((i : Int) + 1)) ?_))))
   refine nl ?_
   have htx_ := lnRun_tx (cs := (zs_11.take i)) c_36; rw [← cells_take (by omega), hrun_] at htx_
   refine ⟨(i + 1, A5, c5, ls5, fr), by kernel_rfl, ?_, ?_⟩
   ·exact ⟨by omega, by rw [htx_], by rw [htx_], hr_35, (Kd.R_below hCl (bg hb_27 hg_32 (Nat.le_refl _))), (Nat.le_trans hle5 (Nat.le_trans hb_27.size hg_32.size)), (Nat.le_trans hleC (Nat.le_trans hb_27.size hg_32.size)), (bg (bt HB hb_27) hg_32 (HB).size)⟩
   (try dsimp only); omega
  refine xr1 1 [(21, .eq bF)] [(21, bF)] [] (dF c_18) ?_
  refine nl (sq (cf (X_exit (sg (xe0 3 [(2, aL A5 ls5 c5), (3, i6 0)] ?_)))))
  refine nl (X_ret (rj [.slice A5 ls5.length c5, i6 0] hR_ ?_))
  have hxi : zs_11.take i = zs_11 := List.take_of_length_le (by omega)
  rw [hxi, ez_12] at he5
  have hz0_ : lnErr xs = 0 := by omega
  have hf_ : lnOf xs = (lnRun (cellsAll xs)).1 := if_pos hz0_
  rw [hz0_]
  exact ⟨_, _, ls5, he5.trans hf_.symm, rfl, (RX.Kd.R_len hr5).2, Kd.R_low hr5 (hb_2).size, HB⟩
 refine xr1 1 [(13, .eq bT)] [(13, bT)] [12] (nT c_3) ?_
 refine nl (ct (sg (xe0 3 [(2, .slice none 0 0), (3, i6 (lnErr xs : Int))] ?_)))
 refine nl (X_ret (rj [.slice none 0 0, i6 (lnErr xs : Int)] hR_ ?_))
 have hf_ : lnOf xs = [] := if_neg (by omega)
 exact ⟨none, 0, [], hf_.symm, rfl, Nat.le_refl _, Kd.R_nil _ _ _ _ _, hb_2⟩
theorem ln_mono (ls : List LineA) (k : Int) (h : lnChain k ls) : ∀ i, i < ls.length → ∀ j, j < i → (ls.getD j line0).from_ + (ls.getD j line0).len < (ls.getD i line0).from_ := by
 intro i
 induction i with
 | zero => intro _ j hj; exact absurd hj (Nat.not_lt_zero _)
 | succ i ih =>
  intro hi j hj
  obtain ⟨_, _, _, _, e⟩ := lnChain_at ls k h (i + 1) hi
  have e1 := e i rfl
  obtain ⟨_, hb, _⟩ := lnChain_at ls k h i (by omega)
  by_cases hji : j = i
  ·subst hji; omega
  have := ih (by omega) j (by omega); omega
theorem lnOf_chain (xs : List OpA) : lnChain 0 (lnOf xs) := by
 unfold lnOf
 split
 ·exact (lnRun_chain _).1
 trivial
theorem lnFind_eq {xs : List OpA} {p : Int} {i : Nat} (hi : i < (lnOf xs).length) (h1 : ((lnOf xs).getD i line0).from_ ≤ p) (h2 : p ≤ ((lnOf xs).getD i line0).from_ + ((lnOf xs).getD i line0).len) : lnFind p (lnOf xs) = i ∧ 0 ≤ p := by
 have hc := lnOf_chain xs
 refine ⟨lnFind_of (by omega) (fun j hj => ?_) (fun _ => h2), ?_⟩
 ·have := ln_mono _ _ hc i hi j hj; omega
 have := (lnChain_at _ _ hc i hi).1; omega
theorem lnFind_no {xs : List OpA} {p : Int} (h : ∀ j, j < (lnOf xs).length → ¬ (((lnOf xs).getD j line0).from_ ≤ p ∧ p ≤ ((lnOf xs).getD j line0).from_ + ((lnOf xs).getD j line0).len)) : p < 0 ∨ lnFind p (lnOf xs) = (lnOf xs).length := by
 have hc := lnOf_chain xs
 by_cases hp : p < 0
 ·exact .inl hp
 refine .inr (Decidable.byContradiction fun hne => ?_)
 have hle := lnFind_le p (lnOf xs)
 have hlt : lnFind p (lnOf xs) < (lnOf xs).length := by omega
 have h2 := lnFind_at p _ hlt
 obtain ⟨_, _, _, e0, e1⟩ := lnChain_at _ _ hc _ hlt
 refine h _ hlt ⟨?_, h2⟩
 cases hk : lnFind p (lnOf xs) with
 | zero => rw [hk] at e0; rw [e0 rfl]; omega
 | succ k =>
  have h3 := lnFind_lt p (lnOf xs) k (by omega)
  rw [hk] at e1
  rw [e1 k rfl]; omega
set_option maxHeartbeats 1000000 in
theorem r21at_any (A : Option Addr) (c : Nat) (xs : List OpA) (p : Int) (w : World) (hx : kOp.C w A xs.length xs) (hn : xs.length ≤ 1100000) (hz : ∀ i, i < xs.length → opSz (xs.getD i op0)) (hL : (cellsAll xs).length ≤ 100000000) (hp0 : -9223372036854775808 ≤ p ∧ p ≤ 9223372036854775807) : Calls Tryz.prog 46 #[.slice A xs.length c, i6 p] w fun e w' => e = .returned (.tuple #[i6 (lnAt xs p).1, i6 (lnAt xs p).2.1, i6 ((lnAt xs p).2.2 : Int)]) ∧ Below w.heap.size w w' := by
 refine en Tryz.func46 rfl 45 [(0, aL A xs c), (1, i6 p)] (fun R_ hR_ => ?_)
 refine sg (xe0 3 [(0, aL A xs c), (1, i6 p)] ?_)
 refine nl (sg (xr0 1 [(12, aL A xs c)] [0] ?_))
 refine xc 37 ent37 [aL A xs c] (r21lines_any _ _ xs _ hx hn hz hL) ?_
 rintro e w_7 ⟨A_1, c_2, ls_3, el_4, rfl, hl_5, hr_6, hb_8⟩; refine ⟨_, rfl, ?_⟩
 have hC_9 := Kd.R_C hr_6
 have hbd_ : ∀ j, j < ls_3.length → 0 ≤ (ls_3.getD j line0).from_ ∧ 0 ≤ (ls_3.getD j line0).len ∧ (ls_3.getD j line0).from_ + (ls_3.getD j line0).len < ((cellsAll xs).length : Int) := by rw [el_4]; exact fun j h_ => lnOf_bd xs h_
 have hll_ : ls_3.length ≤ (cellsAll xs).length := by rw [el_4]; exact lnOf_len xs
 refine xr0 5 [(7, aL A_1 ls_3 c_2), (8, i6 (lnErr xs : Int))] [12, 13] ?_
 refine nl (sq (sg (xr0 1 [(16, i6 (lnErr xs : Int))] [] ?_)))
 by_cases c_10 : (lnErr xs : Int) = 0
 ·refine xr1 1 [(17, .eq bF)] [(17, bF)] [16] (nF c_10) ?_
  refine nl (cf (sk (sq (sg (xr0 3 [(19, aL A_1 ls_3 c_2), (20, i6 (ls_3.length : Int)), (21, i6 0)] [7, 8, 17] ?_)))))
  refine nl (bk (X_loop (ι := Nat) (fun i => [(1, i6 p), (19, aL A_1 ls_3 c_2), (20, i6 (ls_3.length : Int)), (21, i6 (i : Int))]) (fun i wl => i ≤ ls_3.length ∧ (∀ j, j < i → ¬ ((ls_3.getD j line0).from_ ≤ p ∧ p ≤ (ls_3.getD j line0).from_ + (ls_3.getD j line0).len)) ∧ Below w_7.heap.size w_7 wl) (fun i => ls_3.length - i) 0 ⟨Nat.zero_le _, fun j hj => absurd hj (Nat.not_lt_zero _), Below.refl _ _⟩ (by kernel_rfl) ?_))
  rintro i wl ⟨hi, hq0, HB⟩
  have hbi_ := fun (h_ : i < ls_3.length) => hbd_ i h_
  refine sq (X_region ?_)
  by_cases c_11 : (i : Int) < (ls_3.length : Int)
  ·refine xr1 1 [(22, .eq bT)] [(22, bT)] [] (dT c_11) ?_
   refine nl (sq (ct (sk (sq (bk (sg (xr0 1 [(23, nv i)] [22] ?_)))))))
   obtain ⟨ad_12, B_15, c_16, ha_13, hc_14, hl_17, hC_18⟩ := RX.Kd.atLine (Kd.C_below hC_9 HB) (i := (i : Int)) (by omega) (by omega)
   replace hc_14 : CellsAt wl (ad_12.add ((i : Int).toNat * 4)) [i6 ((ls_3.getD i line0).from_), i6 ((ls_3.getD i line0).len), .slice B_15 ((ls_3.getD i line0).attrs.length) c_16, sT ((ls_3.getD i line0).text)] := hc_14
   replace hl_17 : (ls_3.getD i line0).attrs.length ≤ c_16 := hl_17
   replace hC_18 : kAttr.C wl B_15 ((ls_3.getD i line0).attrs.length) (ls_3.getD i line0).attrs := hC_18
   refine xr 1 [(24, .idx ad_12)] [(24, .pointer (some (ad_12.add ((i : Int).toNat * 4))))] [] [A_1 = some ad_12, (0 : Int) ≤ (i : Int), (i : Int) < (ls_3.length : Int)] ⟨ha_13, (by omega), (by omega), trivial⟩ ?_
   have hbi2_ := hbi_ (by omega)
   refine xw 2 [(25, .load (.agg #[i6 ((ls_3.getD i line0).from_), i6 ((ls_3.getD i line0).len), .slice B_15 ((ls_3.getD i line0).attrs.length) c_16, sT ((ls_3.getD i line0).text)]))] [(10, pw wl.heap.size 0), (25, .agg #[i6 ((ls_3.getD i line0).from_), i6 ((ls_3.getD i line0).len), .slice B_15 ((ls_3.getD i line0).attrs.length) c_16, sT ((ls_3.getD i line0).text)])] [24] (wl.alloc (.cells #[i6 0, i6 0, .slice none 0 0, s0] 78)) [la 78 (ad_12.add ((i : Int).toNat * 4)) (.agg #[i6 ((ls_3.getD i line0).from_), i6 ((ls_3.getD i line0).len), .slice B_15 ((ls_3.getD i line0).attrs.length) c_16, sT ((ls_3.getD i line0).text)]) wl] ⟨loadsE rfl rfl hc_14 0 ⟨by kernel_rfl, by kernel_rfl⟩, trivial⟩ ?_
   obtain ⟨w_19, hw_23, hb_20, hk_21, hz_22⟩ := new_world wl #[i6 0, i6 0, .slice none 0 0, s0] 78
   rw [hw_23]
   refine xr0 1 [(9, nv i)] [23] ?_
   refine xst (.agg #[i6 ((ls_3.getD i line0).from_), i6 ((ls_3.getD i line0).len), .slice B_15 ((ls_3.getD i line0).attrs.length) c_16, sT ((ls_3.getD i line0).text)]) hk_21 0 #[i6 ((ls_3.getD i line0).from_), i6 ((ls_3.getD i line0).len), .slice B_15 ((ls_3.getD i line0).attrs.length) c_16, sT ((ls_3.getD i line0).text)] (fun w_24 hg_25 hk_26 hz_27 => ?_)
   refine nl (sg (xe1 3 [(28, .load (i6 ((ls_3.getD i line0).from_)))] [(1, i6 p), (9, nv i), (10, pw wl.heap.size 0), (19, aL A_1 ls_3 c_2), (20, i6 (ls_3.length : Int)), (21, nv i), (26, i6 p), (28, i6 ((ls_3.getD i line0).from_))] (lc 3 hk_26 0) ?_))
   by_cases c_28 : p ≥ (ls_3.getD i line0).from_
   ·refine xr 8 [(29, .eq bT), (33, .load (i6 ((ls_3.getD i line0).from_))), (35, .load (i6 ((ls_3.getD i line0).len))), (36, .eq (i6 (((ls_3.getD i line0).from_) + ((ls_3.getD i line0).len))))] [(30, bT), (31, i6 p), (36, i6 (((ls_3.getD i line0).from_) + ((ls_3.getD i line0).len)))] [26, 28] [_, _, _, _] ⟨dT c_28, lc 3 hk_26 0, lc 3 hk_26 1, w6 (((ls_3.getD i line0).from_) + ((ls_3.getD i line0).len)), trivial⟩ ?_
    by_cases c_29 : p ≤ ((ls_3.getD i line0).from_) + ((ls_3.getD i line0).len)
    ·refine xr1 2 [(37, .eq bT)] [(38, bT)] [30, 31, 36] (dT c_29) ?_
     refine nl (ct (sq (X_still (by kernel_rfl) (by kernel_rfl) (fun wd_30 hb_31 hh_32 => ?_))))
     refine xse 8 [(42, .load (i6 ((ls_3.getD i line0).from_))), (43, .eq (i6 (p - ((ls_3.getD i line0).from_))))] [(4, i6 (i : Int)), (5, i6 (p - ((ls_3.getD i line0).from_))), (6, i6 0)] [_, _] ⟨lc 3 (Blk.below hk_26 hb_31) 0, w6 (p - ((ls_3.getD i line0).from_)), trivial⟩ ?_
     refine XS_nil ?_
     refine X_ret (rj [i6 (i : Int), i6 (p - ((ls_3.getD i line0).from_)), i6 0] hR_ ?_)
     have hB_33 : Below w.heap.size w wd_30 := (bt (bg (bt (bt hb_8 HB) hb_20) hg_25 ((bt hb_8 HB)).size) hb_31)
     have hfe_ := lnFind_eq (xs := xs) (p := p) (i := i) (by rw [← el_4]; omega) (by rw [← el_4]; omega) (by rw [← el_4]; omega)
     rw [show lnAt xs p = ((i : Int), p - (ls_3.getD i line0).from_, 0) from by unfold lnAt; rw [if_neg (by omega), hfe_.1, ← el_4, if_neg (fun h_ => by have h0_ := hfe_.2; rcases h_ with h_ | h_ <;> omega)]]
     exact ⟨rfl, hB_33⟩
    refine xr1 2 [(37, .eq bF)] [(38, bF)] [30, 31, 36] (dF c_29) ?_
    refine nl (cf (sk (rg (xr1 2 [(44, .eq (i6 ((i : Int) + 1)))] [(21, i6 ((i : Int) + 1))] [9, 10, 38] (w6 ((i : Int) + 1)) ?_))))
    refine nl ?_
    refine ⟨(i + 1), by kernel_rfl, ?_, ?_⟩
    ·exact ⟨by omega, (fun j hj => by by_cases e_ : j = i; (· subst e_; intro h_; exact c_29 (by omega)); (· exact hq0 j (by omega))), (bg (bt HB hb_20) hg_25 (HB).size)⟩
    (try dsimp only); omega
   refine xr1 10 [(29, .eq bF)] [(38, bF)] [26, 28] (dF c_28) ?_
   refine nl (cf (sk (rg (xr1 2 [(44, .eq (i6 ((i : Int) + 1)))] [(21, i6 ((i : Int) + 1))] [9, 10, 38] (w6 ((i : Int) + 1)) ?_))))
   refine nl ?_
   refine ⟨(i + 1), by kernel_rfl, ?_, ?_⟩
   ·exact ⟨by omega, (fun j hj => by by_cases e_ : j = i; (· subst e_; intro h_; exact c_28 (by omega)); (· exact hq0 j (by omega))), (bg (bt HB hb_20) hg_25 (HB).size)⟩
   (try dsimp only); omega
  refine xr1 1 [(22, .eq bF)] [(22, bF)] [] (dF c_11) ?_
  refine nl (sq (cf (X_exit (sg (xe0 3 [(4, i6 0), (5, i6 0), (6, i6 12)] ?_)))))
  refine nl (X_ret (rj [i6 0, i6 0, i6 12] hR_ ?_))
  have hno_ := lnFind_no (xs := xs) (p := p) (by rw [← el_4]; exact fun j_ h_ => hq0 j_ (by omega))
  rw [show lnAt xs p = (0, 0, 12) from by unfold lnAt; rw [if_neg (by omega), if_pos hno_]]
  exact ⟨rfl, (bt hb_8 HB)⟩
 refine xr1 1 [(17, .eq bT)] [(17, bT)] [16] (nT c_10) ?_
 refine nl (ct (sg (xe0 4 [(4, i6 0), (5, i6 0), (6, i6 (lnErr xs : Int))] ?_)))
 refine nl (X_ret (rj [i6 0, i6 0, i6 (lnErr xs : Int)] hR_ ?_))
 rw [show lnAt xs p = (0, 0, lnErr xs) from if_pos (by omega)]
 exact ⟨rfl, hb_8⟩
theorem r21place_any (A : Option Addr) (c : Nat) (xs : List OpA) (i k : Int) (w : World) (hx : kOp.C w A xs.length xs) (hn : xs.length ≤ 1100000) (hz : ∀ i, i < xs.length → opSz (xs.getD i op0)) (hL : (cellsAll xs).length ≤ 100000000) : Calls Tryz.prog 48 #[.slice A xs.length c, i6 i, i6 k] w fun e w' => e = .returned (.tuple #[i6 (lnPlace xs i k).1, i6 ((lnPlace xs i k).2 : Int)]) ∧ Below w.heap.size w w' := by
 refine en Tryz.func48 rfl 46 [(0, aL A xs c), (1, i6 i), (2, i6 k)] (fun R_ hR_ => ?_)
 refine sg (xe0 2 [(0, aL A xs c), (1, i6 i), (2, i6 k)] ?_)
 refine nl (sg (xr0 1 [(11, aL A xs c)] [0] ?_))
 refine xc 37 ent37 [aL A xs c] (r21lines_any _ _ xs _ hx hn hz hL) ?_
 rintro e w_7 ⟨A_1, c_2, ls_3, el_4, rfl, hl_5, hr_6, hb_8⟩; refine ⟨_, rfl, ?_⟩
 have hC_9 := Kd.R_C hr_6
 have hbd_ : ∀ j, j < ls_3.length → 0 ≤ (ls_3.getD j line0).from_ ∧ 0 ≤ (ls_3.getD j line0).len ∧ (ls_3.getD j line0).from_ + (ls_3.getD j line0).len < ((cellsAll xs).length : Int) := by rw [el_4]; exact fun j h_ => lnOf_bd xs h_
 have hll_ : ls_3.length ≤ (cellsAll xs).length := by rw [el_4]; exact lnOf_len xs
 refine xr0 5 [(8, aL A_1 ls_3 c_2), (9, i6 (lnErr xs : Int))] [11, 12] ?_
 refine nl (sq (sg (xr0 1 [(15, i6 (lnErr xs : Int))] [] ?_)))
 by_cases c_10 : (lnErr xs : Int) = 0
 ·refine xr1 1 [(16, .eq bF)] [(16, bF)] [15] (nF c_10) ?_
  refine nl (cf (sk (sq (sg (xr0 1 [(18, i6 i)] [9, 16] ?_)))))
  by_cases c_11 : i < 0
  ·refine xe1 20 [(19, .eq bT)] [(1, i6 i), (2, i6 k), (8, aL A_1 ls_3 c_2), (38, bT)] (dT c_11) ?_
   refine nl (ct (sg (xe0 2 [(6, i6 0), (7, i6 12)] ?_)))
   refine nl (X_ret (rj [i6 0, i6 12] hR_ ?_))
   rw [show lnPlace xs i k = (0, 12) from by unfold lnPlace; rw [if_neg (by omega), ← el_4, if_pos (by omega)]]
   exact ⟨rfl, hb_8⟩
  refine xe1 5 [(19, .eq bF)] [(1, i6 i), (2, i6 k), (8, aL A_1 ls_3 c_2), (20, bF), (21, i6 i), (23, i6 (ls_3.length : Int))] (dF c_11) ?_
  by_cases c_12 : i ≥ (ls_3.length : Int)
  ·refine xr1 15 [(24, .eq bT)] [(38, bT)] [20, 21, 23] (dT c_12) ?_
   refine nl (ct (sg (xe0 2 [(6, i6 0), (7, i6 12)] ?_)))
   refine nl (X_ret (rj [i6 0, i6 12] hR_ ?_))
   rw [show lnPlace xs i k = (0, 12) from by unfold lnPlace; rw [if_neg (by omega), ← el_4, if_pos (by omega)]]
   exact ⟨rfl, hb_8⟩
  refine xr1 4 [(24, .eq bF)] [(26, bF), (27, i6 k)] [20, 21, 23] (dF c_12) ?_
  by_cases c_13 : k < 0
  ·refine xr1 11 [(28, .eq bT)] [(38, bT)] [26, 27] (dT c_13) ?_
   refine nl (ct (sg (xe0 2 [(6, i6 0), (7, i6 12)] ?_)))
   refine nl (X_ret (rj [i6 0, i6 12] hR_ ?_))
   rw [show lnPlace xs i k = (0, 12) from by unfold lnPlace; rw [if_neg (by omega), ← el_4, if_pos (by omega)]]
   exact ⟨rfl, hb_8⟩
  refine xr1 6 [(28, .eq bF)] [(30, bF), (31, i6 k), (32, aL A_1 ls_3 c_2), (33, i6 i)] [26, 27] (dF c_13) ?_
  obtain ⟨ad_14, B_17, c_18, ha_15, hc_16, hl_19, hC_20⟩ := RX.Kd.atLine hC_9 (i := i) (by omega) (by omega)
  replace hc_16 : CellsAt w_7 (ad_14.add (i.toNat * 4)) [i6 ((ls_3.getD i.toNat line0).from_), i6 ((ls_3.getD i.toNat line0).len), .slice B_17 ((ls_3.getD i.toNat line0).attrs.length) c_18, sT ((ls_3.getD i.toNat line0).text)] := hc_16
  replace hl_19 : (ls_3.getD i.toNat line0).attrs.length ≤ c_18 := hl_19
  replace hC_20 : kAttr.C w_7 B_17 ((ls_3.getD i.toNat line0).attrs.length) (ls_3.getD i.toNat line0).attrs := hC_20
  refine xr 3 [(34, .idx ad_14), (36, .load (i6 ((ls_3.getD i.toNat line0).len)))] [(36, i6 ((ls_3.getD i.toNat line0).len))] [32, 33] [A_1 = some ad_14, (0 : Int) ≤ i, i < (ls_3.length : Int), la 3 ((ad_14.add (i.toNat * 4)).add 1) (i6 ((ls_3.getD i.toNat line0).len)) w_7] ⟨ha_15, (by omega), (by omega), loads1 rfl (elem_cell hc_16 1 _ rfl), trivial⟩ ?_
  by_cases c_21 : k > (ls_3.getD i.toNat line0).len
  ·refine xr1 2 [(37, .eq bT)] [(38, bT)] [30, 31, 36] (dT c_21) ?_
   refine nl (ct (sg (xe0 2 [(6, i6 0), (7, i6 12)] ?_)))
   refine nl (X_ret (rj [i6 0, i6 12] hR_ ?_))
   rw [show lnPlace xs i k = (0, 12) from by unfold lnPlace; rw [if_neg (by omega), ← el_4, if_pos (by omega)]]
   exact ⟨rfl, hb_8⟩
  refine xr1 2 [(37, .eq bF)] [(38, bF)] [30, 31, 36] (dF c_21) ?_
  refine nl (cf (sk (sg (xr0 2 [(39, aL A_1 ls_3 c_2), (40, i6 i)] [1, 8, 38] ?_))))
  have hbj_ := hbd_ i.toNat (by omega)
  obtain ⟨ad_22, B_25, c_26, ha_23, hc_24, hl_27, hC_28⟩ := RX.Kd.atLine hC_9 (i := i) (by omega) (by omega)
  replace hc_24 : CellsAt w_7 (ad_22.add (i.toNat * 4)) [i6 ((ls_3.getD i.toNat line0).from_), i6 ((ls_3.getD i.toNat line0).len), .slice B_25 ((ls_3.getD i.toNat line0).attrs.length) c_26, sT ((ls_3.getD i.toNat line0).text)] := hc_24
  replace hl_27 : (ls_3.getD i.toNat line0).attrs.length ≤ c_26 := hl_27
  replace hC_28 : kAttr.C w_7 B_25 ((ls_3.getD i.toNat line0).attrs.length) (ls_3.getD i.toNat line0).attrs := hC_28
  refine xe 7 [(41, .idx ad_22), (43, .load (i6 ((ls_3.getD i.toNat line0).from_))), (45, .eq (i6 (((ls_3.getD i.toNat line0).from_) + k)))] [(6, i6 (((ls_3.getD i.toNat line0).from_) + k)), (7, i6 0)] [A_1 = some ad_22, (0 : Int) ≤ i, i < (ls_3.length : Int), la 3 (ad_22.add (i.toNat * 4)) (i6 ((ls_3.getD i.toNat line0).from_)) w_7, _] ⟨ha_23, (by omega), (by omega), loads1 rfl (elem_cell hc_24 0 _ rfl), w6 (((ls_3.getD i.toNat line0).from_) + k), trivial⟩ ?_
  refine nl (X_ret (rj [i6 (((ls_3.getD i.toNat line0).from_) + k), i6 0] hR_ ?_))
  rw [show lnPlace xs i k = ((ls_3.getD i.toNat line0).from_ + k, 0) from by unfold lnPlace; rw [if_neg (by omega), ← el_4, if_neg (by omega)]]
  exact ⟨rfl, hb_8⟩
 refine xr1 1 [(16, .eq bT)] [(16, bT)] [15] (nT c_10) ?_
 refine nl (ct (sg (xe0 3 [(6, i6 0), (7, i6 (lnErr xs : Int))] ?_)))
 refine nl (X_ret (rj [i6 0, i6 (lnErr xs : Int)] hR_ ?_))
 rw [show lnPlace xs i k = (0, lnErr xs) from if_pos (by omega)]
 exact ⟨rfl, hb_8⟩
theorem lnAt_in {xs : List OpA} {f : Int} (h : (lnAt xs f).2.2 = 0) : isDoc xs = true ∧ 0 ≤ f ∧ f < ((cellsAll xs).length : Int) := by
 unfold lnAt at h
 by_cases h1 : lnErr xs = 0
 ·rw [if_neg (fun h_ => h_ h1)] at h
  by_cases h2 : f < 0 ∨ lnFind f (lnOf xs) = (lnOf xs).length
  ·rw [if_pos h2] at h; cases h
  have h3 := lnFind_le f (lnOf xs)
  have h4 := lnFind_at f (lnOf xs) (by omega)
  have h5 := lnOf_bd xs (j := lnFind f (lnOf xs)) (by omega)
  exact ⟨(lnErr_doc h1).1, by omega, by omega⟩
 rw [if_pos h1] at h; exact absurd h h1
theorem lnEnd_len {xs : List OpA} (h : lnErr xs = 0) : lnEnd 0 (lnOf xs) = ((cellsAll xs).length : Int) := by
 have e : lnOf xs = (lnRun (cellsAll xs)).1 := if_pos h
 obtain ⟨_, h2⟩ := lnRun_chain (cellsAll xs)
 obtain ⟨i1, i2, _, _⟩ := lnRun_inv (cellsAll xs)
 have h3 := (lnErr_doc h).2
 unfold lnEnds at h3
 rw [Bool.and_eq_true, decide_eq_true_eq, decide_eq_true_eq] at h3
 rw [e, h2]; omega
theorem lnFind_in {p : Int} : ∀ (ls : List LineA) (k : Int), lnChain k ls → p < lnEnd k ls → k ≤ p → lnFind p ls < ls.length
 | [], k, _, h, hk => by have : p < k := h; omega
 | l :: r, k, hc, h, hk => by
  unfold lnFind
  by_cases hp : p ≤ l.from_ + l.len
  ·rw [if_pos hp]; simp
  rw [if_neg hp]
  have := lnFind_in r _ hc.2.2 h (by have := hc.1; omega)
  simpa using this
theorem lnAt_ok {xs : List OpA} {p : Int} (h : lnErr xs = 0) (h0 : 0 ≤ p) (h1 : p < ((cellsAll xs).length : Int)) : (lnAt xs p).2.2 = 0 := by
 have hc := lnFind_in (p := p) (lnOf xs) 0 (lnOf_chain xs) (by rw [lnEnd_len h]; exact h1) h0
 unfold lnAt
 rw [if_neg (by omega), if_neg (fun h_ => by rcases h_ with h_ | h_ <;> omega)]
theorem lnAt_err {xs : List OpA} {p : Int} (h : (lnAt xs p).2.2 = 0) : lnErr xs = 0 := by
 unfold lnAt at h
 by_cases h1 : lnErr xs = 0
 ·exact h1
 rw [if_pos h1] at h; exact h
set_option maxHeartbeats 1000000 in
theorem r21touched_any (A : Option Addr) (c : Nat) (xs : List OpA) (f n : Int) (w : World) (hx : kOp.C w A xs.length xs) (hn : xs.length ≤ 1100000) (hz : ∀ i, i < xs.length → opSz (xs.getD i op0)) (hL : (cellsAll xs).length ≤ 100000000) (hf0 : -9223372036854775808 ≤ f ∧ f ≤ 9223372036854775807) (hn0 : -9223372036854775808 ≤ n ∧ n ≤ 9223372036854775807) : Calls Tryz.prog 50 #[.slice A xs.length c, i6 f, i6 n] w fun e w' => e = .returned (.tuple #[i6 (lnTouched xs f n).1, i6 (lnTouched xs f n).2.1, i6 ((lnTouched xs f n).2.2 : Int)]) ∧ Below w.heap.size w w' := by
 refine en Tryz.func50 rfl 53 [(0, aL A xs c), (1, i6 f), (2, i6 n)] (fun R_ hR_ => ?_)
 refine sg (xe0 3 [(0, aL A xs c), (1, i6 f), (2, i6 n)] ?_)
 refine nl (sg (xr0 2 [(16, aL A xs c), (17, i6 f)] [] ?_))
 refine xc 46 ent46 [.slice A xs.length c, i6 f] (r21at_any _ _ xs f _ hx hn hz hL (by omega)) ?_
 rintro e w_1 ⟨rfl, hb_2⟩; refine ⟨_, rfl, ?_⟩
 refine xr0 7 [(9, i6 ((lnAt xs f).1)), (11, i6 ((lnAt xs f).2.2 : Int))] [16, 17, 18] ?_
 refine nl (sq (sg (xr0 1 [(22, i6 ((lnAt xs f).2.2 : Int))] [] ?_)))
 by_cases c_3 : ((lnAt xs f).2.2 : Int) = 0
 ·refine xr1 1 [(23, .eq bF)] [(23, bF)] [22] (nF c_3) ?_
  refine nl (cf (sk (sg (xr0 1 [(25, aL A xs c)] [11, 23] ?_))))
  have haz_ : (lnAt xs f).2.2 = 0 := by omega
  obtain ⟨hdoc_, hf1_, hf2_⟩ := lnAt_in haz_
  refine xc 64 ent64 [aL A xs c] (r10res_any _ _ xs _ (Kd.C_below hx hb_2) hn hz hL hdoc_) ?_
  rintro e w_4 ⟨rfl, hb_5⟩; refine ⟨_, rfl, ?_⟩
  refine xe0 1 [(0, aL A xs c), (1, i6 f), (2, i6 n), (9, i6 ((lnAt xs f).1)), (12, i6 ((cellsAll xs).length : Int))] ?_
  refine nl (sq (sg (xr0 1 [(27, i6 n)] [] ?_)))
  by_cases c_6 : n < 0
  ·refine xr1 8 [(28, .eq bT)] [(35, bT)] [12, 27] (dT c_6) ?_
   refine nl (ct (sg (xe0 3 [(6, i6 0), (7, i6 0), (8, i6 12)] ?_)))
   refine nl (X_ret (rj [i6 0, i6 0, i6 12] hR_ ?_))
   rw [show lnTouched xs f n = (0, 0, 12) from by unfold lnTouched; rw [if_neg (by omega), if_pos (by omega)]]
   exact ⟨rfl, (bt hb_2 hb_5)⟩
  refine xr 6 [(28, .eq bF), (33, .eq (i6 (((cellsAll xs).length : Int) - f)))] [(29, bF), (30, i6 n), (33, i6 (((cellsAll xs).length : Int) - f))] [12, 27] [_, _] ⟨dF c_6, w6 (((cellsAll xs).length : Int) - f), trivial⟩ ?_
  by_cases c_7 : n > ((cellsAll xs).length : Int) - f
  ·refine xr1 2 [(34, .eq bT)] [(35, bT)] [29, 30, 33] (dT c_7) ?_
   refine nl (ct (sg (xe0 3 [(6, i6 0), (7, i6 0), (8, i6 12)] ?_)))
   refine nl (X_ret (rj [i6 0, i6 0, i6 12] hR_ ?_))
   rw [show lnTouched xs f n = (0, 0, 12) from by unfold lnTouched; rw [if_neg (by omega), if_pos (by omega)]]
   exact ⟨rfl, (bt hb_2 hb_5)⟩
  refine xr1 2 [(34, .eq bF)] [(35, bF)] [29, 30, 33] (dF c_7) ?_
  refine nl (cf (sk (sq (sg (xr0 1 [(36, i6 n)] [35] ?_)))))
  by_cases c_8 : n = 0
  ·refine xr1 1 [(37, .eq bT)] [(37, bT)] [36] (bE c_8) ?_
   refine nl (ct (sg (xe0 5 [(6, i6 ((lnAt xs f).1)), (7, i6 ((lnAt xs f).1)), (8, i6 0)] ?_)))
   refine nl (X_ret (rj [i6 ((lnAt xs f).1), i6 ((lnAt xs f).1), i6 0] hR_ ?_))
   rw [show lnTouched xs f n = ((lnAt xs f).1, (lnAt xs f).1, 0) from by unfold lnTouched; rw [if_neg (by omega), if_neg (by omega), if_pos (by omega)]]
   exact ⟨rfl, (bt hb_2 hb_5)⟩
  refine xr1 1 [(37, .eq bF)] [(37, bF)] [36] (bN c_8) ?_
  refine nl (cf (sk (sg (xe 5 [(44, .eq (i6 (f + n))), (45, .eq (i6 ((f + n) - 1)))] [(9, i6 ((lnAt xs f).1)), (41, aL A xs c), (45, i6 ((f + n) - 1))] [_, _] ⟨w6 (f + n), w6 ((f + n) - 1), trivial⟩ ?_))))
  refine xc 46 ent46 [.slice A xs.length c, i6 ((f + n) - 1)] (r21at_any _ _ xs ((f + n) - 1) _ (Kd.C_below hx (bt hb_2 hb_5)) hn hz hL (by omega)) ?_
  rintro e w_9 ⟨rfl, hb_10⟩; refine ⟨_, rfl, ?_⟩
  have hok2_ : (lnAt xs ((f + n) - 1)).2.2 = 0 := lnAt_ok (lnAt_err haz_) (by omega) (by omega)
  refine xr0 7 [(11, i6 ((lnAt xs ((f + n) - 1)).2.2 : Int)), (13, i6 ((lnAt xs ((f + n) - 1)).1))] [41, 45, 46] ?_
  refine nl (sg (xe0 6 [(6, i6 ((lnAt xs f).1)), (7, i6 ((lnAt xs ((f + n) - 1)).1)), (8, i6 ((lnAt xs ((f + n) - 1)).2.2 : Int))] ?_))
  refine nl (X_ret (rj [i6 ((lnAt xs f).1), i6 ((lnAt xs ((f + n) - 1)).1), i6 ((lnAt xs ((f + n) - 1)).2.2 : Int)] hR_ ?_))
  rw [show lnTouched xs f n = ((lnAt xs f).1, (lnAt xs (f + n - 1)).1, 0) from by unfold lnTouched; rw [if_neg (by omega), if_neg (by omega), if_neg (by omega), if_neg (fun h_ => h_ hok2_)], hok2_]
  exact ⟨rfl, (bt (bt hb_2 hb_5) hb_10)⟩
 refine xr1 1 [(23, .eq bT)] [(23, bT)] [22] (nT c_3) ?_
 refine nl (ct (sg (xe0 4 [(6, i6 0), (7, i6 0), (8, i6 ((lnAt xs f).2.2 : Int))] ?_)))
 refine nl (X_ret (rj [i6 0, i6 0, i6 ((lnAt xs f).2.2 : Int)] hR_ ?_))
 rw [show lnTouched xs f n = (0, 0, (lnAt xs f).2.2) from if_pos (by omega)]
 exact ⟨rfl, hb_2⟩
end Go.Proofs.YtgphmfnkeolbcaaGreatDoor
