import Derived.Test.YtgphmfnkeolbcaaGreatDoorT4
import Derived.Test.YtgphmfnkeolbcaaGreatDoorAn3
/- What build.Of answers, and deltas. Conditions: sizes, the tables of utf8, the errors' variables. -/
set_option linter.unusedVariables false
set_option linter.unusedSimpArgs false
set_option maxRecDepth 100000
namespace Go.Proofs.YtgphmfnkeolbcaaGreatDoor
open Go Go.RowKit Go.Proofs.YtgphmfnkeolbcaaGreatDoorW.PrintWords RX
theorem ent91 : Ent Tryz.prog 91 := ent_of Tryz.func91 (by kernel_rfl) rfl
theorem ent65 : Ent Tryz.prog 65 := ent_of Tryz.func65 (by kernel_rfl) rfl
theorem ent56 : Ent Tryz.prog 56 := ent_of Tryz.func56 (by kernel_rfl) rfl
theorem ent133 : Ent Tryz.prog 133 := ent_of Tryz.func133 (by kernel_rfl) rfl
theorem fin_plain {ps : List OpA} (h : ps.length ≠ 0) (hp : plainR (B.lst ps)) : (List.map pOf ps).take ((List.map pOf ps).length - 1) = List.map pOf (B.fin ps) ∧ (List.map pOf ps).length - 1 = (List.map pOf (B.fin ps)).length := by
 unfold B.fin
 rw [if_pos ⟨h, hp⟩, List.length_map, List.map_take]
 exact ⟨rfl, by rw [List.length_take, List.length_map]; omega⟩
theorem fin_not {ps : List OpA} (hp : ps.length = 0 ∨ ¬ plainR (B.lst ps)) : B.fin ps = ps := if_neg fun h => hp.elim h.1 fun h2 => h2 h.2
set_option maxHeartbeats 2000000 in
theorem bdelta_any (wB : World) (g : Nat) (b r : Int) (s : B.St) (A : Option Addr) (c : Nat) (w : World) (hB : wB.heap.size ≤ w.heap.size) (hk : RX.Blk w g 194 #[i6 b, i6 r, .slice A (List.map pOf s.1).length c, i6 s.2]) (hR : kPiece.R 124 w wB.heap.size (OkFrom wB.heap.size) (.slice A (List.map pOf s.1).length c) (List.map pOf s.1)) (hs2 : 0 ≤ s.2 ∧ s.2 ≤ 1099511627776) (hbd : badE s.1 = 0) (hl : s.1.length ≤ 100000000) :
  Calls Tryz.prog 91 #[pw g 0] w fun e w' => ∃ d A' c', e = .returned (pw d 0) ∧ w.heap.size ≤ d ∧ RX.Blk w' d 162 #[aL A' (List.map pOf (B.fin (B.dels s.1 s.2))) c'] ∧ kPiece.R 124 w' wB.heap.size (OkFrom wB.heap.size) (aL A' (List.map pOf (B.fin (B.dels s.1 s.2))) c') (List.map pOf (B.fin (B.dels s.1 s.2))) ∧ (∀ k, A'.map (·.block) = some k → w.heap.size ≤ k) ∧ Below w.heap.size w w' := by
 have hls := dels_len s.1 s.2
 have hlm : (List.map pOf s.1).length = s.1.length := List.length_map ..
 have hb' := dels_ok2 hbd hs2.1 hs2.2
 refine en Tryz.func91 rfl 45 [(0, pw g 0)] (fun R_ hR_ => ?_)
 refine sg (xe0 1 [(0, pw g 0)] ?_)
 refine nl (sq (X_grow [9] 11 (tf 0 11) (by kernel_rfl) (by kernel_rfl) (by kernel_rfl) (fun wd_1 hb_2 hh_3 => ?_)))
 refine XB_run (fuel' := 3) (Below.refl _ _) [0, 1, 2, 3, 5, 6, 7, 8] [(10, .load (aL A (List.map pOf s.1) c)), (15, .load (i6 s.2))] [pw g 0, pw g 0, pw g 2, .slice A ((List.map pOf s.1).length) c, pw g 0, pw g 0, pw g 3, i6 s.2] #[true, true, true, true, false, true, true, true, true, false, false] [(10, aL A (List.map pOf s.1) c), (15, i6 s.2)] (fun w_ => [la 160 (⟨g, 2, none⟩) (aL A (List.map pOf s.1) c) w_, la 3 (⟨g, 3, none⟩) (i6 s.2) w_]) (fun w_ hC_ => ⟨loads1 rfl (Blk.cell (Blk.below hk (bt hb_2 hC_)) 2 _ rfl), loads1 rfl (Blk.cell (Blk.below hk (bt hb_2 hC_)) 3 _ rfl), trivial⟩) ?_
 refine XB_mid (fuel' := 2) 4 (tf 9 2) _ rfl (by kernel_rfl) (by kernel_rfl) rfl ?_
 refine xc 143 ent143 [aL A (List.map pOf s.1) c] (pclone_any _ _ s.1 wB _ (Nat.le_trans hB hb_2.size) (Kd.R_below hR hb_2) (by omega)) ?_
 rintro e w_6 ⟨A_4, c_5, rfl, hr_7, hsp_8, hb_9⟩; refine ⟨_, rfl, ?_⟩
 refine nl ?_
 refine ⟨hb_9, ?_⟩
 refine XB_act (fuel' := 1) 9 (tf 10 1) _ rfl (by kernel_rfl) rfl (by kernel_rfl) rfl ?_
 refine xc 137 ent137 [.slice A_4 ((List.map pOf s.1).length) c_5, i6 s.2] (bdeleted_any _ _ s.1 _ wB _ (Nat.le_trans hB (Nat.le_trans hb_2.size hb_9.size)) hr_7 (by omega)) ?_
 rintro e w_12 ⟨A_10, c_11, rfl, hr_13, hg_14, hat_15⟩; refine ⟨_, rfl, ?_⟩
 have hsp_16 : ∀ k_, A_10.map (·.block) = some k_ → wd_1.heap.size ≤ k_ := fun k_ hk_ => by rcases hat_15 with h_ | ⟨b_, h_, h2_⟩; (· exact hsp_8 k_ (by rw [← h_]; exact hk_)); (· rw [h_] at hk_; injection hk_ with hk_; subst hk_; exact Nat.le_trans hb_9.size h2_)
 obtain ⟨ps, hps⟩ : ∃ ps, B.dels s.1 s.2 = ps := ⟨_, rfl⟩
 rw [hps] at hls hb' hr_13 ⊢
 have hlm2 : (List.map pOf ps).length = ps.length := List.length_map ..
 refine nl (XB_pure (fuel' := 0) [10] [] [aL A_10 (List.map pOf ps) c_11] (tf 11 0) [(3, aL A_10 (List.map pOf ps) c_11)] (fun w_ => []) (fun _ _ _ _ h => h) (fun w_ => by kernel_rfl) rfl (fun w_ => trivial) ?_)
 refine XB_done (by kernel_rfl) ?_
 refine sg (xr1 4 [(19, .eq (i6 (((List.map pOf ps).length : Int) - 1)))] [(4, i6 (((List.map pOf ps).length : Int) - 1))] [] (w6 (((List.map pOf ps).length : Int) - 1)) ?_)
 refine nl (sq (sg (xr0 1 [(20, i6 (((List.map pOf ps).length : Int) - 1))] [] ?_)))
 by_cases c_17 : ((List.map pOf ps).length : Int) - 1 < 0
 ·refine xr1 1 [(21, .eq bT)] [(21, bT)] [20] (dT c_17) ?_
  refine nl (ct (sg (xc 144 ent144 [] (bempty_any _) ?_)))
  rintro e w_19 ⟨g_18, rfl, hg_20, hk_21, hb_22⟩; refine ⟨_, rfl, ?_⟩
  refine xe0 1 [(2, pw g_18 0)] ?_
  refine nl (X_ret (rj [pw g_18 0] hR_ ?_))
  have hB_23 : Below w.heap.size w w_19 := (bt (bgo (bt hb_2 hb_9) hg_14 hsp_8 (hb_2).size) hb_22)
  rw [hps]
  obtain rfl : ps = [] := List.eq_nil_of_length_eq_zero (by omega)
  exact ⟨_, none, 0, rfl, Nat.le_trans (Nat.le_trans (Nat.le_trans hb_2.size hb_9.size) hg_14.size) hg_20, hk_21, Kd.R_nil _ _ _ _ _, fun _ h_ => (by cases h_), hB_23⟩
 have hne : ps.length ≠ 0 := by omega
 refine xr1 1 [(21, .eq bF)] [(21, bF)] [20] (dF c_17) ?_
 refine nl (cf (sk (sq (sg (xr0 2 [(24, aL A_10 (List.map pOf ps) c_11), (25, i6 (((List.map pOf ps).length : Int) - 1))] [21] ?_)))))
 obtain ⟨ad_24, cs_27, ha_25, hM_28, hc_26⟩ := Kd.R_at piece0 hr_13 (i := ((List.map pOf ps).length : Int) - 1) (by omega) (by omega)
 obtain ⟨v_29, rfl⟩ := kPiece_one hM_28
 replace hc_26 : CellsAt w_12 (ad_24.add ((((List.map pOf ps).length : Int) - 1).toNat * 1)) [v_29] := hc_26
 refine xr 1 [(26, .idx ad_24)] [(26, .pointer (some (ad_24.add ((((List.map pOf ps).length : Int) - 1).toNat * 1))))] [24, 25] [A_10 = some ad_24, (0 : Int) ≤ ((List.map pOf ps).length : Int) - 1, ((List.map pOf ps).length : Int) - 1 < ((List.map pOf ps).length : Int)] ⟨ha_25, (by omega), (by omega), trivial⟩ ?_
 rw [last_get hne] at hM_28
 have hla := lst_ok hb' hne
 rcases kind_of_ok hla with hlk | hlk | hlk | hlk
 ·rw [pOf_ins hlk] at hM_28
  obtain ⟨A_31, c_32, e_33, hl_34, hR_35⟩ := kPiece_insM hM_28
  obtain rfl := (List.cons.inj e_33).1
  refine xwe 6 [(27, .load (.iface 249 (.agg #[.slice A_31 ((B.lst ps).attrs.length) c_32, sT ((B.lst ps).text), i6 ((U.sc (B.lst ps).text).length : Int)])))] [(3, aL A_10 (List.map pOf ps) c_11), (4, i6 (((List.map pOf ps).length : Int) - 1)), (5, pw w_12.heap.size 0), (29, .agg #[.slice none 0 0, i6 0]), (30, bF)] (w_12.alloc (.cells #[.slice none 0 0, i6 0] 128)) [la 124 (ad_24.add ((((List.map pOf ps).length : Int) - 1).toNat * 1)) (.iface 249 (.agg #[.slice A_31 ((B.lst ps).attrs.length) c_32, sT ((B.lst ps).text), i6 ((U.sc (B.lst ps).text).length : Int)])) w_12] ⟨loads1 rfl (elem_cell hc_26 0 _ rfl), trivial⟩ ?_
  obtain ⟨w_36, hw_40, hb_37, hk_38, hz_39⟩ := new_world w_12 #[.slice none 0 0, i6 0] 128
  rw [hw_40]
  refine xst (.agg #[.slice none 0 0, i6 0]) hk_38 0 #[.slice none 0 0, i6 0] (fun w_41 hg_42 hk_43 hz_44 => ?_)
  have hr_45 := Kd.R_off (Kd.R_below hr_13 hb_37) hk_38 (by decide) hg_42
  refine xr0 1 [(6, bF)] [29, 30] ?_
  refine nl (sg (xr0 8 [(38, bF)] [5, 6] ?_))
  refine nl (cf (sk (sg (xwe 3 [] [(44, pw w_41.heap.size 0)] (w_41.alloc (.cells #[aL A_10 (List.map pOf ps) c_11] 162)) [] trivial ?_))))
  obtain ⟨w_46, hw_50, hb_47, hk_48, hz_49⟩ := new_world w_41 #[aL A_10 (List.map pOf ps) c_11] 162
  rw [hw_50]
  refine xe0 1 [(2, pw w_41.heap.size 0)] ?_
  refine nl (X_ret (rj [pw w_41.heap.size 0] hR_ ?_))
  have hB_51 : Below w.heap.size w w_12 := (bgo (bt hb_2 hb_9) hg_14 hsp_8 (hb_2).size)
  have hB_52 : Below w.heap.size w w_41 := (bg (bt (bgo (bt hb_2 hb_9) hg_14 hsp_8 (hb_2).size) hb_37) hg_42 (hB_51).size)
  rw [hps, fin_not (.inr fun h_ => by have h1_ := h_.1; have h2_ := h_.2; omega)]
  exact ⟨_, _, _, rfl, (hB_52).size, hk_48, (Kd.R_below hr_45 hb_47), (fun k_ hk_ => Nat.le_trans hb_2.size (hsp_16 k_ hk_)), (bt hB_52 hb_47)⟩
 ·rw [pOf_emb hlk] at hM_28
  obtain ⟨A_53, c_54, e_55, hl_56, hR_57⟩ := kPiece_embM hM_28
  obtain rfl := (List.cons.inj e_55).1
  have hval : (B.lst ps).val = ((B.lst ps).vk, (B.lst ps).vn, (B.lst ps).vt) := rfl
  rw [hval] at hc_26
  refine xwe 6 [(27, .load (.iface 253 (.agg #[.slice A_53 ((B.lst ps).attrs.length) c_54, sT ((B.lst ps).text), valV ((B.lst ps).vk, (B.lst ps).vn, (B.lst ps).vt)])))] [(3, aL A_10 (List.map pOf ps) c_11), (4, i6 (((List.map pOf ps).length : Int) - 1)), (5, pw w_12.heap.size 0), (29, .agg #[.slice none 0 0, i6 0]), (30, bF)] (w_12.alloc (.cells #[.slice none 0 0, i6 0] 128)) [la 124 (ad_24.add ((((List.map pOf ps).length : Int) - 1).toNat * 1)) (.iface 253 (.agg #[.slice A_53 ((B.lst ps).attrs.length) c_54, sT ((B.lst ps).text), valV ((B.lst ps).vk, (B.lst ps).vn, (B.lst ps).vt)])) w_12] ⟨loads1 rfl (elem_cell hc_26 0 _ rfl), trivial⟩ ?_
  obtain ⟨w_58, hw_62, hb_59, hk_60, hz_61⟩ := new_world w_12 #[.slice none 0 0, i6 0] 128
  rw [hw_62]
  refine xst (.agg #[.slice none 0 0, i6 0]) hk_60 0 #[.slice none 0 0, i6 0] (fun w_63 hg_64 hk_65 hz_66 => ?_)
  have hr_67 := Kd.R_off (Kd.R_below hr_13 hb_59) hk_60 (by decide) hg_64
  refine xr0 1 [(6, bF)] [29, 30] ?_
  refine nl (sg (xr0 8 [(38, bF)] [5, 6] ?_))
  refine nl (cf (sk (sg (xwe 3 [] [(44, pw w_63.heap.size 0)] (w_63.alloc (.cells #[aL A_10 (List.map pOf ps) c_11] 162)) [] trivial ?_))))
  obtain ⟨w_68, hw_72, hb_69, hk_70, hz_71⟩ := new_world w_63 #[aL A_10 (List.map pOf ps) c_11] 162
  rw [hw_72]
  refine xe0 1 [(2, pw w_63.heap.size 0)] ?_
  refine nl (X_ret (rj [pw w_63.heap.size 0] hR_ ?_))
  have hB_73 : Below w.heap.size w w_12 := (bgo (bt hb_2 hb_9) hg_14 hsp_8 (hb_2).size)
  have hB_74 : Below w.heap.size w w_63 := (bg (bt (bgo (bt hb_2 hb_9) hg_14 hsp_8 (hb_2).size) hb_59) hg_64 (hB_73).size)
  rw [hps, fin_not (.inr fun h_ => by have h1_ := h_.1; have h2_ := h_.2; omega)]
  exact ⟨_, _, _, rfl, (hB_74).size, hk_70, (Kd.R_below hr_67 hb_69), (fun k_ hk_ => Nat.le_trans hb_2.size (hsp_16 k_ hk_)), (bt hB_74 hb_69)⟩
 ·rw [pOf_ret hlk] at hM_28
  obtain ⟨A_75, c_76, e_77, hl_78, hR_79⟩ := kPiece_retM hM_28
  obtain rfl := (List.cons.inj e_77).1
  refine xwe 6 [(27, .load (.iface 128 (.agg #[.slice A_75 ((B.lst ps).attrs.length) c_76, i6 ((B.lst ps).count)])))] [(3, aL A_10 (List.map pOf ps) c_11), (4, i6 (((List.map pOf ps).length : Int) - 1)), (5, pw w_12.heap.size 0), (29, .agg #[.slice A_75 ((B.lst ps).attrs.length) c_76, i6 ((B.lst ps).count)]), (30, bT)] (w_12.alloc (.cells #[.slice none 0 0, i6 0] 128)) [la 124 (ad_24.add ((((List.map pOf ps).length : Int) - 1).toNat * 1)) (.iface 128 (.agg #[.slice A_75 ((B.lst ps).attrs.length) c_76, i6 ((B.lst ps).count)])) w_12] ⟨loads1 rfl (elem_cell hc_26 0 _ rfl), trivial⟩ ?_
  obtain ⟨w_80, hw_84, hb_81, hk_82, hz_83⟩ := new_world w_12 #[.slice none 0 0, i6 0] 128
  rw [hw_84]
  refine xst (.agg #[.slice A_75 ((B.lst ps).attrs.length) c_76, i6 ((B.lst ps).count)]) hk_82 0 #[.slice A_75 ((B.lst ps).attrs.length) c_76, i6 ((B.lst ps).count)] (fun w_85 hg_86 hk_87 hz_88 => ?_)
  have hr_89 := Kd.R_off (Kd.R_below hr_13 hb_81) hk_82 (by decide) hg_86
  refine xr0 1 [(6, bT)] [29, 30] ?_
  refine nl (sg (xr1 6 [(35, .load (aL A_75 (B.lst ps).attrs c_76))] [(32, bT), (36, i6 ((B.lst ps).attrs.length : Int))] [5, 6] (lc 49 hk_87 0) ?_))
  by_cases c_90 : ((B.lst ps).attrs.length : Int) = 0
  ·refine xr1 2 [(37, .eq bT)] [(38, bT)] [32, 36] (bE c_90) ?_
   refine nl (ct (X_region ?_))
   refine xe 4 [(41, .as (.slice A_10 ((((List.map pOf ps).length : Int) - 1).toNat) c_11))] [(3, .slice A_10 ((((List.map pOf ps).length : Int) - 1).toNat) c_11)] [RunsAs Tryz.prog [(39, aL A_10 (List.map pOf ps) c_11), (40, i6 (((List.map pOf ps).length : Int) - 1))] (Go.Op.slice 160 (Go.Operand.tmp 39) none (some (Go.Operand.tmp 40)) none) 160 (.slice A_10 ((((List.map pOf ps).length : Int) - 1).toNat) c_11) w_85] ⟨runs_slice_h (h := ((List.map pOf ps).length : Int) - 1) rfl rfl rfl rfl (by omega) (by have h := (RX.Kd.R_len hr_13).2; (try simp only [List.length_append, List.length_cons, List.length_nil] at h); omega), trivial⟩ ?_
   refine nl (sg (xwe 3 [] [(44, pw w_85.heap.size 0)] (w_85.alloc (.cells #[.slice A_10 ((((List.map pOf ps).length : Int) - 1).toNat) c_11] 162)) [] trivial ?_))
   obtain ⟨w_92, hw_96, hb_93, hk_94, hz_95⟩ := new_world w_85 #[.slice A_10 ((((List.map pOf ps).length : Int) - 1).toNat) c_11] 162
   rw [hw_96]
   refine xe0 1 [(2, pw w_85.heap.size 0)] ?_
   refine nl (X_ret (rj [pw w_85.heap.size 0] hR_ ?_))
   have hB_97 : Below w.heap.size w w_12 := (bgo (bt hb_2 hb_9) hg_14 hsp_8 (hb_2).size)
   have hB_98 : Below w.heap.size w w_85 := (bg (bt (bgo (bt hb_2 hb_9) hg_14 hsp_8 (hb_2).size) hb_81) hg_86 (hB_97).size)
   rw [hps]
   obtain ⟨ht1, ht2⟩ := fin_plain hne ⟨hlk, by omega⟩
   have hR2 := RX.Kd.R_take (Kd.R_below hr_89 hb_93) (m := (List.map pOf ps).length - 1) (by omega)
   have hk2 := hk_94
   have hn2 : (((List.map pOf ps).length : Int) - 1).toNat = (List.map pOf ps).length - 1 := by omega
   rw [hn2, ht2] at hk2
   rw [ht1, ht2] at hR2
   exact ⟨_, _, _, rfl, (hB_98).size, hk2, hR2, (fun k_ hk_ => Nat.le_trans hb_2.size (hsp_16 k_ hk_)), (bt hB_98 hb_93)⟩
  refine xr1 2 [(37, .eq bF)] [(38, bF)] [32, 36] (bN c_90) ?_
  refine nl (cf (sk (sg (xwe 3 [] [(44, pw w_85.heap.size 0)] (w_85.alloc (.cells #[aL A_10 (List.map pOf ps) c_11] 162)) [] trivial ?_))))
  obtain ⟨w_99, hw_103, hb_100, hk_101, hz_102⟩ := new_world w_85 #[aL A_10 (List.map pOf ps) c_11] 162
  rw [hw_103]
  refine xe0 1 [(2, pw w_85.heap.size 0)] ?_
  refine nl (X_ret (rj [pw w_85.heap.size 0] hR_ ?_))
  have hB_104 : Below w.heap.size w w_12 := (bgo (bt hb_2 hb_9) hg_14 hsp_8 (hb_2).size)
  have hB_105 : Below w.heap.size w w_85 := (bg (bt (bgo (bt hb_2 hb_9) hg_14 hsp_8 (hb_2).size) hb_81) hg_86 (hB_104).size)
  rw [hps, fin_not (.inr fun h_ => by have h1_ := h_.1; have h2_ := h_.2; omega)]
  exact ⟨_, _, _, rfl, (hB_105).size, hk_101, (Kd.R_below hr_89 hb_100), (fun k_ hk_ => Nat.le_trans hb_2.size (hsp_16 k_ hk_)), (bt hB_105 hb_100)⟩
 rw [pOf_del hlk] at hM_28
 have e_108 := kPiece_del (kPiece.K_of_M hM_28)
 obtain rfl := (List.cons.inj e_108).1
 refine xwe 6 [(27, .load (.iface 133 (.agg #[i6 ((B.lst ps).count)])))] [(3, aL A_10 (List.map pOf ps) c_11), (4, i6 (((List.map pOf ps).length : Int) - 1)), (5, pw w_12.heap.size 0), (29, .agg #[.slice none 0 0, i6 0]), (30, bF)] (w_12.alloc (.cells #[.slice none 0 0, i6 0] 128)) [la 124 (ad_24.add ((((List.map pOf ps).length : Int) - 1).toNat * 1)) (.iface 133 (.agg #[i6 ((B.lst ps).count)])) w_12] ⟨loads1 rfl (elem_cell hc_26 0 _ rfl), trivial⟩ ?_
 obtain ⟨w_111, hw_115, hb_112, hk_113, hz_114⟩ := new_world w_12 #[.slice none 0 0, i6 0] 128
 rw [hw_115]
 refine xst (.agg #[.slice none 0 0, i6 0]) hk_113 0 #[.slice none 0 0, i6 0] (fun w_116 hg_117 hk_118 hz_119 => ?_)
 have hr_120 := Kd.R_off (Kd.R_below hr_13 hb_112) hk_113 (by decide) hg_117
 refine xr0 1 [(6, bF)] [29, 30] ?_
 refine nl (sg (xr0 8 [(38, bF)] [5, 6] ?_))
 refine nl (cf (sk (sg (xwe 3 [] [(44, pw w_116.heap.size 0)] (w_116.alloc (.cells #[aL A_10 (List.map pOf ps) c_11] 162)) [] trivial ?_))))
 obtain ⟨w_121, hw_125, hb_122, hk_123, hz_124⟩ := new_world w_116 #[aL A_10 (List.map pOf ps) c_11] 162
 rw [hw_125]
 refine xe0 1 [(2, pw w_116.heap.size 0)] ?_
 refine nl (X_ret (rj [pw w_116.heap.size 0] hR_ ?_))
 have hB_126 : Below w.heap.size w w_12 := (bgo (bt hb_2 hb_9) hg_14 hsp_8 (hb_2).size)
 have hB_127 : Below w.heap.size w w_116 := (bg (bt (bgo (bt hb_2 hb_9) hg_14 hsp_8 (hb_2).size) hb_112) hg_117 (hB_126).size)
 rw [hps, fin_not (.inr fun h_ => by have h1_ := h_.1; have h2_ := h_.2; omega)]
 exact ⟨_, _, _, rfl, (hB_127).size, hk_123, (Kd.R_below hr_120 hb_122), (fun k_ hk_ => Nat.le_trans hb_2.size (hsp_16 k_ hk_)), (bt hB_127 hb_122)⟩
def DeltaR (w : World) (Bs d : Nat) (A : Option Addr) (c : Nat) (xs : List OpA) : Prop := Bs ≤ d ∧ RX.Blk w d 162 #[aL A (List.map pOf xs) c] ∧ kPiece.R 124 w Bs (OkFrom Bs) (aL A (List.map pOf xs) c) (List.map pOf xs)
def DeltaC (w : World) (d : Nat) (xs : List OpA) : Prop := ∃ A c, RX.Blk w d 162 #[aL A (List.map pOf xs) c] ∧ (List.map pOf xs).length ≤ c ∧ kPiece.C w A (List.map pOf xs).length (List.map pOf xs)
theorem DeltaR.c {w : World} {Bs d : Nat} {A : Option Addr} {c : Nat} {xs : List OpA} (h : DeltaR w Bs d A c xs) : DeltaC w d xs := ⟨A, c, h.2.1, (RX.Kd.R_len h.2.2).2, Kd.R_C h.2.2⟩
theorem DeltaC.below {w w1 : World} {d : Nat} {xs : List OpA} (h : DeltaC w d xs) (hb : Below w.heap.size w w1) : DeltaC w1 d xs := by
 obtain ⟨A, c, h1, h2, h3⟩ := h
 exact ⟨A, c, Blk.below h1 hb, h2, Kd.C_below h3 hb⟩
theorem dops_any (d : Nat) (xs : List OpA) (w : World) (hd : DeltaC w d xs) (hb : badE xs = 0) (hn : xs.length ≤ 1100000) (hz : ∀ i, i < xs.length → opSz (xs.getD i op0)) : Calls Tryz.prog 56 #[pw d 0] w fun e w' => ∃ A' c', e = .returned (.slice A' xs.length c') ∧ xs.length ≤ c' ∧ kOp.R 102 w' w.heap.size (OkFrom w.heap.size) (.slice A' xs.length c') xs ∧ Below w.heap.size w w' := by
 refine en Tryz.func56 rfl 8 [(0, pw d 0)] (fun R_ hR_ => ?_)
 obtain ⟨A0, c0, hk0, hc0, hC0⟩ := hd
 refine sg (xe0 1 [(0, pw d 0)] ?_)
 refine nl (sg (xe1 4 [(6, .load (aL A0 (List.map pOf xs) c0))] [(6, aL A0 (List.map pOf xs) c0)] (lc 160 hk0 0) ?_))
 refine xc 116 ent116 [aL A0 (List.map pOf xs) c0] (bplain_any _ _ xs _ hb hC0 hn hz) ?_
 rintro e w_3 ⟨A_1, c_2, rfl, hl_4, hr_5, hb_6⟩; refine ⟨_, rfl, ?_⟩
 refine xe0 1 [(2, aL A_1 xs c_2)] ?_
 refine nl (X_ret (rj [aL A_1 xs c_2] hR_ ?_))
 exact ⟨_, _, rfl, (RX.Kd.R_len hr_5).2, Kd.R_low hr_5 (Nat.le_refl _), hb_6⟩
theorem dpieces_any (d : Nat) (xs : List OpA) (w : World) (hd : DeltaC w d xs) (hb : badE xs = 0) (hn : xs.length ≤ 1100000) (hz : ∀ i, i < xs.length → opSz (xs.getD i op0)) (hT : Tabs w) (es : List Addr) (hE : ErrsO w es) : Calls Tryz.prog 133 #[pw d 0] w fun e w' => ∃ A' c', e = .returned (.slice A' (List.map pOf xs).length c') ∧ kPiece.R 124 w' w.heap.size (OkFrom w.heap.size) (.slice A' (List.map pOf xs).length c') (List.map pOf xs) ∧ Below w.heap.size w w' := by
 refine en Tryz.func133 rfl 16 [(0, pw d 0)] (fun R_ hR_ => ?_)
 refine sg (xe0 1 [(0, pw d 0)] ?_)
 refine nl (sg (xe0 1 [(7, pw d 0)] ?_))
 refine xc 56 ent56 [pw d 0] (dops_any _ xs _ hd hb hn hz) ?_
 rintro e w_3 ⟨A_1, c_2, rfl, hl_4, hr_5, hb_6⟩; refine ⟨_, rfl, ?_⟩
 refine xc 135 ent135 [aL A_1 xs c_2] (of_any _ _ xs _ (Kd.R_C hr_5) (by omega) hz (hT.below hb_6) es (hE.below hb_6)) ?_
 rintro e w_9 ⟨A_7, c_8, rfl, hr_10, hb_11⟩; refine ⟨_, rfl, ?_⟩
 rw [ofP_ok hb] at hr_10 ⊢; rw [badI_none hb, hb, errV_zero]
 refine xe0 7 [(3, aL A_7 (List.map pOf xs) c_8), (5, .nilIface)] ?_
 refine nl (sq (sg (xr0 2 [(14, bF)] [5] ?_)))
 refine nl (cf (sk (sg (xe0 2 [(2, aL A_7 (List.map pOf xs) c_8)] ?_))))
 refine nl (X_ret (rj [aL A_7 (List.map pOf xs) c_8] hR_ ?_))
 exact ⟨_, _, rfl, Kd.R_low hr_10 (hb_6).size, (bt hb_6 hb_11)⟩
theorem bE_pushE {xs : List OpA} {i : Nat} (hi : i < xs.length) : B.bE xs i = pushE (sB (xs.take i)) (sR (xs.take i)) (xs.getD i op0) := by
 unfold B.bE pushE
 rw [B.sB_take hi, B.sR_take hi]
theorem pushE_bE {xs : List OpA} {i : Nat} (hi : i < xs.length) (h : pushE (sB (xs.take i)) (sR (xs.take i)) (xs.getD i op0) = 0) : B.bE xs i = 0 := by rw [bE_pushE hi]; exact h
set_option maxHeartbeats 4000000 in
theorem bof_any (A : Option Addr) (c : Nat) (xs : List OpA) (w : World) (hx : kOp.C w A xs.length xs) (hxc : xs.length ≤ c) (hn : xs.length ≤ 1100000) (hz : ∀ i, i < xs.length → opSz (xs.getD i op0)) (ht : B.txS xs ≤ 50000000) (hT : Tabs w) (es : List Addr) (hE : ErrsO w es) :
  Calls Tryz.prog 65 #[aL A xs c] w fun e w' => Below w.heap.size w w' ∧ (((B.bOf xs).2 = 0 ∧ ∃ d A' c', e = .returned (.tuple #[pw d 0, i6 0, .nilIface]) ∧ DeltaR w' w.heap.size d A' c' (B.can xs)) ∨ ((B.bOf xs).2 ≠ 0 ∧ e = .returned (.tuple #[.pointer none, i6 ((B.bOf xs).1 : Int), errV es (B.bOf xs).2]))) := by
 have hpl : xs.length ≤ 9223372036854775807 := hx.2.1
 have hfi : ∀ o ∈ xs, B.fine o := fun o ho => by
  obtain ⟨i, hi, rfl⟩ := List.getElem_of_mem ho
  have := hz i hi
  rw [List.getD_eq_getElem?_getD, List.getElem?_eq_getElem hi] at this
  exact B.fine_of this
 refine en Tryz.func65 rfl 27 [(0, aL A xs c)] (fun R_ hR_ => ?_)
 refine sg (xe0 3 [(0, aL A xs c)] ?_)
 refine nl (sg (xc 80 ent80 [] (bnew_any _) ?_))
 rintro e w_1 ⟨g, rfl, hg_2, hk_3, hb_4⟩; refine ⟨_, rfl, ?_⟩
 refine xr0 1 [(5, pw g 0)] [9] ?_
 refine nl (sq (sg (xr0 3 [(10, aL A xs c), (11, i6 (xs.length : Int)), (12, i6 0)] [0] ?_)))
 refine nl (X_block ?_)
 have hgw := (Nat.le_trans (Nat.le_refl _) hg_2)
 refine X_loop (ι := Nat × Option Addr × Nat) (fun ⟨i, A5, c5⟩ => [(5, pw g 0), (10, aL A xs c), (11, i6 (xs.length : Int)), (12, i6 (i : Int))]) (fun ⟨i, A5, c5⟩ wl => i ≤ xs.length ∧ (∀ j, j < i → B.bE xs j = 0) ∧ RX.Blk wl g 194 #[i6 (sB (xs.take i)), i6 (sR (xs.take i)), .slice A5 (List.map pOf ((B.run (xs.take i)).1)).length c5, i6 ((B.run (xs.take i)).2)] ∧ kPiece.R 124 wl w.heap.size (OkFrom w.heap.size) (aL A5 (List.map pOf ((B.run (xs.take i)).1)) c5) (List.map pOf ((B.run (xs.take i)).1)) ∧ Below w.heap.size w wl) (fun ⟨i, A5, c5⟩ => xs.length - i) (0, none, 0) ⟨Nat.zero_le _, fun _ h_ => absurd h_ (Nat.not_lt_zero _), hk_3, Kd.R_nil _ _ _ _ _, hb_4⟩ (by kernel_rfl) ?_
 rintro ⟨i, A5, c5⟩ wl ⟨hi, hb0, hkl, hrl, HB⟩
 have hiv := B.inv_at hi hb0
 have hup := B.bE_upto hi hb0
 have hgn := B.inv_gone hiv hup.2.1
 have hln := B.run_len (xs.take i)
 rw [List.length_take] at hln
 have hszr := B.run_sz (xs.take i) (fun o_ ho_ => hfi o_ (List.mem_of_mem_take ho_))
 have htk := B.txS_take xs i
 have hsB0 := sB_ok hup.1
 have hsR0 := sR_ok hup.1
 have hL_ : B.L = 1099511627776 := rfl
 refine sq (X_region ?_)
 by_cases c_5 : (i : Int) < (xs.length : Int)
 ·refine xr1 1 [(13, .eq bT)] [(13, bT)] [] (dT c_5) ?_
  refine nl (sq (ct (sk (sq (bk (sg (xr0 1 [(14, nv i)] [13] ?_)))))))
  obtain ⟨ad_6, B_9, c_10, ha_7, hc_8, hl_11, hC_12⟩ := Kd.atOp (Kd.C_below hx HB) (i := (i : Int)) (by omega) (by omega)
  replace hc_8 : CellsAt wl (ad_6.add ((i : Int).toNat * 7)) (o7L (xs.getD i op0) (aL B_9 (xs.getD i op0).attrs c_10)) := hc_8
  replace hl_11 : (xs.getD i op0).attrs.length ≤ c_10 := hl_11
  replace hC_12 : kAttr.C wl B_9 ((xs.getD i op0).attrs.length) (xs.getD i op0).attrs := hC_12
  refine xw 3 [(15, .idx ad_6), (16, .load (.agg (o7A (xs.getD i op0) (aL B_9 (xs.getD i op0).attrs c_10))))] [(7, pw wl.heap.size 0), (16, .agg (o7A (xs.getD i op0) (aL B_9 (xs.getD i op0).attrs c_10)))] [] (wl.alloc (.cells #[i6 0, s0, i6 0, i6 0, s0, i6 0, .slice none 0 0] 102)) [A = some ad_6, (0 : Int) ≤ (i : Int), (i : Int) < (xs.length : Int), la 102 (ad_6.add ((i : Int).toNat * 7)) (.agg (o7A (xs.getD i op0) (aL B_9 (xs.getD i op0).attrs c_10))) wl] ⟨ha_7, (by omega), (by omega), loadsE rfl rfl hc_8 0 ⟨by kernel_rfl, by kernel_rfl⟩, trivial⟩ ?_
  obtain ⟨w_13, hw_17, hb_14, hk_15, hz_16⟩ := new_world wl #[i6 0, s0, i6 0, i6 0, s0, i6 0, .slice none 0 0] 102
  rw [hw_17]
  refine xr0 1 [(6, nv i)] [14] ?_
  refine xst (.agg (o7A (xs.getD i op0) (aL B_9 (xs.getD i op0).attrs c_10))) hk_15 0 (o7A (xs.getD i op0) (aL B_9 (xs.getD i op0).attrs c_10)) (fun w_18 hg_19 hk_20 hz_21 => ?_)
  refine nl (sg (xr 2 [(18, .load (.agg (o7A (xs.getD i op0) (aL B_9 (xs.getD i op0).attrs c_10))))] [(17, pw g 0), (18, .agg (o7A (xs.getD i op0) (aL B_9 (xs.getD i op0).attrs c_10)))] [7, 16] [la 102 (⟨wl.heap.size, 0, none⟩) (.agg (o7A (xs.getD i op0) (aL B_9 (xs.getD i op0).attrs c_10))) w_18] ⟨loadsB rfl rfl hk_20 0 ⟨by kernel_rfl, by kernel_rfl⟩, trivial⟩ ?_))
  refine xc 83 ent83 [pw g 0, .agg (o7A (xs.getD i op0) (aL B_9 (xs.getD i op0).attrs c_10))] (push_any (xs.getD i op0) _ _ w g _ _ (B.run (xs.take i)) _ _ _ (bg (bt HB hb_14) hg_19 (HB).size) hgw (Blk.below hkl (bg hb_14 hg_19 (Nat.le_refl _))) (Kd.R_below hrl (bg hb_14 hg_19 (Nat.le_refl _))) ⟨hsB0, hup.2.1⟩ ⟨hsR0, hup.2.2⟩ ⟨hiv.g0, hgn⟩ hiv.good (by omega) (B.lst_txt (by omega)) (Kd.C_below hC_12 (bg hb_14 hg_19 (Nat.le_refl _))) hl_11 (hz i (by omega)) hT es hE) ?_
  rintro e w_22 ⟨ht_23, ⟨h1_24, rfl, A_25, c_26, hk_27, hr_28, hat_29⟩ | ⟨h1_24, rfl, hk_27, hr_28⟩⟩
  ·refine ⟨_, rfl, ?_⟩
   have hB_30 : Below w.heap.size w w_22 := (bg (bt HB hb_14) hg_19 (HB).size).trans (Two.belowB ht_23 hgw (Kd.R_ge (Kd.R_below hrl (bg hb_14 hg_19 (Nat.le_refl _)))) ((bg (bt HB hb_14) hg_19 (HB).size)).size)
   have hbi : B.bE xs i = 0 := pushE_bE (by omega) h1_24
   have hb1 : ∀ j, j < i + 1 → B.bE xs j = 0 := fun j_ hj_ => by by_cases h_ : j_ < i; (· exact hb0 j_ h_); (· obtain rfl : j_ = i := (by omega); exact hbi)
   refine xe0 1 [(5, pw g 0), (6, nv i), (8, .nilIface), (10, aL A xs c), (11, i6 (xs.length : Int)), (12, nv i)] ?_
   refine nl (sg (xr0 2 [(21, bF)] [] ?_))
   refine nl (cf (sk (rg (xr1 2 [(24, .eq (i6 ((i : Int) + 1)))] [(12, i6 ((i : Int) + 1))] [6, 8, 21] (w6 ((i : Int) + 1)) ?_))))
   refine nl ?_
   refine ⟨(i + 1, A_25, c_26), by kernel_rfl, ?_, ?_⟩
   ·exact ⟨by omega, hb1, by rw [B.run_succ (by omega), B.sB_take (by omega), B.sR_take (by omega)]; exact hk_27, by rw [B.run_succ (by omega)]; exact hr_28, hB_30⟩
   (try dsimp only); omega
  refine ⟨_, rfl, ?_⟩
  have hB_31 : Below w.heap.size w w_22 := (bg (bt HB hb_14) hg_19 (HB).size).trans (Two.belowB ht_23 hgw (Kd.R_ge (Kd.R_below hrl (bg hb_14 hg_19 (Nat.le_refl _)))) ((bg (bt HB hb_14) hg_19 (HB).size)).size)
  have hbi : B.bE xs i = pushE (sB (xs.take i)) (sR (xs.take i)) (xs.getD i op0) := bE_pushE (by omega)
  have hne_ := h1_24; rw [← hbi] at hne_ ⊢
  have hfo := B.first_at hb0 hne_ (show i < xs.length by omega)
  rw [errV_pos es _ (Nat.pos_of_ne_zero hne_)]
  refine xe0 1 [(5, pw g 0), (6, nv i), (8, .iface 301 (.pointer (some (errAt es (B.bE xs i))))), (10, aL A xs c), (11, i6 (xs.length : Int)), (12, nv i)] ?_
  refine nl (sg (xr0 2 [(21, bT)] [] ?_))
  refine nl (ct (sg (xe0 5 [(2, .pointer none), (3, nv i), (4, .iface 301 (.pointer (some (errAt es (B.bE xs i)))))] ?_)))
  refine nl (X_ret (rj [.pointer none, i6 (i : Int), .iface 301 (.pointer (some (errAt es (B.bE xs i))))] hR_ ?_))
  have hfo2 : B.bOf xs = (i, B.bE xs i) := hfo
  rw [hfo2]
  refine ⟨hB_31, .inr ⟨hne_, ?_⟩⟩
  rw [errV_pos es _ (Nat.pos_of_ne_zero hne_)]; rfl
 refine xr1 1 [(13, .eq bF)] [(13, bF)] [] (dF c_5) ?_
 refine nl (sq (cf (X_exit (sg (xe0 1 [(25, pw g 0)] ?_)))))
 refine xc 91 ent91 [pw g 0] (bdelta_any w g _ _ (B.run (xs.take i)) _ _ _ (HB).size hkl hrl ⟨hiv.g0, hgn⟩ hiv.good (by omega)) ?_
 rintro e w_34 ⟨d, A_32, c_33, rfl, hd_35, hk_36, hr_37, hsp_38, hb_39⟩; refine ⟨_, rfl, ?_⟩
 refine xe0 3 [(2, pw d 0), (3, i6 0), (4, .nilIface)] ?_
 refine nl (X_ret (rj [pw d 0, i6 0, .nilIface] hR_ ?_))
 have hxi : xs.take i = xs := List.take_of_length_le (by omega)
 have hfo2 : B.bOf xs = (0, 0) := B.first_none fun j_ hj_ => hb0 j_ (by omega)
 rw [hxi] at hk_36 hr_37
 rw [hfo2]
 exact ⟨(bt HB hb_39), .inl ⟨rfl, d, A_32, c_33, rfl, (Nat.le_trans (HB).size hd_35), hk_36, hr_37⟩⟩
end Go.Proofs.YtgphmfnkeolbcaaGreatDoor
