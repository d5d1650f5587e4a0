import Derived.Test.YtgphmfnkeolbcaaDoorT4
import Derived.Test.YtgphmfnkeolbcaaDoorAn3
/- What build.Of answers, and deltas. Conditions: sizes, the tables of utf8, the errors' variables. -/
set_option linter.unusedVariables false
set_option linter.unusedSimpArgs false
set_option maxRecDepth 100000
namespace Go.Proofs.YtgphmfnkeolbcaaDoor
open Go Go.RowKit Go.Proofs.YtgphmfnkeolbcaaDoorW.PrintWords RX
theorem ent37 : Ent Tryd.prog 37 := ent_of Tryd.func37 (by kernel_rfl) rfl
theorem ent8 : Ent Tryd.prog 8 := ent_of Tryd.func8 (by kernel_rfl) rfl
theorem ent71 : Ent Tryd.prog 71 := ent_of Tryd.func71 (by kernel_rfl) rfl
theorem ent42 : Ent Tryd.prog 42 := ent_of Tryd.func42 (by kernel_rfl) rfl
theorem ent21 : Ent Tryd.prog 21 := ent_of Tryd.func21 (by kernel_rfl) rfl
theorem fin_plain {ps : List OpA} (h : ps.length ≠ 0) (hp : plainR (B.lst ps)) : (List.map pOf ps).take ((List.map pOf ps).length - 1) = List.map pOf (B.fin ps) ∧ (List.map pOf ps).length - 1 = (List.map pOf (B.fin ps)).length := by
 unfold B.fin
 rw [if_pos ⟨h, hp⟩, List.length_map, List.map_take]
 exact ⟨rfl, by rw [List.length_take, List.length_map]; omega⟩
theorem fin_not {ps : List OpA} (hp : ps.length = 0 ∨ ¬ plainR (B.lst ps)) : B.fin ps = ps := if_neg fun h => hp.elim h.1 fun h2 => h2 h.2
set_option maxHeartbeats 2000000 in
theorem bdelta_any (wB : World) (g : Nat) (b r : Int) (s : B.St) (A : Option Addr) (c : Nat) (w : World) (hB : wB.heap.size ≤ w.heap.size) (hk : RX.Blk w g 112 #[.int .i64 b, .int .i64 r, .slice A (List.map pOf s.1).length c, .int .i64 s.2]) (hR : kPiece.R 87 w wB.heap.size (OkFrom wB.heap.size) (.slice A (List.map pOf s.1).length c) (List.map pOf s.1)) (hs2 : 0 ≤ s.2 ∧ s.2 ≤ 1099511627776) (hbd : badE s.1 = 0) (hl : s.1.length ≤ 100000000) :
  Calls Tryd.prog 37 #[.pointer (some ⟨g, 0, none⟩)] w fun e w' => ∃ d A' c', e = .returned (.pointer (some ⟨d, 0, none⟩)) ∧ w.heap.size ≤ d ∧ RX.Blk w' d 64 #[.slice A' (List.map pOf (B.fin (B.dels s.1 s.2))).length c'] ∧ kPiece.R 87 w' wB.heap.size (OkFrom wB.heap.size) (.slice A' (List.map pOf (B.fin (B.dels s.1 s.2))).length c') (List.map pOf (B.fin (B.dels s.1 s.2))) ∧ (∀ k, A'.map (·.block) = some k → w.heap.size ≤ k) ∧ Below w.heap.size w w' := by
 have hls := dels_len s.1 s.2
 have hlm : (List.map pOf s.1).length = s.1.length := List.length_map ..
 have hb' := dels_ok2 hbd hs2.1 hs2.2
 refine RX.enter Tryd.func37 rfl 45 rfl [(0, .pointer (some ⟨g, 0, none⟩))] rfl (by kernel_rfl) (fun R_ hR_ => ?_)
 refine sq (rg (xe0 1 [(0, pw g 0)] ?_))
 refine nl (sq (X_grow [9] 11 #[false, false, false, false, false, false, false, false, false, false, false] (by kernel_rfl) (by kernel_rfl) (by kernel_rfl) (fun wd_1 hb_2 hh_3 => ?_)))
 refine XB_run (fuel' := 3) (Below.refl _ _) [0, 1, 2, 3, 5, 6, 7, 8] [(10, .load (.slice A ((List.map pOf s.1).length) c)), (15, .load (.int .i64 s.2))] [.pointer (some ⟨g, 0, none⟩), .pointer (some ⟨g, 0, none⟩), .pointer (some ⟨g, 2, none⟩), .slice A ((List.map pOf s.1).length) c, .pointer (some ⟨g, 0, none⟩), .pointer (some ⟨g, 0, none⟩), .pointer (some ⟨g, 3, none⟩), .int .i64 s.2] #[true, true, true, true, false, true, true, true, true, false, false] [(10, .slice A ((List.map pOf s.1).length) c), (15, .int .i64 s.2)] (fun w_ => [LoadsAs Tryd.prog 62 (⟨g, 2, none⟩) (.slice A ((List.map pOf s.1).length) c) w_, LoadsAs Tryd.prog 3 (⟨g, 3, none⟩) (.int .i64 s.2) w_]) (fun _ _ _ _ h => h) (fun w_ => by kernel_rfl) rfl (fun w_ hC_ => ⟨loads1 rfl (Blk.cell (Blk.below hk (bt hb_2 hC_)) 2 _ rfl), loads1 rfl (Blk.cell (Blk.below hk (bt hb_2 hC_)) 3 _ rfl), trivial⟩) ?_
 refine XB_mid (fuel' := 2) 4 #[true, true, true, true, true, true, true, true, true, false, false] _ rfl (by kernel_rfl) (by kernel_rfl) rfl ?_
 refine xc 60 ent60 [.slice A ((List.map pOf s.1).length) c] (pclone_any _ _ s.1 wB _ (Nat.le_trans hB hb_2.size) (Kd.R_below hR hb_2) (by omega)) ?_
 rintro e w_6 ⟨A_4, c_5, rfl, hr_7, hsp_8, hb_9⟩; refine ⟨_, rfl, ?_⟩
 refine nl ?_
 refine ⟨hb_9, ?_⟩
 refine XB_act (fuel' := 1) 9 #[true, true, true, true, true, true, true, true, true, true, false] _ rfl (by kernel_rfl) rfl (by kernel_rfl) rfl ?_
 refine xc 59 ent59 [.slice A_4 ((List.map pOf s.1).length) c_5, .int .i64 s.2] (bdeleted_any _ _ s.1 _ wB _ (Nat.le_trans hB (Nat.le_trans hb_2.size hb_9.size)) hr_7 (by omega)) ?_
 rintro e w_12 ⟨A_10, c_11, rfl, hr_13, hg_14, hat_15⟩; refine ⟨_, rfl, ?_⟩
 have hsp_16 : ∀ k_, A_10.map (·.block) = some k_ → wd_1.heap.size ≤ k_ := fun k_ hk_ => by rcases hat_15 with h_ | ⟨b_, h_, h2_⟩; (· exact hsp_8 k_ (by rw [← h_]; exact hk_)); (· rw [h_] at hk_; injection hk_ with hk_; subst hk_; exact Nat.le_trans hb_9.size h2_)
 obtain ⟨ps, hps⟩ : ∃ ps, B.dels s.1 s.2 = ps := ⟨_, rfl⟩
 rw [hps] at hls hb' hr_13 ⊢
 have hlm2 : (List.map pOf ps).length = ps.length := List.length_map ..
 refine nl (XB_pure (fuel' := 0) [10] [] [.slice A_10 ((List.map pOf ps).length) c_11] #[true, true, true, true, true, true, true, true, true, true, true] [(3, .slice A_10 ((List.map pOf ps).length) c_11)] (fun w_ => []) (fun _ _ _ _ h => h) (fun w_ => by kernel_rfl) rfl (fun w_ => trivial) ?_)
 refine XB_done (by kernel_rfl) ?_
 refine sq (rg (xr 4 [(19, .eq (.int .i64 (((List.map pOf ps).length : Int) - 1)))] [(4, .int .i64 (((List.map pOf ps).length : Int) - 1))] [] [Value.int .i64 (IntKind.i64.wrap (((List.map pOf ps).length : Int) - 1)) = Value.int .i64 (((List.map pOf ps).length : Int) - 1)] ⟨wr_i64 (by omega) (by omega), trivial⟩ ?_))
 refine nl (sq (sq (rg (xr0 1 [(20, .int .i64 (((List.map pOf ps).length : Int) - 1))] [] ?_))))
 by_cases c_17 : ((List.map pOf ps).length : Int) - 1 < 0
 ·refine xr 1 [(21, .eq (.bool true))] [(21, .bool true)] [20] [Value.bool (decide (((List.map pOf ps).length : Int) - 1 < 0)) = Value.bool true] ⟨congrArg Value.bool (decide_eq_true (c_17)), trivial⟩ ?_
  refine nl (ct (sq (rg (xc 61 ent61 [] (bempty_any _) ?_))))
  rintro e w_19 ⟨g_18, rfl, hg_20, hk_21, hb_22⟩; refine ⟨_, rfl, ?_⟩
  refine xe0 1 [(2, pw g_18 0)] ?_
  refine nl (X_ret (rk [.pointer (some ⟨g_18, 0, none⟩)] (hR_ _ _ ?_)))
  have hB_23 : Below w.heap.size w w_19 := (bt (bgo (bt hb_2 hb_9) hg_14 hsp_8 (hb_2).size) hb_22)
  rw [hps]
  obtain rfl : ps = [] := List.eq_nil_of_length_eq_zero (by omega)
  exact ⟨_, none, 0, rfl, Nat.le_trans (Nat.le_trans (Nat.le_trans hb_2.size hb_9.size) hg_14.size) hg_20, hk_21, Kd.R_nil _ _ _ _ _, fun _ h_ => (by cases h_), hB_23⟩
 have hne : ps.length ≠ 0 := by omega
 refine xr 1 [(21, .eq (.bool false))] [(21, .bool false)] [20] [Value.bool (decide (((List.map pOf ps).length : Int) - 1 < 0)) = Value.bool false] ⟨congrArg Value.bool (decide_eq_false (c_17)), trivial⟩ ?_
 refine nl (cf (sk (sq (sq (rg (xr0 2 [(24, .slice A_10 ((List.map pOf ps).length) c_11), (25, .int .i64 (((List.map pOf ps).length : Int) - 1))] [21] ?_))))))
 obtain ⟨ad_24, cs_27, ha_25, hM_28, hc_26⟩ := Kd.R_at piece0 hr_13 (i := ((List.map pOf ps).length : Int) - 1) (by omega) (by omega)
 obtain ⟨v_29, rfl⟩ := kPiece_one hM_28
 replace hc_26 : CellsAt w_12 (ad_24.add ((((List.map pOf ps).length : Int) - 1).toNat * 1)) [v_29] := hc_26
 refine xr 1 [(26, .idx ad_24)] [(26, .pointer (some (ad_24.add ((((List.map pOf ps).length : Int) - 1).toNat * 1))))] [24, 25] [A_10 = some ad_24, (0 : Int) ≤ ((List.map pOf ps).length : Int) - 1, ((List.map pOf ps).length : Int) - 1 < ((List.map pOf ps).length : Int)] ⟨ha_25, (by omega), (by omega), trivial⟩ ?_
 rw [last_get hne] at hM_28
 have hla := lst_ok hb' hne
 rcases kind_of_ok hla with hlk | hlk | hlk | hlk
 ·rw [pOf_ins hlk] at hM_28
  obtain ⟨A_31, c_32, e_33, hl_34, hR_35⟩ := kPiece_insM hM_28
  obtain rfl := (List.cons.inj e_33).1
  refine xwe 6 [(27, .load (.iface 139 (.agg #[.slice A_31 ((B.lst ps).attrs.length) c_32, .string ((B.lst ps).text), .int .i64 ((U.sc (B.lst ps).text).length : Int)])))] [(3, .slice A_10 ((List.map pOf ps).length) c_11), (4, .int .i64 (((List.map pOf ps).length : Int) - 1)), (5, pw w_12.heap.size 0), (29, .agg #[.slice none 0 0, .int .i64 0]), (30, .bool false)] (w_12.alloc (.cells #[.slice none 0 0, .int .i64 0] 101)) [LoadsAs Tryd.prog 87 (ad_24.add ((((List.map pOf ps).length : Int) - 1).toNat * 1)) (.iface 139 (.agg #[.slice A_31 ((B.lst ps).attrs.length) c_32, .string ((B.lst ps).text), .int .i64 ((U.sc (B.lst ps).text).length : Int)])) w_12] ⟨loads1 rfl (elem_cell hc_26 0 _ rfl), trivial⟩ ?_
  obtain ⟨w_36, hw_40, hb_37, hk_38, hz_39⟩ := new_world w_12 #[.slice none 0 0, .int .i64 0] 101
  rw [hw_40]
  refine xst (.agg #[.slice none 0 0, .int .i64 0]) hk_38 0 #[.slice none 0 0, .int .i64 0] (fun w_41 hg_42 hk_43 hz_44 => ?_)
  have hr_45 := Kd.R_off (Kd.R_below hr_13 hb_37) hk_38 (by decide) hg_42
  refine xr0 1 [(6, .bool false)] [29, 30] ?_
  refine nl (sq (rg (xr0 8 [(38, .bool false)] [5, 6] ?_)))
  refine nl (cf (sk (sq (rg (xwe 3 [] [(44, pw w_41.heap.size 0)] (w_41.alloc (.cells #[.slice A_10 ((List.map pOf ps).length) c_11] 64)) [] trivial ?_)))))
  obtain ⟨w_46, hw_50, hb_47, hk_48, hz_49⟩ := new_world w_41 #[.slice A_10 ((List.map pOf ps).length) c_11] 64
  rw [hw_50]
  refine xe0 1 [(2, pw w_41.heap.size 0)] ?_
  refine nl (X_ret (rk [.pointer (some ⟨w_41.heap.size, 0, none⟩)] (hR_ _ _ ?_)))
  have hB_51 : Below w.heap.size w w_12 := (bgo (bt hb_2 hb_9) hg_14 hsp_8 (hb_2).size)
  have hB_52 : Below w.heap.size w w_41 := (bg (bt (bgo (bt hb_2 hb_9) hg_14 hsp_8 (hb_2).size) hb_37) hg_42 (hB_51).size)
  rw [hps, fin_not (.inr fun h_ => by have h1_ := h_.1; have h2_ := h_.2; omega)]
  exact ⟨_, _, _, rfl, (hB_52).size, hk_48, (Kd.R_below hr_45 hb_47), (fun k_ hk_ => Nat.le_trans hb_2.size (hsp_16 k_ hk_)), (bt hB_52 hb_47)⟩
 ·rw [pOf_emb hlk] at hM_28
  obtain ⟨A_53, c_54, e_55, hl_56, hR_57⟩ := kPiece_embM hM_28
  obtain rfl := (List.cons.inj e_55).1
  have hval : (B.lst ps).val = ((B.lst ps).vk, (B.lst ps).vn, (B.lst ps).vt) := rfl
  rw [hval] at hc_26
  refine xwe 6 [(27, .load (.iface 143 (.agg #[.slice A_53 ((B.lst ps).attrs.length) c_54, .string ((B.lst ps).text), valV ((B.lst ps).vk, (B.lst ps).vn, (B.lst ps).vt)])))] [(3, .slice A_10 ((List.map pOf ps).length) c_11), (4, .int .i64 (((List.map pOf ps).length : Int) - 1)), (5, pw w_12.heap.size 0), (29, .agg #[.slice none 0 0, .int .i64 0]), (30, .bool false)] (w_12.alloc (.cells #[.slice none 0 0, .int .i64 0] 101)) [LoadsAs Tryd.prog 87 (ad_24.add ((((List.map pOf ps).length : Int) - 1).toNat * 1)) (.iface 143 (.agg #[.slice A_53 ((B.lst ps).attrs.length) c_54, .string ((B.lst ps).text), valV ((B.lst ps).vk, (B.lst ps).vn, (B.lst ps).vt)])) w_12] ⟨loads1 rfl (elem_cell hc_26 0 _ rfl), trivial⟩ ?_
  obtain ⟨w_58, hw_62, hb_59, hk_60, hz_61⟩ := new_world w_12 #[.slice none 0 0, .int .i64 0] 101
  rw [hw_62]
  refine xst (.agg #[.slice none 0 0, .int .i64 0]) hk_60 0 #[.slice none 0 0, .int .i64 0] (fun w_63 hg_64 hk_65 hz_66 => ?_)
  have hr_67 := Kd.R_off (Kd.R_below hr_13 hb_59) hk_60 (by decide) hg_64
  refine xr0 1 [(6, .bool false)] [29, 30] ?_
  refine nl (sq (rg (xr0 8 [(38, .bool false)] [5, 6] ?_)))
  refine nl (cf (sk (sq (rg (xwe 3 [] [(44, pw w_63.heap.size 0)] (w_63.alloc (.cells #[.slice A_10 ((List.map pOf ps).length) c_11] 64)) [] trivial ?_)))))
  obtain ⟨w_68, hw_72, hb_69, hk_70, hz_71⟩ := new_world w_63 #[.slice A_10 ((List.map pOf ps).length) c_11] 64
  rw [hw_72]
  refine xe0 1 [(2, pw w_63.heap.size 0)] ?_
  refine nl (X_ret (rk [.pointer (some ⟨w_63.heap.size, 0, none⟩)] (hR_ _ _ ?_)))
  have hB_73 : Below w.heap.size w w_12 := (bgo (bt hb_2 hb_9) hg_14 hsp_8 (hb_2).size)
  have hB_74 : Below w.heap.size w w_63 := (bg (bt (bgo (bt hb_2 hb_9) hg_14 hsp_8 (hb_2).size) hb_59) hg_64 (hB_73).size)
  rw [hps, fin_not (.inr fun h_ => by have h1_ := h_.1; have h2_ := h_.2; omega)]
  exact ⟨_, _, _, rfl, (hB_74).size, hk_70, (Kd.R_below hr_67 hb_69), (fun k_ hk_ => Nat.le_trans hb_2.size (hsp_16 k_ hk_)), (bt hB_74 hb_69)⟩
 ·rw [pOf_ret hlk] at hM_28
  obtain ⟨A_75, c_76, e_77, hl_78, hR_79⟩ := kPiece_retM hM_28
  obtain rfl := (List.cons.inj e_77).1
  refine xwe 6 [(27, .load (.iface 101 (.agg #[.slice A_75 ((B.lst ps).attrs.length) c_76, .int .i64 ((B.lst ps).count)])))] [(3, .slice A_10 ((List.map pOf ps).length) c_11), (4, .int .i64 (((List.map pOf ps).length : Int) - 1)), (5, pw w_12.heap.size 0), (29, .agg #[.slice A_75 ((B.lst ps).attrs.length) c_76, .int .i64 ((B.lst ps).count)]), (30, .bool true)] (w_12.alloc (.cells #[.slice none 0 0, .int .i64 0] 101)) [LoadsAs Tryd.prog 87 (ad_24.add ((((List.map pOf ps).length : Int) - 1).toNat * 1)) (.iface 101 (.agg #[.slice A_75 ((B.lst ps).attrs.length) c_76, .int .i64 ((B.lst ps).count)])) w_12] ⟨loads1 rfl (elem_cell hc_26 0 _ rfl), trivial⟩ ?_
  obtain ⟨w_80, hw_84, hb_81, hk_82, hz_83⟩ := new_world w_12 #[.slice none 0 0, .int .i64 0] 101
  rw [hw_84]
  refine xst (.agg #[.slice A_75 ((B.lst ps).attrs.length) c_76, .int .i64 ((B.lst ps).count)]) hk_82 0 #[.slice A_75 ((B.lst ps).attrs.length) c_76, .int .i64 ((B.lst ps).count)] (fun w_85 hg_86 hk_87 hz_88 => ?_)
  have hr_89 := Kd.R_off (Kd.R_below hr_13 hb_81) hk_82 (by decide) hg_86
  refine xr0 1 [(6, .bool true)] [29, 30] ?_
  refine nl (sq (rg (xr 6 [(35, .load (.slice A_75 ((B.lst ps).attrs.length) c_76))] [(32, .bool true), (36, .int .i64 ((B.lst ps).attrs.length : Int))] [5, 6] [LoadsAs Tryd.prog 42 (⟨w_12.heap.size, 0, none⟩) (.slice A_75 ((B.lst ps).attrs.length) c_76) w_85] ⟨loads1 rfl (Blk.cell hk_87 0 _ rfl), trivial⟩ ?_)))
  by_cases c_90 : ((B.lst ps).attrs.length : Int) = 0
  ·refine xr 2 [(37, .eq (.bool true))] [(38, .bool true)] [32, 36] [Value.bool (((B.lst ps).attrs.length : Int) == 0) = Value.bool true] ⟨congrArg Value.bool (beq_iff_eq.2 (c_90)), trivial⟩ ?_
   refine nl (ct (X_region ?_))
   have hC_91 := RX.Kd.C_take (m := (((List.map pOf ps).length : Int) - 1).toNat) (Kd.R_C hr_89) (by first | omega | (simp; done) | (simp; omega))
   refine xe 4 [(41, .as (.slice A_10 ((((List.map pOf ps).length : Int) - 1).toNat) c_11))] [(3, .slice A_10 ((((List.map pOf ps).length : Int) - 1).toNat) c_11)] [RunsAs Tryd.prog [(39, .slice A_10 ((List.map pOf ps).length) c_11), (40, .int .i64 (((List.map pOf ps).length : Int) - 1))] (Go.Op.slice 62 (Go.Operand.tmp 39) none (some (Go.Operand.tmp 40)) none) 62 (.slice A_10 ((((List.map pOf ps).length : Int) - 1).toNat) c_11) w_85] ⟨runs_slice_h (h := ((List.map pOf ps).length : Int) - 1) rfl rfl rfl rfl (by omega) (by have h := (RX.Kd.R_len hr_13).2; (try simp only [List.length_append, List.length_cons, List.length_nil] at h); omega), trivial⟩ ?_
   refine nl (sq (rg (xwe 3 [] [(44, pw w_85.heap.size 0)] (w_85.alloc (.cells #[.slice A_10 ((((List.map pOf ps).length : Int) - 1).toNat) c_11] 64)) [] trivial ?_)))
   obtain ⟨w_92, hw_96, hb_93, hk_94, hz_95⟩ := new_world w_85 #[.slice A_10 ((((List.map pOf ps).length : Int) - 1).toNat) c_11] 64
   rw [hw_96]
   refine xe0 1 [(2, pw w_85.heap.size 0)] ?_
   refine nl (X_ret (rk [.pointer (some ⟨w_85.heap.size, 0, none⟩)] (hR_ _ _ ?_)))
   have hB_97 : Below w.heap.size w w_12 := (bgo (bt hb_2 hb_9) hg_14 hsp_8 (hb_2).size)
   have hB_98 : Below w.heap.size w w_85 := (bg (bt (bgo (bt hb_2 hb_9) hg_14 hsp_8 (hb_2).size) hb_81) hg_86 (hB_97).size)
   rw [hps]
   obtain ⟨ht1, ht2⟩ := fin_plain hne ⟨hlk, by omega⟩
   have hR2 := RX.Kd.R_take (Kd.R_below hr_89 hb_93) (m := (List.map pOf ps).length - 1) (by omega)
   have hk2 := hk_94
   have hn2 : (((List.map pOf ps).length : Int) - 1).toNat = (List.map pOf ps).length - 1 := by omega
   rw [hn2, ht2] at hk2
   rw [ht1, ht2] at hR2
   exact ⟨_, _, _, rfl, (hB_98).size, hk2, hR2, (fun k_ hk_ => Nat.le_trans hb_2.size (hsp_16 k_ hk_)), (bt hB_98 hb_93)⟩
  refine xr 2 [(37, .eq (.bool false))] [(38, .bool false)] [32, 36] [Value.bool (((B.lst ps).attrs.length : Int) == 0) = Value.bool false] ⟨congrArg Value.bool (beq_eq_false_iff_ne.2 (c_90)), trivial⟩ ?_
  refine nl (cf (sk (sq (rg (xwe 3 [] [(44, pw w_85.heap.size 0)] (w_85.alloc (.cells #[.slice A_10 ((List.map pOf ps).length) c_11] 64)) [] trivial ?_)))))
  obtain ⟨w_99, hw_103, hb_100, hk_101, hz_102⟩ := new_world w_85 #[.slice A_10 ((List.map pOf ps).length) c_11] 64
  rw [hw_103]
  refine xe0 1 [(2, pw w_85.heap.size 0)] ?_
  refine nl (X_ret (rk [.pointer (some ⟨w_85.heap.size, 0, none⟩)] (hR_ _ _ ?_)))
  have hB_104 : Below w.heap.size w w_12 := (bgo (bt hb_2 hb_9) hg_14 hsp_8 (hb_2).size)
  have hB_105 : Below w.heap.size w w_85 := (bg (bt (bgo (bt hb_2 hb_9) hg_14 hsp_8 (hb_2).size) hb_81) hg_86 (hB_104).size)
  rw [hps, fin_not (.inr fun h_ => by have h1_ := h_.1; have h2_ := h_.2; omega)]
  exact ⟨_, _, _, rfl, (hB_105).size, hk_101, (Kd.R_below hr_89 hb_100), (fun k_ hk_ => Nat.le_trans hb_2.size (hsp_16 k_ hk_)), (bt hB_105 hb_100)⟩
 rw [pOf_del hlk] at hM_28
 have e_108 := kPiece_del (kPiece.K_of_M hM_28)
 obtain rfl := (List.cons.inj e_108).1
 refine xwe 6 [(27, .load (.iface 103 (.agg #[.int .i64 ((B.lst ps).count)])))] [(3, .slice A_10 ((List.map pOf ps).length) c_11), (4, .int .i64 (((List.map pOf ps).length : Int) - 1)), (5, pw w_12.heap.size 0), (29, .agg #[.slice none 0 0, .int .i64 0]), (30, .bool false)] (w_12.alloc (.cells #[.slice none 0 0, .int .i64 0] 101)) [LoadsAs Tryd.prog 87 (ad_24.add ((((List.map pOf ps).length : Int) - 1).toNat * 1)) (.iface 103 (.agg #[.int .i64 ((B.lst ps).count)])) w_12] ⟨loads1 rfl (elem_cell hc_26 0 _ rfl), trivial⟩ ?_
 obtain ⟨w_111, hw_115, hb_112, hk_113, hz_114⟩ := new_world w_12 #[.slice none 0 0, .int .i64 0] 101
 rw [hw_115]
 refine xst (.agg #[.slice none 0 0, .int .i64 0]) hk_113 0 #[.slice none 0 0, .int .i64 0] (fun w_116 hg_117 hk_118 hz_119 => ?_)
 have hr_120 := Kd.R_off (Kd.R_below hr_13 hb_112) hk_113 (by decide) hg_117
 refine xr0 1 [(6, .bool false)] [29, 30] ?_
 refine nl (sq (rg (xr0 8 [(38, .bool false)] [5, 6] ?_)))
 refine nl (cf (sk (sq (rg (xwe 3 [] [(44, pw w_116.heap.size 0)] (w_116.alloc (.cells #[.slice A_10 ((List.map pOf ps).length) c_11] 64)) [] trivial ?_)))))
 obtain ⟨w_121, hw_125, hb_122, hk_123, hz_124⟩ := new_world w_116 #[.slice A_10 ((List.map pOf ps).length) c_11] 64
 rw [hw_125]
 refine xe0 1 [(2, pw w_116.heap.size 0)] ?_
 refine nl (X_ret (rk [.pointer (some ⟨w_116.heap.size, 0, none⟩)] (hR_ _ _ ?_)))
 have hB_126 : Below w.heap.size w w_12 := (bgo (bt hb_2 hb_9) hg_14 hsp_8 (hb_2).size)
 have hB_127 : Below w.heap.size w w_116 := (bg (bt (bgo (bt hb_2 hb_9) hg_14 hsp_8 (hb_2).size) hb_112) hg_117 (hB_126).size)
 rw [hps, fin_not (.inr fun h_ => by have h1_ := h_.1; have h2_ := h_.2; omega)]
 exact ⟨_, _, _, rfl, (hB_127).size, hk_123, (Kd.R_below hr_120 hb_122), (fun k_ hk_ => Nat.le_trans hb_2.size (hsp_16 k_ hk_)), (bt hB_127 hb_122)⟩
/-- a delta: these operations, in memory from B on -/
def DeltaR (w : World) (Bs d : Nat) (A : Option Addr) (c : Nat) (xs : List OpA) : Prop := Bs ≤ d ∧ RX.Blk w d 64 #[.slice A (List.map pOf xs).length c] ∧ kPiece.R 87 w Bs (OkFrom Bs) (.slice A (List.map pOf xs).length c) (List.map pOf xs)
/-- a delta that is read -/
def DeltaC (w : World) (d : Nat) (xs : List OpA) : Prop := ∃ A c, RX.Blk w d 64 #[.slice A (List.map pOf xs).length c] ∧ (List.map pOf xs).length ≤ c ∧ kPiece.C w A (List.map pOf xs).length (List.map pOf xs)
theorem DeltaR.c {w : World} {Bs d : Nat} {A : Option Addr} {c : Nat} {xs : List OpA} (h : DeltaR w Bs d A c xs) : DeltaC w d xs := ⟨A, c, h.2.1, (RX.Kd.R_len h.2.2).2, Kd.R_C h.2.2⟩
theorem DeltaC.below {w w1 : World} {d : Nat} {xs : List OpA} (h : DeltaC w d xs) (hb : Below w.heap.size w w1) : DeltaC w1 d xs := by
 obtain ⟨A, c, h1, h2, h3⟩ := h
 exact ⟨A, c, Blk.below h1 hb, h2, Kd.C_below h3 hb⟩
theorem DeltaR.below {w w1 : World} {Bs d : Nat} {A : Option Addr} {c : Nat} {xs : List OpA} (h : DeltaR w Bs d A c xs) (hb : Below w.heap.size w w1) : DeltaR w1 Bs d A c xs := ⟨h.1, Blk.below h.2.1 hb, Kd.R_below h.2.2 hb⟩
theorem dcount_any (d : Nat) (xs : List OpA) (w : World) (hd : DeltaC w d xs) : Calls Tryd.prog 42 #[.pointer (some ⟨d, 0, none⟩)] w fun e w' => e = .returned (.int .i64 (xs.length : Int)) ∧ Below w.heap.size w w' := by
 have hlm : (List.map pOf xs).length = xs.length := List.length_map ..
 refine RX.enter Tryd.func42 rfl 8 rfl [(0, .pointer (some ⟨d, 0, none⟩))] rfl (by kernel_rfl) (fun R_ hR_ => ?_)
 obtain ⟨A0, c0, hk0, hc0, hC0⟩ := hd
 refine sq (rg (xe0 1 [(0, pw d 0)] ?_))
 refine nl (sq (rg (xe 6 [(6, .load (.slice A0 ((List.map pOf xs).length) c0))] [(2, .int .i64 ((List.map pOf xs).length : Int))] [LoadsAs Tryd.prog 62 (⟨d, 0, none⟩) (.slice A0 ((List.map pOf xs).length) c0) w] ⟨loads1 rfl (Blk.cell hk0 0 _ rfl), trivial⟩ ?_)))
 refine nl (X_ret (rk [.int .i64 ((List.map pOf xs).length : Int)] (hR_ _ _ ?_)))
 rw [← hlm]
 exact ⟨rfl, (Below.refl _ _)⟩
theorem dops_any (d : Nat) (xs : List OpA) (w : World) (hd : DeltaC w d xs) (hb : badE xs = 0) (hn : xs.length ≤ 1100000) (hz : ∀ i, i < xs.length → opSz (xs.getD i op0)) : Calls Tryd.prog 8 #[.pointer (some ⟨d, 0, none⟩)] w fun e w' => ∃ A' c', e = .returned (.slice A' xs.length c') ∧ xs.length ≤ c' ∧ kOp.R 59 w' w.heap.size (OkFrom w.heap.size) (.slice A' xs.length c') xs ∧ Below w.heap.size w w' := by
 refine RX.enter Tryd.func8 rfl 8 rfl [(0, .pointer (some ⟨d, 0, none⟩))] rfl (by kernel_rfl) (fun R_ hR_ => ?_)
 obtain ⟨A0, c0, hk0, hc0, hC0⟩ := hd
 refine sq (rg (xe0 1 [(0, pw d 0)] ?_))
 refine nl (sq (rg (xe 4 [(6, .load (.slice A0 ((List.map pOf xs).length) c0))] [(6, .slice A0 ((List.map pOf xs).length) c0)] [LoadsAs Tryd.prog 62 (⟨d, 0, none⟩) (.slice A0 ((List.map pOf xs).length) c0) w] ⟨loads1 rfl (Blk.cell hk0 0 _ rfl), trivial⟩ ?_)))
 refine xc 25 ent25 [.slice A0 ((List.map pOf xs).length) c0] (bplain_any _ _ xs _ hb hC0 hn hz) ?_
 rintro e w_3 ⟨A_1, c_2, rfl, hl_4, hr_5, hb_6⟩; refine ⟨_, rfl, ?_⟩
 refine xe0 1 [(2, .slice A_1 xs.length c_2)] ?_
 refine nl (X_ret (rk [.slice A_1 xs.length c_2] (hR_ _ _ ?_)))
 exact ⟨_, _, rfl, (RX.Kd.R_len hr_5).2, Kd.R_low hr_5 (Nat.le_refl _), hb_6⟩
theorem dpieces_any (d : Nat) (xs : List OpA) (w : World) (hd : DeltaC w d xs) (hb : badE xs = 0) (hn : xs.length ≤ 1100000) (hz : ∀ i, i < xs.length → opSz (xs.getD i op0)) (hT : Tabs w) (es : List Addr) (hE : ErrsO w es) : Calls Tryd.prog 71 #[.pointer (some ⟨d, 0, none⟩)] w fun e w' => ∃ A' c', e = .returned (.slice A' (List.map pOf xs).length c') ∧ kPiece.R 87 w' w.heap.size (OkFrom w.heap.size) (.slice A' (List.map pOf xs).length c') (List.map pOf xs) ∧ Below w.heap.size w w' := by
 refine RX.enter Tryd.func71 rfl 16 rfl [(0, .pointer (some ⟨d, 0, none⟩))] rfl (by kernel_rfl) (fun R_ hR_ => ?_)
 refine sq (rg (xe0 1 [(0, pw d 0)] ?_))
 refine nl (sq (rg (xe0 1 [(7, pw d 0)] ?_)))
 refine xc 8 ent8 [.pointer (some ⟨d, 0, none⟩)] (dops_any _ xs _ hd hb hn hz) ?_
 rintro e w_3 ⟨A_1, c_2, rfl, hl_4, hr_5, hb_6⟩; refine ⟨_, rfl, ?_⟩
 refine xc 66 ent66 [.slice A_1 xs.length c_2] (of_any _ _ xs _ (Kd.R_C hr_5) (by omega) hz (hT.below hb_6) es (hE.below hb_6)) ?_
 rintro e w_9 ⟨A_7, c_8, rfl, hr_10, hb_11⟩; refine ⟨_, rfl, ?_⟩
 rw [ofP_ok hb] at hr_10 ⊢; rw [badI_none hb, hb, errV_zero]
 refine xe0 7 [(3, .slice A_7 ((List.map pOf xs).length) c_8), (5, .nilIface)] ?_
 refine nl (sq (sq (rg (xr0 2 [(14, .bool false)] [5] ?_))))
 refine nl (cf (sk (sq (rg (xe0 2 [(2, .slice A_7 ((List.map pOf xs).length) c_8)] ?_)))))
 refine nl (X_ret (rk [.slice A_7 ((List.map pOf xs).length) c_8] (hR_ _ _ ?_)))
 exact ⟨_, _, rfl, Kd.R_low hr_10 (hb_6).size, (bt hb_6 hb_11)⟩
theorem dsame_any (d d2 : Nat) (xs ys : List OpA) (w : World) (hd : DeltaC w d xs) (hd2 : DeltaC w d2 ys) (hb : badE xs = 0) (hn : xs.length ≤ 1100000) (hz : ∀ i, i < xs.length → opSz (xs.getD i op0)) (hb2 : badE ys = 0) (hn2 : ys.length ≤ 1100000) (hz2 : ∀ i, i < ys.length → opSz (ys.getD i op0)) :
  Calls Tryd.prog 21 #[.pointer (some ⟨d, 0, none⟩), .pointer (some ⟨d2, 0, none⟩)] w fun e w' => e = .returned (.bool (opsEqP xs ys)) ∧ Below w.heap.size w w' := by
 refine RX.enter Tryd.func21 rfl 10 rfl [(0, .pointer (some ⟨d, 0, none⟩)), (1, .pointer (some ⟨d2, 0, none⟩))] rfl (by kernel_rfl) (fun R_ hR_ => ?_)
 refine sq (rg (xe0 1 [(0, pw d 0), (1, pw d2 0)] ?_))
 refine nl (sq (rg (xr0 1 [(5, pw d 0)] [0] ?_)))
 refine xc 8 ent8 [.pointer (some ⟨d, 0, none⟩)] (dops_any _ xs _ hd hb hn hz) ?_
 rintro e w_3 ⟨A_1, c_2, rfl, hl_4, hr_5, hb_6⟩; refine ⟨_, rfl, ?_⟩
 refine xe0 1 [(6, .slice A_1 xs.length c_2), (7, pw d2 0)] ?_
 refine xc 8 ent8 [.pointer (some ⟨d2, 0, none⟩)] (dops_any _ ys _ (hd2.below hb_6) hb2 hn2 hz2) ?_
 rintro e w_9 ⟨A_7, c_8, rfl, hl_10, hr_11, hb_12⟩; refine ⟨_, rfl, ?_⟩
 refine xc 39 ent39 [.slice A_1 xs.length c_2, .slice A_7 ys.length c_8] (osame_any _ _ _ _ xs ys _ (Kd.R_C (Kd.R_below hr_5 hb_12)) (Kd.R_C hr_11)) ?_
 rintro e w_13 ⟨rfl, hb_14⟩; refine ⟨_, rfl, ?_⟩
 refine xe0 1 [(4, .bool (opsEqP xs ys))] ?_
 refine nl (X_ret (rk [.bool (opsEqP xs ys)] (hR_ _ _ ?_)))
 exact ⟨rfl, (bt (bt hb_6 hb_12) hb_14)⟩
theorem bE_pushE {xs : List OpA} {i : Nat} (hi : i < xs.length) : B.bE xs i = pushE (sB (xs.take i)) (sR (xs.take i)) (xs.getD i op0) := by
 unfold B.bE pushE
 rw [B.sB_take hi, B.sR_take hi]
end Go.Proofs.YtgphmfnkeolbcaaDoor
