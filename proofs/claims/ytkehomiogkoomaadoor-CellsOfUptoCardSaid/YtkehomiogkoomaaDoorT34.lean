import Derived.Test.YtkehomiogkoomaaDoorT33
import Derived.Test.YtkehomiogkoomaaDoorNum
/- CellsOf returns true. Conditions: sizes, the tables of utf8, the errors' variables. -/
set_option linter.unusedVariables false
set_option linter.unusedSimpArgs false
set_option maxRecDepth 100000
namespace Go.Proofs.YtkehomiogkoomaaDoor
open Go Go.RowKit Go.Proofs.YtkehomiogkoomaaDoorW.PrintWords RX
theorem cErr_le (c : CellA) : B.cErr c ≤ 19 := by
 have h1 := plainErr_le c.vk c.vn c.vt
 have h2 : chkA false c.attrs ≤ 19 := chkUpto_le _ _ _
 unfold B.cErr; repeat (first | omega | split)
theorem cOf_le (cs : List CellA) : (B.cOf cs).2 ≤ 19 := B.firstE_le (fun i => cErr_le _) _
set_option maxHeartbeats 4000000 in
theorem cellsOf_law (A : Option Addr) (c : Nat) (cs : List CellA) (w : World) (hx : kCell.C w A cs.length cs) (hxc : cs.length ≤ c) (hn : cs.length ≤ 1048576) (hz : ∀ i, i < cs.length → B.cellSz (cs.getD i cell0)) (hT : Tabs w) (es : List Addr) (hE : Errs w es) : Calls Tryd.prog 13 #[.slice A cs.length c] w fun e w' => e = .returned (.bool true) ∧ Below w.heap.size w w' := by
 have hO : ErrsO w es := hE.on rfl
 have hpl : cs.length ≤ 9223372036854775807 := hx.2.1
 refine RX.enter Tryd.func13 rfl 107 rfl [(0, .slice A cs.length c)] rfl (by kernel_rfl) (fun R_ hR_ => ?_)
 refine sq (rg (xe0 1 [(0, .slice A cs.length c)] ?_))
 refine nl (sq (rg (xc 70 ent70 [] (lives9_any _ (hT.below (Below.refl _ _)) es (hO.below (Below.refl _ _))) ?_)))
 rintro e w_1 ⟨rfl, hb_2⟩; refine ⟨_, rfl, ?_⟩
 refine xr0 1 [(3, .bool true)] [14] ?_
 refine nl (sq (sq (rg (xr0 4 [(17, .bool false), (18, .slice A cs.length c)] [] ?_))))
 refine xc 71 ent71 [.slice A cs.length c] (large9_any _ _ cs _ (Kd.C_below hx hb_2) hn hz) ?_
 rintro e w_3 ⟨rfl, hb_4⟩; refine ⟨_, rfl, ?_⟩
 refine xr0 1 [(20, .bool (decide (20000 < lgC cs)))] [17, 18, 19] ?_
 refine nl ?_
 by_cases c_5 : decide (20000 < lgC cs) = true
 ·rw [show (decide (20000 < lgC cs) : Bool) = true from by simpa using c_5]
  refine ct (sq (rg (xe0 2 [(2, .bool true)] ?_)))
  refine nl (X_ret (rk [.bool true] (hR_ _ _ ?_)))
  exact ⟨rfl, (bt hb_2 hb_4)⟩
 have hlg := of_decide_eq_false (Bool.eq_false_iff.2 c_5)
 have hlg1 := lgC_len cs
 rw [show (decide (20000 < lgC cs) : Bool) = false from by simpa using c_5]
 refine cf (sk (sq (rg (xr0 1 [(22, .slice A cs.length c)] [20] ?_))))
 refine xc 72 ent72 [.slice A cs.length c] (own9_any _ _ cs _ (Kd.C_below hx (bt hb_2 hb_4)) hn hz) ?_
 rintro e w_8 ⟨A_6, c_7, rfl, hcap_9, hR_10, hb_11⟩; refine ⟨_, rfl, ?_⟩
 have hC_12 : kCellH.C w_8 A_6 cs.length cs := Kd.R_C hR_10
 refine xr0 1 [(4, .slice A_6 cs.length c_7)] [22, 23] ?_
 refine nl (sq (sq (rg (xe0 3 [(0, .slice A cs.length c), (3, .bool true), (4, .slice A_6 cs.length c_7), (24, .slice A_6 cs.length c_7), (25, .int .i64 (cs.length : Int)), (26, .int .i64 0)] ?_))))
 refine nl (bk (X_loop (ι := Nat) (fun i => [(0, .slice A cs.length c), (3, .bool true), (4, .slice A_6 cs.length c_7), (24, .slice A_6 cs.length c_7), (25, .int .i64 (cs.length : Int)), (26, .int .i64 (i : Int))]) (fun i wl => i ≤ cs.length ∧ Below w_8.heap.size w_8 wl) (fun i => cs.length - i) 0 ⟨Nat.zero_le _, Below.refl _ _⟩ (by kernel_rfl) ?_))
 rintro i wl ⟨hiwl, HBwl⟩
 refine sq (X_region ?_)
 by_cases c_13 : (i : Int) < (cs.length : Int)
 ·refine xr 1 [(27, .eq (.bool true))] [(27, .bool true)] [] [Value.bool (decide ((i : Int) < (cs.length : Int))) = Value.bool true] ⟨congrArg Value.bool (decide_eq_true (c_13)), trivial⟩ ?_
  refine nl (sq (ct (sk (sq (bk (sq (rg (xr0 1 [(28, nv i)] [27] ?_))))))))
  obtain ⟨ad_14, B_17, c_18, ha_15, hc_16, hl_19, hC_20, hS_21⟩ := Kd.atCellH (Kd.C_below hC_12 HBwl) (i := (i : Int)) (by omega) (by omega)
  replace hc_16 : CellsAt wl (ad_14.add ((i : Int).toNat * 6)) (c6L (cs.getD i cell0) (.slice B_17 ((cs.getD i cell0).attrs.length) c_18)) := hc_16
  replace hl_19 : (cs.getD i cell0).attrs.length ≤ c_18 := hl_19
  replace hC_20 : kAttr.C wl B_17 ((cs.getD i cell0).attrs.length) (cs.getD i cell0).attrs := hC_20
  replace hS_21 : (cs.getD i cell0).attrs = [] ∨ (cs.getD i cell0).attrs.length + 2 ≤ c_18 ∧ kAttr.C wl B_17 ((cs.getD i cell0).attrs.length + 2) ((cs.getD i cell0).attrs ++ spL) := hS_21
  refine xw 3 [(29, .idx ad_14), (30, .load (.agg (c6A (cs.getD i cell0) (.slice B_17 ((cs.getD i cell0).attrs.length) c_18))))] [(6, pw wl.heap.size 0), (30, .agg (c6A (cs.getD i cell0) (.slice B_17 ((cs.getD i cell0).attrs.length) c_18)))] [] (wl.alloc (.cells #[.int .i32 0, .string ByteArray.empty, .int .i64 0, .int .i64 0, .string ByteArray.empty, .slice none 0 0] 126)) [A_6 = some ad_14, (0 : Int) ≤ (i : Int), (i : Int) < (cs.length : Int), LoadsAs Tryd.prog 126 (ad_14.add ((i : Int).toNat * 6)) (.agg (c6A (cs.getD i cell0) (.slice B_17 ((cs.getD i cell0).attrs.length) c_18))) wl] ⟨ha_15, (by omega), (by omega), loadsE rfl rfl hc_16 0 ⟨by kernel_rfl, by kernel_rfl⟩, trivial⟩ ?_
  obtain ⟨w_22, hw_26, hb_23, hk_24, hz_25⟩ := new_world wl #[.int .i32 0, .string ByteArray.empty, .int .i64 0, .int .i64 0, .string ByteArray.empty, .slice none 0 0] 126
  rw [hw_26]
  refine xr0 1 [(5, nv i)] [28] ?_
  refine xst (.agg (c6A (cs.getD i cell0) (.slice B_17 ((cs.getD i cell0).attrs.length) c_18))) hk_24 0 (c6A (cs.getD i cell0) (.slice B_17 ((cs.getD i cell0).attrs.length) c_18)) (fun w_27 hg_28 hk_29 hz_30 => ?_)
  refine nl (sq (X_grow [] 9 #[false, false, false, false, false, false, false, false, false] (by kernel_rfl) (by kernel_rfl) (by kernel_rfl) (fun wd_31 hb_32 hh_33 => ?_)))
  refine XB_run (fuel' := 6) (Below.refl _ _) [0, 3, 4] [(31, .load (.agg (c6A (cs.getD i cell0) (.slice B_17 ((cs.getD i cell0).attrs.length) c_18))))] [.agg (c6A (cs.getD i cell0) (.slice B_17 ((cs.getD i cell0).attrs.length) c_18)), .slice A cs.length c, .int .i64 (i : Int)] #[true, false, false, true, true, false, false, false, false] [(0, .slice A cs.length c), (3, .bool true), (4, .slice A_6 cs.length c_7), (24, .slice A_6 cs.length c_7), (25, .int .i64 (cs.length : Int)), (26, .int .i64 (i : Int)), (31, .agg (c6A (cs.getD i cell0) (.slice B_17 ((cs.getD i cell0).attrs.length) c_18))), (34, .slice A cs.length c), (35, .int .i64 (i : Int))] (fun w_ => [LoadsAs Tryd.prog 126 (⟨wl.heap.size, 0, none⟩) (.agg (c6A (cs.getD i cell0) (.slice B_17 ((cs.getD i cell0).attrs.length) c_18))) w_]) (fun _ _ _ _ h => h) (fun w_ => by kernel_rfl) rfl (fun w_ hC_ => ⟨loadsB rfl rfl (Blk.below hk_29 (bt hb_32 hC_)) 0 ⟨by kernel_rfl, by kernel_rfl⟩, trivial⟩) ?_
  have hB_34 : Below w.heap.size w wd_31 := (bt (bg (bt (bt (bt (bt hb_2 hb_4) hb_11) HBwl) hb_23) hg_28 ((bt (bt (bt hb_2 hb_4) hb_11) HBwl)).size) hb_32)
  obtain ⟨ad_35, B_38, c_39, ha_36, hc_37, hl_40, hC_41⟩ := Kd.atCell (Kd.C_below hx hB_34) (i := (i : Int)) (by omega) (by omega)
  replace hc_37 : CellsAt wd_31 (ad_35.add ((i : Int).toNat * 6)) (c6L (cs.getD i cell0) (.slice B_38 ((cs.getD i cell0).attrs.length) c_39)) := hc_37
  replace hl_40 : (cs.getD i cell0).attrs.length ≤ c_39 := hl_40
  replace hC_41 : kAttr.C wd_31 B_38 ((cs.getD i cell0).attrs.length) (cs.getD i cell0).attrs := hC_41
  refine XB_run (fuel' := 4) (Below.refl _ _) [5, 6] [(36, .idx ad_35), (37, .load (.agg (c6A (cs.getD i cell0) (.slice B_38 ((cs.getD i cell0).attrs.length) c_39))))] [.pointer (some (ad_35.add ((i : Int).toNat * 6))), .agg (c6A (cs.getD i cell0) (.slice B_38 ((cs.getD i cell0).attrs.length) c_39))] #[true, false, false, true, true, true, true, false, false] [(0, .slice A cs.length c), (3, .bool true), (4, .slice A_6 cs.length c_7), (24, .slice A_6 cs.length c_7), (25, .int .i64 (cs.length : Int)), (26, .int .i64 (i : Int)), (31, .agg (c6A (cs.getD i cell0) (.slice B_17 ((cs.getD i cell0).attrs.length) c_18))), (37, .agg (c6A (cs.getD i cell0) (.slice B_38 ((cs.getD i cell0).attrs.length) c_39)))] (fun w_ => [A = some ad_35, (0 : Int) ≤ (i : Int), (i : Int) < (cs.length : Int), LoadsAs Tryd.prog 126 (ad_35.add ((i : Int).toNat * 6)) (.agg (c6A (cs.getD i cell0) (.slice B_38 ((cs.getD i cell0).attrs.length) c_39))) w_]) (fun _ _ _ _ h => h) (fun w_ => by kernel_rfl) rfl (fun w_ hC_ => ⟨ha_36, (by omega), (by omega), loadsE rfl rfl (cells_below hc_37 hC_) 0 ⟨by kernel_rfl, by kernel_rfl⟩, trivial⟩) ?_
  refine XB_mid (fuel' := 3) 1 #[true, true, false, true, true, true, true, false, false] _ rfl (by kernel_rfl) (by kernel_rfl) rfl ?_
  have hB_42 : Below wl.heap.size wl wd_31 := (bt (bg hb_23 hg_28 (Nat.le_refl _)) hb_32)
  refine xc 73 ent73 [.agg (c6A (cs.getD i cell0) (.slice B_17 ((cs.getD i cell0).attrs.length) c_18))] (ccheck9_any (cs.getD i cell0) _ _ _ (Kd.C_below hC_20 hB_42) (hz i (by omega)) (hT.below hB_34) es (hO.below hB_34)) ?_
  rintro e w_43 ⟨rfl, hb_44⟩; refine ⟨_, rfl, ?_⟩
  refine nl ?_
  refine ⟨hb_44, ?_⟩
  refine XB_mid (fuel' := 2) 2 #[true, true, true, true, true, true, true, false, false] _ rfl (by kernel_rfl) (by kernel_rfl) rfl ?_
  refine xc 18 ent18 [errV es (B.cErr (cs.getD i cell0))] (num_any es (B.cErr (cs.getD i cell0)) (cErr_le _) _ (hE.below (bt hB_34 hb_44))) ?_
  rintro e w_45 ⟨rfl, hb_46⟩; refine ⟨_, rfl, ?_⟩
  refine nl ?_
  refine ⟨(bt hb_44 hb_46), ?_⟩
  refine XB_mid (fuel' := 1) 7 #[true, true, true, true, true, true, true, true, false] _ rfl (by kernel_rfl) (by kernel_rfl) rfl ?_
  refine xc 74 ent74 [.agg (c6A (cs.getD i cell0) (.slice B_38 ((cs.getD i cell0).attrs.length) c_39))] (r9check_any (cs.getD i cell0) _ _ _ (Kd.C_below hC_41 (bt hb_44 hb_46)) (hz i (by omega)) (hT.below (bt (bt hB_34 hb_44) hb_46))) ?_
  rintro e w_47 ⟨rfl, hb_48⟩; refine ⟨_, rfl, ?_⟩
  refine nl ?_
  refine ⟨(bt (bt hb_44 hb_46) hb_48), ?_⟩
  refine XB_run (fuel' := 0) (bt (bt hb_44 hb_46) hb_48) [8] [(39, .eq (.bool false))] [.bool false] #[true, true, true, true, true, true, true, true, true] [(0, .slice A cs.length c), (3, .bool true), (4, .slice A_6 cs.length c_7), (24, .slice A_6 cs.length c_7), (25, .int .i64 (cs.length : Int)), (26, .int .i64 (i : Int)), (39, .bool false)] (fun w_ => [Value.bool ((B.cErr (cs.getD i cell0) : Int) != (B.cErr (cs.getD i cell0) : Int)) = Value.bool false]) (fun _ _ _ _ h => h) (fun w_ => by kernel_rfl) rfl (fun w_ hC_ => ⟨congrArg Value.bool (bneF rfl), trivial⟩) ?_
  refine XB_done (by kernel_rfl) ?_
  refine cf (sk (rg (xr 2 [(40, .eq (.int .i64 ((i : Int) + 1)))] [(26, .int .i64 ((i : Int) + 1))] [39] [Value.int .i64 (IntKind.i64.wrap ((i : Int) + 1)) = Value.int .i64 ((i : Int) + 1)] ⟨wr_i64 (by omega) (by omega), trivial⟩ ?_)))
  refine nl ?_
  have hB_49 : Below w_8.heap.size w_8 w_47 := (bt (bt (bt (bt (bg (bt HBwl hb_23) hg_28 (HBwl).size) hb_32) hb_44) hb_46) hb_48)
  refine ⟨(i + 1), by kernel_rfl, ?_, ?_⟩
  ·exact ⟨by omega, hB_49⟩
  (try dsimp only); omega
 refine xr 1 [(27, .eq (.bool false))] [(27, .bool false)] [] [Value.bool (decide ((i : Int) < (cs.length : Int))) = Value.bool false] ⟨congrArg Value.bool (decide_eq_false (c_13)), trivial⟩ ?_
 refine nl (sq (cf (X_exit (sq (rg (xr0 1 [(42, .slice A_6 cs.length c_7)] [24, 25, 26, 27] ?_))))))
 refine xc 75 ent75 [.slice A_6 cs.length c_7] (c9of_any _ _ cs _ (kCellH_C (Kd.C_below hC_12 HBwl)) hcap_9 (by omega) hz (hT.below (bt (bt (bt hb_2 hb_4) hb_11) HBwl)) es (hO.below (bt (bt (bt hb_2 hb_4) hb_11) HBwl))) ?_
 rintro e w_50 ⟨hb_51, ⟨hb0_52, d, A_53, c_54, rfl, hd_55⟩ | ⟨hb0_52, rfl⟩⟩
 ·refine ⟨_, rfl, ?_⟩
  obtain ⟨hcb_d, hcn_d, hcz_d⟩ := cell_facts hb0_52 (by omega) hz
  have hD_d := hd_55.c
  refine xr0 7 [(7, pw d 0), (8, .int .i64 0), (9, .nilIface)] [42, 43] ?_
  refine nl (sq (rg (xr0 1 [(48, .slice A cs.length c)] [] ?_)))
  have hB_62 : Below w.heap.size w w_50 := (bt (bt (bt (bt hb_2 hb_4) hb_11) HBwl) hb_51)
  refine xc 76 ent76 [.slice A cs.length c] (r9of_any _ _ cs w _ hB_62 hx (by omega) hz (hT.below hB_62)) ?_
  rintro e w_56 ⟨hb_57, ⟨hb0_58, A_59, c_60, rfl, hm_61⟩ | ⟨hb0_58, rfl⟩⟩
  ·refine ⟨_, rfl, ?_⟩
   refine xr0 7 [(10, .slice A_59 ((B.can (cs.map B.opC)).length) c_60), (11, .int .i64 0), (12, .int .i64 0)] [48, 49] ?_
   refine nl (sq (sq (rg (xe0 1 [(0, .slice A cs.length c), (3, .bool true), (4, .slice A_6 cs.length c_7), (7, pw d 0), (8, .int .i64 0), (10, .slice A_59 ((B.can (cs.map B.opC)).length) c_60), (11, .int .i64 0), (12, .int .i64 0), (53, .nilIface)] ?_))))
   refine xc 18 ent18 [.nilIface] (num_nil _) ?_
   rintro e w_63 ⟨rfl, hb_64⟩; refine ⟨_, rfl, ?_⟩
   refine xr0 17 [(69, .bool false), (70, .slice A_6 cs.length c_7), (71, .slice A cs.length c)] [8, 11, 53, 54] ?_
   refine xc 77 ent77 [.slice A_6 cs.length c_7, .slice A cs.length c] (r9list_any _ _ _ _ cs cs _ (kCellH_C (Kd.C_below hC_12 (bt (bt (bt HBwl hb_51) hb_57) hb_64))) (Kd.C_below hx (bt (bt hB_62 hb_57) hb_64))) ?_
   rintro e w_65 ⟨rfl, hb_66⟩; refine ⟨_, rfl, ?_⟩
   rw [(csEqP_iff _ _).2 rfl]
   refine xr0 2 [(74, .bool false)] [69, 70, 71, 72] ?_
   refine nl (cf (sk (sq (sq (rg (xr0 3 [(76, .int .i64 (cs.length : Int)), (77, .int .i64 0)] [74] ?_))))))
   refine nl (bk (X_loop (ι := Nat) (fun q => [(0, .slice A cs.length c), (3, .bool true), (4, .slice A_6 cs.length c_7), (7, .pointer (some ⟨d, 0, none⟩)), (10, .slice A_59 ((B.can (cs.map B.opC)).length) c_60), (12, .int .i64 0), (76, .int .i64 (cs.length : Int)), (77, .int .i64 (q : Int))]) (fun q wk => q ≤ cs.length ∧ Below w_65.heap.size w_65 wk) (fun q => cs.length - q) 0 ⟨Nat.zero_le _, Below.refl _ _⟩ (by kernel_rfl) ?_))
   rintro q wk ⟨hiwk, HBwk⟩
   refine sq (X_region ?_)
   by_cases c_67 : (q : Int) < (cs.length : Int)
   ·refine xr 1 [(78, .eq (.bool true))] [(78, .bool true)] [] [Value.bool (decide ((q : Int) < (cs.length : Int))) = Value.bool true] ⟨congrArg Value.bool (decide_eq_true (c_67)), trivial⟩ ?_
    refine nl (sq (ct (sk (sq (bk (sq (rg (xr0 2 [(13, nv q)] [78] ?_))))))))
    refine nl (X_any [12] 15 #[false, false, false, false, false, false, false, false, false, false, false, false, false, false, false] (by kernel_rfl) (by kernel_rfl) (by kernel_rfl) (fun wd_68 hb_69 hh_70 => ?_))
    refine XA_run (fuel' := 11) [0, 1, 2, 3] [] [.bool true, .bool true, .slice A_6 cs.length c_7, .int .i64 (q : Int)] #[true, true, true, true, false, false, false, false, false, false, false, false, false, false, false] [(0, .slice A cs.length c), (4, .slice A_6 cs.length c_7), (7, .pointer (some ⟨d, 0, none⟩)), (10, .slice A_59 ((B.can (cs.map B.opC)).length) c_60), (12, .int .i64 0), (13, .int .i64 (q : Int)), (76, .int .i64 (cs.length : Int)), (77, .int .i64 (q : Int)), (81, .bool true), (82, .slice A_6 cs.length c_7), (83, .int .i64 (q : Int))] [] (fun _ _ _ _ h => h) (by kernel_rfl) rfl trivial ?_
    have hB_71 : Below w_8.heap.size w_8 wd_68 := (bt (bt (bt (bt (bt (bt HBwl hb_51) hb_57) hb_64) hb_66) HBwk) hb_69)
    obtain ⟨ad_72, B_75, c_76, ha_73, hc_74, hl_77, hC_78, hS_79⟩ := Kd.atCellH (Kd.C_below hC_12 hB_71) (i := (q : Int)) (by omega) (by omega)
    replace hc_74 : CellsAt wd_68 (ad_72.add ((q : Int).toNat * 6)) (c6L (cs.getD q cell0) (.slice B_75 ((cs.getD q cell0).attrs.length) c_76)) := hc_74
    replace hl_77 : (cs.getD q cell0).attrs.length ≤ c_76 := hl_77
    replace hC_78 : kAttr.C wd_68 B_75 ((cs.getD q cell0).attrs.length) (cs.getD q cell0).attrs := hC_78
    replace hS_79 : (cs.getD q cell0).attrs = [] ∨ (cs.getD q cell0).attrs.length + 2 ≤ c_76 ∧ kAttr.C wd_68 B_75 ((cs.getD q cell0).attrs.length + 2) ((cs.getD q cell0).attrs ++ spL) := hS_79
    refine XA_run (fuel' := 6) [4, 5, 6, 7, 8] [(84, .idx ad_72), (86, .load (.slice B_75 ((cs.getD q cell0).attrs.length) c_76))] [.pointer (some (ad_72.add ((q : Int).toNat * 6))), .pointer (some ((ad_72.add ((q : Int).toNat * 6)).add 5)), .slice B_75 ((cs.getD q cell0).attrs.length) c_76, .slice A cs.length c, .int .i64 (q : Int)] #[true, true, true, true, true, true, true, true, true, false, false, false, false, false, false] [(0, .slice A cs.length c), (4, .slice A_6 cs.length c_7), (7, .pointer (some ⟨d, 0, none⟩)), (10, .slice A_59 ((B.can (cs.map B.opC)).length) c_60), (12, .int .i64 0), (76, .int .i64 (cs.length : Int)), (77, .int .i64 (q : Int)), (81, .bool true), (86, .slice B_75 ((cs.getD q cell0).attrs.length) c_76), (87, .slice A cs.length c), (88, .int .i64 (q : Int))] [A_6 = some ad_72, (0 : Int) ≤ (q : Int), (q : Int) < (cs.length : Int), LoadsAs Tryd.prog 45 ((ad_72.add ((q : Int).toNat * 6)).add 5) (.slice B_75 ((cs.getD q cell0).attrs.length) c_76) wd_68] (fun _ _ _ _ h => h) (by kernel_rfl) rfl ⟨ha_73, (by omega), (by omega), loads1 rfl (elem_cell hc_74 5 _ rfl), trivial⟩ ?_
    have hB_80 : Below w.heap.size w wd_68 := (bt (bt (bt (bt (bt hB_62 hb_57) hb_64) hb_66) HBwk) hb_69)
    obtain ⟨ad_81, B_84, c_85, ha_82, hc_83, hl_86, hC_87⟩ := Kd.atCell (Kd.C_below hx hB_80) (i := (q : Int)) (by omega) (by omega)
    replace hc_83 : CellsAt wd_68 (ad_81.add ((q : Int).toNat * 6)) (c6L (cs.getD q cell0) (.slice B_84 ((cs.getD q cell0).attrs.length) c_85)) := hc_83
    replace hl_86 : (cs.getD q cell0).attrs.length ≤ c_85 := hl_86
    replace hC_87 : kAttr.C wd_68 B_84 ((cs.getD q cell0).attrs.length) (cs.getD q cell0).attrs := hC_87
    refine XA_run (fuel' := 3) [9, 10, 11] [(89, .idx ad_81), (91, .load (.slice B_84 ((cs.getD q cell0).attrs.length) c_85))] [.pointer (some (ad_81.add ((q : Int).toNat * 6))), .pointer (some ((ad_81.add ((q : Int).toNat * 6)).add 5)), .slice B_84 ((cs.getD q cell0).attrs.length) c_85] #[true, true, true, true, true, true, true, true, true, true, true, true, false, false, false] [(0, .slice A cs.length c), (4, .slice A_6 cs.length c_7), (7, .pointer (some ⟨d, 0, none⟩)), (10, .slice A_59 ((B.can (cs.map B.opC)).length) c_60), (12, .int .i64 0), (76, .int .i64 (cs.length : Int)), (77, .int .i64 (q : Int)), (81, .bool true), (86, .slice B_75 ((cs.getD q cell0).attrs.length) c_76), (91, .slice B_84 ((cs.getD q cell0).attrs.length) c_85)] [A = some ad_81, (0 : Int) ≤ (q : Int), (q : Int) < (cs.length : Int), LoadsAs Tryd.prog 45 ((ad_81.add ((q : Int).toNat * 6)).add 5) (.slice B_84 ((cs.getD q cell0).attrs.length) c_85) wd_68] (fun _ _ _ _ h => h) (by kernel_rfl) rfl ⟨ha_82, (by omega), (by omega), loads1 rfl (elem_cell hc_83 5 _ rfl), trivial⟩ ?_
    refine XA_act (fuel' := 2) 12 #[true, true, true, true, true, true, true, true, true, true, true, true, true, false, false] _ rfl (by kernel_rfl) rfl (by kernel_rfl) rfl ?_
    refine xc 41 ent41 [.slice B_75 ((cs.getD q cell0).attrs.length) c_76, .slice B_84 ((cs.getD q cell0).attrs.length) c_85] (hKept_any _ _ _ _ (cs.getD q cell0).attrs _ hC_78 hS_79 hC_87 (by have h_ := (hz q (by omega)).2.2.1; omega)) ?_
    rintro e w_88 ⟨rfl, hb_89⟩; refine ⟨_, rfl, ?_⟩
    refine nl (XA_pure (fuel' := 0) [13, 14] [] [.bool true, .bool true] #[true, true, true, true, true, true, true, true, true, true, true, true, true, true, true] [(0, .slice A cs.length c), (3, .bool true), (4, .slice A_6 cs.length c_7), (7, .pointer (some ⟨d, 0, none⟩)), (10, .slice A_59 ((B.can (cs.map B.opC)).length) c_60), (12, .int .i64 0), (76, .int .i64 (cs.length : Int)), (77, .int .i64 (q : Int))] (fun w_ => []) (fun _ _ _ _ h => h) (fun w_ => by kernel_rfl) rfl (fun w_ => trivial) ?_)
    refine XA_done (by kernel_rfl) ?_
    refine rg (xr 2 [(94, .eq (.int .i64 ((q : Int) + 1)))] [(77, .int .i64 ((q : Int) + 1))] [] [Value.int .i64 (IntKind.i64.wrap ((q : Int) + 1)) = Value.int .i64 ((q : Int) + 1)] ⟨wr_i64 (by omega) (by omega), trivial⟩ ?_)
    refine nl ?_
    refine ⟨(q + 1), by kernel_rfl, ?_, ?_⟩
    ·exact ⟨by omega, (bt (bt HBwk hb_69) hb_89)⟩
    (try dsimp only); omega
   refine xr 1 [(78, .eq (.bool false))] [(78, .bool false)] [] [Value.bool (decide ((q : Int) < (cs.length : Int))) = Value.bool false] ⟨congrArg Value.bool (decide_eq_false (c_67)), trivial⟩ ?_
   refine nl (sq (cf (X_exit (sq (rg (xr0 1 [(95, .slice A_6 cs.length c_7)] [0, 4, 76, 77, 78] ?_))))))
   have hsh_92 : ShapeP 5 126 71 (fun g_ => (w_3.heap.size ≤ g_ ∧ g_ < w_8.heap.size) ∨ wk.heap.size ≤ g_) w_8 A_6 cs.length c_7 0 := shapeP_cellsH hR_10 (fun j_ h_ => by have h2_ := (hz j_ h_).2.2.1; omega) (fun g_ h1_ h2_ => .inl ⟨h1_, h2_⟩)
   have hB_94 : Below w_8.heap.size w_8 wk := (bt (bt (bt (bt (bt HBwl hb_51) hb_57) hb_64) hb_66) HBwk)
   refine xc 78 ent78 [.slice A_6 cs.length c_7] (overCells_any _ _ _ (fun g_ => (w_3.heap.size ≤ g_ ∧ g_ < w_8.heap.size) ∨ wk.heap.size ≤ g_) _ (fun _ h_ => .inr h_) (ShapeP.below hB_94 hsh_92) (by omega)) ?_
   rintro e w_90 ⟨rfl, hs_91⟩; refine ⟨_, rfl, ?_⟩
   have hB_95 : Below w_3.heap.size w_3 wk := (bt (bt (bt (bt (bt (bt hb_11 HBwl) hb_51) hb_57) hb_64) hb_66) HBwk)
   have hS_93 : Spoilt w_3.heap.size w_8.heap.size wk w_90 := SpoilO.spoilt hs_91 (fun g_ h1_ h2_ => h2_.resolve_right (fun h3_ => absurd h1_ (Nat.not_lt.2 h3_))) (hB_95).size
   have hd_96 := DeltaR.spoilt (hd_55.below (bt (bt (bt hb_57 hb_64) hb_66) HBwk)) hS_93 (HBwl).size
   have hD_97 := hd_96.c
   have hm_98 := MixK.spoilt (MixK.below hm_61 (bt (bt hb_64 hb_66) HBwk)) hS_93 ((bt HBwl hb_51)).size
   refine nl (sq (rg (xe0 7 [(98, .bool true), (101, .bool false), (102, pw d 0), (103, .slice A_59 ((B.can (cs.map B.opC)).length) c_60)] ?_)))
   have hB_99 : Below w.heap.size w w_90 := (bsp (bt (bt (bt (bt hB_62 hb_57) hb_64) hb_66) HBwk) hS_93 ((bt hb_2 hb_4)).size)
   refine xc 29 ent29 [.pointer (some ⟨d, 0, none⟩), .slice A_59 ((B.can (cs.map B.opC)).length) c_60] (his_any d (B.can (cs.map B.opC)) (B.can (cs.map B.opC)) _ _ _ hD_97 hcb_d hcn_d hcz_d (MixK.C hm_98 hB_99)) ?_
   rintro e w_100 ⟨rfl, hb_101⟩; refine ⟨_, rfl, ?_⟩
   rw [(opsEqP_iff _ _).2 rfl]
   refine xe0 3 [(2, .bool true)] ?_
   refine nl (X_ret (rk [.bool true] (hR_ _ _ ?_)))
   exact ⟨rfl, (bt hB_99 hb_101)⟩
  exact absurd hb0_52 hb0_58
 refine ⟨_, rfl, ?_⟩
 rw [errV_pos es _ (Nat.pos_of_ne_zero hb0_52)]
 refine xr0 7 [(7, .pointer none), (8, .int .i64 ((B.cOf cs).1 : Int)), (9, .iface 235 (.pointer (some (errAt es ((B.cOf cs).2)))))] [42, 43] ?_
 refine nl (sq (rg (xr0 1 [(48, .slice A cs.length c)] [] ?_)))
 have hB_108 : Below w.heap.size w w_50 := (bt (bt (bt (bt hb_2 hb_4) hb_11) HBwl) hb_51)
 refine xc 76 ent76 [.slice A cs.length c] (r9of_any _ _ cs w _ hB_108 hx (by omega) hz (hT.below hB_108)) ?_
 rintro e w_102 ⟨hb_103, ⟨hb0_104, A_105, c_106, rfl, hm_107⟩ | ⟨hb0_104, rfl⟩⟩
 ·exact absurd hb0_104 hb0_52
 refine ⟨_, rfl, ?_⟩
 refine xr0 7 [(10, .slice none 0 0), (11, .int .i64 ((B.cOf cs).1 : Int)), (12, .int .i64 ((B.cOf cs).2 : Int))] [48, 49] ?_
 refine nl (sq (sq (rg (xe0 1 [(0, .slice A cs.length c), (3, .bool true), (4, .slice A_6 cs.length c_7), (7, .pointer none), (8, .int .i64 ((B.cOf cs).1 : Int)), (10, .slice none 0 0), (11, .int .i64 ((B.cOf cs).1 : Int)), (12, .int .i64 ((B.cOf cs).2 : Int)), (53, .iface 235 (.pointer (some (errAt es ((B.cOf cs).2)))))] ?_))))
 refine xc 18 ent18 [.iface 235 (.pointer (some (errAt es ((B.cOf cs).2))))] (num_err es ((B.cOf cs).2) (Nat.pos_of_ne_zero hb0_52) (cOf_le _) _ (hE.below (bt hB_108 hb_103))) ?_
 rintro e w_109 ⟨rfl, hb_110⟩; refine ⟨_, rfl, ?_⟩
 refine xr 11 [(56, .eq (.bool false)), (60, .eq (.bool false))] [(62, .bool false), (64, .bool true), (65, .int .i64 ((B.cOf cs).2 : Int))] [8, 11, 53, 54] [Value.bool (((B.cOf cs).2 : Int) != ((B.cOf cs).2 : Int)) = Value.bool false, Value.bool (((B.cOf cs).1 : Int) != ((B.cOf cs).1 : Int)) = Value.bool false] ⟨congrArg Value.bool (bneF rfl), congrArg Value.bool (bneF rfl), trivial⟩ ?_
 by_cases c_111 : ((B.cOf cs).2 : Int) = 0
 ·exfalso; omega
 refine xr 6 [(66, .eq (.bool true))] [(69, .bool false), (70, .slice A_6 cs.length c_7), (71, .slice A cs.length c)] [62, 64, 65] [Value.bool (((B.cOf cs).2 : Int) != 0) = Value.bool true] ⟨congrArg Value.bool (bneT (c_111)), trivial⟩ ?_
 refine xc 77 ent77 [.slice A_6 cs.length c_7, .slice A cs.length c] (r9list_any _ _ _ _ cs cs _ (kCellH_C (Kd.C_below hC_12 (bt (bt (bt HBwl hb_51) hb_103) hb_110))) (Kd.C_below hx (bt (bt hB_108 hb_103) hb_110))) ?_
 rintro e w_112 ⟨rfl, hb_113⟩; refine ⟨_, rfl, ?_⟩
 rw [(csEqP_iff _ _).2 rfl]
 refine xr0 2 [(74, .bool false)] [69, 70, 71, 72] ?_
 refine nl (cf (sk (sq (sq (rg (xr0 3 [(76, .int .i64 (cs.length : Int)), (77, .int .i64 0)] [74] ?_))))))
 refine nl (bk (X_loop (ι := Nat) (fun q => [(0, .slice A cs.length c), (3, .bool true), (4, .slice A_6 cs.length c_7), (7, .pointer none), (10, .slice none 0 0), (12, .int .i64 ((B.cOf cs).2 : Int)), (76, .int .i64 (cs.length : Int)), (77, .int .i64 (q : Int))]) (fun q wk => q ≤ cs.length ∧ Below w_112.heap.size w_112 wk) (fun q => cs.length - q) 0 ⟨Nat.zero_le _, Below.refl _ _⟩ (by kernel_rfl) ?_))
 rintro q wk ⟨hiwk, HBwk⟩
 refine sq (X_region ?_)
 by_cases c_114 : (q : Int) < (cs.length : Int)
 ·refine xr 1 [(78, .eq (.bool true))] [(78, .bool true)] [] [Value.bool (decide ((q : Int) < (cs.length : Int))) = Value.bool true] ⟨congrArg Value.bool (decide_eq_true (c_114)), trivial⟩ ?_
  refine nl (sq (ct (sk (sq (bk (sq (rg (xr0 2 [(13, nv q)] [78] ?_))))))))
  refine nl (X_any [12] 15 #[false, false, false, false, false, false, false, false, false, false, false, false, false, false, false] (by kernel_rfl) (by kernel_rfl) (by kernel_rfl) (fun wd_115 hb_116 hh_117 => ?_))
  refine XA_run (fuel' := 11) [0, 1, 2, 3] [] [.bool true, .bool true, .slice A_6 cs.length c_7, .int .i64 (q : Int)] #[true, true, true, true, false, false, false, false, false, false, false, false, false, false, false] [(0, .slice A cs.length c), (4, .slice A_6 cs.length c_7), (7, .pointer none), (10, .slice none 0 0), (12, .int .i64 ((B.cOf cs).2 : Int)), (13, .int .i64 (q : Int)), (76, .int .i64 (cs.length : Int)), (77, .int .i64 (q : Int)), (81, .bool true), (82, .slice A_6 cs.length c_7), (83, .int .i64 (q : Int))] [] (fun _ _ _ _ h => h) (by kernel_rfl) rfl trivial ?_
  have hB_118 : Below w_8.heap.size w_8 wd_115 := (bt (bt (bt (bt (bt (bt HBwl hb_51) hb_103) hb_110) hb_113) HBwk) hb_116)
  obtain ⟨ad_119, B_122, c_123, ha_120, hc_121, hl_124, hC_125, hS_126⟩ := Kd.atCellH (Kd.C_below hC_12 hB_118) (i := (q : Int)) (by omega) (by omega)
  replace hc_121 : CellsAt wd_115 (ad_119.add ((q : Int).toNat * 6)) (c6L (cs.getD q cell0) (.slice B_122 ((cs.getD q cell0).attrs.length) c_123)) := hc_121
  replace hl_124 : (cs.getD q cell0).attrs.length ≤ c_123 := hl_124
  replace hC_125 : kAttr.C wd_115 B_122 ((cs.getD q cell0).attrs.length) (cs.getD q cell0).attrs := hC_125
  replace hS_126 : (cs.getD q cell0).attrs = [] ∨ (cs.getD q cell0).attrs.length + 2 ≤ c_123 ∧ kAttr.C wd_115 B_122 ((cs.getD q cell0).attrs.length + 2) ((cs.getD q cell0).attrs ++ spL) := hS_126
  refine XA_run (fuel' := 6) [4, 5, 6, 7, 8] [(84, .idx ad_119), (86, .load (.slice B_122 ((cs.getD q cell0).attrs.length) c_123))] [.pointer (some (ad_119.add ((q : Int).toNat * 6))), .pointer (some ((ad_119.add ((q : Int).toNat * 6)).add 5)), .slice B_122 ((cs.getD q cell0).attrs.length) c_123, .slice A cs.length c, .int .i64 (q : Int)] #[true, true, true, true, true, true, true, true, true, false, false, false, false, false, false] [(0, .slice A cs.length c), (4, .slice A_6 cs.length c_7), (7, .pointer none), (10, .slice none 0 0), (12, .int .i64 ((B.cOf cs).2 : Int)), (76, .int .i64 (cs.length : Int)), (77, .int .i64 (q : Int)), (81, .bool true), (86, .slice B_122 ((cs.getD q cell0).attrs.length) c_123), (87, .slice A cs.length c), (88, .int .i64 (q : Int))] [A_6 = some ad_119, (0 : Int) ≤ (q : Int), (q : Int) < (cs.length : Int), LoadsAs Tryd.prog 45 ((ad_119.add ((q : Int).toNat * 6)).add 5) (.slice B_122 ((cs.getD q cell0).attrs.length) c_123) wd_115] (fun _ _ _ _ h => h) (by kernel_rfl) rfl ⟨ha_120, (by omega), (by omega), loads1 rfl (elem_cell hc_121 5 _ rfl), trivial⟩ ?_
  have hB_127 : Below w.heap.size w wd_115 := (bt (bt (bt (bt (bt hB_108 hb_103) hb_110) hb_113) HBwk) hb_116)
  obtain ⟨ad_128, B_131, c_132, ha_129, hc_130, hl_133, hC_134⟩ := Kd.atCell (Kd.C_below hx hB_127) (i := (q : Int)) (by omega) (by omega)
  replace hc_130 : CellsAt wd_115 (ad_128.add ((q : Int).toNat * 6)) (c6L (cs.getD q cell0) (.slice B_131 ((cs.getD q cell0).attrs.length) c_132)) := hc_130
  replace hl_133 : (cs.getD q cell0).attrs.length ≤ c_132 := hl_133
  replace hC_134 : kAttr.C wd_115 B_131 ((cs.getD q cell0).attrs.length) (cs.getD q cell0).attrs := hC_134
  refine XA_run (fuel' := 3) [9, 10, 11] [(89, .idx ad_128), (91, .load (.slice B_131 ((cs.getD q cell0).attrs.length) c_132))] [.pointer (some (ad_128.add ((q : Int).toNat * 6))), .pointer (some ((ad_128.add ((q : Int).toNat * 6)).add 5)), .slice B_131 ((cs.getD q cell0).attrs.length) c_132] #[true, true, true, true, true, true, true, true, true, true, true, true, false, false, false] [(0, .slice A cs.length c), (4, .slice A_6 cs.length c_7), (7, .pointer none), (10, .slice none 0 0), (12, .int .i64 ((B.cOf cs).2 : Int)), (76, .int .i64 (cs.length : Int)), (77, .int .i64 (q : Int)), (81, .bool true), (86, .slice B_122 ((cs.getD q cell0).attrs.length) c_123), (91, .slice B_131 ((cs.getD q cell0).attrs.length) c_132)] [A = some ad_128, (0 : Int) ≤ (q : Int), (q : Int) < (cs.length : Int), LoadsAs Tryd.prog 45 ((ad_128.add ((q : Int).toNat * 6)).add 5) (.slice B_131 ((cs.getD q cell0).attrs.length) c_132) wd_115] (fun _ _ _ _ h => h) (by kernel_rfl) rfl ⟨ha_129, (by omega), (by omega), loads1 rfl (elem_cell hc_130 5 _ rfl), trivial⟩ ?_
  refine XA_act (fuel' := 2) 12 #[true, true, true, true, true, true, true, true, true, true, true, true, true, false, false] _ rfl (by kernel_rfl) rfl (by kernel_rfl) rfl ?_
  refine xc 41 ent41 [.slice B_122 ((cs.getD q cell0).attrs.length) c_123, .slice B_131 ((cs.getD q cell0).attrs.length) c_132] (hKept_any _ _ _ _ (cs.getD q cell0).attrs _ hC_125 hS_126 hC_134 (by have h_ := (hz q (by omega)).2.2.1; omega)) ?_
  rintro e w_135 ⟨rfl, hb_136⟩; refine ⟨_, rfl, ?_⟩
  refine nl (XA_pure (fuel' := 0) [13, 14] [] [.bool true, .bool true] #[true, true, true, true, true, true, true, true, true, true, true, true, true, true, true] [(0, .slice A cs.length c), (3, .bool true), (4, .slice A_6 cs.length c_7), (7, .pointer none), (10, .slice none 0 0), (12, .int .i64 ((B.cOf cs).2 : Int)), (76, .int .i64 (cs.length : Int)), (77, .int .i64 (q : Int))] (fun w_ => []) (fun _ _ _ _ h => h) (fun w_ => by kernel_rfl) rfl (fun w_ => trivial) ?_)
  refine XA_done (by kernel_rfl) ?_
  refine rg (xr 2 [(94, .eq (.int .i64 ((q : Int) + 1)))] [(77, .int .i64 ((q : Int) + 1))] [] [Value.int .i64 (IntKind.i64.wrap ((q : Int) + 1)) = Value.int .i64 ((q : Int) + 1)] ⟨wr_i64 (by omega) (by omega), trivial⟩ ?_)
  refine nl ?_
  refine ⟨(q + 1), by kernel_rfl, ?_, ?_⟩
  ·exact ⟨by omega, (bt (bt HBwk hb_116) hb_136)⟩
  (try dsimp only); omega
 refine xr 1 [(78, .eq (.bool false))] [(78, .bool false)] [] [Value.bool (decide ((q : Int) < (cs.length : Int))) = Value.bool false] ⟨congrArg Value.bool (decide_eq_false (c_114)), trivial⟩ ?_
 refine nl (sq (cf (X_exit (sq (rg (xr0 1 [(95, .slice A_6 cs.length c_7)] [0, 4, 76, 77, 78] ?_))))))
 have hsh_139 : ShapeP 5 126 71 (fun g_ => (w_3.heap.size ≤ g_ ∧ g_ < w_8.heap.size) ∨ wk.heap.size ≤ g_) w_8 A_6 cs.length c_7 0 := shapeP_cellsH hR_10 (fun j_ h_ => by have h2_ := (hz j_ h_).2.2.1; omega) (fun g_ h1_ h2_ => .inl ⟨h1_, h2_⟩)
 have hB_141 : Below w_8.heap.size w_8 wk := (bt (bt (bt (bt (bt HBwl hb_51) hb_103) hb_110) hb_113) HBwk)
 refine xc 78 ent78 [.slice A_6 cs.length c_7] (overCells_any _ _ _ (fun g_ => (w_3.heap.size ≤ g_ ∧ g_ < w_8.heap.size) ∨ wk.heap.size ≤ g_) _ (fun _ h_ => .inr h_) (ShapeP.below hB_141 hsh_139) (by omega)) ?_
 rintro e w_137 ⟨rfl, hs_138⟩; refine ⟨_, rfl, ?_⟩
 have hB_142 : Below w_3.heap.size w_3 wk := (bt (bt (bt (bt (bt (bt hb_11 HBwl) hb_51) hb_103) hb_110) hb_113) HBwk)
 have hS_140 : Spoilt w_3.heap.size w_8.heap.size wk w_137 := SpoilO.spoilt hs_138 (fun g_ h1_ h2_ => h2_.resolve_right (fun h3_ => absurd h1_ (Nat.not_lt.2 h3_))) (hB_142).size
 refine nl (sq (rg (xe 11 [(100, .eq (.bool true))] [(2, .bool true)] [Value.bool (((B.cOf cs).2 : Int) != 0) = Value.bool true] ⟨congrArg Value.bool (bneT (c_111)), trivial⟩ ?_)))
 refine nl (X_ret (rk [.bool true] (hR_ _ _ ?_)))
 have hB_143 : Below w.heap.size w w_137 := (bsp (bt (bt (bt (bt hB_108 hb_103) hb_110) hb_113) HBwk) hS_140 ((bt hb_2 hb_4)).size)
 exact ⟨rfl, hB_143⟩

end Go.Proofs.YtkehomiogkoomaaDoor
