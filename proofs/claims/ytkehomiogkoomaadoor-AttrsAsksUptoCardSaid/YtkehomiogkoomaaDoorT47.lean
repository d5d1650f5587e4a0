/- AttrsAsks returns true. Conditions: sizes that the row bounds, the tables of utf8, the errors' variables. -/
import Derived.Test.YtkehomiogkoomaaDoorT46
import Derived.Test.YtkehomiogkoomaaDoorT13
import Derived.Test.YtkehomiogkoomaaDoorA7
import Derived.Test.YtkehomiogkoomaaDoorR1
import Derived.Test.YtkehomiogkoomaaDoorPat
set_option linter.unusedVariables false
set_option linter.unusedSimpArgs false
set_option maxRecDepth 100000
namespace Go.Proofs.YtkehomiogkoomaaDoor
open Go Go.RowKit Go.Proofs.YtkehomiogkoomaaDoorW.PrintWords RX
theorem pE_le : ∀ (xs : List At), pE xs ≤ 19
 | [] => Nat.zero_le _
 | x :: l => by
  unfold pE
  split
  ·exact pE_le l
  exact pairErr_le x
theorem chkA_le (n : Bool) (xs : List At) : chkA n xs ≤ 19 := chkUpto_le n xs xs.length
set_option maxHeartbeats 4000000 in
theorem attrsAsks_any (A : Option Addr) (c : Nat) (xs : List At) (key : ByteArray) (stop : Int) (w : World) (hx : kAttr.C w A xs.length xs) (hxl : xs.length ≤ 1048576) (hsz : ∀ i, i < xs.length → (xs.getD i at0).1.size ≤ 100000000 ∧ (xs.getD i at0).2.2.2.size ≤ 100000000) (hT : Tabs w) (es : List Addr) (hE : Errs w es) :
  Calls Tryd.prog 5 #[.slice A xs.length c, .string key, .int .i64 stop] w fun e w' => e = .returned (.bool true) ∧ Below w.heap.size w w' := by
 have hA : ErrsA w es := hE.on (by decide)
 have hbx : ∀ i, i < xs.length → (xs.getD i at0).1.size ≤ 9223372036854775807 ∧ (xs.getD i at0).2.2.2.size ≤ 9223372036854775807 := fun i hi => ⟨Nat.le_trans (hsz i hi).1 (by decide), Nat.le_trans (hsz i hi).2 (by decide)⟩
 refine RX.enterM Tryd.func5 rfl 158 rfl [(0, .slice A xs.length c), (1, .string key), (2, .int .i64 stop)] rfl (by kernel_rfl) (fun R_ hR_ => ?_)
 refine RX.X_mark0 rfl ?_
 refine sq (rg (xq 1 [] [(1, .string key), (2, .int .i64 stop), (3, .pointer (some ⟨w.heap.size, 0, none⟩)), (1000000, encD [])] (w.alloc (.cells #[.slice A xs.length c] 45)) [] trivial ?_))
 obtain ⟨w_1, hw_5, hb_2, hk_3, hz_4⟩ := new_world w #[.slice A xs.length c] 45
 rw [hw_5]
 refine xq 1 [] [(1, .string key), (3, .pointer (some ⟨w.heap.size, 0, none⟩)), (5, .pointer (some ⟨w_1.heap.size, 0, none⟩)), (1000000, encD [])] (w_1.alloc (.cells #[.int .i64 stop] 3)) [] trivial ?_
 obtain ⟨w_6, hw_10, hb_7, hk_8, hz_9⟩ := new_world w_1 #[.int .i64 stop] 3
 rw [hw_10]
 refine xq 1 [] [(1, .string key), (3, .pointer (some ⟨w.heap.size, 0, none⟩)), (5, .pointer (some ⟨w_1.heap.size, 0, none⟩)), (6, .pointer (some ⟨w_6.heap.size, 0, none⟩)), (1000000, encD [])] (w_6.alloc (.cells #[.bool false] 4)) [] trivial ?_
 obtain ⟨w_11, hw_15, hb_12, hk_13, hz_14⟩ := new_world w_6 #[.bool false] 4
 rw [hw_15]
 refine nl (sq (rg (xc 30 ent30 [] (lives_any _ (hT.below (bt (bt hb_2 hb_7) hb_12)) es (hA.below (bt (bt hb_2 hb_7) hb_12))) ?_)))
 rintro e w_16 ⟨rfl, hb_17⟩; refine ⟨_, rfl, ?_⟩
 refine xq 1 [] [(1, .string key), (3, .pointer (some ⟨w.heap.size, 0, none⟩)), (5, .pointer (some ⟨w_1.heap.size, 0, none⟩)), (6, .pointer (some ⟨w_6.heap.size, 0, none⟩)), (7, .bool true), (1000000, encD [])] w_16 [] trivial ?_
 refine nl (sq (sq (rg (xq 5 [(26, .load (.slice A xs.length c))] [(1, .string key), (3, .pointer (some ⟨w.heap.size, 0, none⟩)), (5, .pointer (some ⟨w_1.heap.size, 0, none⟩)), (6, .pointer (some ⟨w_6.heap.size, 0, none⟩)), (7, .bool true), (25, .bool false), (27, .int .i64 (xs.length : Int)), (1000000, encD [])] w_16 [LoadsAs Tryd.prog 45 (⟨w.heap.size, 0, none⟩) (.slice A xs.length c) w_16] ⟨loads1 rfl (Blk.cell (Blk.below hk_3 (bt (bt hb_7 hb_12) hb_17)) 0 _ rfl), trivial⟩ ?_))))
 by_cases c_18 : (xs.length : Int) > 2000
 ·refine xq 2 [(28, .eq (.bool true))] [(1, .string key), (3, .pointer (some ⟨w.heap.size, 0, none⟩)), (5, .pointer (some ⟨w_1.heap.size, 0, none⟩)), (6, .pointer (some ⟨w_6.heap.size, 0, none⟩)), (7, .bool true), (29, .bool true), (1000000, encD [])] w_16 [Value.bool (decide ((xs.length : Int) > 2000)) = Value.bool true] ⟨congrArg Value.bool (decide_eq_true (c_18)), trivial⟩ ?_
  refine nl (ct (sq (rg (xq 1 [] [(6, .pointer (some ⟨w_6.heap.size, 0, none⟩)), (30, .bool true), (1000000, encD [])] w_16 [] trivial ?_))))
  refine xst (.bool true) (Blk.below hk_13 hb_17) 0 #[.bool true] (fun w_19 hg_20 hk_21 hz_22 => ?_)
  refine nl (X_ret (RX.retM_cell (P := Tryd.prog) (fn := Tryd.f5) (N := 158) (R := R_) (c := 6) (t := 4) (p := ⟨w_6.heap.size, 0, none⟩) (v := .bool true) (ds := []) (dsOf_enc (by kernel_rfl)) List.nodup_nil (Defs.store (Blk.below hk_13 hb_17) hg_20 (Defs.below hb_17 (Defs.below hb_12 (Defs.below hb_7 (Defs.below hb_2 (fun _ h_ => by cases h_)))))) rfl rfl hk_21 (fun w_ hb_ => loads1 rfl (Blk.cell hb_ 0 _ rfl)) (fun w_ ho_ => hR_ _ _ ?_)))
  have hB_23 : Below w.heap.size w w_19 := (bg (bt (bt (bt hb_2 hb_7) hb_12) hb_17) hg_20 ((bt hb_2 hb_7)).size)
  exact ⟨rfl, Off.below ho_ hB_23 (fun D_ hm_ => by cases hm_)⟩
 refine xq 2 [(28, .eq (.bool false))] [(1, .string key), (3, .pointer (some ⟨w.heap.size, 0, none⟩)), (5, .pointer (some ⟨w_1.heap.size, 0, none⟩)), (6, .pointer (some ⟨w_6.heap.size, 0, none⟩)), (7, .bool true), (29, .bool false), (1000000, encD [])] w_16 [Value.bool (decide ((xs.length : Int) > 2000)) = Value.bool false] ⟨congrArg Value.bool (decide_eq_false (c_18)), trivial⟩ ?_
 refine nl (cf (sk (sq (X_region ?_))))
 have hxn : xs.length ≤ 1000000 := by omega
 refine xq 1 [(31, .load (.slice A xs.length c))] [(1, .string key), (3, .pointer (some ⟨w.heap.size, 0, none⟩)), (5, .pointer (some ⟨w_1.heap.size, 0, none⟩)), (6, .pointer (some ⟨w_6.heap.size, 0, none⟩)), (31, .slice A xs.length c), (1000000, encD [])] w_16 [LoadsAs Tryd.prog 45 (⟨w.heap.size, 0, none⟩) (.slice A xs.length c) w_16] ⟨loads1 rfl (Blk.cell (Blk.below hk_3 (bt (bt hb_7 hb_12) hb_17)) 0 _ rfl), trivial⟩ ?_
 refine xc 31 ent31 [.slice A xs.length c] (hAttrs_any _ _ xs _ (Kd.C_below hx (bt (bt (bt hb_2 hb_7) hb_12) hb_17)) (by omega)) ?_
 rintro e w_30 ⟨A_24, c_25, rfl, hM_26, hb_31⟩; refine ⟨_, rfl, ?_⟩
 obtain ⟨hc_27, hC_28, hS_29⟩ := kAttrsH_K (kAttrsH.K_of_M hM_26)
 refine xq 1 [] [(1, .string key), (3, .pointer (some ⟨w.heap.size, 0, none⟩)), (5, .pointer (some ⟨w_1.heap.size, 0, none⟩)), (6, .pointer (some ⟨w_6.heap.size, 0, none⟩)), (8, .slice A_24 xs.length c_25), (1000000, encD [])] w_30 [] trivial ?_
 refine nl (sq (sq (X_gen (S := fun w_ => RX.Blk w_ w.heap.size 45 #[.slice A xs.length c]) [] 14 #[false, false, false, false, false, false, false, false, false, false, false, false, false, false] (by kernel_rfl) (by kernel_rfl) (by kernel_rfl) (fun wd_32 hb_33 hh_34 => ?_))))
 have hB_35 : Below w_1.heap.size w_1 wd_32 := (bt (bt (bt (bt hb_7 hb_12) hb_17) hb_31) hb_33)
 refine XG_run (fuel' := 12) (Blk.below hk_3 hB_35) [0, 3] [(36, .load (.slice A xs.length c))] [.slice A_24 xs.length c_25, .slice A xs.length c] #[true, false, false, true, false, false, false, false, false, false, false, false, false, false] [(1, .string key), (3, .pointer (some ⟨w.heap.size, 0, none⟩)), (5, .pointer (some ⟨w_1.heap.size, 0, none⟩)), (6, .pointer (some ⟨w_6.heap.size, 0, none⟩)), (8, .slice A_24 xs.length c_25), (33, .slice A_24 xs.length c_25), (36, .slice A xs.length c), (1000000, encD [])] (fun w_ => [LoadsAs Tryd.prog 45 (⟨w.heap.size, 0, none⟩) (.slice A xs.length c) w_]) (fun _ _ _ _ h => h) (fun w_ => by kernel_rfl) rfl (fun w_ hC_ => ⟨loads1 rfl (Blk.cell hC_ 0 _ rfl), trivial⟩) ?_
 refine XG_mid (fuel' := 11) 1 #[true, true, false, true, false, false, false, false, false, false, false, false, false, false] _ rfl (by kernel_rfl) (by kernel_rfl) rfl ?_
 have hB_36 : Below w.heap.size w wd_32 := (bt (bt (bt (bt (bt hb_2 hb_7) hb_12) hb_17) hb_31) hb_33)
 refine xc 32 ent32 [.slice A_24 xs.length c_25, .bool true] (acheck_any _ _ xs true _ (Kd.C_below hC_28 hb_33) hbx (hT.below hB_36) es (hA.below hB_36)) ?_
 rintro e w_37 ⟨rfl, hb_38⟩; refine ⟨_, rfl, ?_⟩
 refine nl ?_
 refine ⟨(Blk.below hk_3 (bt hB_35 hb_38)), ?_⟩
 refine XG_mid (fuel' := 10) 2 #[true, true, true, true, false, false, false, false, false, false, false, false, false, false] _ rfl (by kernel_rfl) (by kernel_rfl) rfl ?_
 refine xc 18 ent18 [errV es (chkA true xs)] (num_any es (chkA true xs) (chkA_le _ _) _ (hE.below (bt hB_36 hb_38))) ?_
 rintro e w_39 ⟨rfl, hb_40⟩; refine ⟨_, rfl, ?_⟩
 refine nl ?_
 refine ⟨(Blk.below hk_3 (bt (bt hB_35 hb_38) hb_40)), ?_⟩
 refine XG_mid (fuel' := 9) 4 #[true, true, true, true, true, false, false, false, false, false, false, false, false, false] _ rfl (by kernel_rfl) (by kernel_rfl) rfl ?_
 refine xc 33 ent33 [.slice A xs.length c, .bool true] (r3check_any _ _ xs true _ (Kd.C_below hx (bt (bt hB_36 hb_38) hb_40)) hsz (hT.below (bt (bt hB_36 hb_38) hb_40))) ?_
 rintro e w_41 ⟨rfl, hb_42⟩; refine ⟨_, rfl, ?_⟩
 refine nl ?_
 refine ⟨(Blk.below hk_3 (bt (bt (bt hB_35 hb_38) hb_40) hb_42)), ?_⟩
 refine XG_run (fuel' := 5) (Blk.below hk_3 (bt (bt (bt hB_35 hb_38) hb_40) hb_42)) [5, 6, 7, 10] [(38, .eq (.bool false)), (43, .load (.slice A xs.length c))] [.bool false, .bool false, .slice A_24 xs.length c_25, .slice A xs.length c] #[true, true, true, true, true, true, true, true, false, false, true, false, false, false] [(1, .string key), (3, .pointer (some ⟨w.heap.size, 0, none⟩)), (5, .pointer (some ⟨w_1.heap.size, 0, none⟩)), (6, .pointer (some ⟨w_6.heap.size, 0, none⟩)), (8, .slice A_24 xs.length c_25), (39, .bool false), (40, .slice A_24 xs.length c_25), (43, .slice A xs.length c), (1000000, encD [])] (fun w_ => [Value.bool ((chkA true xs : Int) != (chkA true xs : Int)) = Value.bool false, LoadsAs Tryd.prog 45 (⟨w.heap.size, 0, none⟩) (.slice A xs.length c) w_]) (fun _ _ _ _ h => h) (fun w_ => by kernel_rfl) rfl (fun w_ hC_ => ⟨congrArg Value.bool (bneF rfl), loads1 rfl (Blk.cell hC_ 0 _ rfl), trivial⟩) ?_
 refine XG_mid (fuel' := 4) 8 #[true, true, true, true, true, true, true, true, true, false, true, false, false, false] _ rfl (by kernel_rfl) (by kernel_rfl) rfl ?_
 refine xc 32 ent32 [.slice A_24 xs.length c_25, .bool false] (acheck_any _ _ xs false _ (Kd.C_below hC_28 (bt (bt (bt hb_33 hb_38) hb_40) hb_42)) hbx (hT.below (bt (bt (bt hB_36 hb_38) hb_40) hb_42)) es (hA.below (bt (bt (bt hB_36 hb_38) hb_40) hb_42))) ?_
 rintro e w_43 ⟨rfl, hb_44⟩; refine ⟨_, rfl, ?_⟩
 refine nl ?_
 have hB_45 : Below w_1.heap.size w_1 w_43 := (bt (bt (bt (bt hB_35 hb_38) hb_40) hb_42) hb_44)
 refine ⟨(Blk.below hk_3 hB_45), ?_⟩
 refine XG_mid (fuel' := 3) 9 #[true, true, true, true, true, true, true, true, true, true, true, false, false, false] _ rfl (by kernel_rfl) (by kernel_rfl) rfl ?_
 have hB_46 : Below w.heap.size w w_43 := (bt (bt (bt (bt hB_36 hb_38) hb_40) hb_42) hb_44)
 refine xc 18 ent18 [errV es (chkA false xs)] (num_any es (chkA false xs) (chkA_le _ _) _ (hE.below hB_46)) ?_
 rintro e w_47 ⟨rfl, hb_48⟩; refine ⟨_, rfl, ?_⟩
 refine nl ?_
 refine ⟨(Blk.below hk_3 (bt hB_45 hb_48)), ?_⟩
 refine XG_mid (fuel' := 2) 11 #[true, true, true, true, true, true, true, true, true, true, true, true, false, false] _ rfl (by kernel_rfl) (by kernel_rfl) rfl ?_
 refine xc 33 ent33 [.slice A xs.length c, .bool false] (r3check_any _ _ xs false _ (Kd.C_below hx (bt hB_46 hb_48)) hsz (hT.below (bt hB_46 hb_48))) ?_
 rintro e w_49 ⟨rfl, hb_50⟩; refine ⟨_, rfl, ?_⟩
 refine nl ?_
 refine ⟨(Blk.below hk_3 (bt (bt hB_45 hb_48) hb_50)), ?_⟩
 refine XG_run (fuel' := 0) (Blk.below hk_3 (bt (bt hB_45 hb_48) hb_50)) [12, 13] [(45, .eq (.bool false))] [.bool false, .bool false] #[true, true, true, true, true, true, true, true, true, true, true, true, true, true] [(1, .string key), (3, .pointer (some ⟨w.heap.size, 0, none⟩)), (5, .pointer (some ⟨w_1.heap.size, 0, none⟩)), (6, .pointer (some ⟨w_6.heap.size, 0, none⟩)), (8, .slice A_24 xs.length c_25), (46, .bool false), (1000000, encD [])] (fun w_ => [Value.bool ((chkA false xs : Int) != (chkA false xs : Int)) = Value.bool false]) (fun _ _ _ _ h => h) (fun w_ => by kernel_rfl) rfl (fun w_ hC_ => ⟨congrArg Value.bool (bneF rfl), trivial⟩) ?_
 refine XG_done (by kernel_rfl) ?_
 refine cf (sk (sq (rg (xq 1 [] [(1, .string key), (3, .pointer (some ⟨w.heap.size, 0, none⟩)), (5, .pointer (some ⟨w_1.heap.size, 0, none⟩)), (6, .pointer (some ⟨w_6.heap.size, 0, none⟩)), (8, .slice A_24 xs.length c_25), (48, .slice A_24 xs.length c_25), (1000000, encD [])] w_49 [] trivial ?_))))
 have hB_51 : Below w_30.heap.size w_30 w_49 := (bt (bt (bt (bt (bt (bt hb_33 hb_38) hb_40) hb_42) hb_44) hb_48) hb_50)
 refine xc 34 ent34 [.slice A_24 xs.length c_25] (aof_any _ _ xs _ (Kd.C_below hC_28 hB_51) hxn hbx (hT.below (bt (bt hB_46 hb_48) hb_50)) es (hA.below (bt (bt hB_46 hb_48) hb_50))) ?_
 rintro e w_58 ⟨A_52, c_53, ys_54, he_55, rfl, hl_56, hr_57, hb_59⟩; refine ⟨_, rfl, ?_⟩
 refine xq 5 [] [(1, .string key), (3, .pointer (some ⟨w.heap.size, 0, none⟩)), (5, .pointer (some ⟨w_1.heap.size, 0, none⟩)), (6, .pointer (some ⟨w_6.heap.size, 0, none⟩)), (8, .slice A_24 xs.length c_25), (9, .slice A_52 ys_54.length c_53), (10, errV es (pE xs)), (1000000, encD [])] w_58 [] trivial ?_
 refine nl (sq (rg (xq 1 [(53, .load (.slice A xs.length c))] [(1, .string key), (3, .pointer (some ⟨w.heap.size, 0, none⟩)), (5, .pointer (some ⟨w_1.heap.size, 0, none⟩)), (6, .pointer (some ⟨w_6.heap.size, 0, none⟩)), (8, .slice A_24 xs.length c_25), (9, .slice A_52 ys_54.length c_53), (10, errV es (pE xs)), (53, .slice A xs.length c), (1000000, encD [])] w_58 [LoadsAs Tryd.prog 45 (⟨w.heap.size, 0, none⟩) (.slice A xs.length c) w_58] ⟨loads1 rfl (Blk.cell (Blk.below hk_3 (bt (bt (bt hB_45 hb_48) hb_50) hb_59)) 0 _ rfl), trivial⟩ ?_)))
 refine xc 35 ent35 [.slice A xs.length c] (rof3_any _ _ xs _ (Kd.C_below hx (bt (bt (bt hB_46 hb_48) hb_50) hb_59)) hxn hsz (hT.below (bt (bt (bt hB_46 hb_48) hb_50) hb_59))) ?_
 rintro e w_66 ⟨A_60, c_61, zs_62, he_63, rfl, hl_64, hC_65, hb_67⟩; refine ⟨_, rfl, ?_⟩
 rw [show zs_62 = ys_54 from he_63.trans he_55.symm] at hC_65 ⊢
 refine xq 5 [] [(1, .string key), (3, .pointer (some ⟨w.heap.size, 0, none⟩)), (5, .pointer (some ⟨w_1.heap.size, 0, none⟩)), (6, .pointer (some ⟨w_6.heap.size, 0, none⟩)), (8, .slice A_24 xs.length c_25), (9, .slice A_52 ys_54.length c_53), (10, errV es (pE xs)), (11, .slice A_60 ys_54.length c_61), (12, .int .i64 (pE xs : Int)), (1000000, encD [])] w_66 [] trivial ?_
 refine nl (sq (sq (rg (xq 4 [] [(1, .string key), (3, .pointer (some ⟨w.heap.size, 0, none⟩)), (5, .pointer (some ⟨w_1.heap.size, 0, none⟩)), (6, .pointer (some ⟨w_6.heap.size, 0, none⟩)), (8, .slice A_24 xs.length c_25), (57, .slice A_52 ys_54.length c_53), (58, errV es (pE xs)), (59, .slice A_60 ys_54.length c_61), (60, .int .i64 (pE xs : Int)), (1000000, encD [])] w_66 [] trivial ?_))))
 have hB_68 : Below w.heap.size w w_66 := (bt (bt (bt (bt hB_46 hb_48) hb_50) hb_59) hb_67)
 refine xc 36 ent36 [.slice A_52 ys_54.length c_53, errV es (pE xs), .slice A_60 ys_54.length c_61, .int .i64 (pE xs : Int)] (same3_any _ _ _ _ ys_54 _ (Kd.C_below (RX.Kd.R_C hr_57) hb_67) hC_65 es (pE xs) (pE_le xs) (hE.below hB_68)) ?_
 rintro e w_69 ⟨rfl, hb_70⟩; refine ⟨_, rfl, ?_⟩
 refine xq 1 [] [(1, .string key), (3, .pointer (some ⟨w.heap.size, 0, none⟩)), (5, .pointer (some ⟨w_1.heap.size, 0, none⟩)), (6, .pointer (some ⟨w_6.heap.size, 0, none⟩)), (8, .slice A_24 xs.length c_25), (62, .bool false), (1000000, encD [])] w_69 [] trivial ?_
 refine nl (cf (sk (sq (X_region ?_))))
 have hB_71 : Below w_1.heap.size w_1 w_69 := (bt (bt (bt (bt (bt hB_45 hb_48) hb_50) hb_59) hb_67) hb_70)
 refine xq 1 [(63, .load (.slice A xs.length c))] [(1, .string key), (3, .pointer (some ⟨w.heap.size, 0, none⟩)), (5, .pointer (some ⟨w_1.heap.size, 0, none⟩)), (6, .pointer (some ⟨w_6.heap.size, 0, none⟩)), (8, .slice A_24 xs.length c_25), (63, .slice A xs.length c), (1000000, encD [])] w_69 [LoadsAs Tryd.prog 45 (⟨w.heap.size, 0, none⟩) (.slice A xs.length c) w_69] ⟨loads1 rfl (Blk.cell (Blk.below hk_3 hB_71) 0 _ rfl), trivial⟩ ?_
 refine xc 33 ent33 [.slice A xs.length c, .bool true] (r3check_any _ _ xs true _ (Kd.C_below hx (bt hB_68 hb_70)) hsz (hT.below (bt hB_68 hb_70))) ?_
 rintro e w_72 ⟨rfl, hb_73⟩; refine ⟨_, rfl, ?_⟩
 by_cases c_74 : (chkA true xs : Int) = 0
 ·refine xq 2 [(65, .eq (.bool true))] [(1, .string key), (3, .pointer (some ⟨w.heap.size, 0, none⟩)), (5, .pointer (some ⟨w_1.heap.size, 0, none⟩)), (6, .pointer (some ⟨w_6.heap.size, 0, none⟩)), (8, .slice A_24 xs.length c_25), (13, .pointer (some ⟨w_72.heap.size, 0, none⟩)), (65, .bool true), (1000000, encD [])] (w_72.alloc (.cells #[.bool false] 4)) [Value.bool ((chkA true xs : Int) == 0) = Value.bool true] ⟨congrArg Value.bool (beq_iff_eq.2 (c_74)), trivial⟩ ?_
  obtain ⟨w_75, hw_79, hb_76, hk_77, hz_78⟩ := new_world w_72 #[.bool false] 4
  rw [hw_79]
  refine xst (.bool true) hk_77 0 #[.bool true] (fun w_80 hg_81 hk_82 hz_83 => ?_)
  have hB_84 : Below w_6.heap.size w_6 w_72 := (bt (bt (bt (bt (bt (bt (bt (bt (bt (bt (bt (bt (bt hb_12 hb_17) hb_31) hb_33) hb_38) hb_40) hb_42) hb_44) hb_48) hb_50) hb_59) hb_67) hb_70) hb_73)
  have hB_85 : Below w_11.heap.size w_11 w_72 := (bt (bt (bt (bt (bt (bt (bt (bt (bt (bt (bt (bt hb_17 hb_31) hb_33) hb_38) hb_40) hb_42) hb_44) hb_48) hb_50) hb_59) hb_67) hb_70) hb_73)
  refine nl (sq (X_region ?_))
  have hB_86 : Below w_1.heap.size w_1 w_80 := (bg (bt (bt hB_71 hb_73) hb_76) hg_81 ((bt hB_71 hb_73)).size)
  refine xq 2 [(67, .load (.slice A xs.length c))] [(1, .string key), (3, .pointer (some ⟨w.heap.size, 0, none⟩)), (5, .pointer (some ⟨w_1.heap.size, 0, none⟩)), (6, .pointer (some ⟨w_6.heap.size, 0, none⟩)), (8, .slice A_24 xs.length c_25), (13, .pointer (some ⟨w_72.heap.size, 0, none⟩)), (67, .slice A xs.length c), (68, .string key), (1000000, encD [])] w_80 [LoadsAs Tryd.prog 45 (⟨w.heap.size, 0, none⟩) (.slice A xs.length c) w_80] ⟨loads1 rfl (Blk.cell (Blk.below hk_3 hB_86) 0 _ rfl), trivial⟩ ?_
  have hB_87 : Below w.heap.size w w_80 := (bg (bt (bt (bt hB_68 hb_70) hb_73) hb_76) hg_81 ((bt (bt hB_68 hb_70) hb_73)).size)
  refine xc 37 ent37 [.slice A xs.length c, .string key] (has_any _ _ xs key _ (Kd.C_below hx hB_87)) ?_
  rintro e w_88 ⟨rfl, hb_89⟩; refine ⟨_, rfl, ?_⟩
  refine xq 4 [] [(1, .string key), (3, .pointer (some ⟨w.heap.size, 0, none⟩)), (5, .pointer (some ⟨w_1.heap.size, 0, none⟩)), (6, .pointer (some ⟨w_6.heap.size, 0, none⟩)), (8, .slice A_24 xs.length c_25), (13, .pointer (some ⟨w_72.heap.size, 0, none⟩)), (14, .pointer (some ⟨w_88.heap.size, 0, none⟩)), (70, .agg #[.int .i64 ((gv xs key).1), .int .i64 ((gv xs key).2.1), .string ((gv xs key).2.2)]), (71, .bool ((get xs key).isSome)), (1000000, encD [])] (w_88.alloc (.cells #[.int .i64 0, .int .i64 0, .string ByteArray.empty] 44)) [] trivial ?_
  obtain ⟨w_90, hw_94, hb_91, hk_92, hz_93⟩ := new_world w_88 #[.int .i64 0, .int .i64 0, .string ByteArray.empty] 44
  rw [hw_94]
  refine xst (.agg #[.int .i64 ((gv xs key).1), .int .i64 ((gv xs key).2.1), .string ((gv xs key).2.2)]) hk_92 0 #[.int .i64 ((gv xs key).1), .int .i64 ((gv xs key).2.1), .string ((gv xs key).2.2)] (fun w_95 hg_96 hk_97 hz_98 => ?_)
  have hB_99 : Below w_6.heap.size w_6 w_88 := (bt (bg (bt hB_84 hb_76) hg_81 (hB_84).size) hb_89)
  have hB_100 : Below w_11.heap.size w_11 w_88 := (bt (bg (bt hB_85 hb_76) hg_81 (hB_85).size) hb_89)
  refine xq 1 [] [(1, .string key), (3, .pointer (some ⟨w.heap.size, 0, none⟩)), (5, .pointer (some ⟨w_1.heap.size, 0, none⟩)), (6, .pointer (some ⟨w_6.heap.size, 0, none⟩)), (8, .slice A_24 xs.length c_25), (13, .pointer (some ⟨w_72.heap.size, 0, none⟩)), (14, .pointer (some ⟨w_88.heap.size, 0, none⟩)), (15, .bool ((get xs key).isSome)), (1000000, encD [])] w_95 [] trivial ?_
  refine nl (sq (X_region ?_))
  by_cases c_101 : (get xs key).isSome = true
  ·rw [show (get xs key).isSome = true from c_101]
   refine xq 2 [] [(3, .pointer (some ⟨w.heap.size, 0, none⟩)), (5, .pointer (some ⟨w_1.heap.size, 0, none⟩)), (6, .pointer (some ⟨w_6.heap.size, 0, none⟩)), (8, .slice A_24 xs.length c_25), (13, .pointer (some ⟨w_72.heap.size, 0, none⟩)), (14, .pointer (some ⟨w_88.heap.size, 0, none⟩)), (15, .bool true), (73, .slice A_24 xs.length c_25), (74, .string key), (1000000, encD [])] w_95 [] trivial ?_
   have hB_102 : Below w_30.heap.size w_30 w_72 := (bt (bt (bt (bt hB_51 hb_59) hb_67) hb_70) hb_73)
   have hB_103 : Below w_30.heap.size w_30 w_88 := (bt (bg (bt hB_102 hb_76) hg_81 (hB_102).size) hb_89)
   have hB_104 : Below w_30.heap.size w_30 w_95 := (bg (bt (bt (bg (bt (bt (bt (bt (bt hB_51 hb_59) hb_67) hb_70) hb_73) hb_76) hg_81 (hB_102).size) hb_89) hb_91) hg_96 (hB_103).size)
   have hB_105 : Below w.heap.size w w_95 := (bg (bt (bt hB_87 hb_89) hb_91) hg_96 ((bt hB_87 hb_89)).size)
   refine xc 38 ent38 [.slice A_24 xs.length c_25, .string key] (aget_any _ _ xs key _ (Kd.C_below hC_28 hB_104) hxn hbx (hT.below hB_105) es (hA.below hB_105)) ?_
   rintro e w_106 ⟨rfl, hb_107⟩; refine ⟨_, rfl, ?_⟩
   rw [show getV xs key = valV ((gv xs key).1, (gv xs key).2.1, (gv xs key).2.2) from if_pos ⟨(show chkA true xs = 0 by omega), c_101⟩, show decide (chkA true xs = 0 ∧ (get xs key).isSome = true) = true from decide_eq_true ⟨(show chkA true xs = 0 by omega), c_101⟩]
   refine xq 5 [] [(3, .pointer (some ⟨w.heap.size, 0, none⟩)), (5, .pointer (some ⟨w_1.heap.size, 0, none⟩)), (6, .pointer (some ⟨w_6.heap.size, 0, none⟩)), (8, .slice A_24 xs.length c_25), (13, .pointer (some ⟨w_72.heap.size, 0, none⟩)), (14, .pointer (some ⟨w_88.heap.size, 0, none⟩)), (15, .bool true), (16, valV ((gv xs key).1, (gv xs key).2.1, (gv xs key).2.2)), (17, .bool true), (1000000, encD [])] w_106 [] trivial ?_
   refine nl (sq (sq (X_region ?_)))
   have hB_108 : Below w_80.heap.size w_80 w_106 := (bt (bg (bt hb_89 hb_91) hg_96 (hb_89).size) hb_107)
   refine xq 11 [(79, .load (.bool true)), (88, .load (.agg #[.int .i64 ((gv xs key).1), .int .i64 ((gv xs key).2.1), .string ((gv xs key).2.2)]))] [(3, .pointer (some ⟨w.heap.size, 0, none⟩)), (5, .pointer (some ⟨w_1.heap.size, 0, none⟩)), (6, .pointer (some ⟨w_6.heap.size, 0, none⟩)), (8, .slice A_24 xs.length c_25), (13, .pointer (some ⟨w_72.heap.size, 0, none⟩)), (16, valV ((gv xs key).1, (gv xs key).2.1, (gv xs key).2.2)), (17, .bool true), (84, .bool false), (86, .bool true), (87, valV ((gv xs key).1, (gv xs key).2.1, (gv xs key).2.2)), (88, .agg #[.int .i64 ((gv xs key).1), .int .i64 ((gv xs key).2.1), .string ((gv xs key).2.2)]), (1000000, encD [])] w_106 [LoadsAs Tryd.prog 4 (⟨w_72.heap.size, 0, none⟩) (.bool true) w_106, LoadsAs Tryd.prog 44 (⟨w_88.heap.size, 0, none⟩) (.agg #[.int .i64 ((gv xs key).1), .int .i64 ((gv xs key).2.1), .string ((gv xs key).2.2)]) w_106] ⟨loads1 rfl (Blk.cell (Blk.below hk_82 hB_108) 0 _ rfl), loadsB rfl rfl (Blk.below hk_97 hb_107) 0 ⟨by kernel_rfl, by kernel_rfl⟩, trivial⟩ ?_
   refine xc 39 ent39 [.agg #[.int .i64 ((gv xs key).1), .int .i64 ((gv xs key).2.1), .string ((gv xs key).2.2)]] (hvalue_any ((gv xs key).1) ((gv xs key).2.1) ((gv xs key).2.2) _) ?_
   rintro e w_109 ⟨rfl, hb_110⟩; refine ⟨_, rfl, ?_⟩
   refine xq 11 [(90, .as (.bool false))] [(3, .pointer (some ⟨w.heap.size, 0, none⟩)), (5, .pointer (some ⟨w_1.heap.size, 0, none⟩)), (6, .pointer (some ⟨w_6.heap.size, 0, none⟩)), (8, .slice A_24 xs.length c_25), (13, .pointer (some ⟨w_72.heap.size, 0, none⟩)), (100, .bool false), (1000000, encD [])] w_109 [RunsAs Tryd.prog [(87, valV ((gv xs key).1, (gv xs key).2.1, (gv xs key).2.2)), (89, valV ((gv xs key).1, (gv xs key).2.1, (gv xs key).2.2)), (1000000, encD [])] (Go.Op.binOp Go.BinOp.neq 63 (Go.Operand.tmp 87) (Go.Operand.tmp 89) 63) 4 (.bool false) w_109] ⟨runs_bin rfl rfl (valV_neq ((gv xs key).1, (gv xs key).2.1, (gv xs key).2.2) ((gv xs key).1, (gv xs key).2.1, (gv xs key).2.2) _ _ _).1 (by have h_ := (valV_neq ((gv xs key).1, (gv xs key).2.1, (gv xs key).2.2) ((gv xs key).1, (gv xs key).2.1, (gv xs key).2.2) (.tmp 0) (.tmp 0) w_109).2; rw [veq_refl] at h_; exact h_), trivial⟩ ?_
   refine nl (cf (sk (sq (rg (xq 1 [] [(3, .pointer (some ⟨w.heap.size, 0, none⟩)), (5, .pointer (some ⟨w_1.heap.size, 0, none⟩)), (6, .pointer (some ⟨w_6.heap.size, 0, none⟩)), (8, .slice A_24 xs.length c_25), (13, .pointer (some ⟨w_72.heap.size, 0, none⟩)), (101, .slice A_24 xs.length c_25), (1000000, encD [])] w_109 [] trivial ?_)))))
   refine xc 40 ent40 [.slice A_24 xs.length c_25] (aeach_any _ _ xs _ (Kd.C_below hC_28 (bt (bt hB_104 hb_107) hb_110)) hxn hbx (hT.below (bt (bt hB_105 hb_107) hb_110)) es (hA.below (bt (bt hB_105 hb_107) hb_110))) ?_
   rintro e w_117 ⟨g_111, A_112, c_113, rfl, hge_114, hk_115, hr_116, hb_118⟩; refine ⟨_, rfl, ?_⟩
   rw [show eachA xs = xs from if_pos (show chkA true xs = 0 by omega)] at hk_115 hr_116
   refine xq 1 [] [(3, .pointer (some ⟨w.heap.size, 0, none⟩)), (5, .pointer (some ⟨w_1.heap.size, 0, none⟩)), (6, .pointer (some ⟨w_6.heap.size, 0, none⟩)), (8, .slice A_24 xs.length c_25), (13, .pointer (some ⟨w_72.heap.size, 0, none⟩)), (18, .func (.func 106) #[] #[.pointer (some ⟨g_111, 0, none⟩)]), (1000000, encD [])] w_117 [] trivial ?_
   refine nl (sq (sq (rg (xq 2 [] [(3, .pointer (some ⟨w.heap.size, 0, none⟩)), (5, .pointer (some ⟨w_1.heap.size, 0, none⟩)), (6, .pointer (some ⟨w_6.heap.size, 0, none⟩)), (8, .slice A_24 xs.length c_25), (13, .pointer (some ⟨w_72.heap.size, 0, none⟩)), (18, .func (.func 106) #[] #[.pointer (some ⟨g_111, 0, none⟩)]), (104, .bool false), (1000000, encD [])] w_117 [] trivial ?_))))
   refine nl (cf (sk (sq (sq (rg (xq 1 [] [(3, .pointer (some ⟨w.heap.size, 0, none⟩)), (5, .pointer (some ⟨w_1.heap.size, 0, none⟩)), (6, .pointer (some ⟨w_6.heap.size, 0, none⟩)), (8, .slice A_24 xs.length c_25), (13, .pointer (some ⟨w_72.heap.size, 0, none⟩)), (18, .func (.func 106) #[] #[.pointer (some ⟨g_111, 0, none⟩)]), (105, .int .i64 0), (1000000, encD [])] w_117 [] trivial ?_))))))
   refine nl (bk (X_loop (ι := Nat × List Nat) (fun ⟨t, ds⟩ => [(3, .pointer (some ⟨w.heap.size, 0, none⟩)), (5, .pointer (some ⟨w_1.heap.size, 0, none⟩)), (6, .pointer (some ⟨w_6.heap.size, 0, none⟩)), (8, .slice A_24 xs.length c_25), (13, .pointer (some ⟨w_72.heap.size, 0, none⟩)), (18, .func (.func 106) #[] #[.pointer (some ⟨g_111, 0, none⟩)]), (105, .int .i64 (t : Int)), (1000000, encD ds)]) (fun ⟨t, ds⟩ wl => t ≤ 2 ∧ Below w_117.heap.size w_117 wl ∧ Defs ds wl ∧ ds.Nodup ∧ (∀ D ∈ ds, w_117.heap.size ≤ D)) (fun ⟨t, ds⟩ => 2 - t) (0, []) ⟨by omega, Below.refl _ _, fun _ h_ => (by cases h_), List.nodup_nil, fun _ h_ => (by cases h_)⟩ (by kernel_rfl) ?_))
   rintro ⟨t, ds⟩ wl ⟨ht2, HB, hds, hdn, hdge⟩
   refine sq (X_region ?_)
   by_cases c_119 : (t : Int) < 2
   ·refine xq 1 [(106, .eq (.bool true))] [(3, .pointer (some ⟨w.heap.size, 0, none⟩)), (5, .pointer (some ⟨w_1.heap.size, 0, none⟩)), (6, .pointer (some ⟨w_6.heap.size, 0, none⟩)), (8, .slice A_24 xs.length c_25), (13, .pointer (some ⟨w_72.heap.size, 0, none⟩)), (18, .func (.func 106) #[] #[.pointer (some ⟨g_111, 0, none⟩)]), (105, .int .i64 (t : Int)), (106, .bool true), (1000000, encD ds)] wl [Value.bool (decide ((t : Int) < 2)) = Value.bool true] ⟨congrArg Value.bool (decide_eq_true (c_119)), trivial⟩ ?_
    refine nl (sq (ct (sk (sq (bk (sq (rg (xq 1 [] [(3, .pointer (some ⟨w.heap.size, 0, none⟩)), (5, .pointer (some ⟨w_1.heap.size, 0, none⟩)), (6, .pointer (some ⟨w_6.heap.size, 0, none⟩)), (8, .slice A_24 xs.length c_25), (13, .pointer (some ⟨w_72.heap.size, 0, none⟩)), (18, .func (.func 106) #[] #[.pointer (some ⟨g_111, 0, none⟩)]), (19, .pointer (some ⟨wl.heap.size, 0, none⟩)), (105, .int .i64 (t : Int)), (1000000, encD ds)] (wl.alloc (.cells #[.int .i64 0] 3)) [] trivial ?_))))))))
    obtain ⟨w_120, hw_124, hb_121, hk_122, hz_123⟩ := new_world wl #[.int .i64 0] 3
    rw [hw_124]
    refine xst (.int .i64 0) hk_122 0 #[.int .i64 0] (fun w_125 hg_126 hk_127 hz_128 => ?_)
    have hB_129 : Below w_1.heap.size w_1 wl := (bt (bt (bt (bt (bg (bt (bt hB_86 hb_89) hb_91) hg_96 ((bt hB_86 hb_89)).size) hb_107) hb_110) hb_118) HB)
    have hB_130 : Below w_6.heap.size w_6 wl := (bt (bt (bt (bt (bg (bt hB_99 hb_91) hg_96 (hB_99).size) hb_107) hb_110) hb_118) HB)
    have hB_131 : Below w_11.heap.size w_11 wl := (bt (bt (bt (bt (bg (bt hB_100 hb_91) hg_96 (hB_100).size) hb_107) hb_110) hb_118) HB)
    refine nl (sq (sq (rg (xq 1 [] [(3, .pointer (some ⟨w.heap.size, 0, none⟩)), (5, .pointer (some ⟨w_1.heap.size, 0, none⟩)), (6, .pointer (some ⟨w_6.heap.size, 0, none⟩)), (8, .slice A_24 xs.length c_25), (13, .pointer (some ⟨w_72.heap.size, 0, none⟩)), (18, .func (.func 106) #[] #[.pointer (some ⟨g_111, 0, none⟩)]), (19, .pointer (some ⟨wl.heap.size, 0, none⟩)), (105, .int .i64 (t : Int)), (107, .func (.func 106) #[] #[.pointer (some ⟨g_111, 0, none⟩)]), (1000000, encD ds)] w_125 [] trivial ?_))))
    refine nl (X_block ?_)
    have hB_132 : Below w.heap.size w wl := (bt (bt (bt (bt hB_105 hb_107) hb_110) hb_118) HB)
    refine X_rangeFunc (α := At) rfl ent106 (encs := fun x => #[.string x.1, valV x.2]) (aeach_seq xs A_112 c_113 g_111 w wl w_125 hxn hB_132 (bg hb_121 hg_126 (Nat.le_refl _)) (Blk.below hk_115 HB) (Kd.C_below (RX.Kd.R_C hr_116) HB) (fun i_ hi_ => pairErr_plain (((chkA_good true xs).1 (show chkA true xs = 0 by omega)).1 _ (by rw [getD_at xs i_ hi_]; exact List.getElem_mem hi_)).1) (fun i_ hi_ => (hbx i_ hi_).2) hT es hA) belowK_t (fun _ => Below.refl _ _) (belowK_b ((bg hb_121 hg_126 (Nat.le_refl _))).size) (Below.refl _ _) (fun _ => rfl) (by kernel_rfl) (fun pre W_ => okP xs pre ∧ RX.Blk W_ wl.heap.size 3 #[.int .i64 (pre.length : Int)] ∧ Below wl.heap.size wl W_) (fun c_ pre W_ => (c_ = Code.ret ∧ ¬ (okP xs pre)) ∨ (c_ = Code.exit 2 ∧ (pre.length : Int) = stop ∧ okP xs pre ∧ RX.Blk W_ wl.heap.size 3 #[.int .i64 (pre.length : Int)] ∧ Below wl.heap.size wl W_)) (OwnFrom.and (RX.ownFrom_pure _) (OwnFrom.and (ownFrom_blk (fun _ => wl.heap.size) 3 (fun pre => #[.int .i64 (List.length pre : Int)])) (ownFrom_below' wl ((bg hb_121 hg_126 (Nat.le_refl _))).size))) (fun _ => ownFrom_or (RX.ownFrom_pure _) (OwnFrom.and (RX.ownFrom_pure _) (OwnFrom.and (RX.ownFrom_pure _) (OwnFrom.and (RX.ownFrom_pure _) (OwnFrom.and (ownFrom_blk (fun _ => wl.heap.size) 3 (fun pre => #[.int .i64 (List.length pre : Int)])) (ownFrom_below' wl ((bg hb_121 hg_126 (Nat.le_refl _))).size)))))) ⟨okP_nil _, hk_127, (bg hb_121 hg_126 (Nat.le_refl _))⟩ (fun x => [(3, .pointer (some ⟨w.heap.size, 0, none⟩)), (5, .pointer (some ⟨w_1.heap.size, 0, none⟩)), (6, .pointer (some ⟨w_6.heap.size, 0, none⟩)), (8, .slice A_24 xs.length c_25), (13, .pointer (some ⟨w_72.heap.size, 0, none⟩)), (18, .func (.func 106) #[] #[.pointer (some ⟨g_111, 0, none⟩)]), (19, .pointer (some ⟨wl.heap.size, 0, none⟩)), (20, .string x.1), (21, valV x.2), (105, .int .i64 (t : Int)), (107, .func (.func 106) #[] #[.pointer (some ⟨g_111, 0, none⟩)])]) ?_ ?_ ?_ ?_
    ·intro lp_ x W_
     refine XI_keep [3, 5, 6, 8, 13, 18, 19, 105, 107, 108, 109] [(3, .pointer (some ⟨w.heap.size, 0, none⟩)), (5, .pointer (some ⟨w_1.heap.size, 0, none⟩)), (6, .pointer (some ⟨w_6.heap.size, 0, none⟩)), (8, .slice A_24 xs.length c_25), (13, .pointer (some ⟨w_72.heap.size, 0, none⟩)), (18, .func (.func 106) #[] #[.pointer (some ⟨g_111, 0, none⟩)]), (19, .pointer (some ⟨wl.heap.size, 0, none⟩)), (105, .int .i64 (t : Int)), (107, .func (.func 106) #[] #[.pointer (some ⟨g_111, 0, none⟩)]), (108, .string x.1), (109, valV x.2)] (by kernel_rfl) ?_
     refine XI_seq ?_
     refine XI_region (by kernel_rfl) (fun _ _ h_ => h_) ?_
     refine xq 1 [] [(3, .pointer (some ⟨w.heap.size, 0, none⟩)), (5, .pointer (some ⟨w_1.heap.size, 0, none⟩)), (6, .pointer (some ⟨w_6.heap.size, 0, none⟩)), (8, .slice A_24 xs.length c_25), (13, .pointer (some ⟨w_72.heap.size, 0, none⟩)), (18, .func (.func 106) #[] #[.pointer (some ⟨g_111, 0, none⟩)]), (19, .pointer (some ⟨wl.heap.size, 0, none⟩)), (20, .string x.1), (105, .int .i64 (t : Int)), (107, .func (.func 106) #[] #[.pointer (some ⟨g_111, 0, none⟩)]), (108, .string x.1), (109, valV x.2)] W_ [] trivial ?_
     refine nl (XI_region (by kernel_rfl) (fun _ _ h_ => h_) ?_)
     refine xq 1 [] [(3, .pointer (some ⟨w.heap.size, 0, none⟩)), (5, .pointer (some ⟨w_1.heap.size, 0, none⟩)), (6, .pointer (some ⟨w_6.heap.size, 0, none⟩)), (8, .slice A_24 xs.length c_25), (13, .pointer (some ⟨w_72.heap.size, 0, none⟩)), (18, .func (.func 106) #[] #[.pointer (some ⟨g_111, 0, none⟩)]), (19, .pointer (some ⟨wl.heap.size, 0, none⟩)), (20, .string x.1), (21, valV x.2), (105, .int .i64 (t : Int)), (107, .func (.func 106) #[] #[.pointer (some ⟨g_111, 0, none⟩)]), (108, .string x.1), (109, valV x.2)] W_ [] trivial ?_
     refine nl ?_
     exact ⟨by kernel_rfl, rfl⟩
    ·rintro lp_ pre x W_r hlp_ ⟨hp1, hk19, hBl⟩ hlen_
     refine XI_block ?_
     refine XI_seq ?_
     refine XI_seq ?_
     refine XI_region (by kernel_rfl) (fun _ _ h_ => h_) ?_
     have hB_133 : Below w_80.heap.size w_80 W_r := (bt (bt (bt (bt hB_108 hb_110) hb_118) HB) hBl)
     refine xq 6 [(110, .load (.bool true)), (113, .load (.int .i64 (pre.length : Int))), (114, .load (.slice A xs.length c))] [(3, .pointer (some ⟨w.heap.size, 0, none⟩)), (5, .pointer (some ⟨w_1.heap.size, 0, none⟩)), (6, .pointer (some ⟨w_6.heap.size, 0, none⟩)), (8, .slice A_24 xs.length c_25), (13, .pointer (some ⟨w_72.heap.size, 0, none⟩)), (18, .func (.func 106) #[] #[.pointer (some ⟨g_111, 0, none⟩)]), (19, .pointer (some ⟨wl.heap.size, 0, none⟩)), (20, .string x.1), (21, valV x.2), (105, .int .i64 (t : Int)), (112, .bool false), (113, .int .i64 (pre.length : Int)), (115, .int .i64 (xs.length : Int))] W_r [LoadsAs Tryd.prog 4 (⟨w_72.heap.size, 0, none⟩) (.bool true) W_r, LoadsAs Tryd.prog 3 (⟨wl.heap.size, 0, none⟩) (.int .i64 (pre.length : Int)) W_r, LoadsAs Tryd.prog 45 (⟨w.heap.size, 0, none⟩) (.slice A xs.length c) W_r] ⟨loads1 rfl (Blk.cell (Blk.below hk_82 hB_133) 0 _ rfl), loads1 rfl (Blk.cell hk19 0 _ rfl), loads1 rfl (Blk.cell (Blk.below hk_3 (bt hB_129 hBl)) 0 _ rfl), trivial⟩ ?_
     by_cases c_134 : (pre.length : Int) ≥ (xs.length : Int)
     ·refine xq 21 [(116, .eq (.bool true))] [(3, .pointer (some ⟨w.heap.size, 0, none⟩)), (5, .pointer (some ⟨w_1.heap.size, 0, none⟩)), (6, .pointer (some ⟨w_6.heap.size, 0, none⟩)), (8, .slice A_24 xs.length c_25), (13, .pointer (some ⟨w_72.heap.size, 0, none⟩)), (18, .func (.func 106) #[] #[.pointer (some ⟨g_111, 0, none⟩)]), (19, .pointer (some ⟨wl.heap.size, 0, none⟩)), (105, .int .i64 (t : Int)), (136, .bool true)] W_r [Value.bool (decide ((pre.length : Int) ≥ (xs.length : Int))) = Value.bool true] ⟨congrArg Value.bool (decide_eq_true (c_134)), trivial⟩ ?_
      refine nl (XI_cond true rfl ?_)
      refine XI_seq ?_
      refine XI_region (by kernel_rfl) (fun _ _ h_ => h_) ?_
      refine xst (.bool false) (Blk.below hk_13 (bt hB_131 hBl)) 0 #[.bool false] (fun w_135 hg_136 hk_137 hz_138 => ?_)
      have hne_139 : w_72.heap.size ≠ w_6.heap.size := Nat.ne_of_gt (Nat.lt_of_lt_of_le (Blk.lt hk_13) (hB_85).size)
      have hk_140 := Blk.other (Blk.below hk_82 hB_133) hg_136 hne_139
      have hne_141 : w_88.heap.size ≠ w_6.heap.size := Nat.ne_of_gt (Nat.lt_of_lt_of_le (Blk.lt hk_13) (hB_100).size)
      have hB_142 : Below w_95.heap.size w_95 W_r := (bt (bt (bt (bt hb_107 hb_110) hb_118) HB) hBl)
      have hk_143 := Blk.other (Blk.below hk_97 hB_142) hg_136 hne_141
      have hne_144 : wl.heap.size ≠ w_6.heap.size := Nat.ne_of_gt (Nat.lt_of_lt_of_le (Blk.lt hk_13) (hB_131).size)
      have hk_145 := Blk.other hk19 hg_136 hne_144
      refine nl (XI_ret ?_)
      exact ⟨(keeps_store (Blk.below hk_13 (bt hB_131 hBl)) hg_136), .inl ⟨rfl, fun h_ => by obtain ⟨h1_, h2_, h3_⟩ := okP_wrong h_; first | omega | exact absurd h2_ (by assumption) | exact absurd h3_ (by assumption)⟩⟩
     refine xq 6 [(116, .eq (.bool false)), (120, .load (.slice A xs.length c)), (121, .load (.int .i64 (pre.length : Int)))] [(3, .pointer (some ⟨w.heap.size, 0, none⟩)), (5, .pointer (some ⟨w_1.heap.size, 0, none⟩)), (6, .pointer (some ⟨w_6.heap.size, 0, none⟩)), (8, .slice A_24 xs.length c_25), (13, .pointer (some ⟨w_72.heap.size, 0, none⟩)), (18, .func (.func 106) #[] #[.pointer (some ⟨g_111, 0, none⟩)]), (19, .pointer (some ⟨wl.heap.size, 0, none⟩)), (21, valV x.2), (105, .int .i64 (t : Int)), (118, .bool false), (119, .string x.1), (120, .slice A xs.length c), (121, .int .i64 (pre.length : Int))] W_r [Value.bool (decide ((pre.length : Int) ≥ (xs.length : Int))) = Value.bool false, LoadsAs Tryd.prog 45 (⟨w.heap.size, 0, none⟩) (.slice A xs.length c) W_r, LoadsAs Tryd.prog 3 (⟨wl.heap.size, 0, none⟩) (.int .i64 (pre.length : Int)) W_r] ⟨congrArg Value.bool (decide_eq_false (c_134)), loads1 rfl (Blk.cell (Blk.below hk_3 (bt hB_129 hBl)) 0 _ rfl), loads1 rfl (Blk.cell hk19 0 _ rfl), trivial⟩ ?_
     obtain ⟨ad_146, ha_147, hc_148⟩ := Kd.atAttr (Kd.C_below hx (bt hB_132 hBl)) (i := (pre.length : Int)) (by omega) (by omega)
     replace hc_148 : CellsAt W_r (ad_146.add ((pre.length : Int).toNat * 4)) [.string ((xs.getD pre.length at0).1), .int .i64 ((xs.getD pre.length at0).2.1), .int .i64 ((xs.getD pre.length at0).2.2.1), .string ((xs.getD pre.length at0).2.2.2)] := hc_148
     refine xq 3 [(122, .idx ad_146), (124, .load (.string ((xs.getD pre.length at0).1)))] [(3, .pointer (some ⟨w.heap.size, 0, none⟩)), (5, .pointer (some ⟨w_1.heap.size, 0, none⟩)), (6, .pointer (some ⟨w_6.heap.size, 0, none⟩)), (8, .slice A_24 xs.length c_25), (13, .pointer (some ⟨w_72.heap.size, 0, none⟩)), (18, .func (.func 106) #[] #[.pointer (some ⟨g_111, 0, none⟩)]), (19, .pointer (some ⟨wl.heap.size, 0, none⟩)), (21, valV x.2), (105, .int .i64 (t : Int)), (118, .bool false), (119, .string x.1), (124, .string ((xs.getD pre.length at0).1))] W_r [A = some ad_146, (0 : Int) ≤ (pre.length : Int), (pre.length : Int) < (xs.length : Int), LoadsAs Tryd.prog 9 (ad_146.add ((pre.length : Int).toNat * 4)) (.string ((xs.getD pre.length at0).1)) W_r] ⟨ha_147, (by omega), (by omega), loads1 rfl (elem_cell hc_148 0 _ rfl), trivial⟩ ?_
     by_cases c_149 : x.1 = ((xs.getD pre.length at0).1)
     ·refine xq 6 [(125, .eq (.bool false)), (129, .load (.slice A xs.length c)), (130, .load (.int .i64 (pre.length : Int)))] [(3, .pointer (some ⟨w.heap.size, 0, none⟩)), (5, .pointer (some ⟨w_1.heap.size, 0, none⟩)), (6, .pointer (some ⟨w_6.heap.size, 0, none⟩)), (8, .slice A_24 xs.length c_25), (13, .pointer (some ⟨w_72.heap.size, 0, none⟩)), (18, .func (.func 106) #[] #[.pointer (some ⟨g_111, 0, none⟩)]), (19, .pointer (some ⟨wl.heap.size, 0, none⟩)), (105, .int .i64 (t : Int)), (127, .bool false), (128, valV x.2), (129, .slice A xs.length c), (130, .int .i64 (pre.length : Int))] W_r [Value.bool (!x.1.toList == ((xs.getD pre.length at0).1).toList) = Value.bool false, LoadsAs Tryd.prog 45 (⟨w.heap.size, 0, none⟩) (.slice A xs.length c) W_r, LoadsAs Tryd.prog 3 (⟨wl.heap.size, 0, none⟩) (.int .i64 (pre.length : Int)) W_r] ⟨congrArg Value.bool (strNeF (c_149)), loads1 rfl (Blk.cell (Blk.below hk_3 (bt hB_129 hBl)) 0 _ rfl), loads1 rfl (Blk.cell hk19 0 _ rfl), trivial⟩ ?_
      obtain ⟨ad_150, ha_151, hc_152⟩ := Kd.atAttr (Kd.C_below hx (bt hB_132 hBl)) (i := (pre.length : Int)) (by omega) (by omega)
      replace hc_152 : CellsAt W_r (ad_150.add ((pre.length : Int).toNat * 4)) [.string ((xs.getD pre.length at0).1), .int .i64 ((xs.getD pre.length at0).2.1), .int .i64 ((xs.getD pre.length at0).2.2.1), .string ((xs.getD pre.length at0).2.2.2)] := hc_152
      refine xq 3 [(131, .idx ad_150), (133, .load (.agg #[.int .i64 ((xs.getD pre.length at0).2.1), .int .i64 ((xs.getD pre.length at0).2.2.1), .string ((xs.getD pre.length at0).2.2.2)]))] [(3, .pointer (some ⟨w.heap.size, 0, none⟩)), (5, .pointer (some ⟨w_1.heap.size, 0, none⟩)), (6, .pointer (some ⟨w_6.heap.size, 0, none⟩)), (8, .slice A_24 xs.length c_25), (13, .pointer (some ⟨w_72.heap.size, 0, none⟩)), (18, .func (.func 106) #[] #[.pointer (some ⟨g_111, 0, none⟩)]), (19, .pointer (some ⟨wl.heap.size, 0, none⟩)), (105, .int .i64 (t : Int)), (127, .bool false), (128, valV x.2), (133, .agg #[.int .i64 ((xs.getD pre.length at0).2.1), .int .i64 ((xs.getD pre.length at0).2.2.1), .string ((xs.getD pre.length at0).2.2.2)])] W_r [A = some ad_150, (0 : Int) ≤ (pre.length : Int), (pre.length : Int) < (xs.length : Int), LoadsAs Tryd.prog 44 ((ad_150.add ((pre.length : Int).toNat * 4)).add 1) (.agg #[.int .i64 ((xs.getD pre.length at0).2.1), .int .i64 ((xs.getD pre.length at0).2.2.1), .string ((xs.getD pre.length at0).2.2.2)]) W_r] ⟨ha_151, (by omega), (by omega), loadsE rfl rfl hc_152 1 ⟨by kernel_rfl, by kernel_rfl⟩, trivial⟩ ?_
      refine xc 39 ent39 [.agg #[.int .i64 ((xs.getD pre.length at0).2.1), .int .i64 ((xs.getD pre.length at0).2.2.1), .string ((xs.getD pre.length at0).2.2.2)]] (hvalue_any ((xs.getD pre.length at0).2.1) ((xs.getD pre.length at0).2.2.1) ((xs.getD pre.length at0).2.2.2) _) ?_
      rintro e w_153 ⟨rfl, hb_154⟩; refine ⟨_, rfl, ?_⟩
      by_cases c_155 : veq x.2 ((xs.getD pre.length at0).2.1, (xs.getD pre.length at0).2.2.1, (xs.getD pre.length at0).2.2.2) = true
      ·refine xq 2 [(135, .as (.bool false))] [(3, .pointer (some ⟨w.heap.size, 0, none⟩)), (5, .pointer (some ⟨w_1.heap.size, 0, none⟩)), (6, .pointer (some ⟨w_6.heap.size, 0, none⟩)), (8, .slice A_24 xs.length c_25), (13, .pointer (some ⟨w_72.heap.size, 0, none⟩)), (18, .func (.func 106) #[] #[.pointer (some ⟨g_111, 0, none⟩)]), (19, .pointer (some ⟨wl.heap.size, 0, none⟩)), (105, .int .i64 (t : Int)), (136, .bool false)] w_153 [RunsAs Tryd.prog [(128, valV x.2), (134, valV ((xs.getD pre.length at0).2.1, (xs.getD pre.length at0).2.2.1, (xs.getD pre.length at0).2.2.2))] (Go.Op.binOp Go.BinOp.neq 63 (Go.Operand.tmp 128) (Go.Operand.tmp 134) 63) 4 (.bool false) w_153] ⟨runs_bin rfl rfl (valV_neq x.2 ((xs.getD pre.length at0).2.1, (xs.getD pre.length at0).2.2.1, (xs.getD pre.length at0).2.2.2) _ _ _).1 (by have h_ := (valV_neq x.2 ((xs.getD pre.length at0).2.1, (xs.getD pre.length at0).2.2.1, (xs.getD pre.length at0).2.2.2) (.tmp 0) (.tmp 0) w_153).2; rw [c_155] at h_; exact h_), trivial⟩ ?_
       refine nl (XI_cond false rfl ?_)
       refine XI_skip ?_
       refine XI_seq ?_
       refine XI_region (by kernel_rfl) (fun _ _ h_ => h_) ?_
       refine xq 2 [(137, .load (.int .i64 (pre.length : Int))), (138, .eq (.int .i64 ((pre.length + 1 : Nat) : Int)))] [(3, .pointer (some ⟨w.heap.size, 0, none⟩)), (5, .pointer (some ⟨w_1.heap.size, 0, none⟩)), (6, .pointer (some ⟨w_6.heap.size, 0, none⟩)), (8, .slice A_24 xs.length c_25), (13, .pointer (some ⟨w_72.heap.size, 0, none⟩)), (18, .func (.func 106) #[] #[.pointer (some ⟨g_111, 0, none⟩)]), (19, .pointer (some ⟨wl.heap.size, 0, none⟩)), (105, .int .i64 (t : Int)), (138, .int .i64 ((pre.length + 1 : Nat) : Int))] w_153 [LoadsAs Tryd.prog 3 (⟨wl.heap.size, 0, none⟩) (.int .i64 (pre.length : Int)) w_153, Value.int .i64 (IntKind.i64.wrap ((pre.length : Int) + 1)) = Value.int .i64 ((pre.length + 1 : Nat) : Int)] ⟨loads1 rfl (Blk.cell (Blk.below hk19 hb_154) 0 _ rfl), (by rw [show (pre.length : Int) + 1 = ((pre.length + 1 : Nat) : Int) from by omega]; exact wr_i64 (by omega) (by omega)), trivial⟩ ?_
       refine xst (.int .i64 ((pre.length + 1 : Nat) : Int)) (Blk.below hk19 hb_154) 0 #[.int .i64 ((pre.length + 1 : Nat) : Int)] (fun w_156 hg_157 hk_158 hz_159 => ?_)
       refine nl (XI_seq ?_)
       refine XI_region (by kernel_rfl) (fun _ _ h_ => h_) ?_
       have hB_160 : Below w_6.heap.size w_6 w_156 := (bg (bt (bt hB_130 hBl) hb_154) hg_157 (hB_130).size)
       refine xq 2 [(139, .load (.int .i64 ((pre.length + 1 : Nat) : Int))), (140, .load (.int .i64 stop))] [(3, .pointer (some ⟨w.heap.size, 0, none⟩)), (5, .pointer (some ⟨w_1.heap.size, 0, none⟩)), (6, .pointer (some ⟨w_6.heap.size, 0, none⟩)), (8, .slice A_24 xs.length c_25), (13, .pointer (some ⟨w_72.heap.size, 0, none⟩)), (18, .func (.func 106) #[] #[.pointer (some ⟨g_111, 0, none⟩)]), (19, .pointer (some ⟨wl.heap.size, 0, none⟩)), (105, .int .i64 (t : Int)), (139, .int .i64 ((pre.length + 1 : Nat) : Int)), (140, .int .i64 stop)] w_156 [LoadsAs Tryd.prog 3 (⟨wl.heap.size, 0, none⟩) (.int .i64 ((pre.length + 1 : Nat) : Int)) w_156, LoadsAs Tryd.prog 3 (⟨w_1.heap.size, 0, none⟩) (.int .i64 stop) w_156] ⟨loads1 rfl (Blk.cell hk_158 0 _ rfl), loads1 rfl (Blk.cell (Blk.below hk_8 hB_160) 0 _ rfl), trivial⟩ ?_
       by_cases c_161 : ((pre.length + 1 : Nat) : Int) = stop
       ·refine xq 1 [(141, .eq (.bool true))] [(3, .pointer (some ⟨w.heap.size, 0, none⟩)), (5, .pointer (some ⟨w_1.heap.size, 0, none⟩)), (6, .pointer (some ⟨w_6.heap.size, 0, none⟩)), (8, .slice A_24 xs.length c_25), (13, .pointer (some ⟨w_72.heap.size, 0, none⟩)), (18, .func (.func 106) #[] #[.pointer (some ⟨g_111, 0, none⟩)]), (19, .pointer (some ⟨wl.heap.size, 0, none⟩)), (105, .int .i64 (t : Int)), (141, .bool true)] w_156 [Value.bool (((pre.length + 1 : Nat) : Int) == stop) = Value.bool true] ⟨congrArg Value.bool (beq_iff_eq.2 (c_161)), trivial⟩ ?_
        refine nl (XI_cond true rfl ?_)
        refine XI_exit ?_
        have hpn : (pre ++ [x]).length = pre.length + 1 := by simp
        have hok_ := okP_snoc hp1 (show pre.length < xs.length by omega) c_149 c_155
        have hB_162 : Below wl.heap.size wl w_156 := (bg (bt hBl hb_154) hg_157 (Nat.le_refl _))
        exact ⟨(KeepsFrom.trans (keeps_below hb_154) (keeps_store (Blk.below hk19 hb_154) hg_157)), .inr ⟨rfl, by rw [hpn]; omega, ⟨hok_, by rw [hpn]; exact hk_158, hB_162⟩⟩⟩
       refine xq 1 [(141, .eq (.bool false))] [(3, .pointer (some ⟨w.heap.size, 0, none⟩)), (5, .pointer (some ⟨w_1.heap.size, 0, none⟩)), (6, .pointer (some ⟨w_6.heap.size, 0, none⟩)), (8, .slice A_24 xs.length c_25), (13, .pointer (some ⟨w_72.heap.size, 0, none⟩)), (18, .func (.func 106) #[] #[.pointer (some ⟨g_111, 0, none⟩)]), (19, .pointer (some ⟨wl.heap.size, 0, none⟩)), (105, .int .i64 (t : Int)), (141, .bool false)] w_156 [Value.bool (((pre.length + 1 : Nat) : Int) == stop) = Value.bool false] ⟨congrArg Value.bool (beq_eq_false_iff_ne.2 (c_161)), trivial⟩ ?_
       refine nl (XI_cond false rfl ?_)
       refine XI_skip ?_
       have hpn : (pre ++ [x]).length = pre.length + 1 := by simp
       have hok_ := okP_snoc hp1 (show pre.length < xs.length by omega) c_149 c_155
       have hB_163 : Below wl.heap.size wl w_156 := (bg (bt hBl hb_154) hg_157 (Nat.le_refl _))
       exact ⟨(KeepsFrom.trans (keeps_below hb_154) (keeps_store (Blk.below hk19 hb_154) hg_157)), (Below.trans (bel_lo hb_154 (hBl).size) (bel_st hg_157 ((bt hBl hb_154)).size (Nat.le_refl _))), ⟨hok_, by rw [hpn]; exact hk_158, hB_163⟩⟩
      refine xq 2 [(135, .as (.bool true))] [(3, .pointer (some ⟨w.heap.size, 0, none⟩)), (5, .pointer (some ⟨w_1.heap.size, 0, none⟩)), (6, .pointer (some ⟨w_6.heap.size, 0, none⟩)), (8, .slice A_24 xs.length c_25), (13, .pointer (some ⟨w_72.heap.size, 0, none⟩)), (18, .func (.func 106) #[] #[.pointer (some ⟨g_111, 0, none⟩)]), (19, .pointer (some ⟨wl.heap.size, 0, none⟩)), (105, .int .i64 (t : Int)), (136, .bool true)] w_153 [RunsAs Tryd.prog [(128, valV x.2), (134, valV ((xs.getD pre.length at0).2.1, (xs.getD pre.length at0).2.2.1, (xs.getD pre.length at0).2.2.2))] (Go.Op.binOp Go.BinOp.neq 63 (Go.Operand.tmp 128) (Go.Operand.tmp 134) 63) 4 (.bool true) w_153] ⟨runs_bin rfl rfl (valV_neq x.2 ((xs.getD pre.length at0).2.1, (xs.getD pre.length at0).2.2.1, (xs.getD pre.length at0).2.2.2) _ _ _).1 (by have h_ := (valV_neq x.2 ((xs.getD pre.length at0).2.1, (xs.getD pre.length at0).2.2.1, (xs.getD pre.length at0).2.2.2) (.tmp 0) (.tmp 0) w_153).2; rw [Bool.eq_false_iff.2 c_155] at h_; exact h_), trivial⟩ ?_
      refine nl (XI_cond true rfl ?_)
      refine XI_seq ?_
      refine XI_region (by kernel_rfl) (fun _ _ h_ => h_) ?_
      refine xst (.bool false) (Blk.below hk_13 (bt (bt hB_131 hBl) hb_154)) 0 #[.bool false] (fun w_164 hg_165 hk_166 hz_167 => ?_)
      have hne_168 : w_72.heap.size ≠ w_6.heap.size := Nat.ne_of_gt (Nat.lt_of_lt_of_le (Blk.lt hk_13) (hB_85).size)
      have hk_169 := Blk.other (Blk.below hk_82 (bt hB_133 hb_154)) hg_165 hne_168
      have hne_170 : w_88.heap.size ≠ w_6.heap.size := Nat.ne_of_gt (Nat.lt_of_lt_of_le (Blk.lt hk_13) (hB_100).size)
      have hB_171 : Below w_95.heap.size w_95 w_153 := (bt (bt (bt (bt (bt hb_107 hb_110) hb_118) HB) hBl) hb_154)
      have hk_172 := Blk.other (Blk.below hk_97 hB_171) hg_165 hne_170
      have hne_173 : wl.heap.size ≠ w_6.heap.size := Nat.ne_of_gt (Nat.lt_of_lt_of_le (Blk.lt hk_13) (hB_131).size)
      have hk_174 := Blk.other (Blk.below hk19 hb_154) hg_165 hne_173
      refine nl (XI_ret ?_)
      exact ⟨(KeepsFrom.trans (keeps_below hb_154) (keeps_store (Blk.below hk_13 (bt (bt hB_131 hBl) hb_154)) hg_165)), .inl ⟨rfl, fun h_ => by obtain ⟨h1_, h2_, h3_⟩ := okP_wrong h_; first | omega | exact absurd h2_ (by assumption) | exact absurd h3_ (by assumption)⟩⟩
     refine xq 12 [(125, .eq (.bool true))] [(3, .pointer (some ⟨w.heap.size, 0, none⟩)), (5, .pointer (some ⟨w_1.heap.size, 0, none⟩)), (6, .pointer (some ⟨w_6.heap.size, 0, none⟩)), (8, .slice A_24 xs.length c_25), (13, .pointer (some ⟨w_72.heap.size, 0, none⟩)), (18, .func (.func 106) #[] #[.pointer (some ⟨g_111, 0, none⟩)]), (19, .pointer (some ⟨wl.heap.size, 0, none⟩)), (105, .int .i64 (t : Int)), (136, .bool true)] W_r [Value.bool (!x.1.toList == ((xs.getD pre.length at0).1).toList) = Value.bool true] ⟨congrArg Value.bool (strNeT (c_149)), trivial⟩ ?_
     refine nl (XI_cond true rfl ?_)
     refine XI_seq ?_
     refine XI_region (by kernel_rfl) (fun _ _ h_ => h_) ?_
     refine xst (.bool false) (Blk.below hk_13 (bt hB_131 hBl)) 0 #[.bool false] (fun w_175 hg_176 hk_177 hz_178 => ?_)
     have hne_179 : w_72.heap.size ≠ w_6.heap.size := Nat.ne_of_gt (Nat.lt_of_lt_of_le (Blk.lt hk_13) (hB_85).size)
     have hk_180 := Blk.other (Blk.below hk_82 hB_133) hg_176 hne_179
     have hne_181 : w_88.heap.size ≠ w_6.heap.size := Nat.ne_of_gt (Nat.lt_of_lt_of_le (Blk.lt hk_13) (hB_100).size)
     have hB_182 : Below w_95.heap.size w_95 W_r := (bt (bt (bt (bt hb_107 hb_110) hb_118) HB) hBl)
     have hk_183 := Blk.other (Blk.below hk_97 hB_182) hg_176 hne_181
     have hne_184 : wl.heap.size ≠ w_6.heap.size := Nat.ne_of_gt (Nat.lt_of_lt_of_le (Blk.lt hk_13) (hB_131).size)
     have hk_185 := Blk.other hk19 hg_176 hne_184
     refine nl (XI_ret ?_)
     exact ⟨(keeps_store (Blk.below hk_13 (bt hB_131 hBl)) hg_176), .inl ⟨rfl, fun h_ => by obtain ⟨h1_, h2_, h3_⟩ := okP_wrong h_; first | omega | exact absurd h2_ (by assumption) | exact absurd h3_ (by assumption)⟩⟩
    ·rintro D_187 pre w_186 hD_188 hS_189 ⟨hp1, hk19, hBl⟩ hK_190
     have hpe : pre.length = xs.length := by rw [hS_189]
     have hds_191 : Defs (D_187 :: ds) w_186 := Defs.cons hK_190 (Defs.below hBl hds)
     have hlo_ := ((bg hb_121 hg_126 (Nat.le_refl _))).size
     have hdn_192 : (D_187 :: ds).Nodup := List.nodup_cons.2 ⟨fun hm_ => by have h_ := Defs.lt hds _ hm_; omega, hdn⟩
     have hlt_ := (HB).size
     have hdge_193 : ∀ D_ ∈ D_187 :: ds, w_117.heap.size ≤ D_ := fun D_ hm_ => (List.mem_cons.1 hm_).elim (fun e_ => by omega) (hdge D_)
     refine sq (X_region ?_)
     have hB_194 : Below w_80.heap.size w_80 w_186 := (bt (bt (bt (bt hB_108 hb_110) hb_118) HB) hBl)
     refine xq 5 [(142, .load (.bool true)), (144, .load (.int .i64 (pre.length : Int))), (145, .load (.slice A xs.length c))] [(3, .pointer (some ⟨w.heap.size, 0, none⟩)), (5, .pointer (some ⟨w_1.heap.size, 0, none⟩)), (6, .pointer (some ⟨w_6.heap.size, 0, none⟩)), (8, .slice A_24 xs.length c_25), (13, .pointer (some ⟨w_72.heap.size, 0, none⟩)), (18, .func (.func 106) #[] #[.pointer (some ⟨g_111, 0, none⟩)]), (19, .pointer (some ⟨wl.heap.size, 0, none⟩)), (105, .int .i64 (t : Int)), (143, .bool true), (144, .int .i64 (pre.length : Int)), (146, .int .i64 (xs.length : Int)), (1000000, encD (D_187 :: ds))] w_186 [LoadsAs Tryd.prog 4 (⟨w_72.heap.size, 0, none⟩) (.bool true) w_186, LoadsAs Tryd.prog 3 (⟨wl.heap.size, 0, none⟩) (.int .i64 (pre.length : Int)) w_186, LoadsAs Tryd.prog 45 (⟨w.heap.size, 0, none⟩) (.slice A xs.length c) w_186] ⟨loads1 rfl (Blk.cell (Blk.below hk_82 hB_194) 0 _ rfl), loads1 rfl (Blk.cell hk19 0 _ rfl), loads1 rfl (Blk.cell (Blk.below hk_3 (bt hB_129 hBl)) 0 _ rfl), trivial⟩ ?_
     by_cases c_195 : (pre.length : Int) = (xs.length : Int)
     ·refine xq 7 [(147, .eq (.bool false))] [(3, .pointer (some ⟨w.heap.size, 0, none⟩)), (5, .pointer (some ⟨w_1.heap.size, 0, none⟩)), (6, .pointer (some ⟨w_6.heap.size, 0, none⟩)), (8, .slice A_24 xs.length c_25), (13, .pointer (some ⟨w_72.heap.size, 0, none⟩)), (18, .func (.func 106) #[] #[.pointer (some ⟨g_111, 0, none⟩)]), (105, .int .i64 (t : Int)), (153, .bool false), (1000000, encD (D_187 :: ds))] w_186 [Value.bool ((pre.length : Int) != (xs.length : Int)) = Value.bool false] ⟨congrArg Value.bool (bneF (c_195)), trivial⟩ ?_
      refine nl (cf (sk (rg (xq 2 [(154, .eq (.int .i64 ((t : Int) + 1)))] [(3, .pointer (some ⟨w.heap.size, 0, none⟩)), (5, .pointer (some ⟨w_1.heap.size, 0, none⟩)), (6, .pointer (some ⟨w_6.heap.size, 0, none⟩)), (8, .slice A_24 xs.length c_25), (13, .pointer (some ⟨w_72.heap.size, 0, none⟩)), (18, .func (.func 106) #[] #[.pointer (some ⟨g_111, 0, none⟩)]), (105, .int .i64 ((t : Int) + 1)), (1000000, encD (D_187 :: ds))] w_186 [Value.int .i64 (IntKind.i64.wrap ((t : Int) + 1)) = Value.int .i64 ((t : Int) + 1)] ⟨wr_i64 (by omega) (by omega), trivial⟩ ?_))))
      refine nl ?_
      refine ⟨(t + 1, (D_187 :: ds)), by kernel_rfl, ?_, ?_⟩
      ·exact ⟨by omega, (bt HB hBl), hds_191, hdn_192, hdge_193⟩
      (try dsimp only); omega
     refine xq 5 [(147, .eq (.bool true)), (150, .load (.int .i64 (pre.length : Int))), (151, .load (.int .i64 stop))] [(3, .pointer (some ⟨w.heap.size, 0, none⟩)), (5, .pointer (some ⟨w_1.heap.size, 0, none⟩)), (6, .pointer (some ⟨w_6.heap.size, 0, none⟩)), (8, .slice A_24 xs.length c_25), (13, .pointer (some ⟨w_72.heap.size, 0, none⟩)), (18, .func (.func 106) #[] #[.pointer (some ⟨g_111, 0, none⟩)]), (105, .int .i64 (t : Int)), (149, .bool true), (150, .int .i64 (pre.length : Int)), (151, .int .i64 stop), (1000000, encD (D_187 :: ds))] w_186 [Value.bool ((pre.length : Int) != (xs.length : Int)) = Value.bool true, LoadsAs Tryd.prog 3 (⟨wl.heap.size, 0, none⟩) (.int .i64 (pre.length : Int)) w_186, LoadsAs Tryd.prog 3 (⟨w_1.heap.size, 0, none⟩) (.int .i64 stop) w_186] ⟨congrArg Value.bool (bneT (c_195)), loads1 rfl (Blk.cell hk19 0 _ rfl), loads1 rfl (Blk.cell (Blk.below hk_8 (bt hB_130 hBl)) 0 _ rfl), trivial⟩ ?_
     by_cases c_196 : (pre.length : Int) = stop
     ·refine xq 2 [(152, .eq (.bool false))] [(3, .pointer (some ⟨w.heap.size, 0, none⟩)), (5, .pointer (some ⟨w_1.heap.size, 0, none⟩)), (6, .pointer (some ⟨w_6.heap.size, 0, none⟩)), (8, .slice A_24 xs.length c_25), (13, .pointer (some ⟨w_72.heap.size, 0, none⟩)), (18, .func (.func 106) #[] #[.pointer (some ⟨g_111, 0, none⟩)]), (105, .int .i64 (t : Int)), (153, .bool false), (1000000, encD (D_187 :: ds))] w_186 [Value.bool ((pre.length : Int) != stop) = Value.bool false] ⟨congrArg Value.bool (bneF (c_196)), trivial⟩ ?_
      refine nl (cf (sk (rg (xq 2 [(154, .eq (.int .i64 ((t : Int) + 1)))] [(3, .pointer (some ⟨w.heap.size, 0, none⟩)), (5, .pointer (some ⟨w_1.heap.size, 0, none⟩)), (6, .pointer (some ⟨w_6.heap.size, 0, none⟩)), (8, .slice A_24 xs.length c_25), (13, .pointer (some ⟨w_72.heap.size, 0, none⟩)), (18, .func (.func 106) #[] #[.pointer (some ⟨g_111, 0, none⟩)]), (105, .int .i64 ((t : Int) + 1)), (1000000, encD (D_187 :: ds))] w_186 [Value.int .i64 (IntKind.i64.wrap ((t : Int) + 1)) = Value.int .i64 ((t : Int) + 1)] ⟨wr_i64 (by omega) (by omega), trivial⟩ ?_))))
      refine nl ?_
      refine ⟨(t + 1, (D_187 :: ds)), by kernel_rfl, ?_, ?_⟩
      ·exact ⟨by omega, (bt HB hBl), hds_191, hdn_192, hdge_193⟩
      (try dsimp only); omega
     exfalso; omega
    rintro D_198 c_ pre w_197 hD_199 hS_200 hix_ hK_201
    rcases hix_ with ⟨rfl, hno_⟩ | ⟨rfl, hst_, hp1, hk19, hBl⟩
    ·exact absurd (okP_take hS_200) hno_
    have hq_ := hp1
    have hds_202 : Defs (D_198 :: ds) w_197 := Defs.cons hK_201 (Defs.below hBl hds)
    have hlo_ := ((bg hb_121 hg_126 (Nat.le_refl _))).size
    have hdn_203 : (D_198 :: ds).Nodup := List.nodup_cons.2 ⟨fun hm_ => by have h_ := Defs.lt hds _ hm_; omega, hdn⟩
    have hlt_ := (HB).size
    have hdge_204 : ∀ D_ ∈ D_198 :: ds, w_117.heap.size ≤ D_ := fun D_ hm_ => (List.mem_cons.1 hm_).elim (fun e_ => by omega) (hdge D_)
    refine X_exit (sq (X_region ?_))
    have hB_205 : Below w_80.heap.size w_80 w_197 := (bt (bt (bt (bt hB_108 hb_110) hb_118) HB) hBl)
    refine xq 5 [(142, .load (.bool true)), (144, .load (.int .i64 (pre.length : Int))), (145, .load (.slice A xs.length c))] [(3, .pointer (some ⟨w.heap.size, 0, none⟩)), (5, .pointer (some ⟨w_1.heap.size, 0, none⟩)), (6, .pointer (some ⟨w_6.heap.size, 0, none⟩)), (8, .slice A_24 xs.length c_25), (13, .pointer (some ⟨w_72.heap.size, 0, none⟩)), (18, .func (.func 106) #[] #[.pointer (some ⟨g_111, 0, none⟩)]), (19, .pointer (some ⟨wl.heap.size, 0, none⟩)), (105, .int .i64 (t : Int)), (143, .bool true), (144, .int .i64 (pre.length : Int)), (146, .int .i64 (xs.length : Int)), (1000000, encD (D_198 :: ds))] w_197 [LoadsAs Tryd.prog 4 (⟨w_72.heap.size, 0, none⟩) (.bool true) w_197, LoadsAs Tryd.prog 3 (⟨wl.heap.size, 0, none⟩) (.int .i64 (pre.length : Int)) w_197, LoadsAs Tryd.prog 45 (⟨w.heap.size, 0, none⟩) (.slice A xs.length c) w_197] ⟨loads1 rfl (Blk.cell (Blk.below hk_82 hB_205) 0 _ rfl), loads1 rfl (Blk.cell hk19 0 _ rfl), loads1 rfl (Blk.cell (Blk.below hk_3 (bt hB_129 hBl)) 0 _ rfl), trivial⟩ ?_
    by_cases c_206 : (pre.length : Int) = (xs.length : Int)
    ·refine xq 7 [(147, .eq (.bool false))] [(3, .pointer (some ⟨w.heap.size, 0, none⟩)), (5, .pointer (some ⟨w_1.heap.size, 0, none⟩)), (6, .pointer (some ⟨w_6.heap.size, 0, none⟩)), (8, .slice A_24 xs.length c_25), (13, .pointer (some ⟨w_72.heap.size, 0, none⟩)), (18, .func (.func 106) #[] #[.pointer (some ⟨g_111, 0, none⟩)]), (105, .int .i64 (t : Int)), (153, .bool false), (1000000, encD (D_198 :: ds))] w_197 [Value.bool ((pre.length : Int) != (xs.length : Int)) = Value.bool false] ⟨congrArg Value.bool (bneF (c_206)), trivial⟩ ?_
     refine nl (cf (sk (rg (xq 2 [(154, .eq (.int .i64 ((t : Int) + 1)))] [(3, .pointer (some ⟨w.heap.size, 0, none⟩)), (5, .pointer (some ⟨w_1.heap.size, 0, none⟩)), (6, .pointer (some ⟨w_6.heap.size, 0, none⟩)), (8, .slice A_24 xs.length c_25), (13, .pointer (some ⟨w_72.heap.size, 0, none⟩)), (18, .func (.func 106) #[] #[.pointer (some ⟨g_111, 0, none⟩)]), (105, .int .i64 ((t : Int) + 1)), (1000000, encD (D_198 :: ds))] w_197 [Value.int .i64 (IntKind.i64.wrap ((t : Int) + 1)) = Value.int .i64 ((t : Int) + 1)] ⟨wr_i64 (by omega) (by omega), trivial⟩ ?_))))
     refine nl ?_
     refine ⟨(t + 1, (D_198 :: ds)), by kernel_rfl, ?_, ?_⟩
     ·exact ⟨by omega, (bt HB hBl), hds_202, hdn_203, hdge_204⟩
     (try dsimp only); omega
    refine xq 5 [(147, .eq (.bool true)), (150, .load (.int .i64 (pre.length : Int))), (151, .load (.int .i64 stop))] [(3, .pointer (some ⟨w.heap.size, 0, none⟩)), (5, .pointer (some ⟨w_1.heap.size, 0, none⟩)), (6, .pointer (some ⟨w_6.heap.size, 0, none⟩)), (8, .slice A_24 xs.length c_25), (13, .pointer (some ⟨w_72.heap.size, 0, none⟩)), (18, .func (.func 106) #[] #[.pointer (some ⟨g_111, 0, none⟩)]), (105, .int .i64 (t : Int)), (149, .bool true), (150, .int .i64 (pre.length : Int)), (151, .int .i64 stop), (1000000, encD (D_198 :: ds))] w_197 [Value.bool ((pre.length : Int) != (xs.length : Int)) = Value.bool true, LoadsAs Tryd.prog 3 (⟨wl.heap.size, 0, none⟩) (.int .i64 (pre.length : Int)) w_197, LoadsAs Tryd.prog 3 (⟨w_1.heap.size, 0, none⟩) (.int .i64 stop) w_197] ⟨congrArg Value.bool (bneT (c_206)), loads1 rfl (Blk.cell hk19 0 _ rfl), loads1 rfl (Blk.cell (Blk.below hk_8 (bt hB_130 hBl)) 0 _ rfl), trivial⟩ ?_
    by_cases c_207 : (pre.length : Int) = stop
    ·refine xq 2 [(152, .eq (.bool false))] [(3, .pointer (some ⟨w.heap.size, 0, none⟩)), (5, .pointer (some ⟨w_1.heap.size, 0, none⟩)), (6, .pointer (some ⟨w_6.heap.size, 0, none⟩)), (8, .slice A_24 xs.length c_25), (13, .pointer (some ⟨w_72.heap.size, 0, none⟩)), (18, .func (.func 106) #[] #[.pointer (some ⟨g_111, 0, none⟩)]), (105, .int .i64 (t : Int)), (153, .bool false), (1000000, encD (D_198 :: ds))] w_197 [Value.bool ((pre.length : Int) != stop) = Value.bool false] ⟨congrArg Value.bool (bneF (c_207)), trivial⟩ ?_
     refine nl (cf (sk (rg (xq 2 [(154, .eq (.int .i64 ((t : Int) + 1)))] [(3, .pointer (some ⟨w.heap.size, 0, none⟩)), (5, .pointer (some ⟨w_1.heap.size, 0, none⟩)), (6, .pointer (some ⟨w_6.heap.size, 0, none⟩)), (8, .slice A_24 xs.length c_25), (13, .pointer (some ⟨w_72.heap.size, 0, none⟩)), (18, .func (.func 106) #[] #[.pointer (some ⟨g_111, 0, none⟩)]), (105, .int .i64 ((t : Int) + 1)), (1000000, encD (D_198 :: ds))] w_197 [Value.int .i64 (IntKind.i64.wrap ((t : Int) + 1)) = Value.int .i64 ((t : Int) + 1)] ⟨wr_i64 (by omega) (by omega), trivial⟩ ?_))))
     refine nl ?_
     refine ⟨(t + 1, (D_198 :: ds)), by kernel_rfl, ?_, ?_⟩
     ·exact ⟨by omega, (bt HB hBl), hds_202, hdn_203, hdge_204⟩
     (try dsimp only); omega
    exfalso; omega
   refine xq 1 [(106, .eq (.bool false))] [(3, .pointer (some ⟨w.heap.size, 0, none⟩)), (5, .pointer (some ⟨w_1.heap.size, 0, none⟩)), (6, .pointer (some ⟨w_6.heap.size, 0, none⟩)), (8, .slice A_24 xs.length c_25), (13, .pointer (some ⟨w_72.heap.size, 0, none⟩)), (18, .func (.func 106) #[] #[.pointer (some ⟨g_111, 0, none⟩)]), (105, .int .i64 (t : Int)), (106, .bool false), (1000000, encD ds)] wl [Value.bool (decide ((t : Int) < 2)) = Value.bool false] ⟨congrArg Value.bool (decide_eq_false (c_119)), trivial⟩ ?_
   refine nl (sq (cf (X_exit (sq (X_region ?_)))))
   have hB_208 : Below w_1.heap.size w_1 wl := (bt (bt (bt (bt (bg (bt (bt hB_86 hb_89) hb_91) hg_96 ((bt hB_86 hb_89)).size) hb_107) hb_110) hb_118) HB)
   refine xq 2 [(156, .load (.slice A xs.length c))] [(6, .pointer (some ⟨w_6.heap.size, 0, none⟩)), (155, .slice A_24 xs.length c_25), (156, .slice A xs.length c), (1000000, encD ds)] wl [LoadsAs Tryd.prog 45 (⟨w.heap.size, 0, none⟩) (.slice A xs.length c) wl] ⟨loads1 rfl (Blk.cell (Blk.below hk_3 hB_208) 0 _ rfl), trivial⟩ ?_
   have hB_209 : Below w_30.heap.size w_30 wl := (bt (bt (bt (bt hB_104 hb_107) hb_110) hb_118) HB)
   have hB_210 : Below w.heap.size w wl := (bt (bt (bt (bt hB_105 hb_107) hb_110) hb_118) HB)
   refine xc 41 ent41 [.slice A_24 xs.length c_25, .slice A xs.length c] (hKept_any _ _ _ _ xs _ (Kd.C_below hC_28 hB_209) (hS_29.imp id (fun h_ => ⟨h_.1, Kd.C_below h_.2 hB_209⟩)) (Kd.C_below hx hB_210) (by omega)) ?_
   rintro e w_211 ⟨rfl, hb_212⟩; refine ⟨_, rfl, ?_⟩
   have hB_217 : Below w_11.heap.size w_11 w_211 := (bt (bt (bt (bt (bt (bg (bt hB_100 hb_91) hg_96 (hB_100).size) hb_107) hb_110) hb_118) HB) hb_212)
   refine xst (.bool true) (Blk.below hk_13 hB_217) 0 #[.bool true] (fun w_213 hg_214 hk_215 hz_216 => ?_)
   have hne_218 : w_72.heap.size ≠ w_6.heap.size := Nat.ne_of_gt (Nat.lt_of_lt_of_le (Blk.lt hk_13) (hB_85).size)
   have hB_219 : Below w_80.heap.size w_80 w_211 := (bt (bt (bt (bt hB_108 hb_110) hb_118) HB) hb_212)
   have hk_220 := Blk.other (Blk.below hk_82 hB_219) hg_214 hne_218
   have hne_221 : w_88.heap.size ≠ w_6.heap.size := Nat.ne_of_gt (Nat.lt_of_lt_of_le (Blk.lt hk_13) (hB_100).size)
   have hB_222 : Below w_95.heap.size w_95 w_211 := (bt (bt (bt (bt hb_107 hb_110) hb_118) HB) hb_212)
   have hk_223 := Blk.other (Blk.below hk_97 hB_222) hg_214 hne_221
   refine nl (X_ret (RX.retM_cell (P := Tryd.prog) (fn := Tryd.f5) (N := 158) (R := R_) (c := 6) (t := 4) (p := ⟨w_6.heap.size, 0, none⟩) (v := .bool true) (ds := ds) (dsOf_enc (by kernel_rfl)) hdn (Defs.store (Blk.below hk_13 hB_217) hg_214 (Defs.below hb_212 hds)) rfl rfl hk_215 (fun w_ hb_ => loads1 rfl (Blk.cell hb_ 0 _ rfl)) (fun w_ ho_ => hR_ _ _ ?_)))
   have hB_224 : Below w.heap.size w w_117 := (bt (bt (bt hB_105 hb_107) hb_110) hb_118)
   have hB_225 : Below w.heap.size w w_213 := (bg (bt hB_210 hb_212) hg_214 ((bt hb_2 hb_7)).size)
   exact ⟨rfl, Off.below ho_ hB_225 (fun D_ hm_ => Nat.le_trans (hB_224).size (hdge D_ hm_))⟩
  rw [show (get xs key).isSome = false from Bool.eq_false_iff.2 c_101]
  refine xq 2 [] [(3, .pointer (some ⟨w.heap.size, 0, none⟩)), (5, .pointer (some ⟨w_1.heap.size, 0, none⟩)), (6, .pointer (some ⟨w_6.heap.size, 0, none⟩)), (8, .slice A_24 xs.length c_25), (13, .pointer (some ⟨w_72.heap.size, 0, none⟩)), (14, .pointer (some ⟨w_88.heap.size, 0, none⟩)), (15, .bool false), (73, .slice A_24 xs.length c_25), (74, .string key), (1000000, encD [])] w_95 [] trivial ?_
  have hB_226 : Below w_30.heap.size w_30 w_72 := (bt (bt (bt (bt hB_51 hb_59) hb_67) hb_70) hb_73)
  have hB_227 : Below w_30.heap.size w_30 w_88 := (bt (bg (bt hB_226 hb_76) hg_81 (hB_226).size) hb_89)
  have hB_228 : Below w_30.heap.size w_30 w_95 := (bg (bt (bt (bg (bt (bt (bt (bt (bt hB_51 hb_59) hb_67) hb_70) hb_73) hb_76) hg_81 (hB_226).size) hb_89) hb_91) hg_96 (hB_227).size)
  have hB_229 : Below w.heap.size w w_95 := (bg (bt (bt hB_87 hb_89) hb_91) hg_96 ((bt hB_87 hb_89)).size)
  refine xc 38 ent38 [.slice A_24 xs.length c_25, .string key] (aget_any _ _ xs key _ (Kd.C_below hC_28 hB_228) hxn hbx (hT.below hB_229) es (hA.below hB_229)) ?_
  rintro e w_230 ⟨rfl, hb_231⟩; refine ⟨_, rfl, ?_⟩
  rw [show getV xs key = .nilIface from if_neg (fun h_ => c_101 h_.2), show decide (chkA true xs = 0 ∧ (get xs key).isSome = true) = false from decide_eq_false (fun h_ => c_101 h_.2)]
  refine xq 5 [] [(3, .pointer (some ⟨w.heap.size, 0, none⟩)), (5, .pointer (some ⟨w_1.heap.size, 0, none⟩)), (6, .pointer (some ⟨w_6.heap.size, 0, none⟩)), (8, .slice A_24 xs.length c_25), (13, .pointer (some ⟨w_72.heap.size, 0, none⟩)), (14, .pointer (some ⟨w_88.heap.size, 0, none⟩)), (15, .bool false), (16, .nilIface), (17, .bool false), (1000000, encD [])] w_230 [] trivial ?_
  refine nl (sq (sq (X_region ?_)))
  have hB_232 : Below w_80.heap.size w_80 w_230 := (bt (bg (bt hb_89 hb_91) hg_96 (hb_89).size) hb_231)
  refine xq 23 [(79, .load (.bool true))] [(3, .pointer (some ⟨w.heap.size, 0, none⟩)), (5, .pointer (some ⟨w_1.heap.size, 0, none⟩)), (6, .pointer (some ⟨w_6.heap.size, 0, none⟩)), (8, .slice A_24 xs.length c_25), (13, .pointer (some ⟨w_72.heap.size, 0, none⟩)), (100, .bool false), (1000000, encD [])] w_230 [LoadsAs Tryd.prog 4 (⟨w_72.heap.size, 0, none⟩) (.bool true) w_230] ⟨loads1 rfl (Blk.cell (Blk.below hk_82 hB_232) 0 _ rfl), trivial⟩ ?_
  refine nl (cf (sk (sq (rg (xq 1 [] [(3, .pointer (some ⟨w.heap.size, 0, none⟩)), (5, .pointer (some ⟨w_1.heap.size, 0, none⟩)), (6, .pointer (some ⟨w_6.heap.size, 0, none⟩)), (8, .slice A_24 xs.length c_25), (13, .pointer (some ⟨w_72.heap.size, 0, none⟩)), (101, .slice A_24 xs.length c_25), (1000000, encD [])] w_230 [] trivial ?_)))))
  refine xc 40 ent40 [.slice A_24 xs.length c_25] (aeach_any _ _ xs _ (Kd.C_below hC_28 (bt hB_228 hb_231)) hxn hbx (hT.below (bt hB_229 hb_231)) es (hA.below (bt hB_229 hb_231))) ?_
  rintro e w_239 ⟨g_233, A_234, c_235, rfl, hge_236, hk_237, hr_238, hb_240⟩; refine ⟨_, rfl, ?_⟩
  rw [show eachA xs = xs from if_pos (show chkA true xs = 0 by omega)] at hk_237 hr_238
  refine xq 1 [] [(3, .pointer (some ⟨w.heap.size, 0, none⟩)), (5, .pointer (some ⟨w_1.heap.size, 0, none⟩)), (6, .pointer (some ⟨w_6.heap.size, 0, none⟩)), (8, .slice A_24 xs.length c_25), (13, .pointer (some ⟨w_72.heap.size, 0, none⟩)), (18, .func (.func 106) #[] #[.pointer (some ⟨g_233, 0, none⟩)]), (1000000, encD [])] w_239 [] trivial ?_
  refine nl (sq (sq (rg (xq 2 [] [(3, .pointer (some ⟨w.heap.size, 0, none⟩)), (5, .pointer (some ⟨w_1.heap.size, 0, none⟩)), (6, .pointer (some ⟨w_6.heap.size, 0, none⟩)), (8, .slice A_24 xs.length c_25), (13, .pointer (some ⟨w_72.heap.size, 0, none⟩)), (18, .func (.func 106) #[] #[.pointer (some ⟨g_233, 0, none⟩)]), (104, .bool false), (1000000, encD [])] w_239 [] trivial ?_))))
  refine nl (cf (sk (sq (sq (rg (xq 1 [] [(3, .pointer (some ⟨w.heap.size, 0, none⟩)), (5, .pointer (some ⟨w_1.heap.size, 0, none⟩)), (6, .pointer (some ⟨w_6.heap.size, 0, none⟩)), (8, .slice A_24 xs.length c_25), (13, .pointer (some ⟨w_72.heap.size, 0, none⟩)), (18, .func (.func 106) #[] #[.pointer (some ⟨g_233, 0, none⟩)]), (105, .int .i64 0), (1000000, encD [])] w_239 [] trivial ?_))))))
  refine nl (bk (X_loop (ι := Nat × List Nat) (fun ⟨t, ds⟩ => [(3, .pointer (some ⟨w.heap.size, 0, none⟩)), (5, .pointer (some ⟨w_1.heap.size, 0, none⟩)), (6, .pointer (some ⟨w_6.heap.size, 0, none⟩)), (8, .slice A_24 xs.length c_25), (13, .pointer (some ⟨w_72.heap.size, 0, none⟩)), (18, .func (.func 106) #[] #[.pointer (some ⟨g_233, 0, none⟩)]), (105, .int .i64 (t : Int)), (1000000, encD ds)]) (fun ⟨t, ds⟩ wl => t ≤ 2 ∧ Below w_239.heap.size w_239 wl ∧ Defs ds wl ∧ ds.Nodup ∧ (∀ D ∈ ds, w_239.heap.size ≤ D)) (fun ⟨t, ds⟩ => 2 - t) (0, []) ⟨by omega, Below.refl _ _, fun _ h_ => (by cases h_), List.nodup_nil, fun _ h_ => (by cases h_)⟩ (by kernel_rfl) ?_))
  rintro ⟨t, ds⟩ wl ⟨ht2, HB, hds, hdn, hdge⟩
  refine sq (X_region ?_)
  by_cases c_241 : (t : Int) < 2
  ·refine xq 1 [(106, .eq (.bool true))] [(3, .pointer (some ⟨w.heap.size, 0, none⟩)), (5, .pointer (some ⟨w_1.heap.size, 0, none⟩)), (6, .pointer (some ⟨w_6.heap.size, 0, none⟩)), (8, .slice A_24 xs.length c_25), (13, .pointer (some ⟨w_72.heap.size, 0, none⟩)), (18, .func (.func 106) #[] #[.pointer (some ⟨g_233, 0, none⟩)]), (105, .int .i64 (t : Int)), (106, .bool true), (1000000, encD ds)] wl [Value.bool (decide ((t : Int) < 2)) = Value.bool true] ⟨congrArg Value.bool (decide_eq_true (c_241)), trivial⟩ ?_
   refine nl (sq (ct (sk (sq (bk (sq (rg (xq 1 [] [(3, .pointer (some ⟨w.heap.size, 0, none⟩)), (5, .pointer (some ⟨w_1.heap.size, 0, none⟩)), (6, .pointer (some ⟨w_6.heap.size, 0, none⟩)), (8, .slice A_24 xs.length c_25), (13, .pointer (some ⟨w_72.heap.size, 0, none⟩)), (18, .func (.func 106) #[] #[.pointer (some ⟨g_233, 0, none⟩)]), (19, .pointer (some ⟨wl.heap.size, 0, none⟩)), (105, .int .i64 (t : Int)), (1000000, encD ds)] (wl.alloc (.cells #[.int .i64 0] 3)) [] trivial ?_))))))))
   obtain ⟨w_242, hw_246, hb_243, hk_244, hz_245⟩ := new_world wl #[.int .i64 0] 3
   rw [hw_246]
   refine xst (.int .i64 0) hk_244 0 #[.int .i64 0] (fun w_247 hg_248 hk_249 hz_250 => ?_)
   have hB_251 : Below w_1.heap.size w_1 wl := (bt (bt (bt (bg (bt (bt hB_86 hb_89) hb_91) hg_96 ((bt hB_86 hb_89)).size) hb_231) hb_240) HB)
   have hB_252 : Below w_6.heap.size w_6 wl := (bt (bt (bt (bg (bt hB_99 hb_91) hg_96 (hB_99).size) hb_231) hb_240) HB)
   have hB_253 : Below w_11.heap.size w_11 wl := (bt (bt (bt (bg (bt hB_100 hb_91) hg_96 (hB_100).size) hb_231) hb_240) HB)
   refine nl (sq (sq (rg (xq 1 [] [(3, .pointer (some ⟨w.heap.size, 0, none⟩)), (5, .pointer (some ⟨w_1.heap.size, 0, none⟩)), (6, .pointer (some ⟨w_6.heap.size, 0, none⟩)), (8, .slice A_24 xs.length c_25), (13, .pointer (some ⟨w_72.heap.size, 0, none⟩)), (18, .func (.func 106) #[] #[.pointer (some ⟨g_233, 0, none⟩)]), (19, .pointer (some ⟨wl.heap.size, 0, none⟩)), (105, .int .i64 (t : Int)), (107, .func (.func 106) #[] #[.pointer (some ⟨g_233, 0, none⟩)]), (1000000, encD ds)] w_247 [] trivial ?_))))
   refine nl (X_block ?_)
   refine X_rangeFunc (α := At) rfl ent106 (encs := fun x => #[.string x.1, valV x.2]) (aeach_seq xs A_234 c_235 g_233 w wl w_247 hxn (bt (bt (bt hB_229 hb_231) hb_240) HB) (bg hb_243 hg_248 (Nat.le_refl _)) (Blk.below hk_237 HB) (Kd.C_below (RX.Kd.R_C hr_238) HB) (fun i_ hi_ => pairErr_plain (((chkA_good true xs).1 (show chkA true xs = 0 by omega)).1 _ (by rw [getD_at xs i_ hi_]; exact List.getElem_mem hi_)).1) (fun i_ hi_ => (hbx i_ hi_).2) hT es hA) belowK_t (fun _ => Below.refl _ _) (belowK_b ((bg hb_243 hg_248 (Nat.le_refl _))).size) (Below.refl _ _) (fun _ => rfl) (by kernel_rfl) (fun pre W_ => okP xs pre ∧ RX.Blk W_ wl.heap.size 3 #[.int .i64 (pre.length : Int)] ∧ Below wl.heap.size wl W_) (fun c_ pre W_ => (c_ = Code.ret ∧ ¬ (okP xs pre)) ∨ (c_ = Code.exit 2 ∧ (pre.length : Int) = stop ∧ okP xs pre ∧ RX.Blk W_ wl.heap.size 3 #[.int .i64 (pre.length : Int)] ∧ Below wl.heap.size wl W_)) (OwnFrom.and (RX.ownFrom_pure _) (OwnFrom.and (ownFrom_blk (fun _ => wl.heap.size) 3 (fun pre => #[.int .i64 (List.length pre : Int)])) (ownFrom_below' wl ((bg hb_243 hg_248 (Nat.le_refl _))).size))) (fun _ => ownFrom_or (RX.ownFrom_pure _) (OwnFrom.and (RX.ownFrom_pure _) (OwnFrom.and (RX.ownFrom_pure _) (OwnFrom.and (RX.ownFrom_pure _) (OwnFrom.and (ownFrom_blk (fun _ => wl.heap.size) 3 (fun pre => #[.int .i64 (List.length pre : Int)])) (ownFrom_below' wl ((bg hb_243 hg_248 (Nat.le_refl _))).size)))))) ⟨okP_nil _, hk_249, (bg hb_243 hg_248 (Nat.le_refl _))⟩ (fun x => [(3, .pointer (some ⟨w.heap.size, 0, none⟩)), (5, .pointer (some ⟨w_1.heap.size, 0, none⟩)), (6, .pointer (some ⟨w_6.heap.size, 0, none⟩)), (8, .slice A_24 xs.length c_25), (13, .pointer (some ⟨w_72.heap.size, 0, none⟩)), (18, .func (.func 106) #[] #[.pointer (some ⟨g_233, 0, none⟩)]), (19, .pointer (some ⟨wl.heap.size, 0, none⟩)), (20, .string x.1), (21, valV x.2), (105, .int .i64 (t : Int)), (107, .func (.func 106) #[] #[.pointer (some ⟨g_233, 0, none⟩)])]) ?_ ?_ ?_ ?_
   ·intro lp_ x W_
    refine XI_keep [3, 5, 6, 8, 13, 18, 19, 105, 107, 108, 109] [(3, .pointer (some ⟨w.heap.size, 0, none⟩)), (5, .pointer (some ⟨w_1.heap.size, 0, none⟩)), (6, .pointer (some ⟨w_6.heap.size, 0, none⟩)), (8, .slice A_24 xs.length c_25), (13, .pointer (some ⟨w_72.heap.size, 0, none⟩)), (18, .func (.func 106) #[] #[.pointer (some ⟨g_233, 0, none⟩)]), (19, .pointer (some ⟨wl.heap.size, 0, none⟩)), (105, .int .i64 (t : Int)), (107, .func (.func 106) #[] #[.pointer (some ⟨g_233, 0, none⟩)]), (108, .string x.1), (109, valV x.2)] (by kernel_rfl) ?_
    refine XI_seq ?_
    refine XI_region (by kernel_rfl) (fun _ _ h_ => h_) ?_
    refine xq 1 [] [(3, .pointer (some ⟨w.heap.size, 0, none⟩)), (5, .pointer (some ⟨w_1.heap.size, 0, none⟩)), (6, .pointer (some ⟨w_6.heap.size, 0, none⟩)), (8, .slice A_24 xs.length c_25), (13, .pointer (some ⟨w_72.heap.size, 0, none⟩)), (18, .func (.func 106) #[] #[.pointer (some ⟨g_233, 0, none⟩)]), (19, .pointer (some ⟨wl.heap.size, 0, none⟩)), (20, .string x.1), (105, .int .i64 (t : Int)), (107, .func (.func 106) #[] #[.pointer (some ⟨g_233, 0, none⟩)]), (108, .string x.1), (109, valV x.2)] W_ [] trivial ?_
    refine nl (XI_region (by kernel_rfl) (fun _ _ h_ => h_) ?_)
    refine xq 1 [] [(3, .pointer (some ⟨w.heap.size, 0, none⟩)), (5, .pointer (some ⟨w_1.heap.size, 0, none⟩)), (6, .pointer (some ⟨w_6.heap.size, 0, none⟩)), (8, .slice A_24 xs.length c_25), (13, .pointer (some ⟨w_72.heap.size, 0, none⟩)), (18, .func (.func 106) #[] #[.pointer (some ⟨g_233, 0, none⟩)]), (19, .pointer (some ⟨wl.heap.size, 0, none⟩)), (20, .string x.1), (21, valV x.2), (105, .int .i64 (t : Int)), (107, .func (.func 106) #[] #[.pointer (some ⟨g_233, 0, none⟩)]), (108, .string x.1), (109, valV x.2)] W_ [] trivial ?_
    refine nl ?_
    exact ⟨by kernel_rfl, rfl⟩
   ·rintro lp_ pre x W_r hlp_ ⟨hp1, hk19, hBl⟩ hlen_
    refine XI_block ?_
    refine XI_seq ?_
    refine XI_seq ?_
    refine XI_region (by kernel_rfl) (fun _ _ h_ => h_) ?_
    refine xq 6 [(110, .load (.bool true)), (113, .load (.int .i64 (pre.length : Int))), (114, .load (.slice A xs.length c))] [(3, .pointer (some ⟨w.heap.size, 0, none⟩)), (5, .pointer (some ⟨w_1.heap.size, 0, none⟩)), (6, .pointer (some ⟨w_6.heap.size, 0, none⟩)), (8, .slice A_24 xs.length c_25), (13, .pointer (some ⟨w_72.heap.size, 0, none⟩)), (18, .func (.func 106) #[] #[.pointer (some ⟨g_233, 0, none⟩)]), (19, .pointer (some ⟨wl.heap.size, 0, none⟩)), (20, .string x.1), (21, valV x.2), (105, .int .i64 (t : Int)), (112, .bool false), (113, .int .i64 (pre.length : Int)), (115, .int .i64 (xs.length : Int))] W_r [LoadsAs Tryd.prog 4 (⟨w_72.heap.size, 0, none⟩) (.bool true) W_r, LoadsAs Tryd.prog 3 (⟨wl.heap.size, 0, none⟩) (.int .i64 (pre.length : Int)) W_r, LoadsAs Tryd.prog 45 (⟨w.heap.size, 0, none⟩) (.slice A xs.length c) W_r] ⟨loads1 rfl (Blk.cell (Blk.below hk_82 (bt (bt (bt hB_232 hb_240) HB) hBl)) 0 _ rfl), loads1 rfl (Blk.cell hk19 0 _ rfl), loads1 rfl (Blk.cell (Blk.below hk_3 (bt hB_251 hBl)) 0 _ rfl), trivial⟩ ?_
    by_cases c_254 : (pre.length : Int) ≥ (xs.length : Int)
    ·refine xq 21 [(116, .eq (.bool true))] [(3, .pointer (some ⟨w.heap.size, 0, none⟩)), (5, .pointer (some ⟨w_1.heap.size, 0, none⟩)), (6, .pointer (some ⟨w_6.heap.size, 0, none⟩)), (8, .slice A_24 xs.length c_25), (13, .pointer (some ⟨w_72.heap.size, 0, none⟩)), (18, .func (.func 106) #[] #[.pointer (some ⟨g_233, 0, none⟩)]), (19, .pointer (some ⟨wl.heap.size, 0, none⟩)), (105, .int .i64 (t : Int)), (136, .bool true)] W_r [Value.bool (decide ((pre.length : Int) ≥ (xs.length : Int))) = Value.bool true] ⟨congrArg Value.bool (decide_eq_true (c_254)), trivial⟩ ?_
     refine nl (XI_cond true rfl ?_)
     refine XI_seq ?_
     refine XI_region (by kernel_rfl) (fun _ _ h_ => h_) ?_
     refine xst (.bool false) (Blk.below hk_13 (bt hB_253 hBl)) 0 #[.bool false] (fun w_255 hg_256 hk_257 hz_258 => ?_)
     have hne_259 : w_72.heap.size ≠ w_6.heap.size := Nat.ne_of_gt (Nat.lt_of_lt_of_le (Blk.lt hk_13) (hB_85).size)
     have hk_260 := Blk.other (Blk.below hk_82 (bt (bt (bt hB_232 hb_240) HB) hBl)) hg_256 hne_259
     have hne_261 : w_88.heap.size ≠ w_6.heap.size := Nat.ne_of_gt (Nat.lt_of_lt_of_le (Blk.lt hk_13) (hB_100).size)
     have hk_262 := Blk.other (Blk.below hk_97 (bt (bt (bt hb_231 hb_240) HB) hBl)) hg_256 hne_261
     have hne_263 : wl.heap.size ≠ w_6.heap.size := Nat.ne_of_gt (Nat.lt_of_lt_of_le (Blk.lt hk_13) (hB_253).size)
     have hk_264 := Blk.other hk19 hg_256 hne_263
     refine nl (XI_ret ?_)
     exact ⟨(keeps_store (Blk.below hk_13 (bt hB_253 hBl)) hg_256), .inl ⟨rfl, fun h_ => by obtain ⟨h1_, h2_, h3_⟩ := okP_wrong h_; first | omega | exact absurd h2_ (by assumption) | exact absurd h3_ (by assumption)⟩⟩
    refine xq 6 [(116, .eq (.bool false)), (120, .load (.slice A xs.length c)), (121, .load (.int .i64 (pre.length : Int)))] [(3, .pointer (some ⟨w.heap.size, 0, none⟩)), (5, .pointer (some ⟨w_1.heap.size, 0, none⟩)), (6, .pointer (some ⟨w_6.heap.size, 0, none⟩)), (8, .slice A_24 xs.length c_25), (13, .pointer (some ⟨w_72.heap.size, 0, none⟩)), (18, .func (.func 106) #[] #[.pointer (some ⟨g_233, 0, none⟩)]), (19, .pointer (some ⟨wl.heap.size, 0, none⟩)), (21, valV x.2), (105, .int .i64 (t : Int)), (118, .bool false), (119, .string x.1), (120, .slice A xs.length c), (121, .int .i64 (pre.length : Int))] W_r [Value.bool (decide ((pre.length : Int) ≥ (xs.length : Int))) = Value.bool false, LoadsAs Tryd.prog 45 (⟨w.heap.size, 0, none⟩) (.slice A xs.length c) W_r, LoadsAs Tryd.prog 3 (⟨wl.heap.size, 0, none⟩) (.int .i64 (pre.length : Int)) W_r] ⟨congrArg Value.bool (decide_eq_false (c_254)), loads1 rfl (Blk.cell (Blk.below hk_3 (bt hB_251 hBl)) 0 _ rfl), loads1 rfl (Blk.cell hk19 0 _ rfl), trivial⟩ ?_
    have hB_265 : Below w.heap.size w W_r := (bt (bt (bt (bt hB_229 hb_231) hb_240) HB) hBl)
    obtain ⟨ad_266, ha_267, hc_268⟩ := Kd.atAttr (Kd.C_below hx hB_265) (i := (pre.length : Int)) (by omega) (by omega)
    replace hc_268 : CellsAt W_r (ad_266.add ((pre.length : Int).toNat * 4)) [.string ((xs.getD pre.length at0).1), .int .i64 ((xs.getD pre.length at0).2.1), .int .i64 ((xs.getD pre.length at0).2.2.1), .string ((xs.getD pre.length at0).2.2.2)] := hc_268
    refine xq 3 [(122, .idx ad_266), (124, .load (.string ((xs.getD pre.length at0).1)))] [(3, .pointer (some ⟨w.heap.size, 0, none⟩)), (5, .pointer (some ⟨w_1.heap.size, 0, none⟩)), (6, .pointer (some ⟨w_6.heap.size, 0, none⟩)), (8, .slice A_24 xs.length c_25), (13, .pointer (some ⟨w_72.heap.size, 0, none⟩)), (18, .func (.func 106) #[] #[.pointer (some ⟨g_233, 0, none⟩)]), (19, .pointer (some ⟨wl.heap.size, 0, none⟩)), (21, valV x.2), (105, .int .i64 (t : Int)), (118, .bool false), (119, .string x.1), (124, .string ((xs.getD pre.length at0).1))] W_r [A = some ad_266, (0 : Int) ≤ (pre.length : Int), (pre.length : Int) < (xs.length : Int), LoadsAs Tryd.prog 9 (ad_266.add ((pre.length : Int).toNat * 4)) (.string ((xs.getD pre.length at0).1)) W_r] ⟨ha_267, (by omega), (by omega), loads1 rfl (elem_cell hc_268 0 _ rfl), trivial⟩ ?_
    by_cases c_269 : x.1 = ((xs.getD pre.length at0).1)
    ·refine xq 6 [(125, .eq (.bool false)), (129, .load (.slice A xs.length c)), (130, .load (.int .i64 (pre.length : Int)))] [(3, .pointer (some ⟨w.heap.size, 0, none⟩)), (5, .pointer (some ⟨w_1.heap.size, 0, none⟩)), (6, .pointer (some ⟨w_6.heap.size, 0, none⟩)), (8, .slice A_24 xs.length c_25), (13, .pointer (some ⟨w_72.heap.size, 0, none⟩)), (18, .func (.func 106) #[] #[.pointer (some ⟨g_233, 0, none⟩)]), (19, .pointer (some ⟨wl.heap.size, 0, none⟩)), (105, .int .i64 (t : Int)), (127, .bool false), (128, valV x.2), (129, .slice A xs.length c), (130, .int .i64 (pre.length : Int))] W_r [Value.bool (!x.1.toList == ((xs.getD pre.length at0).1).toList) = Value.bool false, LoadsAs Tryd.prog 45 (⟨w.heap.size, 0, none⟩) (.slice A xs.length c) W_r, LoadsAs Tryd.prog 3 (⟨wl.heap.size, 0, none⟩) (.int .i64 (pre.length : Int)) W_r] ⟨congrArg Value.bool (strNeF (c_269)), loads1 rfl (Blk.cell (Blk.below hk_3 (bt hB_251 hBl)) 0 _ rfl), loads1 rfl (Blk.cell hk19 0 _ rfl), trivial⟩ ?_
     obtain ⟨ad_270, ha_271, hc_272⟩ := Kd.atAttr (Kd.C_below hx hB_265) (i := (pre.length : Int)) (by omega) (by omega)
     replace hc_272 : CellsAt W_r (ad_270.add ((pre.length : Int).toNat * 4)) [.string ((xs.getD pre.length at0).1), .int .i64 ((xs.getD pre.length at0).2.1), .int .i64 ((xs.getD pre.length at0).2.2.1), .string ((xs.getD pre.length at0).2.2.2)] := hc_272
     refine xq 3 [(131, .idx ad_270), (133, .load (.agg #[.int .i64 ((xs.getD pre.length at0).2.1), .int .i64 ((xs.getD pre.length at0).2.2.1), .string ((xs.getD pre.length at0).2.2.2)]))] [(3, .pointer (some ⟨w.heap.size, 0, none⟩)), (5, .pointer (some ⟨w_1.heap.size, 0, none⟩)), (6, .pointer (some ⟨w_6.heap.size, 0, none⟩)), (8, .slice A_24 xs.length c_25), (13, .pointer (some ⟨w_72.heap.size, 0, none⟩)), (18, .func (.func 106) #[] #[.pointer (some ⟨g_233, 0, none⟩)]), (19, .pointer (some ⟨wl.heap.size, 0, none⟩)), (105, .int .i64 (t : Int)), (127, .bool false), (128, valV x.2), (133, .agg #[.int .i64 ((xs.getD pre.length at0).2.1), .int .i64 ((xs.getD pre.length at0).2.2.1), .string ((xs.getD pre.length at0).2.2.2)])] W_r [A = some ad_270, (0 : Int) ≤ (pre.length : Int), (pre.length : Int) < (xs.length : Int), LoadsAs Tryd.prog 44 ((ad_270.add ((pre.length : Int).toNat * 4)).add 1) (.agg #[.int .i64 ((xs.getD pre.length at0).2.1), .int .i64 ((xs.getD pre.length at0).2.2.1), .string ((xs.getD pre.length at0).2.2.2)]) W_r] ⟨ha_271, (by omega), (by omega), loadsE rfl rfl hc_272 1 ⟨by kernel_rfl, by kernel_rfl⟩, trivial⟩ ?_
     refine xc 39 ent39 [.agg #[.int .i64 ((xs.getD pre.length at0).2.1), .int .i64 ((xs.getD pre.length at0).2.2.1), .string ((xs.getD pre.length at0).2.2.2)]] (hvalue_any ((xs.getD pre.length at0).2.1) ((xs.getD pre.length at0).2.2.1) ((xs.getD pre.length at0).2.2.2) _) ?_
     rintro e w_273 ⟨rfl, hb_274⟩; refine ⟨_, rfl, ?_⟩
     by_cases c_275 : veq x.2 ((xs.getD pre.length at0).2.1, (xs.getD pre.length at0).2.2.1, (xs.getD pre.length at0).2.2.2) = true
     ·refine xq 2 [(135, .as (.bool false))] [(3, .pointer (some ⟨w.heap.size, 0, none⟩)), (5, .pointer (some ⟨w_1.heap.size, 0, none⟩)), (6, .pointer (some ⟨w_6.heap.size, 0, none⟩)), (8, .slice A_24 xs.length c_25), (13, .pointer (some ⟨w_72.heap.size, 0, none⟩)), (18, .func (.func 106) #[] #[.pointer (some ⟨g_233, 0, none⟩)]), (19, .pointer (some ⟨wl.heap.size, 0, none⟩)), (105, .int .i64 (t : Int)), (136, .bool false)] w_273 [RunsAs Tryd.prog [(128, valV x.2), (134, valV ((xs.getD pre.length at0).2.1, (xs.getD pre.length at0).2.2.1, (xs.getD pre.length at0).2.2.2))] (Go.Op.binOp Go.BinOp.neq 63 (Go.Operand.tmp 128) (Go.Operand.tmp 134) 63) 4 (.bool false) w_273] ⟨runs_bin rfl rfl (valV_neq x.2 ((xs.getD pre.length at0).2.1, (xs.getD pre.length at0).2.2.1, (xs.getD pre.length at0).2.2.2) _ _ _).1 (by have h_ := (valV_neq x.2 ((xs.getD pre.length at0).2.1, (xs.getD pre.length at0).2.2.1, (xs.getD pre.length at0).2.2.2) (.tmp 0) (.tmp 0) w_273).2; rw [c_275] at h_; exact h_), trivial⟩ ?_
      refine nl (XI_cond false rfl ?_)
      refine XI_skip ?_
      refine XI_seq ?_
      refine XI_region (by kernel_rfl) (fun _ _ h_ => h_) ?_
      refine xq 2 [(137, .load (.int .i64 (pre.length : Int))), (138, .eq (.int .i64 ((pre.length + 1 : Nat) : Int)))] [(3, .pointer (some ⟨w.heap.size, 0, none⟩)), (5, .pointer (some ⟨w_1.heap.size, 0, none⟩)), (6, .pointer (some ⟨w_6.heap.size, 0, none⟩)), (8, .slice A_24 xs.length c_25), (13, .pointer (some ⟨w_72.heap.size, 0, none⟩)), (18, .func (.func 106) #[] #[.pointer (some ⟨g_233, 0, none⟩)]), (19, .pointer (some ⟨wl.heap.size, 0, none⟩)), (105, .int .i64 (t : Int)), (138, .int .i64 ((pre.length + 1 : Nat) : Int))] w_273 [LoadsAs Tryd.prog 3 (⟨wl.heap.size, 0, none⟩) (.int .i64 (pre.length : Int)) w_273, Value.int .i64 (IntKind.i64.wrap ((pre.length : Int) + 1)) = Value.int .i64 ((pre.length + 1 : Nat) : Int)] ⟨loads1 rfl (Blk.cell (Blk.below hk19 hb_274) 0 _ rfl), (by rw [show (pre.length : Int) + 1 = ((pre.length + 1 : Nat) : Int) from by omega]; exact wr_i64 (by omega) (by omega)), trivial⟩ ?_
      refine xst (.int .i64 ((pre.length + 1 : Nat) : Int)) (Blk.below hk19 hb_274) 0 #[.int .i64 ((pre.length + 1 : Nat) : Int)] (fun w_276 hg_277 hk_278 hz_279 => ?_)
      refine nl (XI_seq ?_)
      refine XI_region (by kernel_rfl) (fun _ _ h_ => h_) ?_
      have hB_280 : Below w_6.heap.size w_6 w_276 := (bg (bt (bt hB_252 hBl) hb_274) hg_277 (hB_252).size)
      refine xq 2 [(139, .load (.int .i64 ((pre.length + 1 : Nat) : Int))), (140, .load (.int .i64 stop))] [(3, .pointer (some ⟨w.heap.size, 0, none⟩)), (5, .pointer (some ⟨w_1.heap.size, 0, none⟩)), (6, .pointer (some ⟨w_6.heap.size, 0, none⟩)), (8, .slice A_24 xs.length c_25), (13, .pointer (some ⟨w_72.heap.size, 0, none⟩)), (18, .func (.func 106) #[] #[.pointer (some ⟨g_233, 0, none⟩)]), (19, .pointer (some ⟨wl.heap.size, 0, none⟩)), (105, .int .i64 (t : Int)), (139, .int .i64 ((pre.length + 1 : Nat) : Int)), (140, .int .i64 stop)] w_276 [LoadsAs Tryd.prog 3 (⟨wl.heap.size, 0, none⟩) (.int .i64 ((pre.length + 1 : Nat) : Int)) w_276, LoadsAs Tryd.prog 3 (⟨w_1.heap.size, 0, none⟩) (.int .i64 stop) w_276] ⟨loads1 rfl (Blk.cell hk_278 0 _ rfl), loads1 rfl (Blk.cell (Blk.below hk_8 hB_280) 0 _ rfl), trivial⟩ ?_
      by_cases c_281 : ((pre.length + 1 : Nat) : Int) = stop
      ·refine xq 1 [(141, .eq (.bool true))] [(3, .pointer (some ⟨w.heap.size, 0, none⟩)), (5, .pointer (some ⟨w_1.heap.size, 0, none⟩)), (6, .pointer (some ⟨w_6.heap.size, 0, none⟩)), (8, .slice A_24 xs.length c_25), (13, .pointer (some ⟨w_72.heap.size, 0, none⟩)), (18, .func (.func 106) #[] #[.pointer (some ⟨g_233, 0, none⟩)]), (19, .pointer (some ⟨wl.heap.size, 0, none⟩)), (105, .int .i64 (t : Int)), (141, .bool true)] w_276 [Value.bool (((pre.length + 1 : Nat) : Int) == stop) = Value.bool true] ⟨congrArg Value.bool (beq_iff_eq.2 (c_281)), trivial⟩ ?_
       refine nl (XI_cond true rfl ?_)
       refine XI_exit ?_
       have hpn : (pre ++ [x]).length = pre.length + 1 := by simp
       have hok_ := okP_snoc hp1 (show pre.length < xs.length by omega) c_269 c_275
       have hB_282 : Below wl.heap.size wl w_276 := (bg (bt hBl hb_274) hg_277 (Nat.le_refl _))
       exact ⟨(KeepsFrom.trans (keeps_below hb_274) (keeps_store (Blk.below hk19 hb_274) hg_277)), .inr ⟨rfl, by rw [hpn]; omega, ⟨hok_, by rw [hpn]; exact hk_278, hB_282⟩⟩⟩
      refine xq 1 [(141, .eq (.bool false))] [(3, .pointer (some ⟨w.heap.size, 0, none⟩)), (5, .pointer (some ⟨w_1.heap.size, 0, none⟩)), (6, .pointer (some ⟨w_6.heap.size, 0, none⟩)), (8, .slice A_24 xs.length c_25), (13, .pointer (some ⟨w_72.heap.size, 0, none⟩)), (18, .func (.func 106) #[] #[.pointer (some ⟨g_233, 0, none⟩)]), (19, .pointer (some ⟨wl.heap.size, 0, none⟩)), (105, .int .i64 (t : Int)), (141, .bool false)] w_276 [Value.bool (((pre.length + 1 : Nat) : Int) == stop) = Value.bool false] ⟨congrArg Value.bool (beq_eq_false_iff_ne.2 (c_281)), trivial⟩ ?_
      refine nl (XI_cond false rfl ?_)
      refine XI_skip ?_
      have hpn : (pre ++ [x]).length = pre.length + 1 := by simp
      have hok_ := okP_snoc hp1 (show pre.length < xs.length by omega) c_269 c_275
      have hB_283 : Below wl.heap.size wl w_276 := (bg (bt hBl hb_274) hg_277 (Nat.le_refl _))
      exact ⟨(KeepsFrom.trans (keeps_below hb_274) (keeps_store (Blk.below hk19 hb_274) hg_277)), (Below.trans (bel_lo hb_274 (hBl).size) (bel_st hg_277 ((bt hBl hb_274)).size (Nat.le_refl _))), ⟨hok_, by rw [hpn]; exact hk_278, hB_283⟩⟩
     refine xq 2 [(135, .as (.bool true))] [(3, .pointer (some ⟨w.heap.size, 0, none⟩)), (5, .pointer (some ⟨w_1.heap.size, 0, none⟩)), (6, .pointer (some ⟨w_6.heap.size, 0, none⟩)), (8, .slice A_24 xs.length c_25), (13, .pointer (some ⟨w_72.heap.size, 0, none⟩)), (18, .func (.func 106) #[] #[.pointer (some ⟨g_233, 0, none⟩)]), (19, .pointer (some ⟨wl.heap.size, 0, none⟩)), (105, .int .i64 (t : Int)), (136, .bool true)] w_273 [RunsAs Tryd.prog [(128, valV x.2), (134, valV ((xs.getD pre.length at0).2.1, (xs.getD pre.length at0).2.2.1, (xs.getD pre.length at0).2.2.2))] (Go.Op.binOp Go.BinOp.neq 63 (Go.Operand.tmp 128) (Go.Operand.tmp 134) 63) 4 (.bool true) w_273] ⟨runs_bin rfl rfl (valV_neq x.2 ((xs.getD pre.length at0).2.1, (xs.getD pre.length at0).2.2.1, (xs.getD pre.length at0).2.2.2) _ _ _).1 (by have h_ := (valV_neq x.2 ((xs.getD pre.length at0).2.1, (xs.getD pre.length at0).2.2.1, (xs.getD pre.length at0).2.2.2) (.tmp 0) (.tmp 0) w_273).2; rw [Bool.eq_false_iff.2 c_275] at h_; exact h_), trivial⟩ ?_
     refine nl (XI_cond true rfl ?_)
     refine XI_seq ?_
     refine XI_region (by kernel_rfl) (fun _ _ h_ => h_) ?_
     refine xst (.bool false) (Blk.below hk_13 (bt (bt hB_253 hBl) hb_274)) 0 #[.bool false] (fun w_284 hg_285 hk_286 hz_287 => ?_)
     have hne_288 : w_72.heap.size ≠ w_6.heap.size := Nat.ne_of_gt (Nat.lt_of_lt_of_le (Blk.lt hk_13) (hB_85).size)
     have hB_289 : Below w_80.heap.size w_80 w_273 := (bt (bt (bt (bt hB_232 hb_240) HB) hBl) hb_274)
     have hk_290 := Blk.other (Blk.below hk_82 hB_289) hg_285 hne_288
     have hne_291 : w_88.heap.size ≠ w_6.heap.size := Nat.ne_of_gt (Nat.lt_of_lt_of_le (Blk.lt hk_13) (hB_100).size)
     have hB_292 : Below w_95.heap.size w_95 w_273 := (bt (bt (bt (bt hb_231 hb_240) HB) hBl) hb_274)
     have hk_293 := Blk.other (Blk.below hk_97 hB_292) hg_285 hne_291
     have hne_294 : wl.heap.size ≠ w_6.heap.size := Nat.ne_of_gt (Nat.lt_of_lt_of_le (Blk.lt hk_13) (hB_253).size)
     have hk_295 := Blk.other (Blk.below hk19 hb_274) hg_285 hne_294
     refine nl (XI_ret ?_)
     exact ⟨(KeepsFrom.trans (keeps_below hb_274) (keeps_store (Blk.below hk_13 (bt (bt hB_253 hBl) hb_274)) hg_285)), .inl ⟨rfl, fun h_ => by obtain ⟨h1_, h2_, h3_⟩ := okP_wrong h_; first | omega | exact absurd h2_ (by assumption) | exact absurd h3_ (by assumption)⟩⟩
    refine xq 12 [(125, .eq (.bool true))] [(3, .pointer (some ⟨w.heap.size, 0, none⟩)), (5, .pointer (some ⟨w_1.heap.size, 0, none⟩)), (6, .pointer (some ⟨w_6.heap.size, 0, none⟩)), (8, .slice A_24 xs.length c_25), (13, .pointer (some ⟨w_72.heap.size, 0, none⟩)), (18, .func (.func 106) #[] #[.pointer (some ⟨g_233, 0, none⟩)]), (19, .pointer (some ⟨wl.heap.size, 0, none⟩)), (105, .int .i64 (t : Int)), (136, .bool true)] W_r [Value.bool (!x.1.toList == ((xs.getD pre.length at0).1).toList) = Value.bool true] ⟨congrArg Value.bool (strNeT (c_269)), trivial⟩ ?_
    refine nl (XI_cond true rfl ?_)
    refine XI_seq ?_
    refine XI_region (by kernel_rfl) (fun _ _ h_ => h_) ?_
    refine xst (.bool false) (Blk.below hk_13 (bt hB_253 hBl)) 0 #[.bool false] (fun w_296 hg_297 hk_298 hz_299 => ?_)
    have hne_300 : w_72.heap.size ≠ w_6.heap.size := Nat.ne_of_gt (Nat.lt_of_lt_of_le (Blk.lt hk_13) (hB_85).size)
    have hk_301 := Blk.other (Blk.below hk_82 (bt (bt (bt hB_232 hb_240) HB) hBl)) hg_297 hne_300
    have hne_302 : w_88.heap.size ≠ w_6.heap.size := Nat.ne_of_gt (Nat.lt_of_lt_of_le (Blk.lt hk_13) (hB_100).size)
    have hk_303 := Blk.other (Blk.below hk_97 (bt (bt (bt hb_231 hb_240) HB) hBl)) hg_297 hne_302
    have hne_304 : wl.heap.size ≠ w_6.heap.size := Nat.ne_of_gt (Nat.lt_of_lt_of_le (Blk.lt hk_13) (hB_253).size)
    have hk_305 := Blk.other hk19 hg_297 hne_304
    refine nl (XI_ret ?_)
    exact ⟨(keeps_store (Blk.below hk_13 (bt hB_253 hBl)) hg_297), .inl ⟨rfl, fun h_ => by obtain ⟨h1_, h2_, h3_⟩ := okP_wrong h_; first | omega | exact absurd h2_ (by assumption) | exact absurd h3_ (by assumption)⟩⟩
   ·rintro D_307 pre w_306 hD_308 hS_309 ⟨hp1, hk19, hBl⟩ hK_310
    have hpe : pre.length = xs.length := by rw [hS_309]
    have hds_311 : Defs (D_307 :: ds) w_306 := Defs.cons hK_310 (Defs.below hBl hds)
    have hlo_ := ((bg hb_243 hg_248 (Nat.le_refl _))).size
    have hdn_312 : (D_307 :: ds).Nodup := List.nodup_cons.2 ⟨fun hm_ => by have h_ := Defs.lt hds _ hm_; omega, hdn⟩
    have hlt_ := (HB).size
    have hdge_313 : ∀ D_ ∈ D_307 :: ds, w_239.heap.size ≤ D_ := fun D_ hm_ => (List.mem_cons.1 hm_).elim (fun e_ => by omega) (hdge D_)
    refine sq (rg (xq 5 [(142, .load (.bool true)), (144, .load (.int .i64 (pre.length : Int))), (145, .load (.slice A xs.length c))] [(3, .pointer (some ⟨w.heap.size, 0, none⟩)), (5, .pointer (some ⟨w_1.heap.size, 0, none⟩)), (6, .pointer (some ⟨w_6.heap.size, 0, none⟩)), (8, .slice A_24 xs.length c_25), (13, .pointer (some ⟨w_72.heap.size, 0, none⟩)), (18, .func (.func 106) #[] #[.pointer (some ⟨g_233, 0, none⟩)]), (19, .pointer (some ⟨wl.heap.size, 0, none⟩)), (105, .int .i64 (t : Int)), (143, .bool true), (144, .int .i64 (pre.length : Int)), (146, .int .i64 (xs.length : Int)), (1000000, encD (D_307 :: ds))] w_306 [LoadsAs Tryd.prog 4 (⟨w_72.heap.size, 0, none⟩) (.bool true) w_306, LoadsAs Tryd.prog 3 (⟨wl.heap.size, 0, none⟩) (.int .i64 (pre.length : Int)) w_306, LoadsAs Tryd.prog 45 (⟨w.heap.size, 0, none⟩) (.slice A xs.length c) w_306] ⟨loads1 rfl (Blk.cell (Blk.below hk_82 (bt (bt (bt hB_232 hb_240) HB) hBl)) 0 _ rfl), loads1 rfl (Blk.cell hk19 0 _ rfl), loads1 rfl (Blk.cell (Blk.below hk_3 (bt hB_251 hBl)) 0 _ rfl), trivial⟩ ?_))
    by_cases c_314 : (pre.length : Int) = (xs.length : Int)
    ·refine xq 7 [(147, .eq (.bool false))] [(3, .pointer (some ⟨w.heap.size, 0, none⟩)), (5, .pointer (some ⟨w_1.heap.size, 0, none⟩)), (6, .pointer (some ⟨w_6.heap.size, 0, none⟩)), (8, .slice A_24 xs.length c_25), (13, .pointer (some ⟨w_72.heap.size, 0, none⟩)), (18, .func (.func 106) #[] #[.pointer (some ⟨g_233, 0, none⟩)]), (105, .int .i64 (t : Int)), (153, .bool false), (1000000, encD (D_307 :: ds))] w_306 [Value.bool ((pre.length : Int) != (xs.length : Int)) = Value.bool false] ⟨congrArg Value.bool (bneF (c_314)), trivial⟩ ?_
     refine nl (cf (sk (rg (xq 2 [(154, .eq (.int .i64 ((t : Int) + 1)))] [(3, .pointer (some ⟨w.heap.size, 0, none⟩)), (5, .pointer (some ⟨w_1.heap.size, 0, none⟩)), (6, .pointer (some ⟨w_6.heap.size, 0, none⟩)), (8, .slice A_24 xs.length c_25), (13, .pointer (some ⟨w_72.heap.size, 0, none⟩)), (18, .func (.func 106) #[] #[.pointer (some ⟨g_233, 0, none⟩)]), (105, .int .i64 ((t : Int) + 1)), (1000000, encD (D_307 :: ds))] w_306 [Value.int .i64 (IntKind.i64.wrap ((t : Int) + 1)) = Value.int .i64 ((t : Int) + 1)] ⟨wr_i64 (by omega) (by omega), trivial⟩ ?_))))
     refine nl ?_
     refine ⟨(t + 1, (D_307 :: ds)), by kernel_rfl, ?_, ?_⟩
     ·exact ⟨by omega, (bt HB hBl), hds_311, hdn_312, hdge_313⟩
     (try dsimp only); omega
    refine xq 5 [(147, .eq (.bool true)), (150, .load (.int .i64 (pre.length : Int))), (151, .load (.int .i64 stop))] [(3, .pointer (some ⟨w.heap.size, 0, none⟩)), (5, .pointer (some ⟨w_1.heap.size, 0, none⟩)), (6, .pointer (some ⟨w_6.heap.size, 0, none⟩)), (8, .slice A_24 xs.length c_25), (13, .pointer (some ⟨w_72.heap.size, 0, none⟩)), (18, .func (.func 106) #[] #[.pointer (some ⟨g_233, 0, none⟩)]), (105, .int .i64 (t : Int)), (149, .bool true), (150, .int .i64 (pre.length : Int)), (151, .int .i64 stop), (1000000, encD (D_307 :: ds))] w_306 [Value.bool ((pre.length : Int) != (xs.length : Int)) = Value.bool true, LoadsAs Tryd.prog 3 (⟨wl.heap.size, 0, none⟩) (.int .i64 (pre.length : Int)) w_306, LoadsAs Tryd.prog 3 (⟨w_1.heap.size, 0, none⟩) (.int .i64 stop) w_306] ⟨congrArg Value.bool (bneT (c_314)), loads1 rfl (Blk.cell hk19 0 _ rfl), loads1 rfl (Blk.cell (Blk.below hk_8 (bt hB_252 hBl)) 0 _ rfl), trivial⟩ ?_
    by_cases c_315 : (pre.length : Int) = stop
    ·refine xq 2 [(152, .eq (.bool false))] [(3, .pointer (some ⟨w.heap.size, 0, none⟩)), (5, .pointer (some ⟨w_1.heap.size, 0, none⟩)), (6, .pointer (some ⟨w_6.heap.size, 0, none⟩)), (8, .slice A_24 xs.length c_25), (13, .pointer (some ⟨w_72.heap.size, 0, none⟩)), (18, .func (.func 106) #[] #[.pointer (some ⟨g_233, 0, none⟩)]), (105, .int .i64 (t : Int)), (153, .bool false), (1000000, encD (D_307 :: ds))] w_306 [Value.bool ((pre.length : Int) != stop) = Value.bool false] ⟨congrArg Value.bool (bneF (c_315)), trivial⟩ ?_
     refine nl (cf (sk (rg (xq 2 [(154, .eq (.int .i64 ((t : Int) + 1)))] [(3, .pointer (some ⟨w.heap.size, 0, none⟩)), (5, .pointer (some ⟨w_1.heap.size, 0, none⟩)), (6, .pointer (some ⟨w_6.heap.size, 0, none⟩)), (8, .slice A_24 xs.length c_25), (13, .pointer (some ⟨w_72.heap.size, 0, none⟩)), (18, .func (.func 106) #[] #[.pointer (some ⟨g_233, 0, none⟩)]), (105, .int .i64 ((t : Int) + 1)), (1000000, encD (D_307 :: ds))] w_306 [Value.int .i64 (IntKind.i64.wrap ((t : Int) + 1)) = Value.int .i64 ((t : Int) + 1)] ⟨wr_i64 (by omega) (by omega), trivial⟩ ?_))))
     refine nl ?_
     refine ⟨(t + 1, (D_307 :: ds)), by kernel_rfl, ?_, ?_⟩
     ·exact ⟨by omega, (bt HB hBl), hds_311, hdn_312, hdge_313⟩
     (try dsimp only); omega
    exfalso; omega
   rintro D_317 c_ pre w_316 hD_318 hS_319 hix_ hK_320
   rcases hix_ with ⟨rfl, hno_⟩ | ⟨rfl, hst_, hp1, hk19, hBl⟩
   ·exact absurd (okP_take hS_319) hno_
   have hq_ := hp1
   have hds_321 : Defs (D_317 :: ds) w_316 := Defs.cons hK_320 (Defs.below hBl hds)
   have hlo_ := ((bg hb_243 hg_248 (Nat.le_refl _))).size
   have hdn_322 : (D_317 :: ds).Nodup := List.nodup_cons.2 ⟨fun hm_ => by have h_ := Defs.lt hds _ hm_; omega, hdn⟩
   have hlt_ := (HB).size
   have hdge_323 : ∀ D_ ∈ D_317 :: ds, w_239.heap.size ≤ D_ := fun D_ hm_ => (List.mem_cons.1 hm_).elim (fun e_ => by omega) (hdge D_)
   refine X_exit (sq (rg (xq 5 [(142, .load (.bool true)), (144, .load (.int .i64 (pre.length : Int))), (145, .load (.slice A xs.length c))] [(3, .pointer (some ⟨w.heap.size, 0, none⟩)), (5, .pointer (some ⟨w_1.heap.size, 0, none⟩)), (6, .pointer (some ⟨w_6.heap.size, 0, none⟩)), (8, .slice A_24 xs.length c_25), (13, .pointer (some ⟨w_72.heap.size, 0, none⟩)), (18, .func (.func 106) #[] #[.pointer (some ⟨g_233, 0, none⟩)]), (19, .pointer (some ⟨wl.heap.size, 0, none⟩)), (105, .int .i64 (t : Int)), (143, .bool true), (144, .int .i64 (pre.length : Int)), (146, .int .i64 (xs.length : Int)), (1000000, encD (D_317 :: ds))] w_316 [LoadsAs Tryd.prog 4 (⟨w_72.heap.size, 0, none⟩) (.bool true) w_316, LoadsAs Tryd.prog 3 (⟨wl.heap.size, 0, none⟩) (.int .i64 (pre.length : Int)) w_316, LoadsAs Tryd.prog 45 (⟨w.heap.size, 0, none⟩) (.slice A xs.length c) w_316] ⟨loads1 rfl (Blk.cell (Blk.below hk_82 (bt (bt (bt hB_232 hb_240) HB) hBl)) 0 _ rfl), loads1 rfl (Blk.cell hk19 0 _ rfl), loads1 rfl (Blk.cell (Blk.below hk_3 (bt hB_251 hBl)) 0 _ rfl), trivial⟩ ?_)))
   by_cases c_324 : (pre.length : Int) = (xs.length : Int)
   ·refine xq 7 [(147, .eq (.bool false))] [(3, .pointer (some ⟨w.heap.size, 0, none⟩)), (5, .pointer (some ⟨w_1.heap.size, 0, none⟩)), (6, .pointer (some ⟨w_6.heap.size, 0, none⟩)), (8, .slice A_24 xs.length c_25), (13, .pointer (some ⟨w_72.heap.size, 0, none⟩)), (18, .func (.func 106) #[] #[.pointer (some ⟨g_233, 0, none⟩)]), (105, .int .i64 (t : Int)), (153, .bool false), (1000000, encD (D_317 :: ds))] w_316 [Value.bool ((pre.length : Int) != (xs.length : Int)) = Value.bool false] ⟨congrArg Value.bool (bneF (c_324)), trivial⟩ ?_
    refine nl (cf (sk (rg (xq 2 [(154, .eq (.int .i64 ((t : Int) + 1)))] [(3, .pointer (some ⟨w.heap.size, 0, none⟩)), (5, .pointer (some ⟨w_1.heap.size, 0, none⟩)), (6, .pointer (some ⟨w_6.heap.size, 0, none⟩)), (8, .slice A_24 xs.length c_25), (13, .pointer (some ⟨w_72.heap.size, 0, none⟩)), (18, .func (.func 106) #[] #[.pointer (some ⟨g_233, 0, none⟩)]), (105, .int .i64 ((t : Int) + 1)), (1000000, encD (D_317 :: ds))] w_316 [Value.int .i64 (IntKind.i64.wrap ((t : Int) + 1)) = Value.int .i64 ((t : Int) + 1)] ⟨wr_i64 (by omega) (by omega), trivial⟩ ?_))))
    refine nl ?_
    refine ⟨(t + 1, (D_317 :: ds)), by kernel_rfl, ?_, ?_⟩
    ·exact ⟨by omega, (bt HB hBl), hds_321, hdn_322, hdge_323⟩
    (try dsimp only); omega
   refine xq 5 [(147, .eq (.bool true)), (150, .load (.int .i64 (pre.length : Int))), (151, .load (.int .i64 stop))] [(3, .pointer (some ⟨w.heap.size, 0, none⟩)), (5, .pointer (some ⟨w_1.heap.size, 0, none⟩)), (6, .pointer (some ⟨w_6.heap.size, 0, none⟩)), (8, .slice A_24 xs.length c_25), (13, .pointer (some ⟨w_72.heap.size, 0, none⟩)), (18, .func (.func 106) #[] #[.pointer (some ⟨g_233, 0, none⟩)]), (105, .int .i64 (t : Int)), (149, .bool true), (150, .int .i64 (pre.length : Int)), (151, .int .i64 stop), (1000000, encD (D_317 :: ds))] w_316 [Value.bool ((pre.length : Int) != (xs.length : Int)) = Value.bool true, LoadsAs Tryd.prog 3 (⟨wl.heap.size, 0, none⟩) (.int .i64 (pre.length : Int)) w_316, LoadsAs Tryd.prog 3 (⟨w_1.heap.size, 0, none⟩) (.int .i64 stop) w_316] ⟨congrArg Value.bool (bneT (c_324)), loads1 rfl (Blk.cell hk19 0 _ rfl), loads1 rfl (Blk.cell (Blk.below hk_8 (bt hB_252 hBl)) 0 _ rfl), trivial⟩ ?_
   by_cases c_325 : (pre.length : Int) = stop
   ·refine xq 2 [(152, .eq (.bool false))] [(3, .pointer (some ⟨w.heap.size, 0, none⟩)), (5, .pointer (some ⟨w_1.heap.size, 0, none⟩)), (6, .pointer (some ⟨w_6.heap.size, 0, none⟩)), (8, .slice A_24 xs.length c_25), (13, .pointer (some ⟨w_72.heap.size, 0, none⟩)), (18, .func (.func 106) #[] #[.pointer (some ⟨g_233, 0, none⟩)]), (105, .int .i64 (t : Int)), (153, .bool false), (1000000, encD (D_317 :: ds))] w_316 [Value.bool ((pre.length : Int) != stop) = Value.bool false] ⟨congrArg Value.bool (bneF (c_325)), trivial⟩ ?_
    refine nl (cf (sk (rg (xq 2 [(154, .eq (.int .i64 ((t : Int) + 1)))] [(3, .pointer (some ⟨w.heap.size, 0, none⟩)), (5, .pointer (some ⟨w_1.heap.size, 0, none⟩)), (6, .pointer (some ⟨w_6.heap.size, 0, none⟩)), (8, .slice A_24 xs.length c_25), (13, .pointer (some ⟨w_72.heap.size, 0, none⟩)), (18, .func (.func 106) #[] #[.pointer (some ⟨g_233, 0, none⟩)]), (105, .int .i64 ((t : Int) + 1)), (1000000, encD (D_317 :: ds))] w_316 [Value.int .i64 (IntKind.i64.wrap ((t : Int) + 1)) = Value.int .i64 ((t : Int) + 1)] ⟨wr_i64 (by omega) (by omega), trivial⟩ ?_))))
    refine nl ?_
    refine ⟨(t + 1, (D_317 :: ds)), by kernel_rfl, ?_, ?_⟩
    ·exact ⟨by omega, (bt HB hBl), hds_321, hdn_322, hdge_323⟩
    (try dsimp only); omega
   exfalso; omega
  refine xq 1 [(106, .eq (.bool false))] [(3, .pointer (some ⟨w.heap.size, 0, none⟩)), (5, .pointer (some ⟨w_1.heap.size, 0, none⟩)), (6, .pointer (some ⟨w_6.heap.size, 0, none⟩)), (8, .slice A_24 xs.length c_25), (13, .pointer (some ⟨w_72.heap.size, 0, none⟩)), (18, .func (.func 106) #[] #[.pointer (some ⟨g_233, 0, none⟩)]), (105, .int .i64 (t : Int)), (106, .bool false), (1000000, encD ds)] wl [Value.bool (decide ((t : Int) < 2)) = Value.bool false] ⟨congrArg Value.bool (decide_eq_false (c_241)), trivial⟩ ?_
  refine nl (sq (cf (X_exit (sq (X_region ?_)))))
  have hB_326 : Below w_1.heap.size w_1 wl := (bt (bt (bt (bg (bt (bt hB_86 hb_89) hb_91) hg_96 ((bt hB_86 hb_89)).size) hb_231) hb_240) HB)
  refine xq 2 [(156, .load (.slice A xs.length c))] [(6, .pointer (some ⟨w_6.heap.size, 0, none⟩)), (155, .slice A_24 xs.length c_25), (156, .slice A xs.length c), (1000000, encD ds)] wl [LoadsAs Tryd.prog 45 (⟨w.heap.size, 0, none⟩) (.slice A xs.length c) wl] ⟨loads1 rfl (Blk.cell (Blk.below hk_3 hB_326) 0 _ rfl), trivial⟩ ?_
  refine xc 41 ent41 [.slice A_24 xs.length c_25, .slice A xs.length c] (hKept_any _ _ _ _ xs _ (Kd.C_below hC_28 (bt (bt (bt hB_228 hb_231) hb_240) HB)) (hS_29.imp id (fun h_ => ⟨h_.1, Kd.C_below h_.2 (bt (bt (bt hB_228 hb_231) hb_240) HB)⟩)) (Kd.C_below hx (bt (bt (bt hB_229 hb_231) hb_240) HB)) (by omega)) ?_
  rintro e w_327 ⟨rfl, hb_328⟩; refine ⟨_, rfl, ?_⟩
  have hB_333 : Below w_11.heap.size w_11 w_327 := (bt (bt (bt (bt (bg (bt hB_100 hb_91) hg_96 (hB_100).size) hb_231) hb_240) HB) hb_328)
  refine xst (.bool true) (Blk.below hk_13 hB_333) 0 #[.bool true] (fun w_329 hg_330 hk_331 hz_332 => ?_)
  have hne_334 : w_72.heap.size ≠ w_6.heap.size := Nat.ne_of_gt (Nat.lt_of_lt_of_le (Blk.lt hk_13) (hB_85).size)
  have hk_335 := Blk.other (Blk.below hk_82 (bt (bt (bt hB_232 hb_240) HB) hb_328)) hg_330 hne_334
  have hne_336 : w_88.heap.size ≠ w_6.heap.size := Nat.ne_of_gt (Nat.lt_of_lt_of_le (Blk.lt hk_13) (hB_100).size)
  have hk_337 := Blk.other (Blk.below hk_97 (bt (bt (bt hb_231 hb_240) HB) hb_328)) hg_330 hne_336
  refine nl (X_ret (RX.retM_cell (P := Tryd.prog) (fn := Tryd.f5) (N := 158) (R := R_) (c := 6) (t := 4) (p := ⟨w_6.heap.size, 0, none⟩) (v := .bool true) (ds := ds) (dsOf_enc (by kernel_rfl)) hdn (Defs.store (Blk.below hk_13 hB_333) hg_330 (Defs.below hb_328 hds)) rfl rfl hk_331 (fun w_ hb_ => loads1 rfl (Blk.cell hb_ 0 _ rfl)) (fun w_ ho_ => hR_ _ _ ?_)))
  have hB_338 : Below w.heap.size w w_329 := (bg (bt (bt (bt (bt hB_229 hb_231) hb_240) HB) hb_328) hg_330 ((bt hb_2 hb_7)).size)
  exact ⟨rfl, Off.below ho_ hB_338 (fun D_ hm_ => Nat.le_trans ((bt (bt hB_229 hb_231) hb_240)).size (hdge D_ hm_))⟩
 refine xq 2 [(65, .eq (.bool false))] [(1, .string key), (3, .pointer (some ⟨w.heap.size, 0, none⟩)), (5, .pointer (some ⟨w_1.heap.size, 0, none⟩)), (6, .pointer (some ⟨w_6.heap.size, 0, none⟩)), (8, .slice A_24 xs.length c_25), (13, .pointer (some ⟨w_72.heap.size, 0, none⟩)), (65, .bool false), (1000000, encD [])] (w_72.alloc (.cells #[.bool false] 4)) [Value.bool ((chkA true xs : Int) == 0) = Value.bool false] ⟨congrArg Value.bool (beq_eq_false_iff_ne.2 (c_74)), trivial⟩ ?_
 obtain ⟨w_339, hw_343, hb_340, hk_341, hz_342⟩ := new_world w_72 #[.bool false] 4
 rw [hw_343]
 refine xst (.bool false) hk_341 0 #[.bool false] (fun w_344 hg_345 hk_346 hz_347 => ?_)
 have hB_348 : Below w_6.heap.size w_6 w_72 := (bt (bt (bt (bt (bt (bt (bt (bt (bt (bt (bt (bt (bt hb_12 hb_17) hb_31) hb_33) hb_38) hb_40) hb_42) hb_44) hb_48) hb_50) hb_59) hb_67) hb_70) hb_73)
 have hB_349 : Below w_11.heap.size w_11 w_72 := (bt (bt (bt (bt (bt (bt (bt (bt (bt (bt (bt (bt hb_17 hb_31) hb_33) hb_38) hb_40) hb_42) hb_44) hb_48) hb_50) hb_59) hb_67) hb_70) hb_73)
 refine nl (sq (X_region ?_))
 have hB_350 : Below w_1.heap.size w_1 w_344 := (bg (bt (bt hB_71 hb_73) hb_340) hg_345 ((bt hB_71 hb_73)).size)
 refine xq 2 [(67, .load (.slice A xs.length c))] [(1, .string key), (3, .pointer (some ⟨w.heap.size, 0, none⟩)), (5, .pointer (some ⟨w_1.heap.size, 0, none⟩)), (6, .pointer (some ⟨w_6.heap.size, 0, none⟩)), (8, .slice A_24 xs.length c_25), (13, .pointer (some ⟨w_72.heap.size, 0, none⟩)), (67, .slice A xs.length c), (68, .string key), (1000000, encD [])] w_344 [LoadsAs Tryd.prog 45 (⟨w.heap.size, 0, none⟩) (.slice A xs.length c) w_344] ⟨loads1 rfl (Blk.cell (Blk.below hk_3 hB_350) 0 _ rfl), trivial⟩ ?_
 have hB_351 : Below w.heap.size w w_344 := (bg (bt (bt (bt hB_68 hb_70) hb_73) hb_340) hg_345 ((bt (bt hB_68 hb_70) hb_73)).size)
 refine xc 37 ent37 [.slice A xs.length c, .string key] (has_any _ _ xs key _ (Kd.C_below hx hB_351)) ?_
 rintro e w_352 ⟨rfl, hb_353⟩; refine ⟨_, rfl, ?_⟩
 refine xq 4 [] [(1, .string key), (3, .pointer (some ⟨w.heap.size, 0, none⟩)), (5, .pointer (some ⟨w_1.heap.size, 0, none⟩)), (6, .pointer (some ⟨w_6.heap.size, 0, none⟩)), (8, .slice A_24 xs.length c_25), (13, .pointer (some ⟨w_72.heap.size, 0, none⟩)), (14, .pointer (some ⟨w_352.heap.size, 0, none⟩)), (70, .agg #[.int .i64 ((gv xs key).1), .int .i64 ((gv xs key).2.1), .string ((gv xs key).2.2)]), (71, .bool ((get xs key).isSome)), (1000000, encD [])] (w_352.alloc (.cells #[.int .i64 0, .int .i64 0, .string ByteArray.empty] 44)) [] trivial ?_
 obtain ⟨w_354, hw_358, hb_355, hk_356, hz_357⟩ := new_world w_352 #[.int .i64 0, .int .i64 0, .string ByteArray.empty] 44
 rw [hw_358]
 refine xst (.agg #[.int .i64 ((gv xs key).1), .int .i64 ((gv xs key).2.1), .string ((gv xs key).2.2)]) hk_356 0 #[.int .i64 ((gv xs key).1), .int .i64 ((gv xs key).2.1), .string ((gv xs key).2.2)] (fun w_359 hg_360 hk_361 hz_362 => ?_)
 have hB_363 : Below w_6.heap.size w_6 w_352 := (bt (bg (bt hB_348 hb_340) hg_345 (hB_348).size) hb_353)
 have hB_364 : Below w_11.heap.size w_11 w_352 := (bt (bg (bt hB_349 hb_340) hg_345 (hB_349).size) hb_353)
 refine xq 1 [] [(1, .string key), (3, .pointer (some ⟨w.heap.size, 0, none⟩)), (5, .pointer (some ⟨w_1.heap.size, 0, none⟩)), (6, .pointer (some ⟨w_6.heap.size, 0, none⟩)), (8, .slice A_24 xs.length c_25), (13, .pointer (some ⟨w_72.heap.size, 0, none⟩)), (14, .pointer (some ⟨w_352.heap.size, 0, none⟩)), (15, .bool ((get xs key).isSome)), (1000000, encD [])] w_359 [] trivial ?_
 refine nl (sq (rg (xq 2 [] [(3, .pointer (some ⟨w.heap.size, 0, none⟩)), (5, .pointer (some ⟨w_1.heap.size, 0, none⟩)), (6, .pointer (some ⟨w_6.heap.size, 0, none⟩)), (8, .slice A_24 xs.length c_25), (13, .pointer (some ⟨w_72.heap.size, 0, none⟩)), (14, .pointer (some ⟨w_352.heap.size, 0, none⟩)), (15, .bool ((get xs key).isSome)), (73, .slice A_24 xs.length c_25), (74, .string key), (1000000, encD [])] w_359 [] trivial ?_)))
 have hB_365 : Below w_30.heap.size w_30 w_72 := (bt (bt (bt (bt hB_51 hb_59) hb_67) hb_70) hb_73)
 have hB_366 : Below w_30.heap.size w_30 w_352 := (bt (bg (bt hB_365 hb_340) hg_345 (hB_365).size) hb_353)
 have hB_367 : Below w_30.heap.size w_30 w_359 := (bg (bt (bt (bg (bt (bt (bt (bt (bt hB_51 hb_59) hb_67) hb_70) hb_73) hb_340) hg_345 (hB_365).size) hb_353) hb_355) hg_360 (hB_366).size)
 have hB_368 : Below w.heap.size w w_359 := (bg (bt (bt hB_351 hb_353) hb_355) hg_360 ((bt hB_351 hb_353)).size)
 refine xc 38 ent38 [.slice A_24 xs.length c_25, .string key] (aget_any _ _ xs key _ (Kd.C_below hC_28 hB_367) hxn hbx (hT.below hB_368) es (hA.below hB_368)) ?_
 rintro e w_369 ⟨rfl, hb_370⟩; refine ⟨_, rfl, ?_⟩
 rw [show getV xs key = .nilIface from if_neg (fun h_ => absurd h_.1 (by omega)), show decide (chkA true xs = 0 ∧ (get xs key).isSome = true) = false from decide_eq_false (fun h_ => absurd h_.1 (by omega))]
 refine xq 5 [] [(3, .pointer (some ⟨w.heap.size, 0, none⟩)), (5, .pointer (some ⟨w_1.heap.size, 0, none⟩)), (6, .pointer (some ⟨w_6.heap.size, 0, none⟩)), (8, .slice A_24 xs.length c_25), (13, .pointer (some ⟨w_72.heap.size, 0, none⟩)), (14, .pointer (some ⟨w_352.heap.size, 0, none⟩)), (15, .bool ((get xs key).isSome)), (16, .nilIface), (17, .bool false), (1000000, encD [])] w_369 [] trivial ?_
 refine nl (sq (sq (X_region ?_)))
 have hB_371 : Below w_344.heap.size w_344 w_369 := (bt (bg (bt hb_353 hb_355) hg_360 (hb_353).size) hb_370)
 refine xq 23 [(79, .load (.bool false))] [(3, .pointer (some ⟨w.heap.size, 0, none⟩)), (5, .pointer (some ⟨w_1.heap.size, 0, none⟩)), (6, .pointer (some ⟨w_6.heap.size, 0, none⟩)), (8, .slice A_24 xs.length c_25), (13, .pointer (some ⟨w_72.heap.size, 0, none⟩)), (100, .bool false), (1000000, encD [])] w_369 [LoadsAs Tryd.prog 4 (⟨w_72.heap.size, 0, none⟩) (.bool false) w_369] ⟨loads1 rfl (Blk.cell (Blk.below hk_346 hB_371) 0 _ rfl), trivial⟩ ?_
 refine nl (cf (sk (sq (rg (xq 1 [] [(3, .pointer (some ⟨w.heap.size, 0, none⟩)), (5, .pointer (some ⟨w_1.heap.size, 0, none⟩)), (6, .pointer (some ⟨w_6.heap.size, 0, none⟩)), (8, .slice A_24 xs.length c_25), (13, .pointer (some ⟨w_72.heap.size, 0, none⟩)), (101, .slice A_24 xs.length c_25), (1000000, encD [])] w_369 [] trivial ?_)))))
 refine xc 40 ent40 [.slice A_24 xs.length c_25] (aeach_any _ _ xs _ (Kd.C_below hC_28 (bt hB_367 hb_370)) hxn hbx (hT.below (bt hB_368 hb_370)) es (hA.below (bt hB_368 hb_370))) ?_
 rintro e w_378 ⟨g_372, A_373, c_374, rfl, hge_375, hk_376, hr_377, hb_379⟩; refine ⟨_, rfl, ?_⟩
 rw [show eachA xs = ([] : List At) from if_neg (by omega)] at hk_376 hr_377
 refine xq 1 [] [(3, .pointer (some ⟨w.heap.size, 0, none⟩)), (5, .pointer (some ⟨w_1.heap.size, 0, none⟩)), (6, .pointer (some ⟨w_6.heap.size, 0, none⟩)), (8, .slice A_24 xs.length c_25), (13, .pointer (some ⟨w_72.heap.size, 0, none⟩)), (18, .func (.func 106) #[] #[.pointer (some ⟨g_372, 0, none⟩)]), (1000000, encD [])] w_378 [] trivial ?_
 refine nl (sq (sq (rg (xq 2 [] [(3, .pointer (some ⟨w.heap.size, 0, none⟩)), (5, .pointer (some ⟨w_1.heap.size, 0, none⟩)), (6, .pointer (some ⟨w_6.heap.size, 0, none⟩)), (8, .slice A_24 xs.length c_25), (13, .pointer (some ⟨w_72.heap.size, 0, none⟩)), (18, .func (.func 106) #[] #[.pointer (some ⟨g_372, 0, none⟩)]), (104, .bool false), (1000000, encD [])] w_378 [] trivial ?_))))
 refine nl (cf (sk (sq (sq (rg (xq 1 [] [(3, .pointer (some ⟨w.heap.size, 0, none⟩)), (5, .pointer (some ⟨w_1.heap.size, 0, none⟩)), (6, .pointer (some ⟨w_6.heap.size, 0, none⟩)), (8, .slice A_24 xs.length c_25), (13, .pointer (some ⟨w_72.heap.size, 0, none⟩)), (18, .func (.func 106) #[] #[.pointer (some ⟨g_372, 0, none⟩)]), (105, .int .i64 0), (1000000, encD [])] w_378 [] trivial ?_))))))
 refine nl (bk (X_loop (ι := Nat × List Nat) (fun ⟨t, ds⟩ => [(3, .pointer (some ⟨w.heap.size, 0, none⟩)), (5, .pointer (some ⟨w_1.heap.size, 0, none⟩)), (6, .pointer (some ⟨w_6.heap.size, 0, none⟩)), (8, .slice A_24 xs.length c_25), (13, .pointer (some ⟨w_72.heap.size, 0, none⟩)), (18, .func (.func 106) #[] #[.pointer (some ⟨g_372, 0, none⟩)]), (105, .int .i64 (t : Int)), (1000000, encD ds)]) (fun ⟨t, ds⟩ wl => t ≤ 2 ∧ Below w_378.heap.size w_378 wl ∧ Defs ds wl ∧ ds.Nodup ∧ (∀ D ∈ ds, w_378.heap.size ≤ D)) (fun ⟨t, ds⟩ => 2 - t) (0, []) ⟨by omega, Below.refl _ _, fun _ h_ => (by cases h_), List.nodup_nil, fun _ h_ => (by cases h_)⟩ (by kernel_rfl) ?_))
 rintro ⟨t, ds⟩ wl ⟨ht2, HB, hds, hdn, hdge⟩
 refine sq (X_region ?_)
 by_cases c_380 : (t : Int) < 2
 ·refine xq 1 [(106, .eq (.bool true))] [(3, .pointer (some ⟨w.heap.size, 0, none⟩)), (5, .pointer (some ⟨w_1.heap.size, 0, none⟩)), (6, .pointer (some ⟨w_6.heap.size, 0, none⟩)), (8, .slice A_24 xs.length c_25), (13, .pointer (some ⟨w_72.heap.size, 0, none⟩)), (18, .func (.func 106) #[] #[.pointer (some ⟨g_372, 0, none⟩)]), (105, .int .i64 (t : Int)), (106, .bool true), (1000000, encD ds)] wl [Value.bool (decide ((t : Int) < 2)) = Value.bool true] ⟨congrArg Value.bool (decide_eq_true (c_380)), trivial⟩ ?_
  refine nl (sq (ct (sk (sq (bk (sq (rg (xq 1 [] [(3, .pointer (some ⟨w.heap.size, 0, none⟩)), (5, .pointer (some ⟨w_1.heap.size, 0, none⟩)), (6, .pointer (some ⟨w_6.heap.size, 0, none⟩)), (8, .slice A_24 xs.length c_25), (13, .pointer (some ⟨w_72.heap.size, 0, none⟩)), (18, .func (.func 106) #[] #[.pointer (some ⟨g_372, 0, none⟩)]), (19, .pointer (some ⟨wl.heap.size, 0, none⟩)), (105, .int .i64 (t : Int)), (1000000, encD ds)] (wl.alloc (.cells #[.int .i64 0] 3)) [] trivial ?_))))))))
  obtain ⟨w_381, hw_385, hb_382, hk_383, hz_384⟩ := new_world wl #[.int .i64 0] 3
  rw [hw_385]
  refine xst (.int .i64 0) hk_383 0 #[.int .i64 0] (fun w_386 hg_387 hk_388 hz_389 => ?_)
  have hB_390 : Below w_1.heap.size w_1 wl := (bt (bt (bt (bg (bt (bt hB_350 hb_353) hb_355) hg_360 ((bt hB_350 hb_353)).size) hb_370) hb_379) HB)
  have hB_391 : Below w_6.heap.size w_6 wl := (bt (bt (bt (bg (bt hB_363 hb_355) hg_360 (hB_363).size) hb_370) hb_379) HB)
  have hB_392 : Below w_11.heap.size w_11 wl := (bt (bt (bt (bg (bt hB_364 hb_355) hg_360 (hB_364).size) hb_370) hb_379) HB)
  refine nl (sq (sq (rg (xq 1 [] [(3, .pointer (some ⟨w.heap.size, 0, none⟩)), (5, .pointer (some ⟨w_1.heap.size, 0, none⟩)), (6, .pointer (some ⟨w_6.heap.size, 0, none⟩)), (8, .slice A_24 xs.length c_25), (13, .pointer (some ⟨w_72.heap.size, 0, none⟩)), (18, .func (.func 106) #[] #[.pointer (some ⟨g_372, 0, none⟩)]), (19, .pointer (some ⟨wl.heap.size, 0, none⟩)), (105, .int .i64 (t : Int)), (107, .func (.func 106) #[] #[.pointer (some ⟨g_372, 0, none⟩)]), (1000000, encD ds)] w_386 [] trivial ?_))))
  refine nl (bk (X_rangeFunc (α := At) rfl ent106 (encs := fun x => #[.string x.1, valV x.2]) (aeach_seq ([] : List At) A_373 c_374 g_372 w wl w_386 (Nat.zero_le _) (bt (bt (bt hB_368 hb_370) hb_379) HB) (bg hb_382 hg_387 (Nat.le_refl _)) (Blk.below hk_376 HB) (Kd.C_below (RX.Kd.R_C hr_377) HB) (fun i_ hi_ => absurd hi_ (Nat.not_lt_zero _)) (fun i_ hi_ => absurd hi_ (Nat.not_lt_zero _)) hT es hA) belowK_t (fun _ => Below.refl _ _) (belowK_b ((bg hb_382 hg_387 (Nat.le_refl _))).size) (Below.refl _ _) (fun _ => rfl) (by kernel_rfl) (fun pre W_ => okP ([] : List At) pre ∧ RX.Blk W_ wl.heap.size 3 #[.int .i64 (pre.length : Int)] ∧ Below wl.heap.size wl W_) (fun c_ pre W_ => (c_ = Code.ret ∧ ¬ (okP ([] : List At) pre)) ∨ (c_ = Code.exit 2 ∧ (pre.length : Int) = stop ∧ okP ([] : List At) pre ∧ RX.Blk W_ wl.heap.size 3 #[.int .i64 (pre.length : Int)] ∧ Below wl.heap.size wl W_)) (OwnFrom.and (RX.ownFrom_pure _) (OwnFrom.and (ownFrom_blk (fun _ => wl.heap.size) 3 (fun pre => #[.int .i64 (List.length pre : Int)])) (ownFrom_below' wl ((bg hb_382 hg_387 (Nat.le_refl _))).size))) (fun _ => ownFrom_or (RX.ownFrom_pure _) (OwnFrom.and (RX.ownFrom_pure _) (OwnFrom.and (RX.ownFrom_pure _) (OwnFrom.and (RX.ownFrom_pure _) (OwnFrom.and (ownFrom_blk (fun _ => wl.heap.size) 3 (fun pre => #[.int .i64 (List.length pre : Int)])) (ownFrom_below' wl ((bg hb_382 hg_387 (Nat.le_refl _))).size)))))) ⟨okP_nil _, hk_388, (bg hb_382 hg_387 (Nat.le_refl _))⟩ (fun x => [(3, .pointer (some ⟨w.heap.size, 0, none⟩)), (5, .pointer (some ⟨w_1.heap.size, 0, none⟩)), (6, .pointer (some ⟨w_6.heap.size, 0, none⟩)), (8, .slice A_24 xs.length c_25), (13, .pointer (some ⟨w_72.heap.size, 0, none⟩)), (18, .func (.func 106) #[] #[.pointer (some ⟨g_372, 0, none⟩)]), (19, .pointer (some ⟨wl.heap.size, 0, none⟩)), (20, .string x.1), (21, valV x.2), (105, .int .i64 (t : Int)), (107, .func (.func 106) #[] #[.pointer (some ⟨g_372, 0, none⟩)])]) ?_ ?_ ?_ ?_))
  ·intro lp_ x W_
   refine XI_keep [3, 5, 6, 8, 13, 18, 19, 105, 107, 108, 109] [(3, .pointer (some ⟨w.heap.size, 0, none⟩)), (5, .pointer (some ⟨w_1.heap.size, 0, none⟩)), (6, .pointer (some ⟨w_6.heap.size, 0, none⟩)), (8, .slice A_24 xs.length c_25), (13, .pointer (some ⟨w_72.heap.size, 0, none⟩)), (18, .func (.func 106) #[] #[.pointer (some ⟨g_372, 0, none⟩)]), (19, .pointer (some ⟨wl.heap.size, 0, none⟩)), (105, .int .i64 (t : Int)), (107, .func (.func 106) #[] #[.pointer (some ⟨g_372, 0, none⟩)]), (108, .string x.1), (109, valV x.2)] (by kernel_rfl) ?_
   refine XI_seq ?_
   refine XI_region (by kernel_rfl) (fun _ _ h_ => h_) ?_
   refine xq 1 [] [(3, .pointer (some ⟨w.heap.size, 0, none⟩)), (5, .pointer (some ⟨w_1.heap.size, 0, none⟩)), (6, .pointer (some ⟨w_6.heap.size, 0, none⟩)), (8, .slice A_24 xs.length c_25), (13, .pointer (some ⟨w_72.heap.size, 0, none⟩)), (18, .func (.func 106) #[] #[.pointer (some ⟨g_372, 0, none⟩)]), (19, .pointer (some ⟨wl.heap.size, 0, none⟩)), (20, .string x.1), (105, .int .i64 (t : Int)), (107, .func (.func 106) #[] #[.pointer (some ⟨g_372, 0, none⟩)]), (108, .string x.1), (109, valV x.2)] W_ [] trivial ?_
   refine nl (XI_region (by kernel_rfl) (fun _ _ h_ => h_) ?_)
   refine xq 1 [] [(3, .pointer (some ⟨w.heap.size, 0, none⟩)), (5, .pointer (some ⟨w_1.heap.size, 0, none⟩)), (6, .pointer (some ⟨w_6.heap.size, 0, none⟩)), (8, .slice A_24 xs.length c_25), (13, .pointer (some ⟨w_72.heap.size, 0, none⟩)), (18, .func (.func 106) #[] #[.pointer (some ⟨g_372, 0, none⟩)]), (19, .pointer (some ⟨wl.heap.size, 0, none⟩)), (20, .string x.1), (21, valV x.2), (105, .int .i64 (t : Int)), (107, .func (.func 106) #[] #[.pointer (some ⟨g_372, 0, none⟩)]), (108, .string x.1), (109, valV x.2)] W_ [] trivial ?_
   refine nl ?_
   exact ⟨by kernel_rfl, rfl⟩
  ·rintro lp_ pre x W_r hlp_ ⟨hp1, hk19, hBl⟩ hlen_
   refine XI_block ?_
   refine XI_seq ?_
   refine XI_seq ?_
   refine XI_region (by kernel_rfl) (fun _ _ h_ => h_) ?_
   refine xq 27 [(110, .load (.bool false))] [(3, .pointer (some ⟨w.heap.size, 0, none⟩)), (5, .pointer (some ⟨w_1.heap.size, 0, none⟩)), (6, .pointer (some ⟨w_6.heap.size, 0, none⟩)), (8, .slice A_24 xs.length c_25), (13, .pointer (some ⟨w_72.heap.size, 0, none⟩)), (18, .func (.func 106) #[] #[.pointer (some ⟨g_372, 0, none⟩)]), (19, .pointer (some ⟨wl.heap.size, 0, none⟩)), (105, .int .i64 (t : Int)), (136, .bool true)] W_r [LoadsAs Tryd.prog 4 (⟨w_72.heap.size, 0, none⟩) (.bool false) W_r] ⟨loads1 rfl (Blk.cell (Blk.below hk_346 (bt (bt (bt hB_371 hb_379) HB) hBl)) 0 _ rfl), trivial⟩ ?_
   refine nl (XI_cond true rfl ?_)
   refine XI_seq ?_
   refine XI_region (by kernel_rfl) (fun _ _ h_ => h_) ?_
   refine xst (.bool false) (Blk.below hk_13 (bt hB_392 hBl)) 0 #[.bool false] (fun w_393 hg_394 hk_395 hz_396 => ?_)
   have hne_397 : w_72.heap.size ≠ w_6.heap.size := Nat.ne_of_gt (Nat.lt_of_lt_of_le (Blk.lt hk_13) (hB_349).size)
   have hk_398 := Blk.other (Blk.below hk_346 (bt (bt (bt hB_371 hb_379) HB) hBl)) hg_394 hne_397
   have hne_399 : w_352.heap.size ≠ w_6.heap.size := Nat.ne_of_gt (Nat.lt_of_lt_of_le (Blk.lt hk_13) (hB_364).size)
   have hk_400 := Blk.other (Blk.below hk_361 (bt (bt (bt hb_370 hb_379) HB) hBl)) hg_394 hne_399
   have hne_401 : wl.heap.size ≠ w_6.heap.size := Nat.ne_of_gt (Nat.lt_of_lt_of_le (Blk.lt hk_13) (hB_392).size)
   have hk_402 := Blk.other hk19 hg_394 hne_401
   refine nl (XI_ret ?_)
   exact ⟨(keeps_store (Blk.below hk_13 (bt hB_392 hBl)) hg_394), .inl ⟨rfl, fun h_ => absurd (okP_wrong h_).1 (Nat.not_lt_zero _)⟩⟩
  ·rintro D_404 pre w_403 hD_405 hS_406 ⟨hp1, hk19, hBl⟩ hK_407
   have hpe : pre.length = ([] : List At).length := by rw [hS_406]
   have hds_408 : Defs (D_404 :: ds) w_403 := Defs.cons hK_407 (Defs.below hBl hds)
   have hlo_ := ((bg hb_382 hg_387 (Nat.le_refl _))).size
   have hdn_409 : (D_404 :: ds).Nodup := List.nodup_cons.2 ⟨fun hm_ => by have h_ := Defs.lt hds _ hm_; omega, hdn⟩
   have hlt_ := (HB).size
   have hdge_410 : ∀ D_ ∈ D_404 :: ds, w_378.heap.size ≤ D_ := fun D_ hm_ => (List.mem_cons.1 hm_).elim (fun e_ => by omega) (hdge D_)
   refine sq (rg (xq 12 [(142, .load (.bool false))] [(3, .pointer (some ⟨w.heap.size, 0, none⟩)), (5, .pointer (some ⟨w_1.heap.size, 0, none⟩)), (6, .pointer (some ⟨w_6.heap.size, 0, none⟩)), (8, .slice A_24 xs.length c_25), (13, .pointer (some ⟨w_72.heap.size, 0, none⟩)), (18, .func (.func 106) #[] #[.pointer (some ⟨g_372, 0, none⟩)]), (105, .int .i64 (t : Int)), (153, .bool false), (1000000, encD (D_404 :: ds))] w_403 [LoadsAs Tryd.prog 4 (⟨w_72.heap.size, 0, none⟩) (.bool false) w_403] ⟨loads1 rfl (Blk.cell (Blk.below hk_346 (bt (bt (bt hB_371 hb_379) HB) hBl)) 0 _ rfl), trivial⟩ ?_))
   refine nl (cf (sk (rg (xq 2 [(154, .eq (.int .i64 ((t : Int) + 1)))] [(3, .pointer (some ⟨w.heap.size, 0, none⟩)), (5, .pointer (some ⟨w_1.heap.size, 0, none⟩)), (6, .pointer (some ⟨w_6.heap.size, 0, none⟩)), (8, .slice A_24 xs.length c_25), (13, .pointer (some ⟨w_72.heap.size, 0, none⟩)), (18, .func (.func 106) #[] #[.pointer (some ⟨g_372, 0, none⟩)]), (105, .int .i64 ((t : Int) + 1)), (1000000, encD (D_404 :: ds))] w_403 [Value.int .i64 (IntKind.i64.wrap ((t : Int) + 1)) = Value.int .i64 ((t : Int) + 1)] ⟨wr_i64 (by omega) (by omega), trivial⟩ ?_))))
   refine nl ?_
   refine ⟨(t + 1, (D_404 :: ds)), by kernel_rfl, ?_, ?_⟩
   ·exact ⟨by omega, (bt HB hBl), hds_408, hdn_409, hdge_410⟩
   (try dsimp only); omega
  rintro D_412 c_ pre w_411 hD_413 hS_414 hix_ hK_415
  rcases hix_ with ⟨rfl, hno_⟩ | ⟨rfl, hst_, hp1, hk19, hBl⟩
  ·exact absurd (okP_take hS_414) hno_
  have hq_ := hp1
  have hds_416 : Defs (D_412 :: ds) w_411 := Defs.cons hK_415 (Defs.below hBl hds)
  have hlo_ := ((bg hb_382 hg_387 (Nat.le_refl _))).size
  have hdn_417 : (D_412 :: ds).Nodup := List.nodup_cons.2 ⟨fun hm_ => by have h_ := Defs.lt hds _ hm_; omega, hdn⟩
  have hlt_ := (HB).size
  have hdge_418 : ∀ D_ ∈ D_412 :: ds, w_378.heap.size ≤ D_ := fun D_ hm_ => (List.mem_cons.1 hm_).elim (fun e_ => by omega) (hdge D_)
  refine X_exit (sq (rg (xq 12 [(142, .load (.bool false))] [(3, .pointer (some ⟨w.heap.size, 0, none⟩)), (5, .pointer (some ⟨w_1.heap.size, 0, none⟩)), (6, .pointer (some ⟨w_6.heap.size, 0, none⟩)), (8, .slice A_24 xs.length c_25), (13, .pointer (some ⟨w_72.heap.size, 0, none⟩)), (18, .func (.func 106) #[] #[.pointer (some ⟨g_372, 0, none⟩)]), (105, .int .i64 (t : Int)), (153, .bool false), (1000000, encD (D_412 :: ds))] w_411 [LoadsAs Tryd.prog 4 (⟨w_72.heap.size, 0, none⟩) (.bool false) w_411] ⟨loads1 rfl (Blk.cell (Blk.below hk_346 (bt (bt (bt hB_371 hb_379) HB) hBl)) 0 _ rfl), trivial⟩ ?_)))
  refine nl (cf (sk (rg (xq 2 [(154, .eq (.int .i64 ((t : Int) + 1)))] [(3, .pointer (some ⟨w.heap.size, 0, none⟩)), (5, .pointer (some ⟨w_1.heap.size, 0, none⟩)), (6, .pointer (some ⟨w_6.heap.size, 0, none⟩)), (8, .slice A_24 xs.length c_25), (13, .pointer (some ⟨w_72.heap.size, 0, none⟩)), (18, .func (.func 106) #[] #[.pointer (some ⟨g_372, 0, none⟩)]), (105, .int .i64 ((t : Int) + 1)), (1000000, encD (D_412 :: ds))] w_411 [Value.int .i64 (IntKind.i64.wrap ((t : Int) + 1)) = Value.int .i64 ((t : Int) + 1)] ⟨wr_i64 (by omega) (by omega), trivial⟩ ?_))))
  refine nl ?_
  refine ⟨(t + 1, (D_412 :: ds)), by kernel_rfl, ?_, ?_⟩
  ·exact ⟨by omega, (bt HB hBl), hds_416, hdn_417, hdge_418⟩
  (try dsimp only); omega
 refine xq 1 [(106, .eq (.bool false))] [(3, .pointer (some ⟨w.heap.size, 0, none⟩)), (5, .pointer (some ⟨w_1.heap.size, 0, none⟩)), (6, .pointer (some ⟨w_6.heap.size, 0, none⟩)), (8, .slice A_24 xs.length c_25), (13, .pointer (some ⟨w_72.heap.size, 0, none⟩)), (18, .func (.func 106) #[] #[.pointer (some ⟨g_372, 0, none⟩)]), (105, .int .i64 (t : Int)), (106, .bool false), (1000000, encD ds)] wl [Value.bool (decide ((t : Int) < 2)) = Value.bool false] ⟨congrArg Value.bool (decide_eq_false (c_380)), trivial⟩ ?_
 refine nl (sq (cf (X_exit (sq (X_region ?_)))))
 have hB_419 : Below w_1.heap.size w_1 wl := (bt (bt (bt (bg (bt (bt hB_350 hb_353) hb_355) hg_360 ((bt hB_350 hb_353)).size) hb_370) hb_379) HB)
 refine xq 2 [(156, .load (.slice A xs.length c))] [(6, .pointer (some ⟨w_6.heap.size, 0, none⟩)), (155, .slice A_24 xs.length c_25), (156, .slice A xs.length c), (1000000, encD ds)] wl [LoadsAs Tryd.prog 45 (⟨w.heap.size, 0, none⟩) (.slice A xs.length c) wl] ⟨loads1 rfl (Blk.cell (Blk.below hk_3 hB_419) 0 _ rfl), trivial⟩ ?_
 refine xc 41 ent41 [.slice A_24 xs.length c_25, .slice A xs.length c] (hKept_any _ _ _ _ xs _ (Kd.C_below hC_28 (bt (bt (bt hB_367 hb_370) hb_379) HB)) (hS_29.imp id (fun h_ => ⟨h_.1, Kd.C_below h_.2 (bt (bt (bt hB_367 hb_370) hb_379) HB)⟩)) (Kd.C_below hx (bt (bt (bt hB_368 hb_370) hb_379) HB)) (by omega)) ?_
 rintro e w_420 ⟨rfl, hb_421⟩; refine ⟨_, rfl, ?_⟩
 have hB_426 : Below w_11.heap.size w_11 w_420 := (bt (bt (bt (bt (bg (bt hB_364 hb_355) hg_360 (hB_364).size) hb_370) hb_379) HB) hb_421)
 refine xst (.bool true) (Blk.below hk_13 hB_426) 0 #[.bool true] (fun w_422 hg_423 hk_424 hz_425 => ?_)
 have hne_427 : w_72.heap.size ≠ w_6.heap.size := Nat.ne_of_gt (Nat.lt_of_lt_of_le (Blk.lt hk_13) (hB_349).size)
 have hk_428 := Blk.other (Blk.below hk_346 (bt (bt (bt hB_371 hb_379) HB) hb_421)) hg_423 hne_427
 have hne_429 : w_352.heap.size ≠ w_6.heap.size := Nat.ne_of_gt (Nat.lt_of_lt_of_le (Blk.lt hk_13) (hB_364).size)
 have hk_430 := Blk.other (Blk.below hk_361 (bt (bt (bt hb_370 hb_379) HB) hb_421)) hg_423 hne_429
 refine nl (X_ret (RX.retM_cell (P := Tryd.prog) (fn := Tryd.f5) (N := 158) (R := R_) (c := 6) (t := 4) (p := ⟨w_6.heap.size, 0, none⟩) (v := .bool true) (ds := ds) (dsOf_enc (by kernel_rfl)) hdn (Defs.store (Blk.below hk_13 hB_426) hg_423 (Defs.below hb_421 hds)) rfl rfl hk_424 (fun w_ hb_ => loads1 rfl (Blk.cell hb_ 0 _ rfl)) (fun w_ ho_ => hR_ _ _ ?_)))
 have hB_431 : Below w.heap.size w w_422 := (bg (bt (bt (bt (bt hB_368 hb_370) hb_379) HB) hb_421) hg_423 ((bt hb_2 hb_7)).size)
 exact ⟨rfl, Off.below ho_ hB_431 (fun D_ hm_ => Nat.le_trans ((bt (bt hB_368 hb_370) hb_379)).size (hdge D_ hm_))⟩
end Go.Proofs.YtkehomiogkoomaaDoor
