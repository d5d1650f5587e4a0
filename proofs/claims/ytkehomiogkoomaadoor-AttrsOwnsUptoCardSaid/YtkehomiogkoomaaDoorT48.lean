/- AttrsOwns returns true. Conditions: sizes that the row bounds, the tables of utf8, the errors' variables. -/
import Derived.Test.YtkehomiogkoomaaDoorT45
import Derived.Test.YtkehomiogkoomaaDoorOwns
import Derived.Test.YtkehomiogkoomaaDoorT13
import Derived.Test.YtkehomiogkoomaaDoorT14
import Derived.Test.YtkehomiogkoomaaDoorA7
import Derived.Test.YtkehomiogkoomaaDoorPat2
set_option linter.unusedVariables false
set_option linter.unusedSimpArgs false
set_option maxRecDepth 100000
namespace Go.Proofs.YtkehomiogkoomaaDoor
open Go Go.RowKit Go.Proofs.YtkehomiogkoomaaDoorW.PrintWords RX
theorem ent44 : Ent Tryd.prog 44 := ent_of Tryd.func44 (by kernel_rfl) rfl
theorem ent47 : Ent Tryd.prog 47 := ent_of Tryd.func47 (by kernel_rfl) rfl
theorem rcompR_any (A B : Option Addr) (c d : Nat) (xs ys : List At) (on : Bool) (w : World) (hx : kAttr.C w A xs.length xs) (hy : kAttr.C w B ys.length ys) (hyd : ys.length ≤ d) (hl : xs.length + ys.length ≤ 400000000) (gx : Good true xs) (gy : Good true ys) (hsx : (∀ i, i < xs.length → (xs.getD i at0).1.size ≤ 100000000 ∧ (xs.getD i at0).2.2.2.size ≤ 100000000)) (hsy : (∀ i, i < ys.length → (ys.getD i at0).1.size ≤ 100000000 ∧ (ys.getD i at0).2.2.2.size ≤ 100000000)) (hT : Tabs w) :
  Calls Tryd.prog 44 #[.slice A xs.length c, .slice B ys.length d, .bool on] w fun e w' => ∃ A' c' zs, zs = comp (cmpF on) xs ys ∧ e = .returned (.tuple #[.slice A' zs.length c', .int .i64 0]) ∧ zs.length ≤ c' ∧ kAttr.R 71 w' w.heap.size (OkFrom w.heap.size) (.slice A' zs.length c') zs ∧ Below w.heap.size w w' := by
 refine RX.enter Tryd.func44 rfl 23 rfl [(0, .slice A xs.length c), (1, .slice B ys.length d), (2, .bool on)] rfl (by kernel_rfl) (fun R_ hR_ => ?_)
 refine sq (rg (xe0 2 [(0, .slice A xs.length c), (1, .slice B ys.length d), (2, .bool on)] ?_))
 refine nl (sq (rg (xr0 2 [(9, .slice A xs.length c), (10, .slice B ys.length d)] [] ?_)))
 refine xc 111 ent111 [.slice A xs.length c, .slice B ys.length d, .bool true, .bool true] (r3both_any _ _ _ _ xs ys _ hx hy true true hsx hsy (hT.below (Below.refl _ _))) ?_
 rintro e w_1 ⟨rfl, hb_2⟩; refine ⟨_, rfl, ?_⟩
 rw [chk2_good gx gy]
 refine xr0 1 [(8, .int .i64 0)] [9, 10, 11] ?_
 refine nl (sq (sq (rg (xr0 2 [(13, .bool false)] [] ?_))))
 refine nl (cf (sk (sq (sq (rg (xr0 1 [(15, .bool on)] [2, 8, 13] ?_))))))
 refine nl ?_
 by_cases c_3 : on = true
 ·rw [show (on : Bool) = true from by simpa using c_3]
  refine ct (sq (rg (xe0 2 [(16, .slice A xs.length c), (17, .slice B ys.length d)] ?_)))
  refine xc 112 ent112 [.slice A xs.length c, .slice B ys.length d] (join_any _ _ _ _ xs ys _ (Kd.C_below hx hb_2) (Kd.C_below hy hb_2) gx.2 gy.2 hyd hl) ?_
  rintro e w_11 ⟨A_4, c_5, zs_6, ez_7, lz_8, rfl, hl_9, hr_10, hb_12⟩; refine ⟨_, rfl, ?_⟩
  refine xe0 2 [(6, .slice A_4 zs_6.length c_5), (7, .int .i64 0)] ?_
  refine nl (X_ret (rk [.slice A_4 zs_6.length c_5, .int .i64 0] (hR_ _ _ ?_)))
  exact ⟨_, _, _, (by rw [ez_7, c_3]), rfl, (RX.Kd.R_len hr_10).2, Kd.R_low hr_10 (hb_2).size, (bt hb_2 hb_12)⟩
 rw [show (on : Bool) = false from by simpa using c_3]
 refine cf (sk (sq (rg (xe0 2 [(19, .slice A xs.length c), (20, .slice B ys.length d)] ?_))))
 refine xc 112 ent112 [.slice A xs.length c, .slice B ys.length d] (join_any _ _ _ _ xs ys _ (Kd.C_below hx hb_2) (Kd.C_below hy hb_2) gx.2 gy.2 hyd hl) ?_
 rintro e w_20 ⟨A_13, c_14, zs_15, ez_16, lz_17, rfl, hl_18, hr_19, hb_21⟩; refine ⟨_, rfl, ?_⟩
 refine xc 113 ent113 [.slice A_13 zs_15.length c_14] (whole_any _ _ zs_15 _ (Kd.R_C hr_19) (by omega)) ?_
 rintro e w_29 ⟨A_22, c_23, zs_24, ez_25, lz_26, rfl, hl_27, hr_28, hb_30⟩; refine ⟨_, rfl, ?_⟩
 refine xe0 2 [(6, .slice A_22 zs_24.length c_23), (7, .int .i64 0)] ?_
 refine nl (X_ret (rk [.slice A_22 zs_24.length c_23, .int .i64 0] (hR_ _ _ ?_)))
 exact ⟨_, _, _, (by rw [ez_25, ez_16, Bool.eq_false_iff.2 c_3]; exact whole_eq xs ys), rfl, (RX.Kd.R_len hr_28).2, Kd.R_low hr_28 ((bt hb_2 hb_21)).size, (bt (bt hb_2 hb_21) hb_30)⟩
set_option maxHeartbeats 4000000 in
theorem attrsOwns_any (A B : Option Addr) (c d : Nat) (xs ys : List At) (on : Bool) (w : World) (hx : kAttr.C w A xs.length xs) (hy : kAttr.C w B ys.length ys) (hxc : xs.length ≤ c) (hyd : ys.length ≤ d) (hxl : xs.length ≤ 1048576) (hyl : ys.length ≤ 1048576) (hsx : (∀ i, i < xs.length → (xs.getD i at0).1.size ≤ 100000000 ∧ (xs.getD i at0).2.2.2.size ≤ 100000000)) (hsy : (∀ i, i < ys.length → (ys.getD i at0).1.size ≤ 100000000 ∧ (ys.getD i at0).2.2.2.size ≤ 100000000)) (hT : Tabs w) (es : List Addr) (hA : ErrsA w es) :
  Calls Tryd.prog 6 #[.slice A xs.length c, .slice B ys.length d, .bool on] w fun e w' => e = .returned (.bool true) ∧ Below w.heap.size w w' := by
 have hbx : ∀ i, i < xs.length → (xs.getD i at0).1.size ≤ 9223372036854775807 ∧ (xs.getD i at0).2.2.2.size ≤ 9223372036854775807 := fun i hi => ⟨Nat.le_trans (hsx i hi).1 (by decide), Nat.le_trans (hsx i hi).2 (by decide)⟩
 refine RX.enterM Tryd.func6 rfl 194 rfl [(0, .slice A xs.length c), (1, .slice B ys.length d), (2, .bool on)] rfl (by kernel_rfl) (fun R_ hR_ => ?_)
 refine RX.X_mark0 rfl ?_
 refine sq (rg (xq 1 [] [(1, .slice B ys.length d), (2, .bool on), (3, .pointer (some ⟨w.heap.size, 0, none⟩)), (1000000, encD [])] (w.alloc (.cells #[.slice A xs.length c] 45)) [] trivial ?_))
 obtain ⟨w_1, hw_5, hb_2, hk_3, hz_4⟩ := new_world w #[.slice A xs.length c] 45
 rw [hw_5]
 refine xq 1 [] [(1, .slice B ys.length d), (2, .bool on), (3, .pointer (some ⟨w.heap.size, 0, none⟩)), (6, .pointer (some ⟨w_1.heap.size, 0, none⟩)), (1000000, encD [])] (w_1.alloc (.cells #[.bool false] 4)) [] trivial ?_
 obtain ⟨w_6, hw_10, hb_7, hk_8, hz_9⟩ := new_world w_1 #[.bool false] 4
 rw [hw_10]
 refine nl (sq (rg (xc 30 ent30 [] (lives_any _ (hT.below (bt hb_2 hb_7)) es (hA.below (bt hb_2 hb_7))) ?_)))
 rintro e w_11 ⟨rfl, hb_12⟩; refine ⟨_, rfl, ?_⟩
 refine xq 1 [] [(1, .slice B ys.length d), (2, .bool on), (3, .pointer (some ⟨w.heap.size, 0, none⟩)), (6, .pointer (some ⟨w_1.heap.size, 0, none⟩)), (7, .bool true), (1000000, encD [])] w_11 [] trivial ?_
 refine nl (sq (sq (rg (xq 8 [(33, .load (.slice A xs.length c)), (37, .eq (.int .i64 ((xs.length : Int) + (ys.length : Int))))] [(1, .slice B ys.length d), (2, .bool on), (3, .pointer (some ⟨w.heap.size, 0, none⟩)), (6, .pointer (some ⟨w_1.heap.size, 0, none⟩)), (7, .bool true), (32, .bool false), (37, .int .i64 ((xs.length : Int) + (ys.length : Int))), (1000000, encD [])] w_11 [LoadsAs Tryd.prog 45 (⟨w.heap.size, 0, none⟩) (.slice A xs.length c) w_11, Value.int .i64 (IntKind.i64.wrap ((xs.length : Int) + (ys.length : Int))) = Value.int .i64 ((xs.length : Int) + (ys.length : Int))] ⟨loads1 rfl (Blk.cell (Blk.below hk_3 (bt hb_7 hb_12)) 0 _ rfl), wr_i64 (by omega) (by omega), trivial⟩ ?_))))
 by_cases c_13 : (xs.length : Int) + (ys.length : Int) > 500
 ·refine xq 12 [(38, .eq (.bool true))] [(1, .slice B ys.length d), (2, .bool on), (3, .pointer (some ⟨w.heap.size, 0, none⟩)), (6, .pointer (some ⟨w_1.heap.size, 0, none⟩)), (7, .bool true), (49, .bool true), (1000000, encD [])] w_11 [Value.bool (decide ((xs.length : Int) + (ys.length : Int) > 500)) = Value.bool true] ⟨congrArg Value.bool (decide_eq_true (c_13)), trivial⟩ ?_
  refine nl (ct (sq (rg (xq 1 [] [(6, .pointer (some ⟨w_1.heap.size, 0, none⟩)), (50, .bool true), (1000000, encD [])] w_11 [] trivial ?_))))
  refine xst (.bool true) (Blk.below hk_8 hb_12) 0 #[.bool true] (fun w_14 hg_15 hk_16 hz_17 => ?_)
  refine nl (X_ret (RX.retM_cell (P := Tryd.prog) (fn := Tryd.f6) (N := 194) (R := R_) (c := 6) (t := 4) (p := ⟨w_1.heap.size, 0, none⟩) (v := .bool true) (ds := []) (dsOf_enc (by kernel_rfl)) List.nodup_nil (Defs.store (Blk.below hk_8 hb_12) hg_15 (Defs.below hb_12 (Defs.below hb_7 (Defs.below hb_2 (fun _ h_ => by cases h_))))) rfl rfl hk_16 (fun w_ hb_ => loads1 rfl (Blk.cell hb_ 0 _ rfl)) (fun w_ ho_ => hR_ _ _ ?_)))
  have hB_18 : Below w.heap.size w w_14 := (bg (bt (bt hb_2 hb_7) hb_12) hg_15 (hb_2).size)
  exact ⟨rfl, Off.below ho_ hB_18 (fun D_ hm_ => by cases hm_)⟩
 refine xq 4 [(38, .eq (.bool false)), (41, .load (.slice A xs.length c))] [(1, .slice B ys.length d), (2, .bool on), (3, .pointer (some ⟨w.heap.size, 0, none⟩)), (6, .pointer (some ⟨w_1.heap.size, 0, none⟩)), (7, .bool true), (40, .bool false), (41, .slice A xs.length c), (1000000, encD [])] w_11 [Value.bool (decide ((xs.length : Int) + (ys.length : Int) > 500)) = Value.bool false, LoadsAs Tryd.prog 45 (⟨w.heap.size, 0, none⟩) (.slice A xs.length c) w_11] ⟨congrArg Value.bool (decide_eq_false (c_13)), loads1 rfl (Blk.cell (Blk.below hk_3 (bt hb_7 hb_12)) 0 _ rfl), trivial⟩ ?_
 refine xc 33 ent33 [.slice A xs.length c, .bool true] (r3check_any _ _ xs true _ (Kd.C_below hx (bt (bt hb_2 hb_7) hb_12)) hsx (hT.below (bt (bt hb_2 hb_7) hb_12))) ?_
 rintro e w_19 ⟨rfl, hb_20⟩; refine ⟨_, rfl, ?_⟩
 by_cases c_21 : (chkA true xs : Int) = 0
 ·refine xq 4 [(43, .eq (.bool false))] [(1, .slice B ys.length d), (2, .bool on), (3, .pointer (some ⟨w.heap.size, 0, none⟩)), (6, .pointer (some ⟨w_1.heap.size, 0, none⟩)), (7, .bool true), (45, .bool false), (46, .slice B ys.length d), (1000000, encD [])] w_19 [Value.bool ((chkA true xs : Int) != 0) = Value.bool false] ⟨congrArg Value.bool (bneF (c_21)), trivial⟩ ?_
  refine xc 33 ent33 [.slice B ys.length d, .bool true] (r3check_any _ _ ys true _ (Kd.C_below hy (bt (bt (bt hb_2 hb_7) hb_12) hb_20)) hsy (hT.below (bt (bt (bt hb_2 hb_7) hb_12) hb_20))) ?_
  rintro e w_22 ⟨rfl, hb_23⟩; refine ⟨_, rfl, ?_⟩
  by_cases c_24 : (chkA true ys : Int) = 0
  ·refine xq 2 [(48, .eq (.bool false))] [(1, .slice B ys.length d), (2, .bool on), (3, .pointer (some ⟨w.heap.size, 0, none⟩)), (6, .pointer (some ⟨w_1.heap.size, 0, none⟩)), (7, .bool true), (49, .bool false), (1000000, encD [])] w_22 [Value.bool ((chkA true ys : Int) != 0) = Value.bool false] ⟨congrArg Value.bool (bneF (c_24)), trivial⟩ ?_
   refine nl (cf (sk (sq (X_region ?_))))
   have gx : Good true xs := (chkA_good true xs).1 (by have h_ := c_21; omega)
   have gy : Good true ys := (chkA_good true ys).1 (by have h_ := c_24; omega)
   have hxn : xs.length ≤ 1000000 := by omega
   have hyn : ys.length ≤ 1000000 := by omega
   refine xq 1 [(51, .load (.slice A xs.length c))] [(1, .slice B ys.length d), (2, .bool on), (3, .pointer (some ⟨w.heap.size, 0, none⟩)), (6, .pointer (some ⟨w_1.heap.size, 0, none⟩)), (51, .slice A xs.length c), (1000000, encD [])] w_22 [LoadsAs Tryd.prog 45 (⟨w.heap.size, 0, none⟩) (.slice A xs.length c) w_22] ⟨loads1 rfl (Blk.cell (Blk.below hk_3 (bt (bt (bt hb_7 hb_12) hb_20) hb_23)) 0 _ rfl), trivial⟩ ?_
   have hB_25 : Below w.heap.size w w_22 := (bt (bt (bt (bt hb_2 hb_7) hb_12) hb_20) hb_23)
   refine xc 31 ent31 [.slice A xs.length c] (hAttrs_any _ _ xs _ (Kd.C_below hx hB_25) (by omega)) ?_
   rintro e w_35 ⟨A_26, c_27, rfl, hM_28, hb_36⟩; refine ⟨_, rfl, ?_⟩
   obtain ⟨hc_29, hC_30, hS_31⟩ := kAttrsH_K (kAttrsH.K_of_M hM_28)
   obtain ⟨hI_32, hL_33⟩ := hand_lies hM_28
   have hz_34 := (hb_36).size
   refine xq 1 [] [(1, .slice B ys.length d), (2, .bool on), (3, .pointer (some ⟨w.heap.size, 0, none⟩)), (6, .pointer (some ⟨w_1.heap.size, 0, none⟩)), (52, .slice A_26 xs.length c_27), (53, .slice B ys.length d), (1000000, encD [])] w_35 [] trivial ?_
   refine xc 31 ent31 [.slice B ys.length d] (hAttrs_any _ _ ys _ (Kd.C_below hy (bt hB_25 hb_36)) (by omega)) ?_
   rintro e w_46 ⟨A_37, c_38, rfl, hM_39, hb_47⟩; refine ⟨_, rfl, ?_⟩
   obtain ⟨hc_40, hC_41, hS_42⟩ := kAttrsH_K (kAttrsH.K_of_M hM_39)
   obtain ⟨hI_43, hL_44⟩ := hand_lies hM_39
   have hz_45 := (hb_47).size
   refine xq 2 [] [(1, .slice B ys.length d), (2, .bool on), (3, .pointer (some ⟨w.heap.size, 0, none⟩)), (6, .pointer (some ⟨w_1.heap.size, 0, none⟩)), (8, .slice A_26 xs.length c_27), (9, .slice A_37 ys.length c_38), (1000000, encD [])] w_46 [] trivial ?_
   refine nl (sq (rg (xq 1 [] [(1, .slice B ys.length d), (2, .bool on), (3, .pointer (some ⟨w.heap.size, 0, none⟩)), (6, .pointer (some ⟨w_1.heap.size, 0, none⟩)), (8, .slice A_26 xs.length c_27), (9, .slice A_37 ys.length c_38), (56, .slice A_26 xs.length c_27), (1000000, encD [])] w_46 [] trivial ?_)))
   refine xc 34 ent34 [.slice A_26 xs.length c_27] (aof_any _ _ xs _ (Kd.C_below hC_30 hb_47) hxn hbx (hT.below (bt (bt hB_25 hb_36) hb_47)) es (hA.below (bt (bt hB_25 hb_36) hb_47))) ?_
   rintro e w_56 ⟨A_48, c_49, zs_, ez_55, rfl, hl_50, hr_51, hb_57⟩; refine ⟨_, rfl, ?_⟩
   have hzs_ : zs_ = xs := by rw [ez_55, if_pos (good_pE gx), ofA_self xs gx.2]
   rw [hzs_] at hl_50 hr_51 ⊢
   rw [show errV es (pE xs) = .nilIface from by rw [good_pE gx]; rfl]
   clear ez_55 hzs_
   obtain ⟨hI_52, hL_53⟩ := row_lies hr_51
   have hz_54 := (hb_57).size
   refine xq 5 [] [(1, .slice B ys.length d), (2, .bool on), (3, .pointer (some ⟨w.heap.size, 0, none⟩)), (6, .pointer (some ⟨w_1.heap.size, 0, none⟩)), (8, .slice A_26 xs.length c_27), (9, .slice A_37 ys.length c_38), (10, .slice A_48 xs.length c_49), (1000000, encD [])] w_56 [] trivial ?_
   refine nl (sq (rg (xq 1 [] [(1, .slice B ys.length d), (2, .bool on), (3, .pointer (some ⟨w.heap.size, 0, none⟩)), (6, .pointer (some ⟨w_1.heap.size, 0, none⟩)), (8, .slice A_26 xs.length c_27), (9, .slice A_37 ys.length c_38), (10, .slice A_48 xs.length c_49), (61, .slice A_26 xs.length c_27), (1000000, encD [])] w_56 [] trivial ?_)))
   refine xc 34 ent34 [.slice A_26 xs.length c_27] (aof_any _ _ xs _ (Kd.C_below hC_30 (bt hb_47 hb_57)) hxn hbx (hT.below (bt (bt (bt hB_25 hb_36) hb_47) hb_57)) es (hA.below (bt (bt (bt hB_25 hb_36) hb_47) hb_57))) ?_
   rintro e w_66 ⟨A_58, c_59, zs_, ez_65, rfl, hl_60, hr_61, hb_67⟩; refine ⟨_, rfl, ?_⟩
   have hzs_ : zs_ = xs := by rw [ez_65, if_pos (good_pE gx), ofA_self xs gx.2]
   rw [hzs_] at hl_60 hr_61 ⊢
   rw [show errV es (pE xs) = .nilIface from by rw [good_pE gx]; rfl]
   clear ez_65 hzs_
   obtain ⟨hI_62, hL_63⟩ := row_lies hr_61
   have hz_64 := (hb_67).size
   refine xq 5 [] [(1, .slice B ys.length d), (2, .bool on), (3, .pointer (some ⟨w.heap.size, 0, none⟩)), (6, .pointer (some ⟨w_1.heap.size, 0, none⟩)), (8, .slice A_26 xs.length c_27), (9, .slice A_37 ys.length c_38), (10, .slice A_48 xs.length c_49), (12, .slice A_58 xs.length c_59), (1000000, encD [])] w_66 [] trivial ?_
   refine nl (sq (rg (xq 3 [] [(1, .slice B ys.length d), (2, .bool on), (3, .pointer (some ⟨w.heap.size, 0, none⟩)), (6, .pointer (some ⟨w_1.heap.size, 0, none⟩)), (8, .slice A_26 xs.length c_27), (9, .slice A_37 ys.length c_38), (10, .slice A_48 xs.length c_49), (12, .slice A_58 xs.length c_59), (66, .slice A_26 xs.length c_27), (67, .slice A_37 ys.length c_38), (68, .bool on), (1000000, encD [])] w_66 [] trivial ?_)))
   have hB_76 : Below w.heap.size w w_66 := (bt (bt (bt (bt hB_25 hb_36) hb_47) hb_57) hb_67)
   refine xc 42 ent42 [.slice A_26 xs.length c_27, .slice A_37 ys.length c_38, .bool on] (compose_ok on _ _ _ _ xs ys _ (Kd.C_below hC_30 (bt (bt hb_47 hb_57) hb_67)) (Kd.C_below hC_41 (bt hb_57 hb_67)) hc_29 hc_40 (by omega) gx gy (hT.below hB_76) es (hA.below hB_76)) ?_
   rintro e w_77 ⟨A_68, c_69, _, rfl, _, _, rfl, hl_70, hr_71, hb_78⟩; refine ⟨_, rfl, ?_⟩
   obtain ⟨hI_72, hL_73⟩ := row_lies hr_71
   have hz_74 := (hb_78).size
   refine xq 5 [] [(1, .slice B ys.length d), (2, .bool on), (3, .pointer (some ⟨w.heap.size, 0, none⟩)), (6, .pointer (some ⟨w_1.heap.size, 0, none⟩)), (8, .slice A_26 xs.length c_27), (9, .slice A_37 ys.length c_38), (10, .slice A_48 xs.length c_49), (12, .slice A_58 xs.length c_59), (14, .slice A_68 ((comp (cmpF on) xs ys).length) c_69), (1000000, encD [])] w_77 [] trivial ?_
   refine nl (sq (rg (xq 3 [] [(1, .slice B ys.length d), (2, .bool on), (3, .pointer (some ⟨w.heap.size, 0, none⟩)), (6, .pointer (some ⟨w_1.heap.size, 0, none⟩)), (8, .slice A_26 xs.length c_27), (9, .slice A_37 ys.length c_38), (10, .slice A_48 xs.length c_49), (12, .slice A_58 xs.length c_59), (14, .slice A_68 ((comp (cmpF on) xs ys).length) c_69), (73, .slice A_26 xs.length c_27), (74, .slice A_37 ys.length c_38), (75, .bool on), (1000000, encD [])] w_77 [] trivial ?_)))
   refine xc 42 ent42 [.slice A_26 xs.length c_27, .slice A_37 ys.length c_38, .bool on] (compose_ok on _ _ _ _ xs ys _ (Kd.C_below hC_30 (bt (bt (bt hb_47 hb_57) hb_67) hb_78)) (Kd.C_below hC_41 (bt (bt hb_57 hb_67) hb_78)) hc_29 hc_40 (by omega) gx gy (hT.below (bt hB_76 hb_78)) es (hA.below (bt hB_76 hb_78))) ?_
   rintro e w_87 ⟨A_79, c_80, _, rfl, _, _, rfl, hl_81, hr_82, hb_88⟩; refine ⟨_, rfl, ?_⟩
   obtain ⟨hI_83, hL_84⟩ := row_lies hr_82
   have hz_85 := (hb_88).size
   refine xq 5 [] [(1, .slice B ys.length d), (2, .bool on), (3, .pointer (some ⟨w.heap.size, 0, none⟩)), (6, .pointer (some ⟨w_1.heap.size, 0, none⟩)), (8, .slice A_26 xs.length c_27), (9, .slice A_37 ys.length c_38), (10, .slice A_48 xs.length c_49), (12, .slice A_58 xs.length c_59), (14, .slice A_68 ((comp (cmpF on) xs ys).length) c_69), (16, .slice A_79 ((comp (cmpF on) xs ys).length) c_80), (1000000, encD [])] w_87 [] trivial ?_
   refine nl (sq (rg (xq 3 [] [(1, .slice B ys.length d), (2, .bool on), (3, .pointer (some ⟨w.heap.size, 0, none⟩)), (6, .pointer (some ⟨w_1.heap.size, 0, none⟩)), (8, .slice A_26 xs.length c_27), (9, .slice A_37 ys.length c_38), (10, .slice A_48 xs.length c_49), (12, .slice A_58 xs.length c_59), (14, .slice A_68 ((comp (cmpF on) xs ys).length) c_69), (16, .slice A_79 ((comp (cmpF on) xs ys).length) c_80), (80, .slice A_26 xs.length c_27), (81, .slice A_37 ys.length c_38), (82, .bool on), (1000000, encD [])] w_87 [] trivial ?_)))
   have hB_97 : Below w_35.heap.size w_35 w_87 := (bt (bt (bt (bt hb_47 hb_57) hb_67) hb_78) hb_88)
   refine xc 43 ent43 [.slice A_26 xs.length c_27, .slice A_37 ys.length c_38, .bool on] (transform_ok on _ _ _ _ xs ys _ (Kd.C_below hC_30 hB_97) (Kd.C_below hC_41 (bt (bt (bt hb_57 hb_67) hb_78) hb_88)) hc_29 hc_40 (by omega) gx gy (hT.below (bt (bt hB_76 hb_78) hb_88)) es (hA.below (bt (bt hB_76 hb_78) hb_88))) ?_
   rintro e w_98 ⟨A_89, c_90, _, rfl, _, _, rfl, hl_91, hr_92, hb_99⟩; refine ⟨_, rfl, ?_⟩
   obtain ⟨hI_93, hL_94⟩ := row_lies hr_92
   have hz_95 := (hb_99).size
   refine xq 5 [] [(1, .slice B ys.length d), (2, .bool on), (3, .pointer (some ⟨w.heap.size, 0, none⟩)), (6, .pointer (some ⟨w_1.heap.size, 0, none⟩)), (8, .slice A_26 xs.length c_27), (9, .slice A_37 ys.length c_38), (10, .slice A_48 xs.length c_49), (12, .slice A_58 xs.length c_59), (14, .slice A_68 ((comp (cmpF on) xs ys).length) c_69), (16, .slice A_79 ((comp (cmpF on) xs ys).length) c_80), (18, .slice A_89 ((comp (trnF on) xs ys).length) c_90), (1000000, encD [])] w_98 [] trivial ?_
   refine nl (sq (rg (xq 3 [] [(1, .slice B ys.length d), (2, .bool on), (3, .pointer (some ⟨w.heap.size, 0, none⟩)), (6, .pointer (some ⟨w_1.heap.size, 0, none⟩)), (8, .slice A_26 xs.length c_27), (9, .slice A_37 ys.length c_38), (10, .slice A_48 xs.length c_49), (12, .slice A_58 xs.length c_59), (14, .slice A_68 ((comp (cmpF on) xs ys).length) c_69), (16, .slice A_79 ((comp (cmpF on) xs ys).length) c_80), (18, .slice A_89 ((comp (trnF on) xs ys).length) c_90), (87, .slice A_26 xs.length c_27), (88, .slice A_37 ys.length c_38), (89, .bool on), (1000000, encD [])] w_98 [] trivial ?_)))
   have hB_108 : Below w_46.heap.size w_46 w_98 := (bt (bt (bt (bt hb_57 hb_67) hb_78) hb_88) hb_99)
   refine xc 43 ent43 [.slice A_26 xs.length c_27, .slice A_37 ys.length c_38, .bool on] (transform_ok on _ _ _ _ xs ys _ (Kd.C_below hC_30 (bt hB_97 hb_99)) (Kd.C_below hC_41 hB_108) hc_29 hc_40 (by omega) gx gy (hT.below (bt (bt (bt hB_76 hb_78) hb_88) hb_99)) es (hA.below (bt (bt (bt hB_76 hb_78) hb_88) hb_99))) ?_
   rintro e w_109 ⟨A_100, c_101, _, rfl, _, _, rfl, hl_102, hr_103, hb_110⟩; refine ⟨_, rfl, ?_⟩
   obtain ⟨hI_104, hL_105⟩ := row_lies hr_103
   have hz_106 := (hb_110).size
   refine xq 5 [] [(1, .slice B ys.length d), (2, .bool on), (3, .pointer (some ⟨w.heap.size, 0, none⟩)), (6, .pointer (some ⟨w_1.heap.size, 0, none⟩)), (8, .slice A_26 xs.length c_27), (9, .slice A_37 ys.length c_38), (10, .slice A_48 xs.length c_49), (12, .slice A_58 xs.length c_59), (14, .slice A_68 ((comp (cmpF on) xs ys).length) c_69), (16, .slice A_79 ((comp (cmpF on) xs ys).length) c_80), (18, .slice A_89 ((comp (trnF on) xs ys).length) c_90), (20, .slice A_100 ((comp (trnF on) xs ys).length) c_101), (1000000, encD [])] w_109 [] trivial ?_
   refine nl (sq (X_region ?_))
   have hB_111 : Below w_1.heap.size w_1 w_109 := (bt (bt (bt (bt (bt (bt (bt (bt (bt (bt (bt hb_7 hb_12) hb_20) hb_23) hb_36) hb_47) hb_57) hb_67) hb_78) hb_88) hb_99) hb_110)
   refine xq 3 [(94, .load (.slice A xs.length c))] [(1, .slice B ys.length d), (2, .bool on), (3, .pointer (some ⟨w.heap.size, 0, none⟩)), (6, .pointer (some ⟨w_1.heap.size, 0, none⟩)), (8, .slice A_26 xs.length c_27), (9, .slice A_37 ys.length c_38), (10, .slice A_48 xs.length c_49), (12, .slice A_58 xs.length c_59), (14, .slice A_68 ((comp (cmpF on) xs ys).length) c_69), (16, .slice A_79 ((comp (cmpF on) xs ys).length) c_80), (18, .slice A_89 ((comp (trnF on) xs ys).length) c_90), (20, .slice A_100 ((comp (trnF on) xs ys).length) c_101), (94, .slice A xs.length c), (95, .slice B ys.length d), (96, .bool on), (1000000, encD [])] w_109 [LoadsAs Tryd.prog 45 (⟨w.heap.size, 0, none⟩) (.slice A xs.length c) w_109] ⟨loads1 rfl (Blk.cell (Blk.below hk_3 hB_111) 0 _ rfl), trivial⟩ ?_
   have hB_120 : Below w.heap.size w w_109 := (bt (bt (bt (bt hB_76 hb_78) hb_88) hb_99) hb_110)
   refine xc 44 ent44 [.slice A xs.length c, .slice B ys.length d, .bool on] (rcompR_any _ _ _ _ xs ys on _ (Kd.C_below hx hB_120) (Kd.C_below hy hB_120) hyd (by omega) gx gy hsx hsy (hT.below hB_120)) ?_
   rintro e w_121 ⟨A_112, c_113, _, rfl, rfl, hl_114, hr_115, hb_122⟩; refine ⟨_, rfl, ?_⟩
   obtain ⟨hI_116, hL_117⟩ := row_lies hr_115
   have hz_118 := (hb_122).size
   refine xq 5 [] [(1, .slice B ys.length d), (2, .bool on), (3, .pointer (some ⟨w.heap.size, 0, none⟩)), (6, .pointer (some ⟨w_1.heap.size, 0, none⟩)), (8, .slice A_26 xs.length c_27), (9, .slice A_37 ys.length c_38), (10, .slice A_48 xs.length c_49), (12, .slice A_58 xs.length c_59), (14, .slice A_68 ((comp (cmpF on) xs ys).length) c_69), (16, .slice A_79 ((comp (cmpF on) xs ys).length) c_80), (18, .slice A_89 ((comp (trnF on) xs ys).length) c_90), (20, .slice A_100 ((comp (trnF on) xs ys).length) c_101), (22, .slice A_112 ((comp (cmpF on) xs ys).length) c_113), (1000000, encD [])] w_121 [] trivial ?_
   refine nl (sq (sq (rg (xq 4 [] [(1, .slice B ys.length d), (2, .bool on), (3, .pointer (some ⟨w.heap.size, 0, none⟩)), (6, .pointer (some ⟨w_1.heap.size, 0, none⟩)), (8, .slice A_26 xs.length c_27), (9, .slice A_37 ys.length c_38), (12, .slice A_58 xs.length c_59), (16, .slice A_79 ((comp (cmpF on) xs ys).length) c_80), (20, .slice A_100 ((comp (trnF on) xs ys).length) c_101), (22, .slice A_112 ((comp (cmpF on) xs ys).length) c_113), (103, .slice (some ⟨w_121.heap.size, 0, none⟩) 3 3), (1000000, encD [])] (w_121.alloc (.cells #[.slice A_48 xs.length c_49, .slice A_68 ((comp (cmpF on) xs ys).length) c_69, .slice A_89 ((comp (trnF on) xs ys).length) c_90] 45)) [] trivial ?_))))
   obtain ⟨w_123, hw_127, hb_124, hk_125, hz_126⟩ := new_world w_121 #[.slice A_48 xs.length c_49, .slice A_68 ((comp (cmpF on) xs ys).length) c_69, .slice A_89 ((comp (trnF on) xs ys).length) c_90] 45
   rw [hw_127]
   refine xq 2 [] [(1, .slice B ys.length d), (2, .bool on), (3, .pointer (some ⟨w.heap.size, 0, none⟩)), (6, .pointer (some ⟨w_1.heap.size, 0, none⟩)), (8, .slice A_26 xs.length c_27), (9, .slice A_37 ys.length c_38), (12, .slice A_58 xs.length c_59), (16, .slice A_79 ((comp (cmpF on) xs ys).length) c_80), (20, .slice A_100 ((comp (trnF on) xs ys).length) c_101), (22, .slice A_112 ((comp (cmpF on) xs ys).length) c_113), (103, .slice (some ⟨w_121.heap.size, 0, none⟩) 3 3), (104, .int .i64 3), (105, .int .i64 0), (1000000, encD [])] w_123 [] trivial ?_
   refine nl (X_block ?_)
   have hz_128 := (hb_124).size
   have hB_129 : Below w_46.heap.size w_46 w_123 := (bt (bt (bt hB_108 hb_110) hb_122) hb_124)
   have hB_130 : Below w_35.heap.size w_35 w_123 := (bt (bt (bt (bt hB_97 hb_99) hb_110) hb_122) hb_124)
   have hB_131 : Below w_66.heap.size w_66 w_123 := (bt (bt (bt (bt (bt hb_78 hb_88) hb_99) hb_110) hb_122) hb_124)
   have hB_132 : Below w_87.heap.size w_87 w_123 := (bt (bt (bt hb_99 hb_110) hb_122) hb_124)
   have hB_133 : Below w_56.heap.size w_56 w_123 := (bt (bt (bt (bt (bt (bt hb_67 hb_78) hb_88) hb_99) hb_110) hb_122) hb_124)
   have hB_134 : Below w_77.heap.size w_77 w_123 := (bt (bt (bt (bt hb_88 hb_99) hb_110) hb_122) hb_124)
   refine X_loop (ι := Nat) (fun t => [(1, .slice B ys.length d), (2, .bool on), (3, .pointer (some ⟨w.heap.size, 0, none⟩)), (6, .pointer (some ⟨w_1.heap.size, 0, none⟩)), (8, .slice A_26 xs.length c_27), (9, .slice A_37 ys.length c_38), (12, .slice A_58 xs.length c_59), (16, .slice A_79 ((comp (cmpF on) xs ys).length) c_80), (20, .slice A_100 ((comp (trnF on) xs ys).length) c_101), (22, .slice A_112 ((comp (cmpF on) xs ys).length) c_113), (103, .slice (some ⟨w_121.heap.size, 0, none⟩) 3 3), (104, .int .i64 3), (105, .int .i64 (t : Int)), (1000000, encD [])]) (fun t wl => t ≤ 3 ∧ w_123.heap.size ≤ wl.heap.size ∧ Below w_46.heap.size w_46 wl ∧ RX.Blk wl w_121.heap.size 45 #[.slice A_48 xs.length c_49, .slice A_68 ((comp (cmpF on) xs ys).length) c_69, .slice A_89 ((comp (trnF on) xs ys).length) c_90] ∧ kAttr.C wl A_26 xs.length xs ∧ (xs = [] ∨ xs.length + 2 ≤ c_27 ∧ kAttr.C wl A_26 (xs.length + 2) (xs ++ spL)) ∧ kAttr.C wl A_37 ys.length ys ∧ (ys = [] ∨ ys.length + 2 ≤ c_38 ∧ kAttr.C wl A_37 (ys.length + 2) (ys ++ spL)) ∧ kAttr.C wl A_58 xs.length xs ∧ kAttr.C wl A_79 (comp (cmpF on) xs ys).length (comp (cmpF on) xs ys) ∧ kAttr.C wl A_100 (comp (trnF on) xs ys).length (comp (trnF on) xs ys) ∧ kAttr.C wl A_112 (comp (cmpF on) xs ys).length (comp (cmpF on) xs ys) ∧ LiesO 71 4 (fun g_ => w_46.heap.size ≤ g_ ∧ g_ < w_56.heap.size) wl A_48 xs.length c_49 ∧ LiesO 71 4 (fun g_ => w_66.heap.size ≤ g_ ∧ g_ < w_77.heap.size) wl A_68 (comp (cmpF on) xs ys).length c_69 ∧ LiesO 71 4 (fun g_ => w_87.heap.size ≤ g_ ∧ g_ < w_98.heap.size) wl A_89 (comp (trnF on) xs ys).length c_90 ∧ LiesO 71 4 (fun g_ => w_22.heap.size ≤ g_ ∧ g_ < w_35.heap.size) wl A_26 xs.length c_27 ∧ LiesO 71 4 (fun g_ => w_35.heap.size ≤ g_ ∧ g_ < w_46.heap.size) wl A_37 ys.length c_38) (fun t => 3 - t) 0 ⟨by omega, Nat.le_refl _, hB_129, hk_125, (Kd.C_below hC_30 hB_130), (hS_31.imp id (fun h_ => ⟨h_.1, Kd.C_below h_.2 hB_130⟩)), (Kd.C_below hC_41 hB_129), (hS_42.imp id (fun h_ => ⟨h_.1, Kd.C_below h_.2 hB_129⟩)), (Kd.C_below (Kd.R_C hr_61) hB_131), (Kd.C_below (Kd.R_C hr_82) hB_132), (Kd.C_below (Kd.R_C hr_103) (bt hb_122 hb_124)), (Kd.C_below (Kd.R_C hr_115) hb_124), (LiesO.below hB_133 hL_53), (LiesO.below hB_134 hL_73), (LiesO.below (bt (bt hb_110 hb_122) hb_124) hL_94), (LiesO.below hB_130 hL_33), (LiesO.below hB_129 hL_44)⟩ (by kernel_rfl) ?_
   rintro t wl ⟨ht3, hwl, HB, hk1, hC_x, hS_x, hC_y, hS_y, hC_m, hC_q, hC_t, hC_want, hL_l, hL_p, hL_s, hL_x, hL_y⟩
   obtain rfl | rfl | rfl | rfl : t = 0 ∨ t = 1 ∨ t = 2 ∨ t = 3 := by omega
   ·refine sq (rg (xq 1 [] [(1, .slice B ys.length d), (2, .bool on), (3, .pointer (some ⟨w.heap.size, 0, none⟩)), (6, .pointer (some ⟨w_1.heap.size, 0, none⟩)), (8, .slice A_26 xs.length c_27), (9, .slice A_37 ys.length c_38), (12, .slice A_58 xs.length c_59), (16, .slice A_79 ((comp (cmpF on) xs ys).length) c_80), (20, .slice A_100 ((comp (trnF on) xs ys).length) c_101), (22, .slice A_112 ((comp (cmpF on) xs ys).length) c_113), (103, .slice (some ⟨w_121.heap.size, 0, none⟩) 3 3), (104, .int .i64 3), (105, .int .i64 0), (106, .bool true), (1000000, encD [])] wl [] trivial ?_))
    refine nl (sq (ct (sk (sq (bk (sq (rg (xq 3 [(107, .idx ⟨w_121.heap.size, 0, none⟩), (108, .load (.slice A_48 xs.length c_49))] [(1, .slice B ys.length d), (2, .bool on), (3, .pointer (some ⟨w.heap.size, 0, none⟩)), (6, .pointer (some ⟨w_1.heap.size, 0, none⟩)), (8, .slice A_26 xs.length c_27), (9, .slice A_37 ys.length c_38), (12, .slice A_58 xs.length c_59), (16, .slice A_79 ((comp (cmpF on) xs ys).length) c_80), (20, .slice A_100 ((comp (trnF on) xs ys).length) c_101), (22, .slice A_112 ((comp (cmpF on) xs ys).length) c_113), (25, .slice A_48 xs.length c_49), (103, .slice (some ⟨w_121.heap.size, 0, none⟩) 3 3), (104, .int .i64 3), (105, .int .i64 0), (1000000, encD [])] wl [(some ⟨w_121.heap.size, 0, none⟩ : Option Addr) = some ⟨w_121.heap.size, 0, none⟩, (0 : Int) ≤ 0, (0 : Int) < (3 : Int), LoadsAs Tryd.prog 45 (⟨w_121.heap.size, 0, none⟩) (.slice A_48 xs.length c_49) wl] ⟨rfl, (by decide), (by decide), loads1 rfl (Blk.cell hk1 0 _ rfl), trivial⟩ ?_))))))))
    refine nl (rg (xq 1 [] [(1, .slice B ys.length d), (2, .bool on), (3, .pointer (some ⟨w.heap.size, 0, none⟩)), (6, .pointer (some ⟨w_1.heap.size, 0, none⟩)), (8, .slice A_26 xs.length c_27), (9, .slice A_37 ys.length c_38), (12, .slice A_58 xs.length c_59), (16, .slice A_79 ((comp (cmpF on) xs ys).length) c_80), (20, .slice A_100 ((comp (trnF on) xs ys).length) c_101), (22, .slice A_112 ((comp (cmpF on) xs ys).length) c_113), (103, .slice (some ⟨w_121.heap.size, 0, none⟩) 3 3), (104, .int .i64 3), (105, .int .i64 0), (109, .slice A_48 xs.length c_49), (1000000, encD [])] wl [] trivial ?_))
    refine xc 45 ent45 [.slice A_48 xs.length c_49] (over_any _ _ _ (OkI (w_46.heap.size) (w_56.heap.size) wl.heap.size) _ (fun _ h_ => .inr h_) (lies_ok hL_l) (by first | omega | (have h1_ := comp_le (cmpF on) xs ys; omega) | (have h1_ := comp_le (trnF on) xs ys; omega))) ?_
    rintro e w_135 ⟨rfl, hS_136⟩; refine ⟨_, rfl, ?_⟩
    have hsz_ := hS_136.size
    have hn_138 : ∀ k_, A_26.map (·.block) = some k_ → k_ < wl.heap.size ∧ (k_ < w_46.heap.size ∨ w_56.heap.size ≤ k_) := fun k_ e_ => by have h_ := hI_32 k_ e_; omega
    have hC_139 := spo_C hS_136 hC_x hn_138
    have hS_140 := spo_S hS_136 hS_x hn_138
    have hL_141 := LiesO.spoil hL_x hS_136
    have hn_142 : ∀ k_, A_37.map (·.block) = some k_ → k_ < wl.heap.size ∧ (k_ < w_46.heap.size ∨ w_56.heap.size ≤ k_) := fun k_ e_ => by have h_ := hI_43 k_ e_; omega
    have hC_143 := spo_C hS_136 hC_y hn_142
    have hS_144 := spo_S hS_136 hS_y hn_142
    have hL_145 := LiesO.spoil hL_y hS_136
    have hL_146 := LiesO.spoil hL_l hS_136
    have hn_147 : ∀ k_, A_58.map (·.block) = some k_ → k_ < wl.heap.size ∧ (k_ < w_46.heap.size ∨ w_56.heap.size ≤ k_) := fun k_ e_ => by have h_ := hI_62 k_ e_; omega
    have hC_148 := spo_C hS_136 hC_m hn_147
    have hL_149 := LiesO.spoil hL_p hS_136
    have hn_150 : ∀ k_, A_79.map (·.block) = some k_ → k_ < wl.heap.size ∧ (k_ < w_46.heap.size ∨ w_56.heap.size ≤ k_) := fun k_ e_ => by have h_ := hI_83 k_ e_; omega
    have hC_151 := spo_C hS_136 hC_q hn_150
    have hL_152 := LiesO.spoil hL_s hS_136
    have hn_153 : ∀ k_, A_100.map (·.block) = some k_ → k_ < wl.heap.size ∧ (k_ < w_46.heap.size ∨ w_56.heap.size ≤ k_) := fun k_ e_ => by have h_ := hI_104 k_ e_; omega
    have hC_154 := spo_C hS_136 hC_t hn_153
    have hn_155 : ∀ k_, A_112.map (·.block) = some k_ → k_ < wl.heap.size ∧ (k_ < w_46.heap.size ∨ w_56.heap.size ≤ k_) := fun k_ e_ => by have h_ := hI_116 k_ e_; omega
    have hC_156 := spo_C hS_136 hC_want hn_155
    have hb_137 : Below w_46.heap.size w_46 w_135 := (HB).trans (spo_below hS_136 (HB).size (fun g_ h_ => by rcases h_ with h_ | h_ <;> omega))
    have hk_157 := SpoilO.other hS_136 hk1 (by decide)
    refine nl (rg (xq 2 [] [(1, .slice B ys.length d), (2, .bool on), (3, .pointer (some ⟨w.heap.size, 0, none⟩)), (6, .pointer (some ⟨w_1.heap.size, 0, none⟩)), (8, .slice A_26 xs.length c_27), (9, .slice A_37 ys.length c_38), (12, .slice A_58 xs.length c_59), (16, .slice A_79 ((comp (cmpF on) xs ys).length) c_80), (20, .slice A_100 ((comp (trnF on) xs ys).length) c_101), (22, .slice A_112 ((comp (cmpF on) xs ys).length) c_113), (103, .slice (some ⟨w_121.heap.size, 0, none⟩) 3 3), (104, .int .i64 3), (105, .int .i64 1), (1000000, encD [])] w_135 [] trivial ?_))
    refine nl ?_
    refine ⟨1, by kernel_rfl, ?_, ?_⟩
    ·exact ⟨by omega, by omega, hb_137, hk_157, hC_139, hS_140, hC_143, hS_144, hC_148, hC_151, hC_154, hC_156, hL_146, hL_149, hL_152, hL_141, hL_145⟩
    (try dsimp only); omega
   ·refine sq (rg (xq 1 [] [(1, .slice B ys.length d), (2, .bool on), (3, .pointer (some ⟨w.heap.size, 0, none⟩)), (6, .pointer (some ⟨w_1.heap.size, 0, none⟩)), (8, .slice A_26 xs.length c_27), (9, .slice A_37 ys.length c_38), (12, .slice A_58 xs.length c_59), (16, .slice A_79 ((comp (cmpF on) xs ys).length) c_80), (20, .slice A_100 ((comp (trnF on) xs ys).length) c_101), (22, .slice A_112 ((comp (cmpF on) xs ys).length) c_113), (103, .slice (some ⟨w_121.heap.size, 0, none⟩) 3 3), (104, .int .i64 3), (105, .int .i64 1), (106, .bool true), (1000000, encD [])] wl [] trivial ?_))
    refine nl (sq (ct (sk (sq (bk (sq (rg (xq 3 [(107, .idx ⟨w_121.heap.size, 0, none⟩), (108, .load (.slice A_68 ((comp (cmpF on) xs ys).length) c_69))] [(1, .slice B ys.length d), (2, .bool on), (3, .pointer (some ⟨w.heap.size, 0, none⟩)), (6, .pointer (some ⟨w_1.heap.size, 0, none⟩)), (8, .slice A_26 xs.length c_27), (9, .slice A_37 ys.length c_38), (12, .slice A_58 xs.length c_59), (16, .slice A_79 ((comp (cmpF on) xs ys).length) c_80), (20, .slice A_100 ((comp (trnF on) xs ys).length) c_101), (22, .slice A_112 ((comp (cmpF on) xs ys).length) c_113), (25, .slice A_68 ((comp (cmpF on) xs ys).length) c_69), (103, .slice (some ⟨w_121.heap.size, 0, none⟩) 3 3), (104, .int .i64 3), (105, .int .i64 1), (1000000, encD [])] wl [(some ⟨w_121.heap.size, 0, none⟩ : Option Addr) = some ⟨w_121.heap.size, 0, none⟩, (0 : Int) ≤ 1, (1 : Int) < (3 : Int), LoadsAs Tryd.prog 45 (⟨w_121.heap.size, 1, none⟩) (.slice A_68 ((comp (cmpF on) xs ys).length) c_69) wl] ⟨rfl, (by decide), (by decide), loads1 rfl (Blk.cell hk1 1 _ rfl), trivial⟩ ?_))))))))
    refine nl (rg (xq 1 [] [(1, .slice B ys.length d), (2, .bool on), (3, .pointer (some ⟨w.heap.size, 0, none⟩)), (6, .pointer (some ⟨w_1.heap.size, 0, none⟩)), (8, .slice A_26 xs.length c_27), (9, .slice A_37 ys.length c_38), (12, .slice A_58 xs.length c_59), (16, .slice A_79 ((comp (cmpF on) xs ys).length) c_80), (20, .slice A_100 ((comp (trnF on) xs ys).length) c_101), (22, .slice A_112 ((comp (cmpF on) xs ys).length) c_113), (103, .slice (some ⟨w_121.heap.size, 0, none⟩) 3 3), (104, .int .i64 3), (105, .int .i64 1), (109, .slice A_68 ((comp (cmpF on) xs ys).length) c_69), (1000000, encD [])] wl [] trivial ?_))
    refine xc 45 ent45 [.slice A_68 ((comp (cmpF on) xs ys).length) c_69] (over_any _ _ _ (OkI (w_66.heap.size) (w_77.heap.size) wl.heap.size) _ (fun _ h_ => .inr h_) (lies_ok hL_p) (by first | omega | (have h1_ := comp_le (cmpF on) xs ys; omega) | (have h1_ := comp_le (trnF on) xs ys; omega))) ?_
    rintro e w_158 ⟨rfl, hS_159⟩; refine ⟨_, rfl, ?_⟩
    have hsz_ := hS_159.size
    have hn_161 : ∀ k_, A_26.map (·.block) = some k_ → k_ < wl.heap.size ∧ (k_ < w_66.heap.size ∨ w_77.heap.size ≤ k_) := fun k_ e_ => by have h_ := hI_32 k_ e_; omega
    have hC_162 := spo_C hS_159 hC_x hn_161
    have hS_163 := spo_S hS_159 hS_x hn_161
    have hL_164 := LiesO.spoil hL_x hS_159
    have hn_165 : ∀ k_, A_37.map (·.block) = some k_ → k_ < wl.heap.size ∧ (k_ < w_66.heap.size ∨ w_77.heap.size ≤ k_) := fun k_ e_ => by have h_ := hI_43 k_ e_; omega
    have hC_166 := spo_C hS_159 hC_y hn_165
    have hS_167 := spo_S hS_159 hS_y hn_165
    have hL_168 := LiesO.spoil hL_y hS_159
    have hL_169 := LiesO.spoil hL_l hS_159
    have hn_170 : ∀ k_, A_58.map (·.block) = some k_ → k_ < wl.heap.size ∧ (k_ < w_66.heap.size ∨ w_77.heap.size ≤ k_) := fun k_ e_ => by have h_ := hI_62 k_ e_; omega
    have hC_171 := spo_C hS_159 hC_m hn_170
    have hL_172 := LiesO.spoil hL_p hS_159
    have hn_173 : ∀ k_, A_79.map (·.block) = some k_ → k_ < wl.heap.size ∧ (k_ < w_66.heap.size ∨ w_77.heap.size ≤ k_) := fun k_ e_ => by have h_ := hI_83 k_ e_; omega
    have hC_174 := spo_C hS_159 hC_q hn_173
    have hL_175 := LiesO.spoil hL_s hS_159
    have hn_176 : ∀ k_, A_100.map (·.block) = some k_ → k_ < wl.heap.size ∧ (k_ < w_66.heap.size ∨ w_77.heap.size ≤ k_) := fun k_ e_ => by have h_ := hI_104 k_ e_; omega
    have hC_177 := spo_C hS_159 hC_t hn_176
    have hn_178 : ∀ k_, A_112.map (·.block) = some k_ → k_ < wl.heap.size ∧ (k_ < w_66.heap.size ∨ w_77.heap.size ≤ k_) := fun k_ e_ => by have h_ := hI_116 k_ e_; omega
    have hC_179 := spo_C hS_159 hC_want hn_178
    have hb_160 : Below w_46.heap.size w_46 w_158 := (HB).trans (spo_below hS_159 (HB).size (fun g_ h_ => by rcases h_ with h_ | h_ <;> omega))
    have hk_180 := SpoilO.other hS_159 hk1 (by decide)
    refine nl (rg (xq 2 [] [(1, .slice B ys.length d), (2, .bool on), (3, .pointer (some ⟨w.heap.size, 0, none⟩)), (6, .pointer (some ⟨w_1.heap.size, 0, none⟩)), (8, .slice A_26 xs.length c_27), (9, .slice A_37 ys.length c_38), (12, .slice A_58 xs.length c_59), (16, .slice A_79 ((comp (cmpF on) xs ys).length) c_80), (20, .slice A_100 ((comp (trnF on) xs ys).length) c_101), (22, .slice A_112 ((comp (cmpF on) xs ys).length) c_113), (103, .slice (some ⟨w_121.heap.size, 0, none⟩) 3 3), (104, .int .i64 3), (105, .int .i64 2), (1000000, encD [])] w_158 [] trivial ?_))
    refine nl ?_
    refine ⟨2, by kernel_rfl, ?_, ?_⟩
    ·exact ⟨by omega, by omega, hb_160, hk_180, hC_162, hS_163, hC_166, hS_167, hC_171, hC_174, hC_177, hC_179, hL_169, hL_172, hL_175, hL_164, hL_168⟩
    (try dsimp only); omega
   ·refine sq (rg (xq 1 [] [(1, .slice B ys.length d), (2, .bool on), (3, .pointer (some ⟨w.heap.size, 0, none⟩)), (6, .pointer (some ⟨w_1.heap.size, 0, none⟩)), (8, .slice A_26 xs.length c_27), (9, .slice A_37 ys.length c_38), (12, .slice A_58 xs.length c_59), (16, .slice A_79 ((comp (cmpF on) xs ys).length) c_80), (20, .slice A_100 ((comp (trnF on) xs ys).length) c_101), (22, .slice A_112 ((comp (cmpF on) xs ys).length) c_113), (103, .slice (some ⟨w_121.heap.size, 0, none⟩) 3 3), (104, .int .i64 3), (105, .int .i64 2), (106, .bool true), (1000000, encD [])] wl [] trivial ?_))
    refine nl (sq (ct (sk (sq (bk (sq (rg (xq 3 [(107, .idx ⟨w_121.heap.size, 0, none⟩), (108, .load (.slice A_89 ((comp (trnF on) xs ys).length) c_90))] [(1, .slice B ys.length d), (2, .bool on), (3, .pointer (some ⟨w.heap.size, 0, none⟩)), (6, .pointer (some ⟨w_1.heap.size, 0, none⟩)), (8, .slice A_26 xs.length c_27), (9, .slice A_37 ys.length c_38), (12, .slice A_58 xs.length c_59), (16, .slice A_79 ((comp (cmpF on) xs ys).length) c_80), (20, .slice A_100 ((comp (trnF on) xs ys).length) c_101), (22, .slice A_112 ((comp (cmpF on) xs ys).length) c_113), (25, .slice A_89 ((comp (trnF on) xs ys).length) c_90), (103, .slice (some ⟨w_121.heap.size, 0, none⟩) 3 3), (104, .int .i64 3), (105, .int .i64 2), (1000000, encD [])] wl [(some ⟨w_121.heap.size, 0, none⟩ : Option Addr) = some ⟨w_121.heap.size, 0, none⟩, (0 : Int) ≤ 2, (2 : Int) < (3 : Int), LoadsAs Tryd.prog 45 (⟨w_121.heap.size, 2, none⟩) (.slice A_89 ((comp (trnF on) xs ys).length) c_90) wl] ⟨rfl, (by decide), (by decide), loads1 rfl (Blk.cell hk1 2 _ rfl), trivial⟩ ?_))))))))
    refine nl (rg (xq 1 [] [(1, .slice B ys.length d), (2, .bool on), (3, .pointer (some ⟨w.heap.size, 0, none⟩)), (6, .pointer (some ⟨w_1.heap.size, 0, none⟩)), (8, .slice A_26 xs.length c_27), (9, .slice A_37 ys.length c_38), (12, .slice A_58 xs.length c_59), (16, .slice A_79 ((comp (cmpF on) xs ys).length) c_80), (20, .slice A_100 ((comp (trnF on) xs ys).length) c_101), (22, .slice A_112 ((comp (cmpF on) xs ys).length) c_113), (103, .slice (some ⟨w_121.heap.size, 0, none⟩) 3 3), (104, .int .i64 3), (105, .int .i64 2), (109, .slice A_89 ((comp (trnF on) xs ys).length) c_90), (1000000, encD [])] wl [] trivial ?_))
    refine xc 45 ent45 [.slice A_89 ((comp (trnF on) xs ys).length) c_90] (over_any _ _ _ (OkI (w_87.heap.size) (w_98.heap.size) wl.heap.size) _ (fun _ h_ => .inr h_) (lies_ok hL_s) (by first | omega | (have h1_ := comp_le (cmpF on) xs ys; omega) | (have h1_ := comp_le (trnF on) xs ys; omega))) ?_
    rintro e w_181 ⟨rfl, hS_182⟩; refine ⟨_, rfl, ?_⟩
    have hsz_ := hS_182.size
    have hn_184 : ∀ k_, A_26.map (·.block) = some k_ → k_ < wl.heap.size ∧ (k_ < w_87.heap.size ∨ w_98.heap.size ≤ k_) := fun k_ e_ => by have h_ := hI_32 k_ e_; omega
    have hC_185 := spo_C hS_182 hC_x hn_184
    have hS_186 := spo_S hS_182 hS_x hn_184
    have hL_187 := LiesO.spoil hL_x hS_182
    have hn_188 : ∀ k_, A_37.map (·.block) = some k_ → k_ < wl.heap.size ∧ (k_ < w_87.heap.size ∨ w_98.heap.size ≤ k_) := fun k_ e_ => by have h_ := hI_43 k_ e_; omega
    have hC_189 := spo_C hS_182 hC_y hn_188
    have hS_190 := spo_S hS_182 hS_y hn_188
    have hL_191 := LiesO.spoil hL_y hS_182
    have hL_192 := LiesO.spoil hL_l hS_182
    have hn_193 : ∀ k_, A_58.map (·.block) = some k_ → k_ < wl.heap.size ∧ (k_ < w_87.heap.size ∨ w_98.heap.size ≤ k_) := fun k_ e_ => by have h_ := hI_62 k_ e_; omega
    have hC_194 := spo_C hS_182 hC_m hn_193
    have hL_195 := LiesO.spoil hL_p hS_182
    have hn_196 : ∀ k_, A_79.map (·.block) = some k_ → k_ < wl.heap.size ∧ (k_ < w_87.heap.size ∨ w_98.heap.size ≤ k_) := fun k_ e_ => by have h_ := hI_83 k_ e_; omega
    have hC_197 := spo_C hS_182 hC_q hn_196
    have hL_198 := LiesO.spoil hL_s hS_182
    have hn_199 : ∀ k_, A_100.map (·.block) = some k_ → k_ < wl.heap.size ∧ (k_ < w_87.heap.size ∨ w_98.heap.size ≤ k_) := fun k_ e_ => by have h_ := hI_104 k_ e_; omega
    have hC_200 := spo_C hS_182 hC_t hn_199
    have hn_201 : ∀ k_, A_112.map (·.block) = some k_ → k_ < wl.heap.size ∧ (k_ < w_87.heap.size ∨ w_98.heap.size ≤ k_) := fun k_ e_ => by have h_ := hI_116 k_ e_; omega
    have hC_202 := spo_C hS_182 hC_want hn_201
    have hb_183 : Below w_46.heap.size w_46 w_181 := (HB).trans (spo_below hS_182 (HB).size (fun g_ h_ => by rcases h_ with h_ | h_ <;> omega))
    have hk_203 := SpoilO.other hS_182 hk1 (by decide)
    refine nl (rg (xq 2 [] [(1, .slice B ys.length d), (2, .bool on), (3, .pointer (some ⟨w.heap.size, 0, none⟩)), (6, .pointer (some ⟨w_1.heap.size, 0, none⟩)), (8, .slice A_26 xs.length c_27), (9, .slice A_37 ys.length c_38), (12, .slice A_58 xs.length c_59), (16, .slice A_79 ((comp (cmpF on) xs ys).length) c_80), (20, .slice A_100 ((comp (trnF on) xs ys).length) c_101), (22, .slice A_112 ((comp (cmpF on) xs ys).length) c_113), (103, .slice (some ⟨w_121.heap.size, 0, none⟩) 3 3), (104, .int .i64 3), (105, .int .i64 3), (1000000, encD [])] w_181 [] trivial ?_))
    refine nl ?_
    refine ⟨3, by kernel_rfl, ?_, ?_⟩
    ·exact ⟨by omega, by omega, hb_183, hk_203, hC_185, hS_186, hC_189, hS_190, hC_194, hC_197, hC_200, hC_202, hL_192, hL_195, hL_198, hL_187, hL_191⟩
    (try dsimp only); omega
   refine sq (rg (xq 1 [] [(1, .slice B ys.length d), (2, .bool on), (3, .pointer (some ⟨w.heap.size, 0, none⟩)), (6, .pointer (some ⟨w_1.heap.size, 0, none⟩)), (8, .slice A_26 xs.length c_27), (9, .slice A_37 ys.length c_38), (12, .slice A_58 xs.length c_59), (16, .slice A_79 ((comp (cmpF on) xs ys).length) c_80), (20, .slice A_100 ((comp (trnF on) xs ys).length) c_101), (22, .slice A_112 ((comp (cmpF on) xs ys).length) c_113), (103, .slice (some ⟨w_121.heap.size, 0, none⟩) 3 3), (104, .int .i64 3), (105, .int .i64 3), (106, .bool false), (1000000, encD [])] wl [] trivial ?_))
   refine nl (sq (cf (X_exit (sq (sq (X_region ?_))))))
   have hB_204 : Below w_1.heap.size w_1 wl := (bt (bt (bt (bt (bt (bt hb_7 hb_12) hb_20) hb_23) hb_36) hb_47) HB)
   refine xq 2 [(113, .load (.slice A xs.length c))] [(1, .slice B ys.length d), (2, .bool on), (3, .pointer (some ⟨w.heap.size, 0, none⟩)), (6, .pointer (some ⟨w_1.heap.size, 0, none⟩)), (8, .slice A_26 xs.length c_27), (9, .slice A_37 ys.length c_38), (12, .slice A_58 xs.length c_59), (16, .slice A_79 ((comp (cmpF on) xs ys).length) c_80), (20, .slice A_100 ((comp (trnF on) xs ys).length) c_101), (22, .slice A_112 ((comp (cmpF on) xs ys).length) c_113), (112, .slice A_58 xs.length c_59), (113, .slice A xs.length c), (1000000, encD [])] wl [LoadsAs Tryd.prog 45 (⟨w.heap.size, 0, none⟩) (.slice A xs.length c) wl] ⟨loads1 rfl (Blk.cell (Blk.below hk_3 hB_204) 0 _ rfl), trivial⟩ ?_
   refine xc 46 ent46 [.slice A_58 xs.length c_59, .slice A xs.length c] (refSame_any _ _ _ _ xs xs _ hC_m (Kd.C_below hx (bt (bt (bt hB_25 hb_36) hb_47) HB))) ?_
   rintro e w_205 ⟨rfl, hb_206⟩; refine ⟨_, rfl, ?_⟩
   rw [show decide (xs = xs) = true from decide_eq_true rfl]
   refine xq 4 [] [(1, .slice B ys.length d), (2, .bool on), (3, .pointer (some ⟨w.heap.size, 0, none⟩)), (6, .pointer (some ⟨w_1.heap.size, 0, none⟩)), (8, .slice A_26 xs.length c_27), (9, .slice A_37 ys.length c_38), (12, .slice A_58 xs.length c_59), (16, .slice A_79 ((comp (cmpF on) xs ys).length) c_80), (20, .slice A_100 ((comp (trnF on) xs ys).length) c_101), (22, .slice A_112 ((comp (cmpF on) xs ys).length) c_113), (116, .bool false), (117, .slice A_79 ((comp (cmpF on) xs ys).length) c_80), (118, .slice A_112 ((comp (cmpF on) xs ys).length) c_113), (1000000, encD [])] w_205 [] trivial ?_
   refine xc 46 ent46 [.slice A_79 ((comp (cmpF on) xs ys).length) c_80, .slice A_112 ((comp (cmpF on) xs ys).length) c_113] (refSame_any _ _ _ _ (comp (cmpF on) xs ys) (comp (cmpF on) xs ys) _ (Kd.C_below hC_q hb_206) (Kd.C_below hC_want hb_206)) ?_
   rintro e w_207 ⟨rfl, hb_208⟩; refine ⟨_, rfl, ?_⟩
   rw [show decide ((comp (cmpF on) xs ys) = (comp (cmpF on) xs ys)) = true from decide_eq_true rfl]
   refine xq 7 [(124, .load (.slice A xs.length c))] [(1, .slice B ys.length d), (2, .bool on), (3, .pointer (some ⟨w.heap.size, 0, none⟩)), (6, .pointer (some ⟨w_1.heap.size, 0, none⟩)), (8, .slice A_26 xs.length c_27), (9, .slice A_37 ys.length c_38), (12, .slice A_58 xs.length c_59), (16, .slice A_79 ((comp (cmpF on) xs ys).length) c_80), (20, .slice A_100 ((comp (trnF on) xs ys).length) c_101), (22, .slice A_112 ((comp (cmpF on) xs ys).length) c_113), (122, .bool false), (123, .slice A_100 ((comp (trnF on) xs ys).length) c_101), (124, .slice A xs.length c), (125, .slice B ys.length d), (126, .bool on), (1000000, encD [])] w_207 [LoadsAs Tryd.prog 45 (⟨w.heap.size, 0, none⟩) (.slice A xs.length c) w_207] ⟨loads1 rfl (Blk.cell (Blk.below hk_3 (bt (bt hB_204 hb_206) hb_208)) 0 _ rfl), trivial⟩ ?_
   have hB_214 : Below w.heap.size w w_207 := (bt (bt (bt (bt (bt hB_25 hb_36) hb_47) HB) hb_206) hb_208)
   refine xc 47 ent47 [.slice A xs.length c, .slice B ys.length d, .bool on] (r3over_any _ _ _ _ xs ys _ (Kd.C_below hx hB_214) (Kd.C_below hy hB_214) (by omega) on) ?_
   rintro e w_215 ⟨A_209, c_210, _, rfl, lz_211, rfl, hl_212, hr_213, hb_216⟩; refine ⟨_, rfl, ?_⟩
   refine xc 46 ent46 [.slice A_100 ((comp (trnF on) xs ys).length) c_101, .slice A_209 ((ys.filterMap (oF on xs)).length) c_210] (refSame_any _ _ _ _ (comp (trnF on) xs ys) (ys.filterMap (oF on xs)) _ (Kd.C_below hC_t (bt (bt hb_206 hb_208) hb_216)) (Kd.R_C hr_213)) ?_
   rintro e w_217 ⟨rfl, hb_218⟩; refine ⟨_, rfl, ?_⟩
   rw [show decide ((comp (trnF on) xs ys) = (ys.filterMap (oF on xs))) = true from decide_eq_true (over_eq on gx.2 gy.2).symm]
   have hB_219 : Below w_1.heap.size w_1 w_217 := (bt (bt (bt (bt hB_204 hb_206) hb_208) hb_216) hb_218)
   refine xq 5 [(133, .load (.slice A xs.length c))] [(1, .slice B ys.length d), (2, .bool on), (3, .pointer (some ⟨w.heap.size, 0, none⟩)), (6, .pointer (some ⟨w_1.heap.size, 0, none⟩)), (8, .slice A_26 xs.length c_27), (9, .slice A_37 ys.length c_38), (12, .slice A_58 xs.length c_59), (16, .slice A_79 ((comp (cmpF on) xs ys).length) c_80), (20, .slice A_100 ((comp (trnF on) xs ys).length) c_101), (22, .slice A_112 ((comp (cmpF on) xs ys).length) c_113), (131, .bool false), (132, .slice A_26 xs.length c_27), (133, .slice A xs.length c), (1000000, encD [])] w_217 [LoadsAs Tryd.prog 45 (⟨w.heap.size, 0, none⟩) (.slice A xs.length c) w_217] ⟨loads1 rfl (Blk.cell (Blk.below hk_3 hB_219) 0 _ rfl), trivial⟩ ?_
   have hB_220 : Below wl.heap.size wl w_217 := (bt (bt (bt hb_206 hb_208) hb_216) hb_218)
   refine xc 41 ent41 [.slice A_26 xs.length c_27, .slice A xs.length c] (hKept_any _ _ _ _ xs _ (Kd.C_below hC_x hB_220) (hS_x.imp id (fun h_ => ⟨h_.1, Kd.C_below h_.2 hB_220⟩)) (Kd.C_below hx (bt (bt hB_214 hb_216) hb_218)) (by omega)) ?_
   rintro e w_221 ⟨rfl, hb_222⟩; refine ⟨_, rfl, ?_⟩
   refine xq 5 [] [(1, .slice B ys.length d), (2, .bool on), (3, .pointer (some ⟨w.heap.size, 0, none⟩)), (6, .pointer (some ⟨w_1.heap.size, 0, none⟩)), (8, .slice A_26 xs.length c_27), (9, .slice A_37 ys.length c_38), (12, .slice A_58 xs.length c_59), (16, .slice A_79 ((comp (cmpF on) xs ys).length) c_80), (20, .slice A_100 ((comp (trnF on) xs ys).length) c_101), (22, .slice A_112 ((comp (cmpF on) xs ys).length) c_113), (137, .bool false), (138, .slice A_37 ys.length c_38), (139, .slice B ys.length d), (1000000, encD [])] w_221 [] trivial ?_
   have hB_223 : Below w.heap.size w w_221 := (bt (bt (bt hB_214 hb_216) hb_218) hb_222)
   refine xc 41 ent41 [.slice A_37 ys.length c_38, .slice B ys.length d] (hKept_any _ _ _ _ ys _ (Kd.C_below hC_y (bt hB_220 hb_222)) (hS_y.imp id (fun h_ => ⟨h_.1, Kd.C_below h_.2 (bt hB_220 hb_222)⟩)) (Kd.C_below hy hB_223) (by omega)) ?_
   rintro e w_224 ⟨rfl, hb_225⟩; refine ⟨_, rfl, ?_⟩
   refine xq 2 [] [(1, .slice B ys.length d), (2, .bool on), (3, .pointer (some ⟨w.heap.size, 0, none⟩)), (6, .pointer (some ⟨w_1.heap.size, 0, none⟩)), (8, .slice A_26 xs.length c_27), (9, .slice A_37 ys.length c_38), (12, .slice A_58 xs.length c_59), (16, .slice A_79 ((comp (cmpF on) xs ys).length) c_80), (20, .slice A_100 ((comp (trnF on) xs ys).length) c_101), (22, .slice A_112 ((comp (cmpF on) xs ys).length) c_113), (142, .bool false), (1000000, encD [])] w_224 [] trivial ?_
   refine nl (cf (sk (sq (rg (xq 1 [] [(1, .slice B ys.length d), (2, .bool on), (3, .pointer (some ⟨w.heap.size, 0, none⟩)), (6, .pointer (some ⟨w_1.heap.size, 0, none⟩)), (8, .slice A_26 xs.length c_27), (9, .slice A_37 ys.length c_38), (12, .slice A_58 xs.length c_59), (16, .slice A_79 ((comp (cmpF on) xs ys).length) c_80), (20, .slice A_100 ((comp (trnF on) xs ys).length) c_101), (22, .slice A_112 ((comp (cmpF on) xs ys).length) c_113), (143, .slice A_26 xs.length c_27), (1000000, encD [])] w_224 [] trivial ?_)))))
   refine xc 40 ent40 [.slice A_26 xs.length c_27] (aeach_any _ _ xs _ (Kd.C_below hC_x (bt (bt hB_220 hb_222) hb_225)) hxn hbx (hT.below (bt hB_223 hb_225)) es (hA.below (bt hB_223 hb_225))) ?_
   rintro e w_236 ⟨g_226, A_227, c_228, rfl, hge_229, hk_230, hr_231, hb_237⟩; refine ⟨_, rfl, ?_⟩
   rw [show eachA xs = xs from if_pos ((chkA_good true xs).2 gx)] at hk_230 hr_231
   obtain ⟨hI_232, hL_233⟩ := row_lies hr_231
   have hz_234 := (hb_237).size
   have hgl_235 := hk_230.lt
   have hzl_ := ((bt (bt hB_220 hb_222) hb_225)).size
   refine xq 1 [] [(1, .slice B ys.length d), (2, .bool on), (3, .pointer (some ⟨w.heap.size, 0, none⟩)), (6, .pointer (some ⟨w_1.heap.size, 0, none⟩)), (8, .slice A_26 xs.length c_27), (9, .slice A_37 ys.length c_38), (12, .slice A_58 xs.length c_59), (16, .slice A_79 ((comp (cmpF on) xs ys).length) c_80), (20, .slice A_100 ((comp (trnF on) xs ys).length) c_101), (22, .slice A_112 ((comp (cmpF on) xs ys).length) c_113), (26, .func (.func 106) #[] #[.pointer (some ⟨g_226, 0, none⟩)]), (1000000, encD [])] w_236 [] trivial ?_
   refine nl (sq (rg (xq 1 [] [(1, .slice B ys.length d), (2, .bool on), (3, .pointer (some ⟨w.heap.size, 0, none⟩)), (6, .pointer (some ⟨w_1.heap.size, 0, none⟩)), (9, .slice A_37 ys.length c_38), (12, .slice A_58 xs.length c_59), (16, .slice A_79 ((comp (cmpF on) xs ys).length) c_80), (20, .slice A_100 ((comp (trnF on) xs ys).length) c_101), (22, .slice A_112 ((comp (cmpF on) xs ys).length) c_113), (26, .func (.func 106) #[] #[.pointer (some ⟨g_226, 0, none⟩)]), (145, .slice A_26 xs.length c_27), (1000000, encD [])] w_236 [] trivial ?_)))
   have hB_241 : Below wl.heap.size wl w_236 := (bt (bt (bt hB_220 hb_222) hb_225) hb_237)
   refine xc 45 ent45 [.slice A_26 xs.length c_27] (over_any _ _ _ (OkI (w_22.heap.size) (w_35.heap.size) w_236.heap.size) _ (fun _ h_ => .inr h_) (lies_ok (LiesO.below hB_241 hL_x)) (by omega)) ?_
   rintro e w_238 ⟨rfl, hS_239⟩; refine ⟨_, rfl, ?_⟩
   have hsz_ := hS_239.size
   have hn_242 : ∀ k_, A_37.map (·.block) = some k_ → k_ < w_236.heap.size ∧ (k_ < w_22.heap.size ∨ w_35.heap.size ≤ k_) := fun k_ e_ => by have h_ := hI_43 k_ e_; omega
   have hC_243 := spo_C hS_239 (Kd.C_below hC_y hB_241) hn_242
   have hS_244 := spo_S hS_239 (hS_y.imp id (fun h_ => ⟨h_.1, Kd.C_below h_.2 hB_241⟩)) hn_242
   have hL_245 := LiesO.spoil (LiesO.below hB_241 hL_y) hS_239
   have hn_246 : ∀ k_, A_58.map (·.block) = some k_ → k_ < w_236.heap.size ∧ (k_ < w_22.heap.size ∨ w_35.heap.size ≤ k_) := fun k_ e_ => by have h_ := hI_62 k_ e_; omega
   have hC_247 := spo_C hS_239 (Kd.C_below hC_m hB_241) hn_246
   have hn_248 : ∀ k_, A_79.map (·.block) = some k_ → k_ < w_236.heap.size ∧ (k_ < w_22.heap.size ∨ w_35.heap.size ≤ k_) := fun k_ e_ => by have h_ := hI_83 k_ e_; omega
   have hC_249 := spo_C hS_239 (Kd.C_below hC_q hB_241) hn_248
   have hn_250 : ∀ k_, A_100.map (·.block) = some k_ → k_ < w_236.heap.size ∧ (k_ < w_22.heap.size ∨ w_35.heap.size ≤ k_) := fun k_ e_ => by have h_ := hI_104 k_ e_; omega
   have hC_251 := spo_C hS_239 (Kd.C_below hC_t hB_241) hn_250
   have hn_252 : ∀ k_, A_112.map (·.block) = some k_ → k_ < w_236.heap.size ∧ (k_ < w_22.heap.size ∨ w_35.heap.size ≤ k_) := fun k_ e_ => by have h_ := hI_116 k_ e_; omega
   have hC_253 := spo_C hS_239 (Kd.C_below hC_want hB_241) hn_252
   have hn_254 : ∀ k_, A_227.map (·.block) = some k_ → k_ < w_236.heap.size ∧ (k_ < w_22.heap.size ∨ w_35.heap.size ≤ k_) := fun k_ e_ => by have h_ := hI_232 k_ e_; omega
   have hC_255 := spo_C hS_239 (Kd.R_C hr_231) hn_254
   have hB_256 : Below w_22.heap.size w_22 w_236 := (bt (bt (bt (bt (bt (bt (bt (bt (bt hb_36 hb_47) HB) hb_206) hb_208) hb_216) hb_218) hb_222) hb_225) hb_237)
   have hb_240 : Below w_22.heap.size w_22 w_238 := (hB_256).trans (spo_below hS_239 (hB_256).size (fun g_ h_ => by rcases h_ with h_ | h_ <;> omega))
   have hk_257 := SpoilO.other hS_239 hk_230 (by decide)
   refine nl (sq (rg (xq 1 [] [(1, .slice B ys.length d), (2, .bool on), (3, .pointer (some ⟨w.heap.size, 0, none⟩)), (6, .pointer (some ⟨w_1.heap.size, 0, none⟩)), (12, .slice A_58 xs.length c_59), (16, .slice A_79 ((comp (cmpF on) xs ys).length) c_80), (20, .slice A_100 ((comp (trnF on) xs ys).length) c_101), (22, .slice A_112 ((comp (cmpF on) xs ys).length) c_113), (26, .func (.func 106) #[] #[.pointer (some ⟨g_226, 0, none⟩)]), (147, .slice A_37 ys.length c_38), (1000000, encD [])] w_238 [] trivial ?_)))
   refine xc 45 ent45 [.slice A_37 ys.length c_38] (over_any _ _ _ (OkI (w_35.heap.size) (w_46.heap.size) w_238.heap.size) _ (fun _ h_ => .inr h_) (lies_ok hL_245) (by omega)) ?_
   rintro e w_258 ⟨rfl, hS_259⟩; refine ⟨_, rfl, ?_⟩
   have hsz_ := hS_259.size
   have hn_261 : ∀ k_, A_58.map (·.block) = some k_ → k_ < w_238.heap.size ∧ (k_ < w_35.heap.size ∨ w_46.heap.size ≤ k_) := fun k_ e_ => by have h_ := hI_62 k_ e_; omega
   have hC_262 := spo_C hS_259 hC_247 hn_261
   have hn_263 : ∀ k_, A_79.map (·.block) = some k_ → k_ < w_238.heap.size ∧ (k_ < w_35.heap.size ∨ w_46.heap.size ≤ k_) := fun k_ e_ => by have h_ := hI_83 k_ e_; omega
   have hC_264 := spo_C hS_259 hC_249 hn_263
   have hn_265 : ∀ k_, A_100.map (·.block) = some k_ → k_ < w_238.heap.size ∧ (k_ < w_35.heap.size ∨ w_46.heap.size ≤ k_) := fun k_ e_ => by have h_ := hI_104 k_ e_; omega
   have hC_266 := spo_C hS_259 hC_251 hn_265
   have hn_267 : ∀ k_, A_112.map (·.block) = some k_ → k_ < w_238.heap.size ∧ (k_ < w_35.heap.size ∨ w_46.heap.size ≤ k_) := fun k_ e_ => by have h_ := hI_116 k_ e_; omega
   have hC_268 := spo_C hS_259 hC_253 hn_267
   have hn_269 : ∀ k_, A_227.map (·.block) = some k_ → k_ < w_238.heap.size ∧ (k_ < w_35.heap.size ∨ w_46.heap.size ≤ k_) := fun k_ e_ => by have h_ := hI_232 k_ e_; omega
   have hC_270 := spo_C hS_259 hC_255 hn_269
   have hb_260 : Below w_22.heap.size w_22 w_258 := (hb_240).trans (spo_below hS_259 (hb_240).size (fun g_ h_ => by rcases h_ with h_ | h_ <;> omega))
   have hk_271 := SpoilO.other hS_259 hk_257 (by decide)
   refine nl (sq (sq (X_region ?_)))
   have hB_272 : Below w_1.heap.size w_1 w_258 := (bt (bt (bt (bt hb_7 hb_12) hb_20) hb_23) hb_260)
   refine xq 5 [(153, .load (.slice A xs.length c))] [(1, .slice B ys.length d), (2, .bool on), (3, .pointer (some ⟨w.heap.size, 0, none⟩)), (6, .pointer (some ⟨w_1.heap.size, 0, none⟩)), (16, .slice A_79 ((comp (cmpF on) xs ys).length) c_80), (20, .slice A_100 ((comp (trnF on) xs ys).length) c_101), (22, .slice A_112 ((comp (cmpF on) xs ys).length) c_113), (26, .func (.func 106) #[] #[.pointer (some ⟨g_226, 0, none⟩)]), (151, .bool false), (152, .slice A_58 xs.length c_59), (153, .slice A xs.length c), (1000000, encD [])] w_258 [LoadsAs Tryd.prog 45 (⟨w.heap.size, 0, none⟩) (.slice A xs.length c) w_258] ⟨loads1 rfl (Blk.cell (Blk.below hk_3 hB_272) 0 _ rfl), trivial⟩ ?_
   refine xc 46 ent46 [.slice A_58 xs.length c_59, .slice A xs.length c] (refSame_any _ _ _ _ xs xs _ hC_262 (Kd.C_below hx (bt hB_25 hb_260))) ?_
   rintro e w_273 ⟨rfl, hb_274⟩; refine ⟨_, rfl, ?_⟩
   rw [show decide (xs = xs) = true from decide_eq_true rfl]
   refine xq 5 [] [(1, .slice B ys.length d), (2, .bool on), (3, .pointer (some ⟨w.heap.size, 0, none⟩)), (6, .pointer (some ⟨w_1.heap.size, 0, none⟩)), (20, .slice A_100 ((comp (trnF on) xs ys).length) c_101), (26, .func (.func 106) #[] #[.pointer (some ⟨g_226, 0, none⟩)]), (157, .bool false), (158, .slice A_79 ((comp (cmpF on) xs ys).length) c_80), (159, .slice A_112 ((comp (cmpF on) xs ys).length) c_113), (1000000, encD [])] w_273 [] trivial ?_
   refine xc 46 ent46 [.slice A_79 ((comp (cmpF on) xs ys).length) c_80, .slice A_112 ((comp (cmpF on) xs ys).length) c_113] (refSame_any _ _ _ _ (comp (cmpF on) xs ys) (comp (cmpF on) xs ys) _ (Kd.C_below hC_264 hb_274) (Kd.C_below hC_268 hb_274)) ?_
   rintro e w_275 ⟨rfl, hb_276⟩; refine ⟨_, rfl, ?_⟩
   rw [show decide ((comp (cmpF on) xs ys) = (comp (cmpF on) xs ys)) = true from decide_eq_true rfl]
   refine xq 7 [(165, .load (.slice A xs.length c))] [(3, .pointer (some ⟨w.heap.size, 0, none⟩)), (6, .pointer (some ⟨w_1.heap.size, 0, none⟩)), (26, .func (.func 106) #[] #[.pointer (some ⟨g_226, 0, none⟩)]), (163, .bool false), (164, .slice A_100 ((comp (trnF on) xs ys).length) c_101), (165, .slice A xs.length c), (166, .slice B ys.length d), (167, .bool on), (1000000, encD [])] w_275 [LoadsAs Tryd.prog 45 (⟨w.heap.size, 0, none⟩) (.slice A xs.length c) w_275] ⟨loads1 rfl (Blk.cell (Blk.below hk_3 (bt (bt hB_272 hb_274) hb_276)) 0 _ rfl), trivial⟩ ?_
   have hB_282 : Below w.heap.size w w_275 := (bt (bt (bt hB_25 hb_260) hb_274) hb_276)
   refine xc 47 ent47 [.slice A xs.length c, .slice B ys.length d, .bool on] (r3over_any _ _ _ _ xs ys _ (Kd.C_below hx hB_282) (Kd.C_below hy hB_282) (by omega) on) ?_
   rintro e w_283 ⟨A_277, c_278, _, rfl, lz_279, rfl, hl_280, hr_281, hb_284⟩; refine ⟨_, rfl, ?_⟩
   refine xc 46 ent46 [.slice A_100 ((comp (trnF on) xs ys).length) c_101, .slice A_277 ((ys.filterMap (oF on xs)).length) c_278] (refSame_any _ _ _ _ (comp (trnF on) xs ys) (ys.filterMap (oF on xs)) _ (Kd.C_below hC_266 (bt (bt hb_274 hb_276) hb_284)) (Kd.R_C hr_281)) ?_
   rintro e w_285 ⟨rfl, hb_286⟩; refine ⟨_, rfl, ?_⟩
   rw [show decide ((comp (trnF on) xs ys) = (ys.filterMap (oF on xs))) = true from decide_eq_true (over_eq on gx.2 gy.2).symm]
   refine xq 2 [] [(3, .pointer (some ⟨w.heap.size, 0, none⟩)), (6, .pointer (some ⟨w_1.heap.size, 0, none⟩)), (26, .func (.func 106) #[] #[.pointer (some ⟨g_226, 0, none⟩)]), (171, .bool false), (1000000, encD [])] w_285 [] trivial ?_
   refine nl (cf (sk (sq (rg (xq 1 [] [(3, .pointer (some ⟨w.heap.size, 0, none⟩)), (6, .pointer (some ⟨w_1.heap.size, 0, none⟩)), (26, .func (.func 106) #[] #[.pointer (some ⟨g_226, 0, none⟩)]), (27, .pointer (some ⟨w_285.heap.size, 0, none⟩)), (1000000, encD [])] (w_285.alloc (.cells #[.int .i64 0] 3)) [] trivial ?_)))))
   obtain ⟨w_287, hw_291, hb_288, hk_289, hz_290⟩ := new_world w_285 #[.int .i64 0] 3
   rw [hw_291]
   refine xst (.int .i64 0) hk_289 0 #[.int .i64 0] (fun w_292 hg_293 hk_294 hz_295 => ?_)
   have hB_296 : Below w_1.heap.size w_1 w_285 := (bt (bt (bt (bt hB_272 hb_274) hb_276) hb_284) hb_286)
   have hB_297 : Below w_6.heap.size w_6 w_285 := (bt (bt (bt (bt (bt (bt (bt hb_12 hb_20) hb_23) hb_260) hb_274) hb_276) hb_284) hb_286)
   refine nl (sq (sq (rg (xq 1 [] [(3, .pointer (some ⟨w.heap.size, 0, none⟩)), (6, .pointer (some ⟨w_1.heap.size, 0, none⟩)), (27, .pointer (some ⟨w_285.heap.size, 0, none⟩)), (172, .func (.func 106) #[] #[.pointer (some ⟨g_226, 0, none⟩)]), (1000000, encD [])] w_292 [] trivial ?_))))
   refine nl (X_block ?_)
   have hB_298 : Below w_258.heap.size w_258 w_285 := (bt (bt (bt hb_274 hb_276) hb_284) hb_286)
   have hB_299 : Below w_258.heap.size w_258 w_292 := (bg (bt (bt (bt (bt hb_274 hb_276) hb_284) hb_286) hb_288) hg_293 (hB_298).size)
   refine X_rangeFunc (α := At) rfl ent106 (encs := fun x => #[.string x.1, valV x.2]) (aeach_seq xs A_227 c_228 g_226 w w_258 w_292 hxn (bt hB_25 hb_260) hB_299 hk_271 hC_270 (fun i_ hi_ => pairErr_plain (gx.1 _ (by rw [getD_at xs i_ hi_]; exact List.getElem_mem hi_)).1) (fun i_ hi_ => (hbx i_ hi_).2) hT es hA) belowK_t (fun _ => Below.refl _ _) (belowK_b (hB_299).size) (Below.refl _ _) (fun _ => rfl) (by kernel_rfl) (fun pre W_ => okQ xs pre ∧ RX.Blk W_ w_285.heap.size 3 #[.int .i64 (pre.length : Int)] ∧ Below w_258.heap.size w_258 W_) (fun c_ pre W_ => (c_ = Code.ret ∧ ¬ (okQ xs pre))) (OwnFrom.and (RX.ownFrom_pure _) (OwnFrom.and (ownFrom_blk (fun _ => w_285.heap.size) 3 (fun pre => #[.int .i64 (List.length pre : Int)])) (ownFrom_below' w_258 (hB_299).size))) (fun _ => OwnFrom.and (RX.ownFrom_pure _) (RX.ownFrom_pure _)) ⟨okQ_nil _, hk_294, hB_299⟩ (fun x => [(3, .pointer (some ⟨w.heap.size, 0, none⟩)), (6, .pointer (some ⟨w_1.heap.size, 0, none⟩)), (27, .pointer (some ⟨w_285.heap.size, 0, none⟩)), (28, .string x.1), (172, .func (.func 106) #[] #[.pointer (some ⟨g_226, 0, none⟩)])]) ?_ ?_ ?_ ?_
   ·intro lp_ x W_
    refine XI_keep [3, 6, 27, 172, 173, 174] [(3, .pointer (some ⟨w.heap.size, 0, none⟩)), (6, .pointer (some ⟨w_1.heap.size, 0, none⟩)), (27, .pointer (some ⟨w_285.heap.size, 0, none⟩)), (172, .func (.func 106) #[] #[.pointer (some ⟨g_226, 0, none⟩)]), (173, .string x.1), (174, valV x.2)] (by kernel_rfl) ?_
    refine XI_region (by kernel_rfl) (fun _ _ h_ => h_) ?_
    refine xq 1 [] [(3, .pointer (some ⟨w.heap.size, 0, none⟩)), (6, .pointer (some ⟨w_1.heap.size, 0, none⟩)), (27, .pointer (some ⟨w_285.heap.size, 0, none⟩)), (28, .string x.1), (172, .func (.func 106) #[] #[.pointer (some ⟨g_226, 0, none⟩)])] W_ [] trivial ?_
    refine nl ?_
    exact ⟨by kernel_rfl, rfl⟩
   ·rintro lp_ pre x W_r hlp_ ⟨hp1, hk27, hBl⟩ hlen_
    refine XI_block ?_
    refine XI_seq ?_
    refine XI_seq ?_
    refine XI_region (by kernel_rfl) (fun _ _ h_ => h_) ?_
    refine xq 3 [(175, .load (.int .i64 (pre.length : Int))), (176, .load (.slice A xs.length c))] [(3, .pointer (some ⟨w.heap.size, 0, none⟩)), (6, .pointer (some ⟨w_1.heap.size, 0, none⟩)), (27, .pointer (some ⟨w_285.heap.size, 0, none⟩)), (28, .string x.1), (175, .int .i64 (pre.length : Int)), (177, .int .i64 (xs.length : Int))] W_r [LoadsAs Tryd.prog 3 (⟨w_285.heap.size, 0, none⟩) (.int .i64 (pre.length : Int)) W_r, LoadsAs Tryd.prog 45 (⟨w.heap.size, 0, none⟩) (.slice A xs.length c) W_r] ⟨loads1 rfl (Blk.cell hk27 0 _ rfl), loads1 rfl (Blk.cell (Blk.below hk_3 (bt hB_272 hBl)) 0 _ rfl), trivial⟩ ?_
    by_cases c_300 : (pre.length : Int) ≥ (xs.length : Int)
    ·refine xq 10 [(178, .eq (.bool true))] [(3, .pointer (some ⟨w.heap.size, 0, none⟩)), (6, .pointer (some ⟨w_1.heap.size, 0, none⟩)), (27, .pointer (some ⟨w_285.heap.size, 0, none⟩)), (187, .bool true)] W_r [Value.bool (decide ((pre.length : Int) ≥ (xs.length : Int))) = Value.bool true] ⟨congrArg Value.bool (decide_eq_true (c_300)), trivial⟩ ?_
     refine nl (XI_cond true rfl ?_)
     refine XI_seq ?_
     refine XI_region (by kernel_rfl) (fun _ _ h_ => h_) ?_
     have hB_305 : Below w_6.heap.size w_6 W_r := (bt (bt (bt (bt hb_12 hb_20) hb_23) hb_260) hBl)
     refine xst (.bool false) (Blk.below hk_8 hB_305) 0 #[.bool false] (fun w_301 hg_302 hk_303 hz_304 => ?_)
     have hne_306 : w_285.heap.size ≠ w_1.heap.size := Nat.ne_of_gt (Nat.lt_of_lt_of_le (Blk.lt hk_8) (hB_297).size)
     have hk_307 := Blk.other hk27 hg_302 hne_306
     refine nl (XI_ret ?_)
     exact ⟨(keeps_store (Blk.below hk_8 hB_305) hg_302), ⟨rfl, fun h_ => by obtain ⟨h1_, h2_⟩ := okQ_wrong h_; first | omega | exact absurd h2_ (by assumption)⟩⟩
    refine xq 5 [(178, .eq (.bool false)), (181, .load (.slice A xs.length c)), (182, .load (.int .i64 (pre.length : Int)))] [(3, .pointer (some ⟨w.heap.size, 0, none⟩)), (6, .pointer (some ⟨w_1.heap.size, 0, none⟩)), (27, .pointer (some ⟨w_285.heap.size, 0, none⟩)), (179, .bool false), (180, .string x.1), (181, .slice A xs.length c), (182, .int .i64 (pre.length : Int))] W_r [Value.bool (decide ((pre.length : Int) ≥ (xs.length : Int))) = Value.bool false, LoadsAs Tryd.prog 45 (⟨w.heap.size, 0, none⟩) (.slice A xs.length c) W_r, LoadsAs Tryd.prog 3 (⟨w_285.heap.size, 0, none⟩) (.int .i64 (pre.length : Int)) W_r] ⟨congrArg Value.bool (decide_eq_false (c_300)), loads1 rfl (Blk.cell (Blk.below hk_3 (bt hB_272 hBl)) 0 _ rfl), loads1 rfl (Blk.cell hk27 0 _ rfl), trivial⟩ ?_
    obtain ⟨ad_308, ha_309, hc_310⟩ := Kd.atAttr (Kd.C_below hx (bt (bt hB_25 hb_260) hBl)) (i := (pre.length : Int)) (by omega) (by omega)
    replace hc_310 : CellsAt W_r (ad_308.add ((pre.length : Int).toNat * 4)) [.string ((xs.getD pre.length at0).1), .int .i64 ((xs.getD pre.length at0).2.1), .int .i64 ((xs.getD pre.length at0).2.2.1), .string ((xs.getD pre.length at0).2.2.2)] := hc_310
    refine xq 3 [(183, .idx ad_308), (185, .load (.string ((xs.getD pre.length at0).1)))] [(3, .pointer (some ⟨w.heap.size, 0, none⟩)), (6, .pointer (some ⟨w_1.heap.size, 0, none⟩)), (27, .pointer (some ⟨w_285.heap.size, 0, none⟩)), (179, .bool false), (180, .string x.1), (185, .string ((xs.getD pre.length at0).1))] W_r [A = some ad_308, (0 : Int) ≤ (pre.length : Int), (pre.length : Int) < (xs.length : Int), LoadsAs Tryd.prog 9 (ad_308.add ((pre.length : Int).toNat * 4)) (.string ((xs.getD pre.length at0).1)) W_r] ⟨ha_309, (by omega), (by omega), loads1 rfl (elem_cell hc_310 0 _ rfl), trivial⟩ ?_
    by_cases c_311 : x.1 = ((xs.getD pre.length at0).1)
    ·refine xq 2 [(186, .eq (.bool false))] [(3, .pointer (some ⟨w.heap.size, 0, none⟩)), (6, .pointer (some ⟨w_1.heap.size, 0, none⟩)), (27, .pointer (some ⟨w_285.heap.size, 0, none⟩)), (187, .bool false)] W_r [Value.bool (!x.1.toList == ((xs.getD pre.length at0).1).toList) = Value.bool false] ⟨congrArg Value.bool (strNeF (c_311)), trivial⟩ ?_
     refine nl (XI_cond false rfl ?_)
     refine XI_skip ?_
     refine XI_region (by kernel_rfl) (fun _ _ h_ => h_) ?_
     refine xq 2 [(188, .load (.int .i64 (pre.length : Int))), (189, .eq (.int .i64 ((pre.length + 1 : Nat) : Int)))] [(3, .pointer (some ⟨w.heap.size, 0, none⟩)), (6, .pointer (some ⟨w_1.heap.size, 0, none⟩)), (27, .pointer (some ⟨w_285.heap.size, 0, none⟩)), (189, .int .i64 ((pre.length + 1 : Nat) : Int))] W_r [LoadsAs Tryd.prog 3 (⟨w_285.heap.size, 0, none⟩) (.int .i64 (pre.length : Int)) W_r, Value.int .i64 (IntKind.i64.wrap ((pre.length : Int) + 1)) = Value.int .i64 ((pre.length + 1 : Nat) : Int)] ⟨loads1 rfl (Blk.cell hk27 0 _ rfl), (by rw [show (pre.length : Int) + 1 = ((pre.length + 1 : Nat) : Int) from by omega]; exact wr_i64 (by omega) (by omega)), trivial⟩ ?_
     refine xst (.int .i64 ((pre.length + 1 : Nat) : Int)) hk27 0 #[.int .i64 ((pre.length + 1 : Nat) : Int)] (fun w_312 hg_313 hk_314 hz_315 => ?_)
     refine nl ?_
     have hpn : (pre ++ [x]).length = pre.length + 1 := by simp
     have hok_ := okQ_snoc hp1 (show pre.length < xs.length by omega) c_311
     exact ⟨(keeps_store hk27 hg_313), (bel_st hg_313 (hBl).size (hB_298).size), ⟨hok_, by rw [hpn]; exact hk_314, (bg hBl hg_313 (hB_298).size)⟩⟩
    refine xq 2 [(186, .eq (.bool true))] [(3, .pointer (some ⟨w.heap.size, 0, none⟩)), (6, .pointer (some ⟨w_1.heap.size, 0, none⟩)), (27, .pointer (some ⟨w_285.heap.size, 0, none⟩)), (187, .bool true)] W_r [Value.bool (!x.1.toList == ((xs.getD pre.length at0).1).toList) = Value.bool true] ⟨congrArg Value.bool (strNeT (c_311)), trivial⟩ ?_
    refine nl (XI_cond true rfl ?_)
    refine XI_seq ?_
    refine XI_region (by kernel_rfl) (fun _ _ h_ => h_) ?_
    have hB_320 : Below w_6.heap.size w_6 W_r := (bt (bt (bt (bt hb_12 hb_20) hb_23) hb_260) hBl)
    refine xst (.bool false) (Blk.below hk_8 hB_320) 0 #[.bool false] (fun w_316 hg_317 hk_318 hz_319 => ?_)
    have hne_321 : w_285.heap.size ≠ w_1.heap.size := Nat.ne_of_gt (Nat.lt_of_lt_of_le (Blk.lt hk_8) (hB_297).size)
    have hk_322 := Blk.other hk27 hg_317 hne_321
    refine nl (XI_ret ?_)
    exact ⟨(keeps_store (Blk.below hk_8 hB_320) hg_317), ⟨rfl, fun h_ => by obtain ⟨h1_, h2_⟩ := okQ_wrong h_; first | omega | exact absurd h2_ (by assumption)⟩⟩
   ·rintro D_324 pre w_323 hD_325 hS_326 ⟨hp1, hk27, hBl⟩ hK_327
    have hpe : pre.length = xs.length := by rw [hS_326]
    have hds_ : Defs (D_324 :: []) w_323 := Defs.cons hK_327 (fun _ h_ => by cases h_)
    have hdge_ : ∀ D_ ∈ D_324 :: [], w_258.heap.size ≤ D_ := fun D_ hm_ => (List.mem_cons.1 hm_).elim (fun e_ => by have h_ := (hB_299).size; omega) (fun h_ => by cases h_)
    refine sq (rg (xq 3 [(190, .load (.int .i64 (pre.length : Int))), (191, .load (.slice A xs.length c))] [(6, .pointer (some ⟨w_1.heap.size, 0, none⟩)), (190, .int .i64 (pre.length : Int)), (192, .int .i64 (xs.length : Int)), (1000000, encD (D_324 :: []))] w_323 [LoadsAs Tryd.prog 3 (⟨w_285.heap.size, 0, none⟩) (.int .i64 (pre.length : Int)) w_323, LoadsAs Tryd.prog 45 (⟨w.heap.size, 0, none⟩) (.slice A xs.length c) w_323] ⟨loads1 rfl (Blk.cell hk27 0 _ rfl), loads1 rfl (Blk.cell (Blk.below hk_3 (bt hB_272 hBl)) 0 _ rfl), trivial⟩ ?_))
    by_cases c_328 : (pre.length : Int) = (xs.length : Int)
    ·refine xq 1 [(193, .eq (.bool true))] [(6, .pointer (some ⟨w_1.heap.size, 0, none⟩)), (193, .bool true), (1000000, encD (D_324 :: []))] w_323 [Value.bool ((pre.length : Int) == (xs.length : Int)) = Value.bool true] ⟨congrArg Value.bool (beq_iff_eq.2 (c_328)), trivial⟩ ?_
     have hB_333 : Below w_6.heap.size w_6 w_323 := (bt (bt (bt (bt hb_12 hb_20) hb_23) hb_260) hBl)
     refine xst (.bool true) (Blk.below hk_8 hB_333) 0 #[.bool true] (fun w_329 hg_330 hk_331 hz_332 => ?_)
     have hne_334 : w_285.heap.size ≠ w_1.heap.size := Nat.ne_of_gt (Nat.lt_of_lt_of_le (Blk.lt hk_8) (hB_297).size)
     have hk_335 := Blk.other hk27 hg_330 hne_334
     refine nl (X_ret (RX.retM_cell (P := Tryd.prog) (fn := Tryd.f6) (N := 194) (R := R_) (c := 6) (t := 4) (p := ⟨w_1.heap.size, 0, none⟩) (v := .bool true) (ds := (D_324 :: [])) (dsOf_enc (by kernel_rfl)) (List.nodup_cons.2 ⟨fun h_ => (by cases h_), List.nodup_nil⟩) (Defs.store (Blk.below hk_8 hB_333) hg_330 hds_) rfl rfl hk_331 (fun w_ hb_ => loads1 rfl (Blk.cell hb_ 0 _ rfl)) (fun w_ ho_ => hR_ _ _ ?_)))
     have hB_336 : Below w.heap.size w w_329 := (bg (bt (bt hB_25 hb_260) hBl) hg_330 (hb_2).size)
     exact ⟨rfl, Off.below ho_ hB_336 (fun D_ hm_ => Nat.le_trans ((bt hB_25 hb_260)).size (hdge_ D_ hm_))⟩
    exfalso; omega
   rintro D_338 c_ pre w_337 hD_339 hS_340 hix_ hK_341
   obtain ⟨rfl, hno_⟩ := hix_
   exact absurd (okQ_take hS_340) hno_
  refine xq 2 [(48, .eq (.bool true))] [(1, .slice B ys.length d), (2, .bool on), (3, .pointer (some ⟨w.heap.size, 0, none⟩)), (6, .pointer (some ⟨w_1.heap.size, 0, none⟩)), (7, .bool true), (49, .bool true), (1000000, encD [])] w_22 [Value.bool ((chkA true ys : Int) != 0) = Value.bool true] ⟨congrArg Value.bool (bneT (c_24)), trivial⟩ ?_
  refine nl (ct (sq (rg (xq 1 [] [(6, .pointer (some ⟨w_1.heap.size, 0, none⟩)), (50, .bool true), (1000000, encD [])] w_22 [] trivial ?_))))
  refine xst (.bool true) (Blk.below hk_8 (bt (bt hb_12 hb_20) hb_23)) 0 #[.bool true] (fun w_342 hg_343 hk_344 hz_345 => ?_)
  refine nl (X_ret (RX.retM_cell (P := Tryd.prog) (fn := Tryd.f6) (N := 194) (R := R_) (c := 6) (t := 4) (p := ⟨w_1.heap.size, 0, none⟩) (v := .bool true) (ds := []) (dsOf_enc (by kernel_rfl)) List.nodup_nil (Defs.store (Blk.below hk_8 (bt (bt hb_12 hb_20) hb_23)) hg_343 (Defs.below hb_23 (Defs.below hb_20 (Defs.below hb_12 (Defs.below hb_7 (Defs.below hb_2 (fun _ h_ => by cases h_))))))) rfl rfl hk_344 (fun w_ hb_ => loads1 rfl (Blk.cell hb_ 0 _ rfl)) (fun w_ ho_ => hR_ _ _ ?_)))
  have hB_346 : Below w.heap.size w w_342 := (bg (bt (bt (bt (bt hb_2 hb_7) hb_12) hb_20) hb_23) hg_343 (hb_2).size)
  exact ⟨rfl, Off.below ho_ hB_346 (fun D_ hm_ => by cases hm_)⟩
 refine xq 7 [(43, .eq (.bool true))] [(1, .slice B ys.length d), (2, .bool on), (3, .pointer (some ⟨w.heap.size, 0, none⟩)), (6, .pointer (some ⟨w_1.heap.size, 0, none⟩)), (7, .bool true), (49, .bool true), (1000000, encD [])] w_19 [Value.bool ((chkA true xs : Int) != 0) = Value.bool true] ⟨congrArg Value.bool (bneT (c_21)), trivial⟩ ?_
 refine nl (ct (sq (rg (xq 1 [] [(6, .pointer (some ⟨w_1.heap.size, 0, none⟩)), (50, .bool true), (1000000, encD [])] w_19 [] trivial ?_))))
 refine xst (.bool true) (Blk.below hk_8 (bt hb_12 hb_20)) 0 #[.bool true] (fun w_347 hg_348 hk_349 hz_350 => ?_)
 refine nl (X_ret (RX.retM_cell (P := Tryd.prog) (fn := Tryd.f6) (N := 194) (R := R_) (c := 6) (t := 4) (p := ⟨w_1.heap.size, 0, none⟩) (v := .bool true) (ds := []) (dsOf_enc (by kernel_rfl)) List.nodup_nil (Defs.store (Blk.below hk_8 (bt hb_12 hb_20)) hg_348 (Defs.below hb_20 (Defs.below hb_12 (Defs.below hb_7 (Defs.below hb_2 (fun _ h_ => by cases h_)))))) rfl rfl hk_349 (fun w_ hb_ => loads1 rfl (Blk.cell hb_ 0 _ rfl)) (fun w_ ho_ => hR_ _ _ ?_)))
 have hB_351 : Below w.heap.size w w_347 := (bg (bt (bt (bt hb_2 hb_7) hb_12) hb_20) hg_348 (hb_2).size)
 exact ⟨rfl, Off.below ho_ hB_351 (fun D_ hm_ => by cases hm_)⟩
end Go.Proofs.YtkehomiogkoomaaDoor
