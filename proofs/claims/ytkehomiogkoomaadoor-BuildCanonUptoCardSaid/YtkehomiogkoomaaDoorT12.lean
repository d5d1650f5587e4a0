/- BuildCanon returns true. Conditions: sizes, the tables of utf8, the errors' variables. -/
import Derived.Test.YtkehomiogkoomaaDoorT11
set_option linter.unusedVariables false
set_option linter.unusedSimpArgs false
set_option maxRecDepth 100000
namespace Go.Proofs.YtkehomiogkoomaaDoor
open Go Go.RowKit Go.Proofs.YtkehomiogkoomaaDoorW.PrintWords RX
theorem cells_all {cs : List CellA} (h : ∀ i, i < cs.length → chkA false (cs.getD i cell0).attrs = 0) : ∀ c ∈ cs, chkA false c.attrs = 0 := by
 intro c hc
 obtain ⟨i, hi, e⟩ := List.mem_iff_getElem.1 hc
 have h1 := h i hi
 rw [List.getD_eq_getElem?_getD, List.getElem?_eq_getElem hi] at h1
 rw [← e]
 exact h1
set_option maxHeartbeats 4000000 in
theorem bcanon_law (A : Option Addr) (c : Nat) (xs : List OpA) (D : Option Addr) (dc : Nat) (cs : List CellA) (w : World) (hx : kOp.C w A xs.length xs) (hxc : xs.length ≤ c) (hn : xs.length ≤ 1048576) (hz : ∀ i, i < xs.length → opSz (xs.getD i op0)) (hd : kCell.C w D cs.length cs) (hdc : cs.length ≤ dc) (hcs : ∀ i, i < cs.length → (cs.getD i cell0).attrs.length ≤ 100000000 ∧ ∀ j, j < (cs.getD i cell0).attrs.length → ((cs.getD i cell0).attrs.getD j at0).1.size ≤ 100000000 ∧ ((cs.getD i cell0).attrs.getD j at0).2.2.2.size ≤ 100000000) (hT : Tabs w) (es : List Addr) (hO : ErrsO w es) : Calls Tryd.prog 12 #[.slice A xs.length c, .slice D cs.length dc] w fun e w' => e = .returned (.bool true) ∧ Below w.heap.size w w' := by
 refine RX.enter Tryd.func12 rfl 77 rfl [(0, .slice A xs.length c), (1, .slice D cs.length dc)] rfl (by kernel_rfl) (fun R_ hR_ => ?_)
 refine sq (rg (xe0 1 [(0, .slice A xs.length c), (1, .slice D cs.length dc)] ?_))
 refine nl (sq (rg (xc 24 ent24 [] (lives6_any _ (hT.below (Below.refl _ _)) es (hO.below (Below.refl _ _))) ?_)))
 rintro e w_1 ⟨rfl, hb_2⟩; refine ⟨_, rfl, ?_⟩
 refine xr0 1 [(5, .bool true)] [12] ?_
 refine nl (sq (sq (rg (xr0 4 [(15, .bool false), (16, .slice A xs.length c)] [] ?_))))
 refine xc 25 ent25 [.slice A xs.length c] (llarge_any _ _ xs _ (Kd.C_below hx hb_2) hn hz) ?_
 rintro e w_3 ⟨rfl, hb_4⟩; refine ⟨_, rfl, ?_⟩
 refine xr0 2 [(19, .bool (decide (60000 < lgS xs)))] [15, 16, 17] ?_
 by_cases c_5 : decide (60000 < lgS xs) = true
 ·rw [show (decide (60000 < lgS xs) : Bool) = true from by simpa using c_5]
  refine xr0 4 [(23, .bool true)] [19] ?_
  refine nl (ct (sq (rg (xe0 2 [(4, .bool true)] ?_))))
  refine nl (X_ret (rk [.bool true] (hR_ _ _ ?_)))
  exact ⟨rfl, (bt hb_2 hb_4)⟩
 have hlg := of_decide_eq_false (Bool.eq_false_iff.2 c_5)
 obtain ⟨hlg1, hlg2⟩ := lgS_bd xs
 rw [show (decide (60000 < lgS xs) : Bool) = false from by simpa using c_5]
 refine xr0 2 [(19, .bool false), (21, .int .i64 (cs.length : Int))] [] ?_
 by_cases c_6 : (cs.length : Int) > 500
 ·refine xr 2 [(22, .eq (.bool true))] [(23, .bool true)] [19, 21] [Value.bool (decide ((cs.length : Int) > 500)) = Value.bool true] ⟨congrArg Value.bool (decide_eq_true (c_6)), trivial⟩ ?_
  refine nl (ct (sq (rg (xe0 2 [(4, .bool true)] ?_))))
  refine nl (X_ret (rk [.bool true] (hR_ _ _ ?_)))
  exact ⟨rfl, (bt hb_2 hb_4)⟩
 refine xr 2 [(22, .eq (.bool false))] [(23, .bool false)] [19, 21] [Value.bool (decide ((cs.length : Int) > 500)) = Value.bool false] ⟨congrArg Value.bool (decide_eq_false (c_6)), trivial⟩ ?_
 refine nl (cf (sk (sq (rg (xe0 1 [(0, .slice A xs.length c), (1, .slice D cs.length dc), (25, .slice A xs.length c)] ?_)))))
 refine xc 26 ent26 [.slice A xs.length c] (hmake_any _ _ xs _ (Kd.C_below hx (bt hb_2 hb_4)) hxc (by omega) hz (by omega) (hT.below (bt hb_2 hb_4)) es (hO.below (bt hb_2 hb_4))) ?_
 rintro e w_7 ⟨hb_8, ⟨hb0_9, d, A_10, c_11, rfl, hd_12⟩ | ⟨hb0_9, rfl⟩⟩
 ·refine ⟨_, rfl, ?_⟩
  obtain ⟨hcb_d, hcn_d, hcz_d, hcc_d⟩ := can_facts (xs := xs) hb0_9 (by omega) hz (by omega)
  have hD_d := hd_12.c
  refine xr0 1 [(6, pw d 0)] [25, 26] ?_
  refine nl (sq (sq (rg (xr0 2 [(28, .bool false)] [] ?_))))
  refine nl (cf (sk (sq (rg (xr0 1 [(29, pw d 0)] [6, 28] ?_)))))
  refine xc 27 ent27 [.pointer (some ⟨d, 0, none⟩)] (dops_any d (B.can xs) _ hD_d hcb_d hcn_d hcz_d) ?_
  rintro e w_15 ⟨A_13, c_14, rfl, hl_16, hr_17, hb_18⟩; refine ⟨_, rfl, ?_⟩
  refine xr0 1 [(7, .slice A_13 ((B.can xs).length) c_14)] [29, 30] ?_
  refine nl (sq (sq (rg (xr0 1 [(31, .slice A_13 ((B.can xs).length) c_14)] [] ?_))))
  refine xc 66 ent66 [.slice A_13 ((B.can xs).length) c_14] (r6canon_any _ _ (B.can xs) _ (Kd.R_C hr_17) hcn_d hcz_d hcc_d (hT.below (bt (bt (bt hb_2 hb_4) hb_8) hb_18))) ?_
  rintro e w_19 ⟨rfl, hb_20⟩; refine ⟨_, rfl, ?_⟩
  refine xe0 3 [(0, .slice A xs.length c), (1, .slice D cs.length dc), (7, .slice A_13 ((B.can xs).length) c_14), (34, .bool false), (35, .slice A_13 ((B.can xs).length) c_14)] ?_
  have hB_21 : Below w.heap.size w w_19 := (bt (bt (bt (bt hb_2 hb_4) hb_8) hb_18) hb_20)
  refine xc 67 ent67 [.slice A_13 ((B.can xs).length) c_14] (ocan_any _ _ (B.can xs) _ (Kd.R_C (Kd.R_below hr_17 hb_20)) (by omega) hcz_d (hT.below hB_21) es (hO.below hB_21)) ?_
  rintro e w_22 ⟨rfl, hb_23⟩; refine ⟨_, rfl, ?_⟩
  rw [(canP_iff _).2 hcc_d]
  refine xr0 4 [(39, .bool false), (40, .slice A_13 ((B.can xs).length) c_14)] [34, 35, 36] ?_
  have hft := fun o_ (h_ : o_ ∈ xs) => (by obtain ⟨i_, hi_, e_⟩ := List.mem_iff_getElem.1 h_; have h2_ := hz i_ hi_; rw [List.getD_eq_getElem?_getD, List.getElem?_eq_getElem hi_] at h2_; rw [← e_]; exact B.fine_of h2_ : B.fine o_)
  have hgy : (B.bOf (B.can xs)).2 = 0 := by obtain ⟨h1_, h2_, h3_, _⟩ := B.of_can hcc_d; rw [B.bOf_of h1_ h2_ h3_]
  have hlc0 := B.can_len xs
  refine xc 26 ent26 [.slice A_13 ((B.can xs).length) c_14] (hmake_any _ _ (B.can xs) _ (Kd.R_C (Kd.R_below hr_17 (bt hb_20 hb_23))) hl_16 (by have h_ := B.can_len xs; omega) hcz_d (by have h_ := B.can_tx hft; omega) (hT.below (bt hB_21 hb_23)) es (hO.below (bt hB_21 hb_23))) ?_
  rintro e w_24 ⟨hb_25, ⟨hb0_26, e2, A_27, c_28, rfl, hd_29⟩ | ⟨hb0_26, rfl⟩⟩
  ·refine ⟨_, rfl, ?_⟩
   obtain ⟨hcb_e2, hcn_e2, hcz_e2, hcc_e2⟩ := can_facts (xs := (B.can xs)) hb0_26 (by have h_ := B.can_len xs; omega) hcz_d (by have h_ := B.can_tx hft; omega)
   have hD_e2 := hd_29.c
   refine xr0 1 [(41, pw e2 0), (42, .slice A_13 ((B.can xs).length) c_14)] [40] ?_
   refine xc 29 ent29 [.pointer (some ⟨e2, 0, none⟩), .slice A_13 ((B.can xs).length) c_14] (his_any e2 (B.can (B.can xs)) _ _ _ _ hD_e2 hcb_e2 hcn_e2 hcz_e2 (Kd.R_C (Kd.R_below hr_17 (bt (bt hb_20 hb_23) hb_25)))) ?_
   rintro e w_30 ⟨rfl, hb_31⟩; refine ⟨_, rfl, ?_⟩
   rw [(opsEqP_iff _ _).2 (B.can_fix hcc_d)]
   refine xr0 2 [(45, .bool false)] [39, 41, 42, 43] ?_
   refine nl (cf (sk (sq (sq (rg (xr0 3 [(46, .slice D cs.length dc), (47, .int .i64 (cs.length : Int)), (48, .int .i64 0)] [45] ?_))))))
   refine nl (bk (X_loop (ι := Nat) (fun i => [(0, .slice A xs.length c), (1, .slice D cs.length dc), (7, .slice A_13 ((B.can xs).length) c_14), (46, .slice D cs.length dc), (47, .int .i64 (cs.length : Int)), (48, .int .i64 (i : Int))]) (fun i wl => i ≤ cs.length ∧ (∀ j, j < i → chkA false (cs.getD j cell0).attrs = 0) ∧ Below w_30.heap.size w_30 wl) (fun i => cs.length - i) 0 ⟨Nat.zero_le _, fun _ h_ => absurd h_ (Nat.not_lt_zero _), Below.refl _ _⟩ (by kernel_rfl) ?_))
   rintro i wl ⟨hi, hck, HB⟩
   refine sq (X_region ?_)
   by_cases c_32 : (i : Int) < (cs.length : Int)
   ·refine xr 1 [(49, .eq (.bool true))] [(49, .bool true)] [] [Value.bool (decide ((i : Int) < (cs.length : Int))) = Value.bool true] ⟨congrArg Value.bool (decide_eq_true (c_32)), trivial⟩ ?_
    refine nl (sq (ct (sk (sq (bk (sq (X_region ?_)))))))
    have hB_33 : Below w.heap.size w wl := (bt (bt (bt (bt hB_21 hb_23) hb_25) hb_31) HB)
    obtain ⟨ad_34, B_37, c_38, ha_35, hc_36, hl_39, hC_40⟩ := Kd.atCell (Kd.C_below hd hB_33) (i := (i : Int)) (by omega) (by omega)
    replace hc_36 : CellsAt wl (ad_34.add ((i : Int).toNat * 6)) [.int .i32 ((cs.getD i cell0).rune), .string ((cs.getD i cell0).kind), .int .i64 ((cs.getD i cell0).vk), .int .i64 ((cs.getD i cell0).vn), .string ((cs.getD i cell0).vt), .slice B_37 ((cs.getD i cell0).attrs.length) c_38] := hc_36
    replace hl_39 : (cs.getD i cell0).attrs.length ≤ c_38 := hl_39
    replace hC_40 : kAttr.C wl B_37 ((cs.getD i cell0).attrs.length) (cs.getD i cell0).attrs := hC_40
    refine xw 3 [(50, .idx ad_34), (51, .load (.agg #[.int .i32 ((cs.getD i cell0).rune), .string ((cs.getD i cell0).kind), .int .i64 ((cs.getD i cell0).vk), .int .i64 ((cs.getD i cell0).vn), .string ((cs.getD i cell0).vt), .slice B_37 ((cs.getD i cell0).attrs.length) c_38]))] [(9, pw wl.heap.size 0), (51, .agg #[.int .i32 ((cs.getD i cell0).rune), .string ((cs.getD i cell0).kind), .int .i64 ((cs.getD i cell0).vk), .int .i64 ((cs.getD i cell0).vn), .string ((cs.getD i cell0).vt), .slice B_37 ((cs.getD i cell0).attrs.length) c_38])] [49] (wl.alloc (.cells #[.int .i32 0, .string ByteArray.empty, .int .i64 0, .int .i64 0, .string ByteArray.empty, .slice none 0 0] 126)) [D = some ad_34, (0 : Int) ≤ (i : Int), (i : Int) < (cs.length : Int), LoadsAs Tryd.prog 126 (ad_34.add ((i : Int).toNat * 6)) (.agg #[.int .i32 ((cs.getD i cell0).rune), .string ((cs.getD i cell0).kind), .int .i64 ((cs.getD i cell0).vk), .int .i64 ((cs.getD i cell0).vn), .string ((cs.getD i cell0).vt), .slice B_37 ((cs.getD i cell0).attrs.length) c_38]) wl] ⟨ha_35, (by omega), (by omega), loadsE rfl rfl hc_36 0 ⟨by kernel_rfl, by kernel_rfl⟩, trivial⟩ ?_
    obtain ⟨w_41, hw_45, hb_42, hk_43, hz_44⟩ := new_world wl #[.int .i32 0, .string ByteArray.empty, .int .i64 0, .int .i64 0, .string ByteArray.empty, .slice none 0 0] 126
    rw [hw_45]
    refine xst (.agg #[.int .i32 ((cs.getD i cell0).rune), .string ((cs.getD i cell0).kind), .int .i64 ((cs.getD i cell0).vk), .int .i64 ((cs.getD i cell0).vn), .string ((cs.getD i cell0).vt), .slice B_37 ((cs.getD i cell0).attrs.length) c_38]) hk_43 0 #[.int .i32 ((cs.getD i cell0).rune), .string ((cs.getD i cell0).kind), .int .i64 ((cs.getD i cell0).vk), .int .i64 ((cs.getD i cell0).vn), .string ((cs.getD i cell0).vt), .slice B_37 ((cs.getD i cell0).attrs.length) c_38] (fun w_46 hg_47 hk_48 hz_49 => ?_)
    have hB_50 : Below w_15.heap.size w_15 wl := (bt (bt (bt (bt hb_20 hb_23) hb_25) hb_31) HB)
    refine nl (sq (rg (xr 2 [(53, .load (.slice B_37 ((cs.getD i cell0).attrs.length) c_38))] [(53, .slice B_37 ((cs.getD i cell0).attrs.length) c_38)] [9, 51] [LoadsAs Tryd.prog 45 (⟨wl.heap.size, 5, none⟩) (.slice B_37 ((cs.getD i cell0).attrs.length) c_38) w_46] ⟨loads1 rfl (Blk.cell hk_48 5 _ rfl), trivial⟩ ?_)))
    refine xc 33 ent33 [.slice B_37 ((cs.getD i cell0).attrs.length) c_38, .bool false] (r3check_any _ _ (cs.getD i cell0).attrs false _ (Kd.C_below hC_40 (bg hb_42 hg_47 (Nat.le_refl _))) (hcs i (by omega)).2 (hT.below (bg (bt hB_33 hb_42) hg_47 (hB_33).size))) ?_
    rintro e w_51 ⟨rfl, hb_52⟩; refine ⟨_, rfl, ?_⟩
    by_cases c_53 : (chkA false (cs.getD i cell0).attrs : Int) = 0
    ·refine xr 1 [(55, .eq (.bool false))] [(55, .bool false)] [53, 54] [Value.bool ((chkA false (cs.getD i cell0).attrs : Int) != 0) = Value.bool false] ⟨congrArg Value.bool (bneF (c_53)), trivial⟩ ?_
     refine nl (cf (sk (rg (xr 2 [(56, .eq (.int .i64 ((i : Int) + 1)))] [(48, .int .i64 ((i : Int) + 1))] [55] [Value.int .i64 (IntKind.i64.wrap ((i : Int) + 1)) = Value.int .i64 ((i : Int) + 1)] ⟨wr_i64 (by omega) (by omega), trivial⟩ ?_))))
     refine nl ?_
     have hB_54 : Below w_30.heap.size w_30 w_51 := (bt (bg (bt HB hb_42) hg_47 (HB).size) hb_52)
     refine ⟨(i + 1), by kernel_rfl, ?_, ?_⟩
     ·refine ⟨by omega, fun j hj => ?_, hB_54⟩
      by_cases hji : j < i
      ·exact hck j hji
      obtain rfl : j = i := by omega
      omega
     (try dsimp only); omega
    refine xr 1 [(55, .eq (.bool true))] [(55, .bool true)] [53, 54] [Value.bool ((chkA false (cs.getD i cell0).attrs : Int) != 0) = Value.bool true] ⟨congrArg Value.bool (bneT (c_53)), trivial⟩ ?_
    refine nl (ct (sq (rg (xe0 1 [(4, .bool true)] ?_))))
    refine nl (X_ret (rk [.bool true] (hR_ _ _ ?_)))
    have hB_55 : Below w.heap.size w w_51 := (bt (bg (bt hB_33 hb_42) hg_47 (hB_33).size) hb_52)
    exact ⟨rfl, hB_55⟩
   refine xr 1 [(49, .eq (.bool false))] [(49, .bool false)] [] [Value.bool (decide ((i : Int) < (cs.length : Int))) = Value.bool false] ⟨congrArg Value.bool (decide_eq_false (c_32)), trivial⟩ ?_
   refine nl (sq (cf (X_exit (sq (rg (xr0 2 [(58, .slice A xs.length c), (59, .slice D cs.length dc)] [0, 46, 47, 48, 49] ?_))))))
   have hgd := B.bOf_ok hb0_9
   have hck2 := fun j (h_ : j < cs.length) => hck j (by omega)
   have hlc := B.can_len xs
   have hB_62 : Below w.heap.size w wl := (bt (bt (bt (bt hB_21 hb_23) hb_25) hb_31) HB)
   refine xc 68 ent68 [.slice A xs.length c, .slice D cs.length dc] (edited_any _ _ _ _ xs cs _ (Kd.C_below hx hB_62) (Kd.C_below hd hB_62) hdc (by omega) hgd.1 hz (by omega) (fun i_ h_ => ⟨hck2 i_ h_, (hcs i_ h_).1⟩)) ?_
   rintro e w_56 ⟨⟨x, A_58, c_59, he_60, rfl, hC_61⟩ | ⟨he_60, rfl⟩, hb_57⟩
   ·refine ⟨_, rfl, ?_⟩
    refine xr0 5 [(5, .bool true), (10, .slice A_58 x.length c_59)] [58, 59, 60] ?_
    refine nl (sq (sq (rg (xr0 2 [(64, .bool false)] [5] ?_))))
    refine nl (cf (sk (sq (rg (xr0 2 [(66, .slice A_13 ((B.can xs).length) c_14), (67, .slice D cs.length dc)] [1, 7, 64] ?_)))))
    have hB_69 : Below w_15.heap.size w_15 w_56 := (bt (bt (bt (bt (bt hb_20 hb_23) hb_25) hb_31) HB) hb_57)
    refine xc 68 ent68 [.slice A_13 ((B.can xs).length) c_14, .slice D cs.length dc] (edited_any _ _ _ _ (B.can xs) cs _ (Kd.R_C (Kd.R_below hr_17 hB_69)) (Kd.C_below hd (bt hB_62 hb_57)) hdc (by omega) hcb_d hcz_d (by omega) (fun i_ h_ => ⟨hck2 i_ h_, (hcs i_ h_).1⟩)) ?_
    rintro e w_63 ⟨⟨y, A_65, c_66, he_67, rfl, hC_68⟩ | ⟨he_67, rfl⟩, hb_64⟩
    ·refine ⟨_, rfl, ?_⟩
     have hxy := B.ed_can hb0_9 (cells_all hck2) he_60
     rw [he_67] at hxy
     obtain rfl := Option.some.inj hxy.symm
     refine xe0 5 [(5, .bool true), (10, .slice A_58 x.length c_59), (11, .slice A_65 x.length c_66)] ?_
     refine nl (sq (rg (xe0 4 [(72, .bool true), (73, .slice A_58 x.length c_59), (74, .slice A_65 x.length c_66)] ?_)))
     refine xc 69 ent69 [.slice A_58 x.length c_59, .slice A_65 x.length c_66] (alike_same _ _ _ _ x _ (Kd.C_below hC_61 hb_64) hC_68) ?_
     rintro e w_70 ⟨rfl, hb_71⟩; refine ⟨_, rfl, ?_⟩
     refine xe0 2 [(4, .bool true)] ?_
     refine nl (X_ret (rk [.bool true] (hR_ _ _ ?_)))
     exact ⟨rfl, (bt (bt (bt hB_62 hb_57) hb_64) hb_71)⟩
    rw [B.ed_can hb0_9 (cells_all hck2) he_60] at he_67; cases he_67
   refine ⟨_, rfl, ?_⟩
   refine xr0 5 [(5, .bool false), (10, .slice none 0 0)] [58, 59, 60] ?_
   refine nl (sq (sq (rg (xr0 2 [(64, .bool true)] [5] ?_))))
   refine nl (ct (sq (rg (xe0 1 [(4, .bool true)] ?_))))
   refine nl (X_ret (rk [.bool true] (hR_ _ _ ?_)))
   exact ⟨rfl, (bt hB_62 hb_57)⟩
  exact absurd hgy hb0_26
 refine ⟨_, rfl, ?_⟩
 refine xr0 1 [(6, .pointer none)] [25, 26] ?_
 refine nl (sq (sq (rg (xr0 2 [(28, .bool true)] [] ?_))))
 refine nl (ct (sq (rg (xe0 1 [(4, .bool true)] ?_))))
 refine nl (X_ret (rk [.bool true] (hR_ _ _ ?_)))
 exact ⟨rfl, (bt (bt hb_2 hb_4) hb_8)⟩
end Go.Proofs.YtkehomiogkoomaaDoor
