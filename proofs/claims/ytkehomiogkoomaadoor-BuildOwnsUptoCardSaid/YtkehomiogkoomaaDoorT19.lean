/- BuildOwns returns true. Conditions: sizes, the tables of utf8, the errors' variables. -/
import Derived.Test.YtkehomiogkoomaaDoorT17
import Derived.Test.YtkehomiogkoomaaDoorMixC
set_option linter.unusedVariables false
set_option linter.unusedSimpArgs false
set_option maxRecDepth 100000
namespace Go.Proofs.YtkehomiogkoomaaDoor
open Go Go.RowKit Go.Proofs.YtkehomiogkoomaaDoorW.PrintWords RX
def bz : OpA := ⟨1, ⟨#[122]⟩, 0, 0, ByteArray.empty, 0, []⟩
theorem bz_len : opLen bz = 1 := by
 have h : U.sc bz.text = [122] := (U.utf_of (rs := [122]) (fun r hr => by rw [List.mem_singleton.1 hr]; unfold U.vr; omega) (by kernel_rfl)).2
 show (if bz.kind = 1 then ((U.sc bz.text).length : Int) else _) = 1
 rw [h]; rfl
theorem bz_facts (xs : List OpA) (hz : ∀ i, i < xs.length → opSz (xs.getD i op0)) : ([bz] ++ xs).length = xs.length + 1 ∧ B.txS ([bz] ++ xs) = 1 + B.txS xs ∧ ∀ i, i < ([bz] ++ xs).length → opSz (([bz] ++ xs).getD i op0) := by
 refine ⟨by rw [List.length_append, List.length_singleton]; omega, by rw [B.txS_append]; rfl, fun i hi => ?_⟩
 rw [List.length_append, List.length_singleton] at hi
 cases i with
 | zero => exact sz_lit (by decide)
 | succ i => exact hz i (by omega)
theorem bz_sums (xs : List OpA) : sB ([bz] ++ xs) = sB xs ∧ sR ([bz] ++ xs) = 1 + sR xs := by
 have h1 : sB ([bz] ++ xs) = opB bz + sB xs := rfl
 have h2 : sR ([bz] ++ xs) = opR bz + sR xs := rfl
 have h3 : opB bz = 0 := if_neg (by decide)
 have h4 : opR bz = opLen bz := if_neg (by decide)
 rw [h1, h2, h3, h4, bz_len]
 exact ⟨Int.zero_add _, rfl⟩
theorem can_ne {xs zs : List OpA} (hzs : [bz] ++ xs = zs) (h : (B.bOf xs).2 = 0) (h2 : (B.bOf zs).2 = 0) : B.can xs ≠ B.can zs := by
 intro e
 subst hzs
 obtain ⟨a1, a2, a3⟩ := B.bOf_ok h
 obtain ⟨b1, b2, b3⟩ := B.bOf_ok h2
 obtain ⟨_, _, c1⟩ := B.can_ok a1 a2 a3
 obtain ⟨_, _, c2⟩ := B.can_ok b1 b2 b3
 rw [e, c2, (bz_sums xs).1, (bz_sums xs).2] at c1
 omega
set_option maxHeartbeats 4000000 in
theorem bowns_law (A : Option Addr) (c : Nat) (xs : List OpA) (w : World) (hx : kOp.C w A xs.length xs) (hxc : xs.length ≤ c) (hn : xs.length ≤ 1048576) (hz : ∀ i, i < xs.length → opSz (xs.getD i op0)) (hT : Tabs w) (es : List Addr) (hO : ErrsO w es) : Calls Tryd.prog 11 #[.slice A xs.length c] w fun e w' => e = .returned (.bool true) ∧ Below w.heap.size w w' := by
 refine RX.enter Tryd.func11 rfl 71 rfl [(0, .slice A xs.length c)] rfl (by kernel_rfl) (fun R_ hR_ => ?_)
 refine sq (rg (xe0 1 [(0, .slice A xs.length c)] ?_))
 refine nl (sq (rg (xc 24 ent24 [] (lives6_any _ (hT.below (Below.refl _ _)) es (hO.below (Below.refl _ _))) ?_)))
 rintro e w_1 ⟨rfl, hb_2⟩; refine ⟨_, rfl, ?_⟩
 refine xr0 1 [(3, .bool true)] [12] ?_
 refine nl (sq (sq (rg (xr0 4 [(15, .bool false), (16, .slice A xs.length c)] [] ?_))))
 refine xc 25 ent25 [.slice A xs.length c] (llarge_any _ _ xs _ (Kd.C_below hx hb_2) hn hz) ?_
 rintro e w_3 ⟨rfl, hb_4⟩; refine ⟨_, rfl, ?_⟩
 refine xr0 1 [(18, .bool (decide (60000 < lgS xs)))] [15, 16, 17] ?_
 refine nl ?_
 by_cases c_5 : decide (60000 < lgS xs) = true
 ·rw [show (decide (60000 < lgS xs) : Bool) = true from by simpa using c_5]
  refine ct (sq (rg (xe0 2 [(2, .bool true)] ?_)))
  refine nl (X_ret (rk [.bool true] (hR_ _ _ ?_)))
  exact ⟨rfl, (bt hb_2 hb_4)⟩
 have hlg := of_decide_eq_false (Bool.eq_false_iff.2 c_5)
 obtain ⟨hlg1, hlg2⟩ := lgS_bd xs
 rw [show (decide (60000 < lgS xs) : Bool) = false from by simpa using c_5]
 refine cf (sk (sq (rg (xr0 1 [(20, .slice A xs.length c)] [3, 18] ?_))))
 refine xc 26 ent26 [.slice A xs.length c] (hmake_any _ _ xs _ (Kd.C_below hx (bt hb_2 hb_4)) hxc (by omega) hz (by omega) (hT.below (bt hb_2 hb_4)) es (hO.below (bt hb_2 hb_4))) ?_
 rintro e w_6 ⟨hb_7, ⟨hb0_8, d, A_9, c_10, rfl, hd_11⟩ | ⟨hb0_8, rfl⟩⟩
 ·refine ⟨_, rfl, ?_⟩
  obtain ⟨hcb_d, hcn_d, hcz_d, hcc_d⟩ := can_facts (xs := xs) hb0_8 (by omega) hz (by omega)
  have hD_d := hd_11.c
  refine xr0 1 [(4, pw d 0)] [20, 21] ?_
  refine nl (sq (sq (rg (xe0 2 [(0, .slice A xs.length c), (4, pw d 0), (23, .bool false)] ?_))))
  refine nl (cf (sk (sq (rg (xr0 1 [(25, .slice A xs.length c)] [23] ?_)))))
  refine xc 59 ent59 [.slice A xs.length c] (r6of_any _ _ xs w _ (bt (bt hb_2 hb_4) hb_7) hx (by omega) hz (by omega) (hT.below (bt (bt hb_2 hb_4) hb_7))) ?_
  rintro e w_12 ⟨hb_13, ⟨hb0_14, A_15, c_16, rfl, hm_17⟩ | ⟨hb0_14, rfl⟩⟩
  ·refine ⟨_, rfl, ?_⟩
   refine xr0 7 [(5, .slice A_15 ((B.can xs).length) c_16), (7, .int .i64 0)] [25, 26] ?_
   refine nl (sq (rg (xr0 1 [(30, pw d 0)] [] ?_)))
   refine xc 27 ent27 [.pointer (some ⟨d, 0, none⟩)] (dops_any d (B.can xs) _ (hD_d.below hb_13) hcb_d hcn_d hcz_d) ?_
   rintro e w_20 ⟨A_18, c_19, rfl, hl_21, hr_22, hb_23⟩; refine ⟨_, rfl, ?_⟩
   refine xr0 1 [(31, .slice A_18 ((B.can xs).length) c_19), (32, pw d 0)] [30] ?_
   refine xc 27 ent27 [.pointer (some ⟨d, 0, none⟩)] (dops_any d (B.can xs) _ (hD_d.below (bt hb_13 hb_23)) hcb_d hcn_d hcz_d) ?_
   rintro e w_26 ⟨A_24, c_25, rfl, hl_27, hr_28, hb_29⟩; refine ⟨_, rfl, ?_⟩
   refine xr0 2 [(8, .slice A_18 ((B.can xs).length) c_19), (9, .slice A_24 ((B.can xs).length) c_25)] [31, 32, 33] ?_
   refine nl (sq (rg (xe0 1 [(0, .slice A xs.length c), (4, pw d 0), (5, .slice A_15 ((B.can xs).length) c_16), (7, .int .i64 0), (8, .slice A_18 ((B.can xs).length) c_19), (9, .slice A_24 ((B.can xs).length) c_25), (34, .slice A xs.length c)] ?_)))
   have hB_36 : Below w.heap.size w w_26 := (bt (bt (bt (bt (bt hb_2 hb_4) hb_7) hb_13) hb_23) hb_29)
   refine xc 26 ent26 [.slice A xs.length c] (hmake_any _ _ xs _ (Kd.C_below hx hB_36) hxc (by omega) hz (by omega) (hT.below hB_36) es (hO.below hB_36)) ?_
   rintro e w_30 ⟨hb_31, ⟨hb0_32, e2, A_33, c_34, rfl, hd_35⟩ | ⟨hb0_32, rfl⟩⟩
   ·refine ⟨_, rfl, ?_⟩
    obtain ⟨hcb_e2, hcn_e2, hcz_e2, hcc_e2⟩ := can_facts (xs := xs) hb0_32 (by omega) hz (by omega)
    have hD_e2 := hd_35.c
    refine xc 64 ent64 [.string (⟨#[122]⟩ : ByteArray)] (ltext_any _ _) ?_
    rintro e w_37 ⟨rfl, hb_38⟩; refine ⟨_, rfl, ?_⟩
    refine xw 1 [] [(35, pw e2 0), (37, .slice (some ⟨w_37.heap.size, 0, none⟩) 1 1)] [34, 36] (w_37.alloc (.cells #[.int .i64 bz.kind, .string bz.text, .int .i64 bz.vk, .int .i64 bz.vn, .string bz.vt, .int .i64 bz.count, .slice none 0 0] 47)) [] trivial ?_
    obtain ⟨w_39, hw_43, hb_40, hk_41, hz_42⟩ := new_world w_37 #[.int .i64 bz.kind, .string bz.text, .int .i64 bz.vk, .int .i64 bz.vn, .string bz.vt, .int .i64 bz.count, .slice none 0 0] 47
    rw [hw_43]
    refine xr0 1 [(38, .slice A xs.length c)] [0] ?_
    have hR_44 := Kd.R_litB (kRaw 7) (W := w_37) (e := 47) (cs := #[.int .i64 bz.kind, .string bz.text, .int .i64 bz.vk, .int .i64 bz.vn, .string bz.vt, .int .i64 bz.count, .slice none 0 0]) [[.int .i64 bz.kind, .string bz.text, .int .i64 bz.vk, .int .i64 bz.vn, .string bz.vt, .int .i64 bz.count, .slice none 0 0]] hk_41 (rawL1 _ rfl (by kernel_rfl)) (Nat.le_of_ble_eq_true (by kernel_rfl))
    have hm_45 : MixK kOp op0 47 w_37.heap.size w w_39 (some ⟨w_37.heap.size, 0, none⟩) 1 1 [bz] := MixK.one (d := kOp) (x := bz) hR_44 (kOp_K_of (x := bz) (Nat.zero_le _) ⟨rfl, by decide, fun h => absurd h (by decide)⟩) (Nat.le_refl _)
    obtain ⟨vs_46, hC_47, hK_48⟩ := Kd.C_raw (d := kOp) op0 hx
    refine XL_appendMixK (d := kOp) (W0 := w) (B := w_37.heap.size) (c' := c) (m := xs.length) op0 rfl rfl rfl 47 (.agg #[.int .i64 0, .string ByteArray.empty, .int .i64 0, .int .i64 0, .string ByteArray.empty, .int .i64 0, .slice none 0 0]) 88 Tryd.underlying37 info47 rfl (by decide) (by omega) [bz] xs vs_46 (by kernel_rfl) hm_45 (Kd.C_below hC_47 (bt (bt (bt hB_36 hb_31) hb_38) hb_40)) rfl hK_48 (hb_40).size (by simp only [List.length_singleton]; omega) ?_
    intro A_49 c_50 w_51 hm_52 hg_53 hl_54
    obtain ⟨zs, hzs⟩ : ∃ z_, [bz] ++ xs = z_ := ⟨_, rfl⟩; rw [hzs] at hm_52 ⊢
    obtain ⟨hzl, hzt, hzz⟩ := bz_facts xs hz; rw [hzs] at hzl hzt hzz
    have hB_58 : Below w.heap.size w w_51 := (bgo (bt (bt (bt hB_36 hb_31) hb_38) hb_40) hg_53 hl_54 ((bt (bt hB_36 hb_31) hb_38)).size)
    have hC_57 : kOp.C w_51 A_49 zs.length zs := MixK.C hm_52 hB_58
    refine xc 26 ent26 [.slice A_49 zs.length c_50] (hmake_any _ _ zs _ hC_57 (MixK.len hm_52).2 (by omega) hzz (by omega) (hT.below hB_58) es (hO.below hB_58)) ?_
    rintro e w_59 ⟨hb_60, ⟨hb0_61, f2, A_62, c_63, rfl, hd_64⟩ | ⟨hb0_61, rfl⟩⟩
    ·refine ⟨_, rfl, ?_⟩
     obtain ⟨hcb_f2, hcn_f2, hcz_f2, hcc_f2⟩ := can_facts (xs := zs) hb0_61 (by omega) hzz (by omega)
     have hD_f2 := hd_64.c
     refine xr0 2 [(10, pw e2 0), (11, pw f2 0)] [35, 37, 38, 39, 40] ?_
     refine nl (sq (rg (xr0 1 [(41, .slice A_18 ((B.can xs).length) c_19)] [8] ?_)))
     have hsh_67 : ShapeO 47 71 (fun g_ => (w_12.heap.size ≤ g_ ∧ g_ < w_20.heap.size) ∨ w_59.heap.size ≤ g_) w_20 A_18 (B.can xs).length c_19 0 := shapeO_op hr_22 (fun j_ h_ => by have h2_ := (hcz_d j_ h_).2.2.1; omega) (fun g_ h1_ h2_ => .inl ⟨h1_, h2_⟩)
     have hB_69 : Below w_20.heap.size w_20 w_59 := (bt (bgo (bt (bt (bt hb_29 hb_31) hb_38) hb_40) hg_53 hl_54 ((bt (bt hb_29 hb_31) hb_38)).size) hb_60)
     refine xc 61 ent61 [.slice A_18 ((B.can xs).length) c_19] (overOps_any _ _ _ (fun g_ => (w_12.heap.size ≤ g_ ∧ g_ < w_20.heap.size) ∨ w_59.heap.size ≤ g_) _ (fun _ h_ => .inr h_) (ShapeO.below hB_69 hsh_67) (by omega)) ?_
     rintro e w_65 ⟨rfl, hs_66⟩; refine ⟨_, rfl, ?_⟩
     have hB_70 : Below w_12.heap.size w_12 w_59 := (bt (bgo (bt (bt (bt (bt hb_23 hb_29) hb_31) hb_38) hb_40) hg_53 hl_54 ((bt (bt (bt hb_23 hb_29) hb_31) hb_38)).size) hb_60)
     have hS_68 : Spoilt w_12.heap.size w_20.heap.size w_59 w_65 := SpoilO.spoilt hs_66 (fun g_ h1_ h2_ => h2_.resolve_right (fun h3_ => absurd h1_ (Nat.not_lt.2 h3_))) (hB_70).size
     have hB_71 : Below w_30.heap.size w_30 w_59 := (bt (bgo (bt hb_38 hb_40) hg_53 hl_54 (hb_38).size) hb_60)
     have hd_72 := DeltaR.spoilt (hd_35.below hB_71) hS_68 (hb_29).size
     have hD_73 := hd_72.c
     have hB_74 : Below w_20.heap.size w_20 w_51 := (bgo (bt (bt (bt hb_29 hb_31) hb_38) hb_40) hg_53 hl_54 ((bt (bt hb_29 hb_31) hb_38)).size)
     have hd_75 := DeltaR.spoilt hd_64 hS_68 (hB_74).size
     have hD_76 := hd_75.c
     have hB_78 : Below w_26.heap.size w_26 w_59 := (bt (bgo (bt (bt hb_31 hb_38) hb_40) hg_53 hl_54 ((bt hb_31 hb_38)).size) hb_60)
     have hr_77 := Kd.R_spoilt (Kd.R_below hr_28 hB_78) hS_68 (Nat.le_refl _)
     refine nl (sq (sq (rg (xr0 5 [(45, .bool false), (46, .slice A_24 ((B.can xs).length) c_25), (47, .slice A_15 ((B.can xs).length) c_16)] [7, 9, 41, 42] ?_))))
     have hB_79 : Below w.heap.size w w_65 := (bsp (bt hB_58 hb_60) hS_68 ((bt (bt (bt hb_2 hb_4) hb_7) hb_13)).size)
     refine xc 65 ent65 [.slice A_24 ((B.can xs).length) c_25, .slice A_15 ((B.can xs).length) c_16] (r6same_any _ _ _ _ (B.can xs) (B.can xs) _ (Kd.R_C hr_77) (MixK.C (MixK.below hm_17 (bsp hB_70 hS_68 (Nat.le_refl _))) hB_79)) ?_
     rintro e w_80 ⟨rfl, hb_81⟩; refine ⟨_, rfl, ?_⟩
     rw [(opsEqP_iff _ _).2 rfl]
     refine xe0 5 [(4, pw d 0), (10, pw e2 0), (11, pw f2 0), (51, .bool false), (52, pw d 0), (53, .slice A_15 ((B.can xs).length) c_16)] ?_
     have hB_82 : Below w_6.heap.size w_6 w_37 := (bt (bt (bt (bt hb_13 hb_23) hb_29) hb_31) hb_38)
     have hB_83 : Below w_6.heap.size w_6 w_80 := (bt (bsp (bt (bgo (bt (bt (bt (bt (bt hb_13 hb_23) hb_29) hb_31) hb_38) hb_40) hg_53 hl_54 (hB_82).size) hb_60) hS_68 (hb_13).size) hb_81)
     have hB_84 : Below w_12.heap.size w_12 w_80 := (bt (bsp hB_70 hS_68 (Nat.le_refl _)) hb_81)
     refine xc 29 ent29 [.pointer (some ⟨d, 0, none⟩), .slice A_15 ((B.can xs).length) c_16] (his_any d (B.can xs) (B.can xs) _ _ _ (hD_d.below hB_83) hcb_d hcn_d hcz_d (MixK.C (MixK.below hm_17 hB_84) (bt hB_79 hb_81))) ?_
     rintro e w_85 ⟨rfl, hb_86⟩; refine ⟨_, rfl, ?_⟩
     rw [(opsEqP_iff _ _).2 rfl]
     refine xr0 5 [(57, .bool false), (58, pw d 0), (59, pw e2 0)] [10, 51, 52, 53, 54] ?_
     refine xc 62 ent62 [.pointer (some ⟨d, 0, none⟩), .pointer (some ⟨e2, 0, none⟩)] (dsame_any d e2 (B.can xs) (B.can xs) _ (hD_d.below (bt hB_83 hb_86)) (hD_73.below (bt hb_81 hb_86)) hcb_d hcn_d hcz_d hcb_e2 hcn_e2 hcz_e2) ?_
     rintro e w_87 ⟨rfl, hb_88⟩; refine ⟨_, rfl, ?_⟩
     rw [(opsEqP_iff _ _).2 rfl]
     refine xr0 2 [(62, .bool false)] [57, 58, 59, 60] ?_
     refine nl (cf (sk (sq (rg (xe0 5 [(65, .bool false), (66, pw d 0), (67, pw f2 0)] ?_)))))
     refine xc 62 ent62 [.pointer (some ⟨d, 0, none⟩), .pointer (some ⟨f2, 0, none⟩)] (dsame_any d f2 (B.can xs) (B.can zs) _ (hD_d.below (bt (bt hB_83 hb_86) hb_88)) (hD_76.below (bt (bt hb_81 hb_86) hb_88)) hcb_d hcn_d hcz_d hcb_f2 hcn_f2 hcz_f2) ?_
     rintro e w_89 ⟨rfl, hb_90⟩; refine ⟨_, rfl, ?_⟩
     rw [(opsEqP_false _ _).2 (can_ne hzs hb0_8 hb0_61)]
     refine xe0 3 [(2, .bool true)] ?_
     refine nl (X_ret (rk [.bool true] (hR_ _ _ ?_)))
     have hB_91 : Below w.heap.size w w_89 := (bt (bt (bt (bt hB_79 hb_81) hb_86) hb_88) hb_90)
     exact ⟨rfl, hB_91⟩
    refine ⟨_, rfl, ?_⟩
    refine xr0 2 [(10, pw e2 0), (11, .pointer none)] [35, 37, 38, 39, 40] ?_
    refine nl (sq (rg (xr0 1 [(41, .slice A_18 ((B.can xs).length) c_19)] [8] ?_)))
    have hsh_94 : ShapeO 47 71 (fun g_ => (w_12.heap.size ≤ g_ ∧ g_ < w_20.heap.size) ∨ w_59.heap.size ≤ g_) w_20 A_18 (B.can xs).length c_19 0 := shapeO_op hr_22 (fun j_ h_ => by have h2_ := (hcz_d j_ h_).2.2.1; omega) (fun g_ h1_ h2_ => .inl ⟨h1_, h2_⟩)
    have hB_96 : Below w_20.heap.size w_20 w_59 := (bt (bgo (bt (bt (bt hb_29 hb_31) hb_38) hb_40) hg_53 hl_54 ((bt (bt hb_29 hb_31) hb_38)).size) hb_60)
    refine xc 61 ent61 [.slice A_18 ((B.can xs).length) c_19] (overOps_any _ _ _ (fun g_ => (w_12.heap.size ≤ g_ ∧ g_ < w_20.heap.size) ∨ w_59.heap.size ≤ g_) _ (fun _ h_ => .inr h_) (ShapeO.below hB_96 hsh_94) (by omega)) ?_
    rintro e w_92 ⟨rfl, hs_93⟩; refine ⟨_, rfl, ?_⟩
    have hB_97 : Below w_12.heap.size w_12 w_59 := (bt (bgo (bt (bt (bt (bt hb_23 hb_29) hb_31) hb_38) hb_40) hg_53 hl_54 ((bt (bt (bt hb_23 hb_29) hb_31) hb_38)).size) hb_60)
    have hS_95 : Spoilt w_12.heap.size w_20.heap.size w_59 w_92 := SpoilO.spoilt hs_93 (fun g_ h1_ h2_ => h2_.resolve_right (fun h3_ => absurd h1_ (Nat.not_lt.2 h3_))) (hB_97).size
    have hB_98 : Below w_30.heap.size w_30 w_59 := (bt (bgo (bt hb_38 hb_40) hg_53 hl_54 (hb_38).size) hb_60)
    have hd_99 := DeltaR.spoilt (hd_35.below hB_98) hS_95 (hb_29).size
    have hD_100 := hd_99.c
    have hB_102 : Below w_26.heap.size w_26 w_59 := (bt (bgo (bt (bt hb_31 hb_38) hb_40) hg_53 hl_54 ((bt hb_31 hb_38)).size) hb_60)
    have hr_101 := Kd.R_spoilt (Kd.R_below hr_28 hB_102) hS_95 (Nat.le_refl _)
    refine nl (sq (sq (rg (xr0 5 [(45, .bool false), (46, .slice A_24 ((B.can xs).length) c_25), (47, .slice A_15 ((B.can xs).length) c_16)] [7, 9, 41, 42] ?_))))
    have hB_103 : Below w.heap.size w w_92 := (bsp (bt hB_58 hb_60) hS_95 ((bt (bt (bt hb_2 hb_4) hb_7) hb_13)).size)
    refine xc 65 ent65 [.slice A_24 ((B.can xs).length) c_25, .slice A_15 ((B.can xs).length) c_16] (r6same_any _ _ _ _ (B.can xs) (B.can xs) _ (Kd.R_C hr_101) (MixK.C (MixK.below hm_17 (bsp hB_97 hS_95 (Nat.le_refl _))) hB_103)) ?_
    rintro e w_104 ⟨rfl, hb_105⟩; refine ⟨_, rfl, ?_⟩
    rw [(opsEqP_iff _ _).2 rfl]
    refine xe0 5 [(4, pw d 0), (10, pw e2 0), (11, .pointer none), (51, .bool false), (52, pw d 0), (53, .slice A_15 ((B.can xs).length) c_16)] ?_
    have hB_106 : Below w_6.heap.size w_6 w_37 := (bt (bt (bt (bt hb_13 hb_23) hb_29) hb_31) hb_38)
    have hB_107 : Below w_6.heap.size w_6 w_104 := (bt (bsp (bt (bgo (bt (bt (bt (bt (bt hb_13 hb_23) hb_29) hb_31) hb_38) hb_40) hg_53 hl_54 (hB_106).size) hb_60) hS_95 (hb_13).size) hb_105)
    have hB_108 : Below w_12.heap.size w_12 w_104 := (bt (bsp hB_97 hS_95 (Nat.le_refl _)) hb_105)
    refine xc 29 ent29 [.pointer (some ⟨d, 0, none⟩), .slice A_15 ((B.can xs).length) c_16] (his_any d (B.can xs) (B.can xs) _ _ _ (hD_d.below hB_107) hcb_d hcn_d hcz_d (MixK.C (MixK.below hm_17 hB_108) (bt hB_103 hb_105))) ?_
    rintro e w_109 ⟨rfl, hb_110⟩; refine ⟨_, rfl, ?_⟩
    rw [(opsEqP_iff _ _).2 rfl]
    refine xr0 5 [(57, .bool false), (58, pw d 0), (59, pw e2 0)] [10, 51, 52, 53, 54] ?_
    refine xc 62 ent62 [.pointer (some ⟨d, 0, none⟩), .pointer (some ⟨e2, 0, none⟩)] (dsame_any d e2 (B.can xs) (B.can xs) _ (hD_d.below (bt hB_107 hb_110)) (hD_100.below (bt hb_105 hb_110)) hcb_d hcn_d hcz_d hcb_e2 hcn_e2 hcz_e2) ?_
    rintro e w_111 ⟨rfl, hb_112⟩; refine ⟨_, rfl, ?_⟩
    rw [(opsEqP_iff _ _).2 rfl]
    refine xr0 2 [(62, .bool false)] [57, 58, 59, 60] ?_
    refine nl (cf (sk (sq (rg (xe0 9 [(2, .bool true)] ?_)))))
    refine nl (X_ret (rk [.bool true] (hR_ _ _ ?_)))
    have hB_113 : Below w.heap.size w w_111 := (bt (bt (bt hB_103 hb_105) hb_110) hb_112)
    exact ⟨rfl, hB_113⟩
   exact absurd hb0_8 hb0_32
  exact absurd hb0_8 hb0_14
 refine ⟨_, rfl, ?_⟩
 refine xr0 1 [(4, .pointer none)] [20, 21] ?_
 refine nl (sq (sq (rg (xe0 2 [(0, .slice A xs.length c), (4, .pointer none), (23, .bool true)] ?_))))
 refine nl (ct (sq (rg (xe0 1 [(2, .bool true)] ?_))))
 refine nl (X_ret (rk [.bool true] (hR_ _ _ ?_)))
 exact ⟨rfl, (bt (bt hb_2 hb_4) hb_7)⟩
end Go.Proofs.YtkehomiogkoomaaDoor
