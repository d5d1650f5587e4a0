/- BuildOf returns true. Conditions: sizes, the tables of utf8, the errors' variables. -/
import Derived.Test.YtkehomiogkoomaaDoorT17
import Derived.Test.YtkehomiogkoomaaDoorNum
set_option linter.unusedVariables false
set_option linter.unusedSimpArgs false
set_option maxRecDepth 100000
namespace Go.Proofs.YtkehomiogkoomaaDoor
open Go Go.RowKit Go.Proofs.YtkehomiogkoomaaDoorW.PrintWords RX
set_option maxHeartbeats 4000000 in
theorem bbof_law (A : Option Addr) (c : Nat) (xs : List OpA) (w : World) (hx : kOp.C w A xs.length xs) (hxc : xs.length ≤ c) (hn : xs.length ≤ 1048576) (hz : ∀ i, i < xs.length → opSz (xs.getD i op0)) (hT : Tabs w) (es : List Addr) (hE : Errs w es) : Calls Tryd.prog 10 #[.slice A xs.length c] w fun e w' => e = .returned (.bool true) ∧ Below w.heap.size w w' := by
 have hO : ErrsO w es := hE.on rfl
 refine RX.enter Tryd.func10 rfl 71 rfl [(0, .slice A xs.length c)] rfl (by kernel_rfl) (fun R_ hR_ => ?_)
 refine sq (rg (xe0 1 [(0, .slice A xs.length c)] ?_))
 refine nl (sq (rg (xc 24 ent24 [] (lives6_any _ (hT.below (Below.refl _ _)) es (hO.below (Below.refl _ _))) ?_)))
 rintro e w_1 ⟨rfl, hb_2⟩; refine ⟨_, rfl, ?_⟩
 refine xr0 1 [(3, .bool true)] [11] ?_
 refine nl (sq (sq (rg (xr0 4 [(14, .bool false), (15, .slice A xs.length c)] [] ?_))))
 refine xc 25 ent25 [.slice A xs.length c] (llarge_any _ _ xs _ (Kd.C_below hx hb_2) hn hz) ?_
 rintro e w_3 ⟨rfl, hb_4⟩; refine ⟨_, rfl, ?_⟩
 refine xr0 1 [(17, .bool (decide (60000 < lgS xs)))] [14, 15, 16] ?_
 refine nl ?_
 by_cases c_5 : decide (60000 < lgS xs) = true
 ·rw [show (decide (60000 < lgS xs) : Bool) = true from by simpa using c_5]
  refine ct (sq (rg (xe0 2 [(2, .bool true)] ?_)))
  refine nl (X_ret (rk [.bool true] (hR_ _ _ ?_)))
  exact ⟨rfl, (bt hb_2 hb_4)⟩
 have hlg := of_decide_eq_false (Bool.eq_false_iff.2 c_5)
 obtain ⟨hlg1, hlg2⟩ := lgS_bd xs
 rw [show (decide (60000 < lgS xs) : Bool) = false from by simpa using c_5]
 refine cf (sk (sq (rg (xr0 1 [(19, .slice A xs.length c)] [3, 17] ?_))))
 refine xc 57 ent57 [.slice A xs.length c] (hOps_any _ _ xs _ (Kd.C_below hx (bt hb_2 hb_4)) (by omega) hz) ?_
 rintro e w_8 ⟨A_6, c_7, rfl, hcap_9, hR_10, hb_11⟩; refine ⟨_, rfl, ?_⟩
 have hC_12 : kOp.C w_8 A_6 xs.length xs := kOpH_C (kOpH_init (Kd.R_C hR_10))
 refine xr0 1 [(4, .slice A_6 xs.length c_7)] [19, 20] ?_
 refine nl (sq (rg (xe0 1 [(0, .slice A xs.length c), (4, .slice A_6 xs.length c_7), (22, .slice A_6 xs.length c_7)] ?_)))
 refine xc 58 ent58 [.slice A_6 xs.length c_7] (bof_any _ _ xs _ hC_12 (Nat.le_of_succ_le (Nat.le_of_succ_le hcap_9)) (by omega) hz (by omega) (hT.below (bt (bt hb_2 hb_4) hb_11)) es (hO.below (bt (bt hb_2 hb_4) hb_11))) ?_
 rintro e w_13 ⟨hb_14, ⟨hb0_15, d, A_16, c_17, rfl, hd_18⟩ | ⟨hb0_15, rfl⟩⟩
 ·refine ⟨_, rfl, ?_⟩
  obtain ⟨hcb_d, hcn_d, hcz_d, hcc_d⟩ := can_facts (xs := xs) hb0_15 (by omega) hz (by omega)
  have hD_d := hd_18.c
  refine xr0 7 [(5, pw d 0), (6, .int .i64 0), (7, .nilIface)] [22, 23] ?_
  refine nl (sq (rg (xr0 1 [(28, .slice A xs.length c)] [] ?_)))
  refine xc 59 ent59 [.slice A xs.length c] (r6of_any _ _ xs w _ (bt (bt (bt hb_2 hb_4) hb_11) hb_14) hx (by omega) hz (by omega) (hT.below (bt (bt (bt hb_2 hb_4) hb_11) hb_14))) ?_
  rintro e w_19 ⟨hb_20, ⟨hb0_21, A_22, c_23, rfl, hm_24⟩ | ⟨hb0_21, rfl⟩⟩
  ·refine ⟨_, rfl, ?_⟩
   refine xr0 7 [(8, .slice A_22 ((B.can xs).length) c_23), (9, .int .i64 0), (10, .int .i64 0)] [28, 29] ?_
   refine nl (sq (sq (rg (xr0 1 [(33, .nilIface)] [7] ?_))))
   refine xc 18 ent18 [.nilIface] (num_nil _) ?_
   rintro e w_25 ⟨rfl, hb_26⟩; refine ⟨_, rfl, ?_⟩
   refine xr0 17 [(49, .bool false), (50, .slice A_6 xs.length c_7), (51, .slice A xs.length c)] [0, 6, 9, 33, 34] ?_
   have hB_27 : Below w.heap.size w w_25 := (bt (bt (bt (bt (bt hb_2 hb_4) hb_11) hb_14) hb_20) hb_26)
   refine xc 60 ent60 [.slice A_6 xs.length c_7, .slice A xs.length c] (hKeptOps_any _ _ _ _ xs _ (Kd.C_below (Kd.R_C hR_10) (bt (bt hb_14 hb_20) hb_26)) hcap_9 (Kd.C_below hx hB_27) (by omega) hz) ?_
   rintro e w_28 ⟨rfl, hb_29⟩; refine ⟨_, rfl, ?_⟩
   refine xe0 2 [(4, .slice A_6 xs.length c_7), (5, pw d 0), (8, .slice A_22 ((B.can xs).length) c_23), (10, .int .i64 0), (54, .bool false)] ?_
   refine nl (cf (sk (sq (rg (xr0 1 [(55, .slice A_6 xs.length c_7)] [4, 54] ?_)))))
   have hsh_32 : ShapeO 47 71 (fun g_ => (w_3.heap.size ≤ g_ ∧ g_ < w_8.heap.size) ∨ w_28.heap.size ≤ g_) w_8 A_6 xs.length c_7 0 := shapeO_hand hR_10 (fun j_ h_ => by have h2_ := (hz j_ h_).2.2.1; omega) (fun g_ h1_ h2_ => .inl ⟨h1_, h2_⟩)
   refine xc 61 ent61 [.slice A_6 xs.length c_7] (overOps_any _ _ _ (fun g_ => (w_3.heap.size ≤ g_ ∧ g_ < w_8.heap.size) ∨ w_28.heap.size ≤ g_) _ (fun _ h_ => .inr h_) (ShapeO.below (bt (bt (bt hb_14 hb_20) hb_26) hb_29) hsh_32) (by omega)) ?_
   rintro e w_30 ⟨rfl, hs_31⟩; refine ⟨_, rfl, ?_⟩
   have hB_34 : Below w_3.heap.size w_3 w_28 := (bt (bt (bt (bt hb_11 hb_14) hb_20) hb_26) hb_29)
   have hS_33 : Spoilt w_3.heap.size w_8.heap.size w_28 w_30 := SpoilO.spoilt hs_31 (fun g_ h1_ h2_ => h2_.resolve_right (fun h3_ => absurd h1_ (Nat.not_lt.2 h3_))) (hB_34).size
   have hd_35 := DeltaR.spoilt (hd_18.below (bt (bt hb_20 hb_26) hb_29)) hS_33 (Nat.le_refl _)
   have hD_36 := hd_35.c
   have hm_37 := MixK.spoilt (MixK.below hm_24 (bt hb_26 hb_29)) hS_33 (hb_14).size
   refine nl (sq (sq (rg (xr0 2 [(58, .bool false)] [10, 55, 56] ?_))))
   refine nl (cf (sk (sq (rg (xr0 2 [(59, pw d 0), (60, .slice A_22 ((B.can xs).length) c_23)] [58] ?_)))))
   have hB_38 : Below w.heap.size w w_30 := (bsp (bt hB_27 hb_29) hS_33 ((bt hb_2 hb_4)).size)
   refine xc 29 ent29 [.pointer (some ⟨d, 0, none⟩), .slice A_22 ((B.can xs).length) c_23] (his_any d (B.can xs) (B.can xs) _ _ _ hD_36 hcb_d hcn_d hcz_d (MixK.C hm_37 hB_38)) ?_
   rintro e w_39 ⟨rfl, hb_40⟩; refine ⟨_, rfl, ?_⟩
   rw [(opsEqP_iff _ _).2 rfl]
   refine xr0 2 [(62, .bool true), (63, pw d 0)] [5, 59, 60, 61] ?_
   refine xc 63 ent63 [] (bempty_any _) ?_
   rintro e w_42 ⟨g_41, rfl, hg_43, hk_44, hb_45⟩; refine ⟨_, rfl, ?_⟩
   by_cases c_46 : ((B.can xs).length : Int) = 0
   ·refine xc 62 ent62 [.pointer (some ⟨d, 0, none⟩), .pointer (some ⟨g_41, 0, none⟩)] (dsame_any d g_41 (B.can xs) [] _ (hD_36.below (bt hb_40 hb_45)) (deltaC_nil hk_44) hcb_d hcn_d hcz_d rfl (Nat.zero_le _) (fun _ h_ => absurd h_ (Nat.not_lt_zero _))) ?_
    rintro e w_47 ⟨rfl, hb_48⟩; refine ⟨_, rfl, ?_⟩
    rw [(opsEqP_iff _ _).2 (List.eq_nil_of_length_eq_zero (by omega))]
    refine xe 6 [(68, .eq (.bool true))] [(2, .bool true)] [Value.bool (((B.can xs).length : Int) == 0) = Value.bool true] ⟨congrArg Value.bool (beq_iff_eq.2 (c_46)), trivial⟩ ?_
    refine nl (X_ret (rk [.bool true] (hR_ _ _ ?_)))
    exact ⟨rfl, (bt (bt (bt hB_38 hb_40) hb_45) hb_48)⟩
   refine xc 62 ent62 [.pointer (some ⟨d, 0, none⟩), .pointer (some ⟨g_41, 0, none⟩)] (dsame_any d g_41 (B.can xs) [] _ (hD_36.below (bt hb_40 hb_45)) (deltaC_nil hk_44) hcb_d hcn_d hcz_d rfl (Nat.zero_le _) (fun _ h_ => absurd h_ (Nat.not_lt_zero _))) ?_
   rintro e w_49 ⟨rfl, hb_50⟩; refine ⟨_, rfl, ?_⟩
   rw [(opsEqP_false _ _).2 (fun e_ => c_46 (by rw [e_]; rfl))]
   refine xe 6 [(68, .eq (.bool false))] [(2, .bool true)] [Value.bool (((B.can xs).length : Int) == 0) = Value.bool false] ⟨congrArg Value.bool (beq_eq_false_iff_ne.2 (c_46)), trivial⟩ ?_
   refine nl (X_ret (rk [.bool true] (hR_ _ _ ?_)))
   exact ⟨rfl, (bt (bt (bt hB_38 hb_40) hb_45) hb_50)⟩
  exact absurd hb0_15 hb0_21
 refine ⟨_, rfl, ?_⟩
 rw [errV_pos es _ (Nat.pos_of_ne_zero hb0_15)]
 refine xr0 7 [(5, .pointer none), (6, .int .i64 ((B.bOf xs).1 : Int)), (7, .iface 235 (.pointer (some (errAt es ((B.bOf xs).2)))))] [22, 23] ?_
 refine nl (sq (rg (xr0 1 [(28, .slice A xs.length c)] [] ?_)))
 refine xc 59 ent59 [.slice A xs.length c] (r6of_any _ _ xs w _ (bt (bt (bt hb_2 hb_4) hb_11) hb_14) hx (by omega) hz (by omega) (hT.below (bt (bt (bt hb_2 hb_4) hb_11) hb_14))) ?_
 rintro e w_51 ⟨hb_52, ⟨hb0_53, A_54, c_55, rfl, hm_56⟩ | ⟨hb0_53, rfl⟩⟩
 ·exact absurd hb0_53 hb0_15
 refine ⟨_, rfl, ?_⟩
 refine xr0 7 [(8, .slice none 0 0), (9, .int .i64 ((B.bOf xs).1 : Int)), (10, .int .i64 ((B.bOf xs).2 : Int))] [28, 29] ?_
 refine nl (sq (sq (rg (xr0 1 [(33, .iface 235 (.pointer (some (errAt es ((B.bOf xs).2)))))] [7] ?_))))
 have hB_57 : Below w.heap.size w w_51 := (bt (bt (bt (bt hb_2 hb_4) hb_11) hb_14) hb_52)
 refine xc 18 ent18 [.iface 235 (.pointer (some (errAt es ((B.bOf xs).2))))] (num_err es ((B.bOf xs).2) (Nat.pos_of_ne_zero hb0_15) (bOf_le _) _ (hE.below hB_57)) ?_
 rintro e w_58 ⟨rfl, hb_59⟩; refine ⟨_, rfl, ?_⟩
 refine xr 11 [(36, .eq (.bool false)), (40, .eq (.bool false))] [(42, .bool false), (44, .bool true), (45, .int .i64 ((B.bOf xs).2 : Int))] [6, 9, 33, 34] [Value.bool (((B.bOf xs).2 : Int) != ((B.bOf xs).2 : Int)) = Value.bool false, Value.bool (((B.bOf xs).1 : Int) != ((B.bOf xs).1 : Int)) = Value.bool false] ⟨congrArg Value.bool (bneF rfl), congrArg Value.bool (bneF rfl), trivial⟩ ?_
 by_cases c_60 : ((B.bOf xs).2 : Int) = 0
 ·exfalso; omega
 refine xe 6 [(46, .eq (.bool true))] [(4, .slice A_6 xs.length c_7), (5, .pointer none), (8, .slice none 0 0), (10, .int .i64 ((B.bOf xs).2 : Int)), (49, .bool false), (50, .slice A_6 xs.length c_7), (51, .slice A xs.length c)] [Value.bool (((B.bOf xs).2 : Int) != 0) = Value.bool true] ⟨congrArg Value.bool (bneT (c_60)), trivial⟩ ?_
 refine xc 60 ent60 [.slice A_6 xs.length c_7, .slice A xs.length c] (hKeptOps_any _ _ _ _ xs _ (Kd.C_below (Kd.R_C hR_10) (bt (bt hb_14 hb_52) hb_59)) hcap_9 (Kd.C_below hx (bt hB_57 hb_59)) (by omega) hz) ?_
 rintro e w_61 ⟨rfl, hb_62⟩; refine ⟨_, rfl, ?_⟩
 refine xr0 2 [(54, .bool false)] [49, 50, 51, 52] ?_
 refine nl (cf (sk (sq (rg (xr0 1 [(55, .slice A_6 xs.length c_7)] [4, 54] ?_)))))
 have hsh_65 : ShapeO 47 71 (fun g_ => (w_3.heap.size ≤ g_ ∧ g_ < w_8.heap.size) ∨ w_61.heap.size ≤ g_) w_8 A_6 xs.length c_7 0 := shapeO_hand hR_10 (fun j_ h_ => by have h2_ := (hz j_ h_).2.2.1; omega) (fun g_ h1_ h2_ => .inl ⟨h1_, h2_⟩)
 refine xc 61 ent61 [.slice A_6 xs.length c_7] (overOps_any _ _ _ (fun g_ => (w_3.heap.size ≤ g_ ∧ g_ < w_8.heap.size) ∨ w_61.heap.size ≤ g_) _ (fun _ h_ => .inr h_) (ShapeO.below (bt (bt (bt hb_14 hb_52) hb_59) hb_62) hsh_65) (by omega)) ?_
 rintro e w_63 ⟨rfl, hs_64⟩; refine ⟨_, rfl, ?_⟩
 have hB_67 : Below w_3.heap.size w_3 w_61 := (bt (bt (bt (bt hb_11 hb_14) hb_52) hb_59) hb_62)
 have hS_66 : Spoilt w_3.heap.size w_8.heap.size w_61 w_63 := SpoilO.spoilt hs_64 (fun g_ h1_ h2_ => h2_.resolve_right (fun h3_ => absurd h1_ (Nat.not_lt.2 h3_))) (hB_67).size
 refine nl (sq (sq (rg (xr 2 [(58, .eq (.bool true))] [(58, .bool true)] [10, 55, 56] [Value.bool (((B.bOf xs).2 : Int) != 0) = Value.bool true] ⟨congrArg Value.bool (bneT (c_60)), trivial⟩ ?_))))
 refine nl (ct (sq (rg (xe0 1 [(2, .bool true)] ?_))))
 refine nl (X_ret (rk [.bool true] (hR_ _ _ ?_)))
 have hB_68 : Below w.heap.size w w_63 := (bsp (bt (bt hB_57 hb_59) hb_62) hS_66 ((bt hb_2 hb_4)).size)
 exact ⟨rfl, hB_68⟩
end Go.Proofs.YtkehomiogkoomaaDoor
