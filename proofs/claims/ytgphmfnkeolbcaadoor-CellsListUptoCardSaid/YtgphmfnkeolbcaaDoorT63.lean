import Derived.Test.YtgphmfnkeolbcaaDoorT62
import Derived.Test.YtgphmfnkeolbcaaDoorMixL
import Derived.Test.YtgphmfnkeolbcaaDoorT53
import Derived.Test.YtgphmfnkeolbcaaDoorNum
import Derived.Test.YtgphmfnkeolbcaaDoorT31
import Derived.Test.YtgphmfnkeolbcaaDoorCel
import Derived.Test.YtgphmfnkeolbcaaDoorSpare
import Derived.Test.YtgphmfnkeolbcaaDoorOver2
/- CellsList returns true. Conditions: sizes, the tables of utf8, the errors' variables. -/
set_option linter.unusedVariables false
set_option linter.unusedSimpArgs false
set_option maxRecDepth 100000
namespace Go.Proofs.YtgphmfnkeolbcaaDoor
open Go Go.RowKit Go.Proofs.YtgphmfnkeolbcaaDoorW.PrintWords RX
theorem txS_lgO : ∀ xs : List OpA, B.txS xs ≤ lgO xs
 | [] => Nat.le_refl _
 | o :: r => by have := txS_lgO r; simp only [B.txS, lgO]; omega
theorem fine_all {xs : List OpA} (hz : ∀ i, i < xs.length → opSz (xs.getD i op0)) : ∀ o ∈ xs, B.fine o := fun o ho => by
 obtain ⟨i, hi, rfl⟩ := List.getElem_of_mem ho
 have := hz i hi
 rw [List.getD_eq_getElem?_getD, List.getElem?_eq_getElem hi] at this
 exact B.fine_of this
set_option maxHeartbeats 4000000 in
theorem cellsList_law (A : Option Addr) (c : Nat) (xs : List OpA) (i stop : Int) (w : World) (hx : kOp.C w A xs.length xs) (hxc : xs.length ≤ c) (hn : xs.length ≤ 116508) (hz : ∀ i, i < xs.length → opSz (xs.getD i op0)) (hT : Tabs w) (es : List Addr) (hE : Errs w es) : Calls Tryd.prog 3 #[.slice A xs.length c, .int .i64 i, .int .i64 stop] w fun e w' => e = .returned (.bool true) ∧ Below w.heap.size w w' := by
 have hO : ErrsO w es := hE.on rfl
 have hEC : ErrsC w es := hE.on rfl
 have hpl : xs.length ≤ 9223372036854775807 := hx.2.1
 refine RX.enter Tryd.func3 rfl 129 rfl [(0, .slice A xs.length c), (1, .int .i64 i), (2, .int .i64 stop)] rfl (by kernel_rfl) (fun R_ hR_ => ?_)
 refine sq (rg (xe0 1 [(0, .slice A xs.length c), (1, .int .i64 i), (2, .int .i64 stop)] ?_))
 refine nl (sq (rg (xc 5 ent5 [] (lives9_any _ (hT.below (Below.refl _ _)) es (hO.below (Below.refl _ _))) ?_)))
 rintro e w_1 ⟨rfl, hb_2⟩; refine ⟨_, rfl, ?_⟩
 refine xr0 1 [(7, .bool true)] [16] ?_
 refine nl (sq (sq (rg (xr0 4 [(19, .bool false), (20, .slice A xs.length c)] [] ?_))))
 refine xc 6 ent6 [.slice A xs.length c] (llong_any _ _ xs _ (Kd.C_below hx hb_2) (by omega) hz) ?_
 rintro e w_3 ⟨rfl, hb_4⟩; refine ⟨_, rfl, ?_⟩
 refine xr0 1 [(22, .bool (decide (20000 < lgO xs)))] [19, 20, 21] ?_
 refine nl ?_
 by_cases c_5 : decide (20000 < lgO xs) = true
 ·rw [show (decide (20000 < lgO xs) : Bool) = true from by simpa using c_5]
  refine ct (sq (rg (xe0 2 [(6, .bool true)] ?_)))
  refine nl (X_ret (rk [.bool true] (hR_ _ _ ?_)))
  exact ⟨rfl, (bt hb_2 hb_4)⟩
 have hlg := of_decide_eq_false (Bool.eq_false_iff.2 c_5)
 have hlg1 := txS_lgO xs
 rw [show (decide (20000 < lgO xs) : Bool) = false from by simpa using c_5]
 refine cf (sk (sq (rg (xr0 1 [(24, .slice A xs.length c)] [0, 7, 22] ?_))))
 refine xc 7 ent7 [.slice A xs.length c] (hmake_any _ _ xs _ (Kd.C_below hx (bt hb_2 hb_4)) hxc (by omega) hz (by omega) (hT.below (bt hb_2 hb_4)) es (hO.below (bt hb_2 hb_4))) ?_
 rintro e w_6 ⟨hb_7, ⟨hb0_8, d, A_9, c_10, rfl, hd_11⟩ | ⟨hb0_8, rfl⟩⟩
 ·refine ⟨_, rfl, ?_⟩
  obtain ⟨hcb_d, hcn_d, hcz_d, hcc_d⟩ := can_facts (xs := xs) hb0_8 (by omega) hz (by omega)
  have hD_d := hd_11.c
  refine xr0 1 [(8, pw d 0)] [24, 25] ?_
  refine nl (sq (sq (rg (xe0 2 [(1, .int .i64 i), (2, .int .i64 stop), (8, pw d 0), (27, .bool false)] ?_))))
  refine nl (cf (sk (sq (rg (xr0 1 [(28, pw d 0)] [27] ?_)))))
  refine xc 8 ent8 [.pointer (some ⟨d, 0, none⟩)] (dops_any d (B.can xs) _ hD_d hcb_d hcn_d hcz_d) ?_
  rintro e w_14 ⟨A_12, c_13, rfl, hl_15, hr_16, hb_17⟩; refine ⟨_, rfl, ?_⟩
  refine xr0 1 [(9, .slice A_12 ((B.can xs).length) c_13)] [28, 29] ?_
  refine nl (sq (rg (xr0 1 [(31, pw d 0)] [] ?_)))
  have hfew_ : (cellsAll (B.can xs)).length ≤ 100000000 := by have h1_ := cellsAll_few (B.can xs); have h2_ := B.can_tx (fine_all hz); omega
  have hutf_ := ops_utf hcb_d
  refine xc 9 ent9 [.pointer (some ⟨d, 0, none⟩)] (clist_any d (B.can xs) _ (hD_d.below hb_17) hcb_d hcn_d hcz_d (fun h_ => doc_ref hcb_d h_) hfew_ (hT.below (bt (bt (bt hb_2 hb_4) hb_7) hb_17)) es (hEC.below (bt (bt (bt hb_2 hb_4) hb_7) hb_17))) ?_
  rintro e w_18 ⟨A_20, c_21, zs_22, ez_23, rfl, hl_24, hr_25, hb_19⟩; refine ⟨_, rfl, ?_⟩
  by_cases hdoc_ : isDoc (B.can xs) = true
  ·rw [if_pos hdoc_] at ez_23; rw [if_pos hdoc_, errV_zero]
   refine xr0 5 [(10, .slice A_20 zs_22.length c_21), (11, .nilIface)] [31, 32] ?_
   refine nl (sq (rg (xr0 1 [(36, .slice A_12 ((B.can xs).length) c_13)] [9] ?_)))
   refine xc 10 ent10 [.slice A_12 ((B.can xs).length) c_13] (list9_any _ _ (B.can xs) _ (Kd.R_C (Kd.R_below hr_16 hb_19)) hcn_d hcb_d hcz_d hutf_ hfew_) ?_
   rintro e w_32 ⟨A_26, c_27, zs_28, ez_29, rfl, hC_30, hl_31, hb_33⟩; refine ⟨_, rfl, ?_⟩
   rw [if_pos hdoc_] at ez_29; rw [if_pos hdoc_]
   refine xe0 5 [(1, .int .i64 i), (2, .int .i64 stop), (8, pw d 0), (10, .slice A_20 zs_22.length c_21), (11, .nilIface), (12, .slice A_26 zs_28.length c_27), (13, .int .i64 0)] ?_
   refine nl (sq (sq (rg (xr0 1 [(40, .nilIface)] [11] ?_))))
   refine xc 11 ent11 [.nilIface] (num_nil _) ?_
   rintro e w_34 ⟨rfl, hb_35⟩; refine ⟨_, rfl, ?_⟩
   refine xr0 5 [(44, .bool false), (45, .slice A_20 zs_22.length c_21), (46, .slice A_26 zs_28.length c_27)] [40, 41] ?_
   refine xc 12 ent12 [.slice A_20 zs_22.length c_21, .slice A_26 zs_28.length c_27] (r9list_any _ _ _ _ zs_22 zs_28 _ (Kd.R_C (Kd.R_below hr_25 (bt hb_33 hb_35))) (Kd.C_below hC_30 hb_35)) ?_
   rintro e w_36 ⟨rfl, hb_37⟩; refine ⟨_, rfl, ?_⟩
   rw [(csEqP_iff zs_22 zs_28).2 (by rw [ez_23, ez_29] <;> rfl)]
   refine xr0 9 [(50, .bool false), (53, .bool true), (55, .int .i64 (zs_22.length : Int)), (56, pw d 0)] [10, 44, 45, 46, 47] ?_
   have hB_38 : Below w_6.heap.size w_6 w_36 := (bt (bt (bt (bt hb_17 hb_19) hb_33) hb_35) hb_37)
   have hB_39 : Below w.heap.size w w_36 := (bt (bt (bt (bt (bt (bt (bt hb_2 hb_4) hb_7) hb_17) hb_19) hb_33) hb_35) hb_37)
   refine xc 13 ent13 [.pointer (some ⟨d, 0, none⟩)] (mres_any d (B.can xs) _ (hD_d.below hB_38) hcb_d hcn_d hcz_d (hT.below hB_39) es (hO.below hB_39)) ?_
   rintro e w_40 ⟨rfl, hb_41⟩; refine ⟨_, rfl, ?_⟩
   rw [doc_res hdoc_ (by omega), ← ez_23]
   refine xr 3 [(58, .eq (.bool false))] [(60, .bool false)] [50, 53, 55, 56, 57] [Value.bool ((zs_22.length : Int) != (zs_22.length : Int)) = Value.bool false] ⟨congrArg Value.bool (bneF rfl), trivial⟩ ?_
   refine nl (cf (sk (sq (rg (xr0 3 [(62, pw d 0), (64, .int .i64 (zs_28.length : Int))] [60] ?_)))))
   refine xc 14 ent14 [.pointer (some ⟨d, 0, none⟩), .int .i64 (zs_28.length : Int)] (told9l_any d _ (B.can xs) (B.can xs) _ (hD_d.below (bt hB_38 hb_41)) hcb_d hcn_d hcz_d (if_pos hdoc_).symm (doc_ref hcb_d hdoc_) hfew_ (by rw [ez_29]; exact Int.le_refl _) (hT.below (bt hB_39 hb_41)) es (hEC.below (bt hB_39 hb_41))) ?_
   rintro e w_48 ⟨A_42, c_43, zs_44, ez_45, rfl, hl_46, hr_47, hb_49⟩; refine ⟨_, rfl, ?_⟩
   refine xe0 5 [(1, .int .i64 i), (2, .int .i64 stop), (7, .bool true), (8, pw d 0), (12, .slice A_26 zs_28.length c_27), (13, .int .i64 0), (14, .slice A_42 zs_44.length c_43)] ?_
   refine nl (sq (sq (rg (xr0 5 [(70, .bool false), (71, .slice A_42 zs_44.length c_43), (72, .slice A_26 zs_28.length c_27)] [7, 14] ?_))))
   refine xc 12 ent12 [.slice A_42 zs_44.length c_43, .slice A_26 zs_28.length c_27] (r9list_any _ _ _ _ zs_44 zs_28 _ (Kd.R_C hr_47) (Kd.C_below hC_30 (bt (bt (bt hb_35 hb_37) hb_41) hb_49))) ?_
   rintro e w_50 ⟨rfl, hb_51⟩; refine ⟨_, rfl, ?_⟩
   rw [(csEqP_iff zs_44 zs_28).2 (by rw [ez_45, ez_29] <;> rfl)]
   refine xr0 2 [(75, .bool false)] [70, 71, 72, 73] ?_
   refine nl (cf (sk (sq (rg (xr0 2 [(77, pw d 0), (78, .int .i64 i)] [75] ?_)))))
   refine xc 15 ent15 [.pointer (some ⟨d, 0, none⟩), .int .i64 i] (cat_any d (B.can xs) i _ (hD_d.below (bt (bt (bt hB_38 hb_41) hb_49) hb_51)) hcb_d hcn_d hcz_d (fun h_ => doc_ref hcb_d h_) hfew_ (hT.below (bt (bt (bt hB_39 hb_41) hb_49) hb_51)) es (hEC.below (bt (bt (bt hB_39 hb_41) hb_49) hb_51))) ?_
   rintro e w_52 ⟨A_54, c_55, rfl, hl_56, hr_57, hb_53⟩; refine ⟨_, rfl, ?_⟩
   have hbl_ : zs_28.length = (cellsAll (B.can xs)).length := by rw [ez_29]
   by_cases c_58 : i < 0
   ·have hat_ : atP (B.can xs) i = (cell0, 12) := by unfold atP; rw [if_pos hdoc_, if_pos (.inl c_58)]
    rw [hat_] at hl_56 hr_57 ⊢
    replace hl_56 : cell0.attrs.length ≤ c_55 := hl_56
    replace hr_57 : kAttr.R 93 w_52 w_50.heap.size (OkFrom w_50.heap.size) (.slice A_54 cell0.attrs.length c_55) cell0.attrs := hr_57
    rw [errV_pos es 12 (by decide)]
    refine xw 4 [] [(15, pw w_52.heap.size 0), (80, .agg (c6A cell0 (.slice A_54 cell0.attrs.length c_55))), (81, .iface 164 (.pointer (some (errAt es 12))))] [77, 78, 79] (w_52.alloc (.cells #[.int .i32 0, .string ByteArray.empty, .int .i64 0, .int .i64 0, .string ByteArray.empty, .slice none 0 0] 44)) [] trivial ?_
    obtain ⟨w_59, hw_63, hb_60, hk_61, hz_62⟩ := new_world w_52 #[.int .i32 0, .string ByteArray.empty, .int .i64 0, .int .i64 0, .string ByteArray.empty, .slice none 0 0] 44
    rw [hw_63]
    refine xst (.agg (c6A cell0 (.slice A_54 cell0.attrs.length c_55))) hk_61 0 (c6A cell0 (.slice A_54 cell0.attrs.length c_55)) (fun w_64 hg_65 hk_66 hz_67 => ?_)
    have hB_68 : Below w_18.heap.size w_18 w_52 := (bt (bt (bt (bt (bt (bt hb_33 hb_35) hb_37) hb_41) hb_49) hb_51) hb_53)
    have hB_69 : Below w_14.heap.size w_14 w_52 := (bt (bt (bt (bt (bt (bt (bt hb_19 hb_33) hb_35) hb_37) hb_41) hb_49) hb_51) hb_53)
    refine xr0 1 [(11, .iface 164 (.pointer (some (errAt es 12))))] [80, 81] ?_
    refine nl (sq (bk (sq (rg (xe0 3 [(1, .int .i64 i), (2, .int .i64 stop), (8, pw d 0), (11, .iface 164 (.pointer (some (errAt es 12)))), (12, .slice A_26 zs_28.length c_27), (13, .int .i64 0), (15, pw w_52.heap.size 0), (98, .bool false)] ?_)))))
    refine nl (cf (sq (rg (xr 9 [(107, .eq (.bool true))] [(105, .bool true)] [13, 98] [Value.bool (decide (i < 0)) = Value.bool true] ⟨congrArg Value.bool (decide_eq_true (c_58)), trivial⟩ ?_))))
    refine nl (ct (X_region ?_))
    have hB_70 : Below w.heap.size w w_52 := (bt (bt (bt (bt hB_39 hb_41) hb_49) hb_51) hb_53)
    have hB_71 : Below w.heap.size w w_64 := (bg (bt (bt (bt (bt (bt hB_39 hb_41) hb_49) hb_51) hb_53) hb_60) hg_65 (hB_70).size)
    refine xr 4 [(115, .load (.iface 164 (.pointer (some (errAt es 12))))), (116, .as (.bool true))] [(7, .bool true)] [1, 11, 105] [LoadsAs Tryd.prog 30 (⟨0, 0, none⟩) (.iface 164 (.pointer (some (errAt es 12)))) w_64, RunsAs Tryd.prog [(114, .iface 164 (.pointer (some (errAt es 12)))), (115, .iface 164 (.pointer (some (errAt es 12))))] (Go.Op.binOp Go.BinOp.eql 30 (Go.Operand.tmp 114) (Go.Operand.tmp 115) 30) 4 (.bool true) w_64] ⟨loads1 rfl ((hB_71.cell (World.block_lt_of_cell? _ _ (hE.load 12 0 (by decide) (by decide) rfl))).trans (hE.load 12 0 (by decide) (by decide) rfl)), runs_bin rfl rfl rfl (err_self es 12 _), trivial⟩ ?_
    refine nl (sq (rg (xr 4 [(119, .load (.agg (c6A cell0 (.slice A_54 cell0.attrs.length c_55))))] [(118, .bool true), (119, .agg (c6A cell0 (.slice A_54 cell0.attrs.length c_55))), (120, .agg #[.int .i32 0, .string ByteArray.empty, .int .i64 0, .int .i64 0, .string ByteArray.empty, .slice none 0 0])] [7, 15] [LoadsAs Tryd.prog 44 (⟨w_52.heap.size, 0, none⟩) (.agg (c6A cell0 (.slice A_54 cell0.attrs.length c_55))) w_64] ⟨loadsB rfl rfl hk_66 0 ⟨by kernel_rfl, by kernel_rfl⟩, trivial⟩ ?_)))
    refine xc 16 ent16 [.agg (c6A cell0 (.slice A_54 cell0.attrs.length c_55)), .agg #[.int .i32 0, .string ByteArray.empty, .int .i64 0, .int .i64 0, .string ByteArray.empty, .slice none 0 0]] (r9same_any cell0 cell0 _ _ _ _ _ (Kd.R_C (Kd.R_below hr_57 (bg hb_60 hg_65 (Nat.le_refl _)))) ⟨rfl, by decide, fun h_ => absurd h_ (by decide)⟩) ?_
    rintro e w_72 ⟨rfl, hb_73⟩; refine ⟨_, rfl, ?_⟩
    rw [(cEqP_iff cell0 cell0).2 rfl]
    refine xe0 5 [(123, .bool true), (124, pw d 0), (125, .slice A_26 zs_28.length c_27), (126, .int .i64 stop)] ?_
    have hB_74 : Below w_6.heap.size w_6 w_52 := (bt (bt (bt (bt hB_38 hb_41) hb_49) hb_51) hb_53)
    have hB_75 : Below w_6.heap.size w_6 w_72 := (bt (bg (bt (bt (bt (bt (bt hB_38 hb_41) hb_49) hb_51) hb_53) hb_60) hg_65 (hB_74).size) hb_73)
    have hB_76 : Below w_32.heap.size w_32 w_52 := (bt (bt (bt (bt (bt hb_35 hb_37) hb_41) hb_49) hb_51) hb_53)
    have hB_77 : Below w_32.heap.size w_32 w_72 := (bt (bg (bt (bt (bt (bt (bt (bt hb_35 hb_37) hb_41) hb_49) hb_51) hb_53) hb_60) hg_65 (hB_76).size) hb_73)
    refine xc 17 ent17 [.pointer (some ⟨d, 0, none⟩), .slice A_26 zs_28.length c_27, .int .i64 stop] (stops9_any d _ _ zs_28 _ (B.can xs) (B.can xs) _ (hD_d.below hB_75) (Kd.C_below hC_30 hB_77) hcb_d hcn_d hcz_d (if_pos hdoc_).symm (doc_ref hcb_d hdoc_) (by first | (rw [ez_29]; done) | (rw [ez_29]; rfl)) (by rw [ez_29]; exact Nat.le_trans (Nat.le_of_eq rfl) (by first | exact hfew_ | decide)) (hT.below (bt hB_71 hb_73)) es (hEC.below (bt hB_71 hb_73))) ?_
    rintro e w_78 ⟨rfl, hb_79⟩; refine ⟨_, rfl, ?_⟩
    refine xe0 2 [(6, .bool true)] ?_
    refine nl (X_ret (rk [.bool true] (hR_ _ _ ?_)))
    exact ⟨rfl, (bt (bt hB_71 hb_73) hb_79)⟩
   by_cases c_80 : i ≥ (zs_28.length : Int)
   ·have hat_ : atP (B.can xs) i = (cell0, 12) := by unfold atP; rw [if_pos hdoc_, if_pos (.inr (by omega))]
    rw [hat_] at hl_56 hr_57 ⊢
    replace hl_56 : cell0.attrs.length ≤ c_55 := hl_56
    replace hr_57 : kAttr.R 93 w_52 w_50.heap.size (OkFrom w_50.heap.size) (.slice A_54 cell0.attrs.length c_55) cell0.attrs := hr_57
    rw [errV_pos es 12 (by decide)]
    refine xw 4 [] [(15, pw w_52.heap.size 0), (80, .agg (c6A cell0 (.slice A_54 cell0.attrs.length c_55))), (81, .iface 164 (.pointer (some (errAt es 12))))] [77, 78, 79] (w_52.alloc (.cells #[.int .i32 0, .string ByteArray.empty, .int .i64 0, .int .i64 0, .string ByteArray.empty, .slice none 0 0] 44)) [] trivial ?_
    obtain ⟨w_81, hw_85, hb_82, hk_83, hz_84⟩ := new_world w_52 #[.int .i32 0, .string ByteArray.empty, .int .i64 0, .int .i64 0, .string ByteArray.empty, .slice none 0 0] 44
    rw [hw_85]
    refine xst (.agg (c6A cell0 (.slice A_54 cell0.attrs.length c_55))) hk_83 0 (c6A cell0 (.slice A_54 cell0.attrs.length c_55)) (fun w_86 hg_87 hk_88 hz_89 => ?_)
    have hB_90 : Below w_18.heap.size w_18 w_52 := (bt (bt (bt (bt (bt (bt hb_33 hb_35) hb_37) hb_41) hb_49) hb_51) hb_53)
    have hB_91 : Below w_14.heap.size w_14 w_52 := (bt (bt (bt (bt (bt (bt (bt hb_19 hb_33) hb_35) hb_37) hb_41) hb_49) hb_51) hb_53)
    refine xr0 1 [(11, .iface 164 (.pointer (some (errAt es 12))))] [80, 81] ?_
    refine nl (sq (bk (sq (rg (xe0 3 [(1, .int .i64 i), (2, .int .i64 stop), (8, pw d 0), (11, .iface 164 (.pointer (some (errAt es 12)))), (12, .slice A_26 zs_28.length c_27), (13, .int .i64 0), (15, pw w_52.heap.size 0), (98, .bool false)] ?_)))))
    refine nl (cf (sq (rg (xr 9 [(107, .eq (.bool false)), (112, .eq (.bool true))] [(105, .bool true)] [13, 98] [Value.bool (decide (i < 0)) = Value.bool false, Value.bool (decide (i ≥ (zs_28.length : Int))) = Value.bool true] ⟨congrArg Value.bool (decide_eq_false (c_58)), congrArg Value.bool (decide_eq_true (c_80)), trivial⟩ ?_))))
    refine nl (ct (X_region ?_))
    have hB_92 : Below w.heap.size w w_52 := (bt (bt (bt (bt hB_39 hb_41) hb_49) hb_51) hb_53)
    have hB_93 : Below w.heap.size w w_86 := (bg (bt (bt (bt (bt (bt hB_39 hb_41) hb_49) hb_51) hb_53) hb_82) hg_87 (hB_92).size)
    refine xr 4 [(115, .load (.iface 164 (.pointer (some (errAt es 12))))), (116, .as (.bool true))] [(7, .bool true)] [1, 11, 105] [LoadsAs Tryd.prog 30 (⟨0, 0, none⟩) (.iface 164 (.pointer (some (errAt es 12)))) w_86, RunsAs Tryd.prog [(114, .iface 164 (.pointer (some (errAt es 12)))), (115, .iface 164 (.pointer (some (errAt es 12))))] (Go.Op.binOp Go.BinOp.eql 30 (Go.Operand.tmp 114) (Go.Operand.tmp 115) 30) 4 (.bool true) w_86] ⟨loads1 rfl ((hB_93.cell (World.block_lt_of_cell? _ _ (hE.load 12 0 (by decide) (by decide) rfl))).trans (hE.load 12 0 (by decide) (by decide) rfl)), runs_bin rfl rfl rfl (err_self es 12 _), trivial⟩ ?_
    refine nl (sq (rg (xr 4 [(119, .load (.agg (c6A cell0 (.slice A_54 cell0.attrs.length c_55))))] [(118, .bool true), (119, .agg (c6A cell0 (.slice A_54 cell0.attrs.length c_55))), (120, .agg #[.int .i32 0, .string ByteArray.empty, .int .i64 0, .int .i64 0, .string ByteArray.empty, .slice none 0 0])] [7, 15] [LoadsAs Tryd.prog 44 (⟨w_52.heap.size, 0, none⟩) (.agg (c6A cell0 (.slice A_54 cell0.attrs.length c_55))) w_86] ⟨loadsB rfl rfl hk_88 0 ⟨by kernel_rfl, by kernel_rfl⟩, trivial⟩ ?_)))
    refine xc 16 ent16 [.agg (c6A cell0 (.slice A_54 cell0.attrs.length c_55)), .agg #[.int .i32 0, .string ByteArray.empty, .int .i64 0, .int .i64 0, .string ByteArray.empty, .slice none 0 0]] (r9same_any cell0 cell0 _ _ _ _ _ (Kd.R_C (Kd.R_below hr_57 (bg hb_82 hg_87 (Nat.le_refl _)))) ⟨rfl, by decide, fun h_ => absurd h_ (by decide)⟩) ?_
    rintro e w_94 ⟨rfl, hb_95⟩; refine ⟨_, rfl, ?_⟩
    rw [(cEqP_iff cell0 cell0).2 rfl]
    refine xe0 5 [(123, .bool true), (124, pw d 0), (125, .slice A_26 zs_28.length c_27), (126, .int .i64 stop)] ?_
    have hB_96 : Below w_6.heap.size w_6 w_52 := (bt (bt (bt (bt hB_38 hb_41) hb_49) hb_51) hb_53)
    have hB_97 : Below w_6.heap.size w_6 w_94 := (bt (bg (bt (bt (bt (bt (bt hB_38 hb_41) hb_49) hb_51) hb_53) hb_82) hg_87 (hB_96).size) hb_95)
    have hB_98 : Below w_32.heap.size w_32 w_52 := (bt (bt (bt (bt (bt hb_35 hb_37) hb_41) hb_49) hb_51) hb_53)
    have hB_99 : Below w_32.heap.size w_32 w_94 := (bt (bg (bt (bt (bt (bt (bt (bt hb_35 hb_37) hb_41) hb_49) hb_51) hb_53) hb_82) hg_87 (hB_98).size) hb_95)
    refine xc 17 ent17 [.pointer (some ⟨d, 0, none⟩), .slice A_26 zs_28.length c_27, .int .i64 stop] (stops9_any d _ _ zs_28 _ (B.can xs) (B.can xs) _ (hD_d.below hB_97) (Kd.C_below hC_30 hB_99) hcb_d hcn_d hcz_d (if_pos hdoc_).symm (doc_ref hcb_d hdoc_) (by first | (rw [ez_29]; done) | (rw [ez_29]; rfl)) (by rw [ez_29]; exact Nat.le_trans (Nat.le_of_eq rfl) (by first | exact hfew_ | decide)) (hT.below (bt hB_93 hb_95)) es (hEC.below (bt hB_93 hb_95))) ?_
    rintro e w_100 ⟨rfl, hb_101⟩; refine ⟨_, rfl, ?_⟩
    refine xe0 2 [(6, .bool true)] ?_
    refine nl (X_ret (rk [.bool true] (hR_ _ _ ?_)))
    exact ⟨rfl, (bt (bt hB_93 hb_95) hb_101)⟩
   have hin_ : 0 ≤ i ∧ i < (zs_28.length : Int) := by omega
   have hat_ : atP (B.can xs) i = ((zs_28.getD i.toNat cell0), 0) := by unfold atP; rw [if_pos hdoc_, if_neg (by omega), ez_29]
   rw [hat_] at hl_56 hr_57 ⊢
   replace hl_56 : (zs_28.getD i.toNat cell0).attrs.length ≤ c_55 := hl_56
   replace hr_57 : kAttr.R 93 w_52 w_50.heap.size (OkFrom w_50.heap.size) (.slice A_54 (zs_28.getD i.toNat cell0).attrs.length c_55) (zs_28.getD i.toNat cell0).attrs := hr_57
   rw [errV_zero]
   refine xw 4 [] [(15, pw w_52.heap.size 0), (80, .agg (c6A (zs_28.getD i.toNat cell0) (.slice A_54 ((zs_28.getD i.toNat cell0).attrs.length) c_55))), (81, .nilIface)] [77, 78, 79] (w_52.alloc (.cells #[.int .i32 0, .string ByteArray.empty, .int .i64 0, .int .i64 0, .string ByteArray.empty, .slice none 0 0] 44)) [] trivial ?_
   obtain ⟨w_102, hw_106, hb_103, hk_104, hz_105⟩ := new_world w_52 #[.int .i32 0, .string ByteArray.empty, .int .i64 0, .int .i64 0, .string ByteArray.empty, .slice none 0 0] 44
   rw [hw_106]
   refine xst (.agg (c6A (zs_28.getD i.toNat cell0) (.slice A_54 ((zs_28.getD i.toNat cell0).attrs.length) c_55))) hk_104 0 (c6A (zs_28.getD i.toNat cell0) (.slice A_54 ((zs_28.getD i.toNat cell0).attrs.length) c_55)) (fun w_107 hg_108 hk_109 hz_110 => ?_)
   have hB_111 : Below w_18.heap.size w_18 w_52 := (bt (bt (bt (bt (bt (bt hb_33 hb_35) hb_37) hb_41) hb_49) hb_51) hb_53)
   have hB_112 : Below w_14.heap.size w_14 w_52 := (bt (bt (bt (bt (bt (bt (bt hb_19 hb_33) hb_35) hb_37) hb_41) hb_49) hb_51) hb_53)
   refine xr0 1 [(11, .nilIface)] [80, 81] ?_
   refine nl (sq (bk (sq (rg (xe0 3 [(1, .int .i64 i), (2, .int .i64 stop), (8, pw d 0), (11, .nilIface), (12, .slice A_26 zs_28.length c_27), (13, .int .i64 0), (15, pw w_52.heap.size 0), (98, .bool false)] ?_)))))
   refine nl (cf (sq (rg (xr 9 [(107, .eq (.bool false)), (112, .eq (.bool false))] [(105, .bool false)] [13, 98] [Value.bool (decide (i < 0)) = Value.bool false, Value.bool (decide (i ≥ (zs_28.length : Int))) = Value.bool false] ⟨congrArg Value.bool (decide_eq_false (c_58)), congrArg Value.bool (decide_eq_false (c_80)), trivial⟩ ?_))))
   refine nl (cf (sq (X_any [8, 14] 17 #[false, false, false, false, false, false, false, false, false, false, false, false, false, false, false, false, false] (by kernel_rfl) (by kernel_rfl) (by kernel_rfl) (fun wd_113 hb_114 hh_115 => ?_))))
   refine XA_run (fuel' := 11) [0, 1, 2, 3, 4, 5] [(85, .load (.agg (c6A (zs_28.getD i.toNat cell0) (.slice A_54 ((zs_28.getD i.toNat cell0).attrs.length) c_55))))] [.nilIface, .bool true, .bool true, .agg (c6A (zs_28.getD i.toNat cell0) (.slice A_54 ((zs_28.getD i.toNat cell0).attrs.length) c_55)), .slice A_26 zs_28.length c_27, .int .i64 i] #[true, true, true, true, true, true, false, false, false, false, false, false, false, false, false, false, false] [(2, .int .i64 stop), (8, .pointer (some ⟨d, 0, none⟩)), (12, .slice A_26 zs_28.length c_27), (84, .bool true), (85, .agg (c6A (zs_28.getD i.toNat cell0) (.slice A_54 ((zs_28.getD i.toNat cell0).attrs.length) c_55))), (86, .slice A_26 zs_28.length c_27), (87, .int .i64 i)] [LoadsAs Tryd.prog 44 (⟨w_52.heap.size, 0, none⟩) (.agg (c6A (zs_28.getD i.toNat cell0) (.slice A_54 ((zs_28.getD i.toNat cell0).attrs.length) c_55))) wd_113] (fun _ _ _ _ h => h) (by kernel_rfl) rfl ⟨loadsB rfl rfl (Blk.below hk_109 hb_114) 0 ⟨by kernel_rfl, by kernel_rfl⟩, trivial⟩ ?_
   have hB_116 : Below w_32.heap.size w_32 w_52 := (bt (bt (bt (bt (bt hb_35 hb_37) hb_41) hb_49) hb_51) hb_53)
   have hB_117 : Below w_32.heap.size w_32 wd_113 := (bt (bg (bt (bt (bt (bt (bt (bt hb_35 hb_37) hb_41) hb_49) hb_51) hb_53) hb_103) hg_108 (hB_116).size) hb_114)
   obtain ⟨ad_118, B_121, c_122, ha_119, hc_120, hl_123, hC_124⟩ := Kd.atCell (Kd.C_below hC_30 hB_117) (i := i) (by omega) (by omega)
   replace hc_120 : CellsAt wd_113 (ad_118.add (i.toNat * 6)) (c6L (zs_28.getD i.toNat cell0) (.slice B_121 ((zs_28.getD i.toNat cell0).attrs.length) c_122)) := hc_120
   replace hl_123 : (zs_28.getD i.toNat cell0).attrs.length ≤ c_122 := hl_123
   replace hC_124 : kAttr.C wd_113 B_121 ((zs_28.getD i.toNat cell0).attrs.length) (zs_28.getD i.toNat cell0).attrs := hC_124
   refine XA_run (fuel' := 9) [6, 7] [(88, .idx ad_118), (89, .load (.agg (c6A (zs_28.getD i.toNat cell0) (.slice B_121 ((zs_28.getD i.toNat cell0).attrs.length) c_122))))] [.pointer (some (ad_118.add (i.toNat * 6))), .agg (c6A (zs_28.getD i.toNat cell0) (.slice B_121 ((zs_28.getD i.toNat cell0).attrs.length) c_122))] #[true, true, true, true, true, true, true, true, false, false, false, false, false, false, false, false, false] [(2, .int .i64 stop), (8, .pointer (some ⟨d, 0, none⟩)), (12, .slice A_26 zs_28.length c_27), (84, .bool true), (85, .agg (c6A (zs_28.getD i.toNat cell0) (.slice A_54 ((zs_28.getD i.toNat cell0).attrs.length) c_55))), (89, .agg (c6A (zs_28.getD i.toNat cell0) (.slice B_121 ((zs_28.getD i.toNat cell0).attrs.length) c_122)))] [A_26 = some ad_118, (0 : Int) ≤ i, i < (zs_28.length : Int), LoadsAs Tryd.prog 44 (ad_118.add (i.toNat * 6)) (.agg (c6A (zs_28.getD i.toNat cell0) (.slice B_121 ((zs_28.getD i.toNat cell0).attrs.length) c_122))) wd_113] (fun _ _ _ _ h => h) (by kernel_rfl) rfl ⟨ha_119, (by omega), (by omega), loadsE rfl rfl hc_120 0 ⟨by kernel_rfl, by kernel_rfl⟩, trivial⟩ ?_
   refine XA_act (fuel' := 8) 8 #[true, true, true, true, true, true, true, true, true, false, false, false, false, false, false, false, false] _ rfl (by kernel_rfl) rfl (by kernel_rfl) rfl ?_
   have hB_125 : Below w_52.heap.size w_52 wd_113 := (bt (bg hb_103 hg_108 (Nat.le_refl _)) hb_114)
   refine xc 16 ent16 [.agg (c6A (zs_28.getD i.toNat cell0) (.slice A_54 ((zs_28.getD i.toNat cell0).attrs.length) c_55)), .agg (c6A (zs_28.getD i.toNat cell0) (.slice B_121 ((zs_28.getD i.toNat cell0).attrs.length) c_122))] (r9same_any (zs_28.getD i.toNat cell0) (zs_28.getD i.toNat cell0) _ _ _ _ _ (Kd.R_C (Kd.R_below hr_57 hB_125)) hC_124) ?_
   rintro e w_126 ⟨rfl, hb_127⟩; refine ⟨_, rfl, ?_⟩
   rw [(cEqP_iff (zs_28.getD i.toNat cell0) (zs_28.getD i.toNat cell0)).2 rfl]
   refine nl (XA_pure (fuel' := 3) [9, 10, 11, 12, 13] [] [.bool true, .bool true, .pointer (some ⟨d, 0, none⟩), .slice A_26 zs_28.length c_27, .int .i64 stop] #[true, true, true, true, true, true, true, true, true, true, true, true, true, true, false, false, false] [(92, .bool true), (93, .pointer (some ⟨d, 0, none⟩)), (94, .slice A_26 zs_28.length c_27), (95, .int .i64 stop)] (fun w_ => []) (fun _ _ _ _ h => h) (fun w_ => by kernel_rfl) rfl (fun w_ => trivial) ?_)
   refine XA_act (fuel' := 2) 14 #[true, true, true, true, true, true, true, true, true, true, true, true, true, true, true, false, false] _ rfl (by kernel_rfl) rfl (by kernel_rfl) rfl ?_
   have hB_128 : Below w_6.heap.size w_6 w_52 := (bt (bt (bt (bt hB_38 hb_41) hb_49) hb_51) hb_53)
   have hB_129 : Below w_6.heap.size w_6 w_126 := (bt (bt (bg (bt (bt (bt (bt (bt hB_38 hb_41) hb_49) hb_51) hb_53) hb_103) hg_108 (hB_128).size) hb_114) hb_127)
   have hB_130 : Below w.heap.size w w_52 := (bt (bt (bt (bt hB_39 hb_41) hb_49) hb_51) hb_53)
   have hB_131 : Below w.heap.size w w_126 := (bt (bt (bg (bt (bt (bt (bt (bt hB_39 hb_41) hb_49) hb_51) hb_53) hb_103) hg_108 (hB_130).size) hb_114) hb_127)
   refine xc 17 ent17 [.pointer (some ⟨d, 0, none⟩), .slice A_26 zs_28.length c_27, .int .i64 stop] (stops9_any d _ _ zs_28 _ (B.can xs) (B.can xs) _ (hD_d.below hB_129) (Kd.C_below hC_30 (bt hB_117 hb_127)) hcb_d hcn_d hcz_d (if_pos hdoc_).symm (doc_ref hcb_d hdoc_) (by first | (rw [ez_29]; done) | (rw [ez_29]; rfl)) (by rw [ez_29]; exact Nat.le_trans (Nat.le_of_eq rfl) (by first | exact hfew_ | decide)) (hT.below hB_131) es (hEC.below hB_131)) ?_
   rintro e w_132 ⟨rfl, hb_133⟩; refine ⟨_, rfl, ?_⟩
   refine nl (XA_pure (fuel' := 0) [15, 16] [] [.bool true, .bool true] #[true, true, true, true, true, true, true, true, true, true, true, true, true, true, true, true, true] [(6, .bool true)] (fun w_ => []) (fun _ _ _ _ h => h) (fun w_ => by kernel_rfl) rfl (fun w_ => trivial) ?_)
   refine XA_done (by kernel_rfl) ?_
   refine X_ret (rk [.bool true] (hR_ _ _ ?_))
   exact ⟨rfl, (bt hB_131 hb_133)⟩
  rw [if_neg hdoc_] at ez_23; rw [if_neg hdoc_, errV_pos es 9 (by decide)]
  refine xr0 5 [(10, .slice A_20 zs_22.length c_21), (11, .iface 164 (.pointer (some (errAt es 9))))] [31, 32] ?_
  refine nl (sq (rg (xr0 1 [(36, .slice A_12 ((B.can xs).length) c_13)] [9] ?_)))
  refine xc 10 ent10 [.slice A_12 ((B.can xs).length) c_13] (list9_any _ _ (B.can xs) _ (Kd.R_C (Kd.R_below hr_16 hb_19)) hcn_d hcb_d hcz_d hutf_ hfew_) ?_
  rintro e w_140 ⟨A_134, c_135, zs_136, ez_137, rfl, hC_138, hl_139, hb_141⟩; refine ⟨_, rfl, ?_⟩
  rw [if_neg hdoc_] at ez_137; rw [if_neg hdoc_]
  refine xe0 5 [(1, .int .i64 i), (2, .int .i64 stop), (8, pw d 0), (10, .slice A_20 zs_22.length c_21), (11, .iface 164 (.pointer (some (errAt es 9)))), (12, .slice A_134 zs_136.length c_135), (13, .int .i64 9)] ?_
  refine nl (sq (sq (rg (xr0 1 [(40, .iface 164 (.pointer (some (errAt es 9))))] [11] ?_))))
  have hB_142 : Below w.heap.size w w_140 := (bt (bt (bt (bt (bt hb_2 hb_4) hb_7) hb_17) hb_19) hb_141)
  refine xc 11 ent11 [.iface 164 (.pointer (some (errAt es 9)))] (num_err es 9 (by decide) (by decide) _ (hE.below hB_142)) ?_
  rintro e w_143 ⟨rfl, hb_144⟩; refine ⟨_, rfl, ?_⟩
  refine xr0 5 [(44, .bool false), (45, .slice A_20 zs_22.length c_21), (46, .slice A_134 zs_136.length c_135)] [40, 41] ?_
  refine xc 12 ent12 [.slice A_20 zs_22.length c_21, .slice A_134 zs_136.length c_135] (r9list_any _ _ _ _ zs_22 zs_136 _ (Kd.R_C (Kd.R_below hr_25 (bt hb_141 hb_144))) (Kd.C_below hC_138 hb_144)) ?_
  rintro e w_145 ⟨rfl, hb_146⟩; refine ⟨_, rfl, ?_⟩
  rw [(csEqP_iff zs_22 zs_136).2 (by rw [ez_23, ez_137] <;> rfl)]
  refine xr0 13 [(60, .bool false)] [10, 44, 45, 46, 47] ?_
  refine nl (cf (sk (sq (rg (xr0 3 [(62, pw d 0), (64, .int .i64 (zs_136.length : Int))] [60] ?_)))))
  have hB_147 : Below w_6.heap.size w_6 w_145 := (bt (bt (bt (bt hb_17 hb_19) hb_141) hb_144) hb_146)
  refine xc 14 ent14 [.pointer (some ⟨d, 0, none⟩), .int .i64 (zs_136.length : Int)] (told9l_any d _ (B.can xs) [] _ (hD_d.below hB_147) hcb_d hcn_d hcz_d (if_neg hdoc_).symm (fun t_ h_ => by simp at h_) (by decide) (by rw [ez_137]; exact Int.le_refl _) (hT.below (bt (bt hB_142 hb_144) hb_146)) es (hEC.below (bt (bt hB_142 hb_144) hb_146))) ?_
  rintro e w_154 ⟨A_148, c_149, zs_150, ez_151, rfl, hl_152, hr_153, hb_155⟩; refine ⟨_, rfl, ?_⟩
  refine xr0 5 [(7, .bool true), (14, .slice A_148 zs_150.length c_149)] [62, 64, 65] ?_
  refine nl (sq (sq (rg (xe0 5 [(1, .int .i64 i), (2, .int .i64 stop), (8, pw d 0), (12, .slice A_134 zs_136.length c_135), (13, .int .i64 9), (70, .bool false), (71, .slice A_148 zs_150.length c_149), (72, .slice A_134 zs_136.length c_135)] ?_))))
  refine xc 12 ent12 [.slice A_148 zs_150.length c_149, .slice A_134 zs_136.length c_135] (r9list_any _ _ _ _ zs_150 zs_136 _ (Kd.R_C hr_153) (Kd.C_below hC_138 (bt (bt hb_144 hb_146) hb_155))) ?_
  rintro e w_156 ⟨rfl, hb_157⟩; refine ⟨_, rfl, ?_⟩
  rw [(csEqP_iff zs_150 zs_136).2 (by rw [ez_151, ez_137] <;> rfl)]
  refine xr0 2 [(75, .bool false)] [70, 71, 72, 73] ?_
  refine nl (cf (sk (sq (rg (xr0 2 [(77, pw d 0), (78, .int .i64 i)] [75] ?_)))))
  have hB_164 : Below w.heap.size w w_156 := (bt (bt (bt (bt hB_142 hb_144) hb_146) hb_155) hb_157)
  refine xc 15 ent15 [.pointer (some ⟨d, 0, none⟩), .int .i64 i] (cat_any d (B.can xs) i _ (hD_d.below (bt (bt hB_147 hb_155) hb_157)) hcb_d hcn_d hcz_d (fun h_ => doc_ref hcb_d h_) hfew_ (hT.below hB_164) es (hEC.below hB_164)) ?_
  rintro e w_158 ⟨A_160, c_161, rfl, hl_162, hr_163, hb_159⟩; refine ⟨_, rfl, ?_⟩
  have hat_ : atP (B.can xs) i = (cell0, 9) := if_neg hdoc_
  rw [hat_] at hl_162 hr_163 ⊢
  replace hl_162 : cell0.attrs.length ≤ c_161 := hl_162
  replace hr_163 : kAttr.R 93 w_158 w_156.heap.size (OkFrom w_156.heap.size) (.slice A_160 cell0.attrs.length c_161) cell0.attrs := hr_163
  rw [errV_pos es 9 (by decide)]
  refine xw 4 [] [(15, pw w_158.heap.size 0), (80, .agg (c6A cell0 (.slice A_160 cell0.attrs.length c_161))), (81, .iface 164 (.pointer (some (errAt es 9))))] [77, 78, 79] (w_158.alloc (.cells #[.int .i32 0, .string ByteArray.empty, .int .i64 0, .int .i64 0, .string ByteArray.empty, .slice none 0 0] 44)) [] trivial ?_
  obtain ⟨w_165, hw_169, hb_166, hk_167, hz_168⟩ := new_world w_158 #[.int .i32 0, .string ByteArray.empty, .int .i64 0, .int .i64 0, .string ByteArray.empty, .slice none 0 0] 44
  rw [hw_169]
  refine xst (.agg (c6A cell0 (.slice A_160 cell0.attrs.length c_161))) hk_167 0 (c6A cell0 (.slice A_160 cell0.attrs.length c_161)) (fun w_170 hg_171 hk_172 hz_173 => ?_)
  have hB_174 : Below w_18.heap.size w_18 w_158 := (bt (bt (bt (bt (bt hb_141 hb_144) hb_146) hb_155) hb_157) hb_159)
  have hB_175 : Below w_14.heap.size w_14 w_158 := (bt (bt (bt (bt (bt (bt hb_19 hb_141) hb_144) hb_146) hb_155) hb_157) hb_159)
  refine xr0 1 [(11, .iface 164 (.pointer (some (errAt es 9))))] [80, 81] ?_
  refine nl (sq (bk (sq (rg (xr0 3 [(98, .bool true)] [] ?_)))))
  refine nl (ct (rg (xe0 1 [(2, .int .i64 stop), (8, pw d 0), (12, .slice A_134 zs_136.length c_135), (13, .int .i64 9), (15, pw w_158.heap.size 0), (101, .iface 164 (.pointer (some (errAt es 9))))] ?_)))
  have hB_176 : Below w.heap.size w w_170 := (bg (bt (bt hB_164 hb_159) hb_166) hg_171 ((bt hB_164 hb_159)).size)
  refine xc 11 ent11 [.iface 164 (.pointer (some (errAt es 9)))] (num_err es 9 (by decide) (by decide) _ (hE.below hB_176)) ?_
  rintro e w_177 ⟨rfl, hb_178⟩; refine ⟨_, rfl, ?_⟩
  refine xr0 3 [(7, .bool true)] [13, 101, 102] ?_
  refine nl (sq (rg (xr 4 [(119, .load (.agg (c6A cell0 (.slice A_160 cell0.attrs.length c_161))))] [(118, .bool true), (119, .agg (c6A cell0 (.slice A_160 cell0.attrs.length c_161))), (120, .agg #[.int .i32 0, .string ByteArray.empty, .int .i64 0, .int .i64 0, .string ByteArray.empty, .slice none 0 0])] [7, 15] [LoadsAs Tryd.prog 44 (⟨w_158.heap.size, 0, none⟩) (.agg (c6A cell0 (.slice A_160 cell0.attrs.length c_161))) w_177] ⟨loadsB rfl rfl (Blk.below hk_172 hb_178) 0 ⟨by kernel_rfl, by kernel_rfl⟩, trivial⟩ ?_)))
  have hB_179 : Below w_158.heap.size w_158 w_177 := (bt (bg hb_166 hg_171 (Nat.le_refl _)) hb_178)
  refine xc 16 ent16 [.agg (c6A cell0 (.slice A_160 cell0.attrs.length c_161)), .agg #[.int .i32 0, .string ByteArray.empty, .int .i64 0, .int .i64 0, .string ByteArray.empty, .slice none 0 0]] (r9same_any cell0 cell0 _ _ _ _ _ (Kd.R_C (Kd.R_below hr_163 hB_179)) ⟨rfl, by decide, fun h_ => absurd h_ (by decide)⟩) ?_
  rintro e w_180 ⟨rfl, hb_181⟩; refine ⟨_, rfl, ?_⟩
  rw [(cEqP_iff cell0 cell0).2 rfl]
  refine xe0 5 [(123, .bool true), (124, pw d 0), (125, .slice A_134 zs_136.length c_135), (126, .int .i64 stop)] ?_
  have hB_182 : Below w_6.heap.size w_6 w_158 := (bt (bt (bt hB_147 hb_155) hb_157) hb_159)
  have hB_183 : Below w_6.heap.size w_6 w_180 := (bt (bt (bg (bt (bt (bt (bt hB_147 hb_155) hb_157) hb_159) hb_166) hg_171 (hB_182).size) hb_178) hb_181)
  have hB_184 : Below w_140.heap.size w_140 w_158 := (bt (bt (bt (bt hb_144 hb_146) hb_155) hb_157) hb_159)
  have hB_185 : Below w_140.heap.size w_140 w_180 := (bt (bt (bg (bt (bt (bt (bt (bt hb_144 hb_146) hb_155) hb_157) hb_159) hb_166) hg_171 (hB_184).size) hb_178) hb_181)
  refine xc 17 ent17 [.pointer (some ⟨d, 0, none⟩), .slice A_134 zs_136.length c_135, .int .i64 stop] (stops9_any d _ _ zs_136 _ (B.can xs) [] _ (hD_d.below hB_183) (Kd.C_below hC_138 hB_185) hcb_d hcn_d hcz_d (if_neg hdoc_).symm (fun t_ h_ => by simp at h_) (by first | (rw [ez_137]; done) | (rw [ez_137]; rfl)) (by rw [ez_137]; exact Nat.le_trans (Nat.le_of_eq rfl) (by first | exact hfew_ | decide)) (hT.below (bt (bt hB_176 hb_178) hb_181)) es (hEC.below (bt (bt hB_176 hb_178) hb_181))) ?_
  rintro e w_186 ⟨rfl, hb_187⟩; refine ⟨_, rfl, ?_⟩
  refine xe0 2 [(6, .bool true)] ?_
  refine nl (X_ret (rk [.bool true] (hR_ _ _ ?_)))
  have hB_188 : Below w.heap.size w w_186 := (bt (bt (bt hB_176 hb_178) hb_181) hb_187)
  exact ⟨rfl, hB_188⟩
 refine ⟨_, rfl, ?_⟩
 refine xr0 1 [(8, .pointer none)] [24, 25] ?_
 refine nl (sq (sq (rg (xe0 2 [(1, .int .i64 i), (2, .int .i64 stop), (8, .pointer none), (27, .bool true)] ?_))))
 refine nl (ct (sq (rg (xe0 1 [(6, .bool true)] ?_))))
 refine nl (X_ret (rk [.bool true] (hR_ _ _ ?_)))
 exact ⟨rfl, (bt (bt hb_2 hb_4) hb_7)⟩
end Go.Proofs.YtgphmfnkeolbcaaDoor
