/- What vellumref03.both and Over answer. Conditions: sizes, lengths, the tables of utf8. -/
import Derived.Test.YtkehomiogkoomaaDoorPat
import Derived.Test.YtkehomiogkoomaaDoorR1
import Derived.Test.YtkehomiogkoomaaDoorA7
set_option linter.unusedVariables false
set_option linter.unusedSimpArgs false
set_option maxRecDepth 100000
namespace Go.Proofs.YtkehomiogkoomaaDoor
open Go Go.RowKit Go.Proofs.YtkehomiogkoomaaDoorW.PrintWords RX
theorem r3both_any (A B : Option Addr) (c d : Nat) (xs ys : List At) (w : World) (hx : kAttr.C w A xs.length xs) (hy : kAttr.C w B ys.length ys) (na nb : Bool) (hsx : (∀ i, i < xs.length → (xs.getD i at0).1.size ≤ 100000000 ∧ (xs.getD i at0).2.2.2.size ≤ 100000000)) (hsy : (∀ i, i < ys.length → (ys.getD i at0).1.size ≤ 100000000 ∧ (ys.getD i at0).2.2.2.size ≤ 100000000)) (hT : Tabs w) :
  Calls Tryd.prog 111 #[.slice A xs.length c, .slice B ys.length d, .bool na, .bool nb] w fun e w' => e = .returned (.int .i64 (chk2 na xs nb ys : Int)) ∧ Below w.heap.size w w' := by
 refine RX.enter Tryd.func111 rfl 19 rfl [(0, .slice A xs.length c), (1, .slice B ys.length d), (2, .bool na), (3, .bool nb)] rfl (by kernel_rfl) (fun R_ hR_ => ?_)
 refine sq (rg (xe0 1 [(0, .slice A xs.length c), (1, .slice B ys.length d), (2, .bool na), (3, .bool nb)] ?_))
 refine nl (sq (rg (xr0 2 [(10, .slice A xs.length c), (11, .bool na)] [0, 2] ?_)))
 refine xc 33 ent33 [.slice A xs.length c, .bool na] (r3check_any _ _ xs na _ hx hsx (hT.below (Below.refl _ _))) ?_
 rintro e w_1 ⟨rfl, hb_2⟩; refine ⟨_, rfl, ?_⟩
 refine xr0 1 [(9, .int .i64 (chkA na xs : Int))] [10, 11, 12] ?_
 refine nl (sq (sq (rg (xr0 1 [(13, .int .i64 (chkA na xs : Int))] [] ?_))))
 by_cases c_3 : (chkA na xs : Int) = 0
 ·refine xr 1 [(14, .eq (.bool false))] [(14, .bool false)] [13] [Value.bool ((chkA na xs : Int) != 0) = Value.bool false] ⟨congrArg Value.bool (bneF (c_3)), trivial⟩ ?_
  refine nl (cf (sk (sq (rg (xe0 2 [(16, .slice B ys.length d), (17, .bool nb)] ?_)))))
  refine xc 33 ent33 [.slice B ys.length d, .bool nb] (r3check_any _ _ ys nb _ (Kd.C_below hy hb_2) hsy (hT.below hb_2)) ?_
  rintro e w_4 ⟨rfl, hb_5⟩; refine ⟨_, rfl, ?_⟩
  refine xe0 1 [(8, .int .i64 (chkA nb ys : Int))] ?_
  refine nl (X_ret (rk [.int .i64 (chkA nb ys : Int)] (hR_ _ _ ?_)))
  rw [show (chk2 na xs nb ys : Int) = (chkA nb ys : Int) from by unfold chk2; split <;> omega]
  exact ⟨rfl, (bt hb_2 hb_5)⟩
 refine xr 1 [(14, .eq (.bool true))] [(14, .bool true)] [13] [Value.bool ((chkA na xs : Int) != 0) = Value.bool true] ⟨congrArg Value.bool (bneT (c_3)), trivial⟩ ?_
 refine nl (ct (sq (rg (xe0 2 [(8, .int .i64 (chkA na xs : Int))] ?_))))
 refine nl (X_ret (rk [.int .i64 (chkA na xs : Int)] (hR_ _ _ ?_)))
 rw [show (chk2 na xs nb ys : Int) = (chkA na xs : Int) from by unfold chk2; split <;> omega]
 exact ⟨rfl, hb_2⟩
theorem r3over_any (A B : Option Addr) (c d : Nat) (xs ys : List At) (w : World) (hx : kAttr.C w A xs.length xs) (hy : kAttr.C w B ys.length ys) (hn : xs.length + ys.length ≤ 400000000) (first : Bool) : Calls Tryd.prog 47 #[.slice A xs.length c, .slice B ys.length d, .bool first] w fun e w' => ∃ A' c' zs, zs = ys.filterMap (oF first xs) ∧ zs.length ≤ ys.length ∧ e = .returned (.slice A' zs.length c') ∧ zs.length ≤ c' ∧ kAttr.R 71 w' w.heap.size (OkFrom w.heap.size) (.slice A' zs.length c') zs ∧ Below w.heap.size w w' := by
 have hpl : xs.length ≤ 9223372036854775807 := hx.2.1
 have hpl2 : ys.length ≤ 9223372036854775807 := hy.2.1
 refine RX.enter Tryd.func47 rfl 38 rfl [(0, .slice A xs.length c), (1, .slice B ys.length d), (2, .bool first)] rfl (by kernel_rfl) (fun R_ hR_ => ?_)
 refine sq (rg (xe0 1 [(0, .slice A xs.length c), (1, .slice B ys.length d), (2, .bool first)] ?_))
 refine nl (sq (rg (xw 1 [] [(12, .slice (some ⟨w.heap.size, 0, none⟩) 0 0)] [] (w.alloc (.cells #[] 71)) [] trivial ?_)))
 obtain ⟨w_1, hw_5, hb_2, hk_3, hz_4⟩ := new_world w #[] 71
 rw [hw_5]
 refine xr0 1 [(7, .slice (some ⟨w.heap.size, 0, none⟩) 0 0)] [12] ?_
 refine nl (sq (sq (rg (xr0 3 [(13, .slice B ys.length d), (14, .int .i64 (ys.length : Int)), (15, .int .i64 0)] [1] ?_))))
 refine nl (X_block ?_)
 have hr_6 := Kd.R_litB kAttr (W := w) (e := 71) (cs := #[]) [] hk_3 (repsAttr []) (Nat.le_of_ble_eq_true (by kernel_rfl))
 refine X_loop (ι := Nat × Option Addr × Nat × List At) (fun ⟨i, A3, c3, zs3⟩ => [(0, .slice A xs.length c), (2, .bool first), (7, .slice A3 zs3.length c3), (13, .slice B ys.length d), (14, .int .i64 (ys.length : Int)), (15, .int .i64 (i : Int))]) (fun ⟨i, A3, c3, zs3⟩ wl => i ≤ ys.length ∧ zs3 = (ys.take i).filterMap (oF first xs) ∧ kAttr.R 71 wl w.heap.size (OkFrom w.heap.size) (.slice A3 zs3.length c3) zs3 ∧ w.heap.size ≤ wl.heap.size ∧ Below w.heap.size w wl) (fun ⟨i, A3, c3, zs3⟩ => ys.length - i) (0, (some ⟨w.heap.size, 0, none⟩), 0, []) ⟨by omega, rfl, hr_6, (hb_2).size, hb_2⟩ (by kernel_rfl) ?_
 rintro ⟨i, A3, c3, zs3⟩ wl ⟨hi, he3, hr3, hle3, HB⟩
 have hzl : zs3.length ≤ ys.length := by rw [he3]; exact Nat.le_trans (List.length_filterMap_le _ _) (by rw [List.length_take]; omega)
 refine sq (X_region ?_)
 by_cases c_7 : (i : Int) < (ys.length : Int)
 ·refine xr 1 [(16, .eq (.bool true))] [(16, .bool true)] [] [Value.bool (decide ((i : Int) < (ys.length : Int))) = Value.bool true] ⟨congrArg Value.bool (decide_eq_true (c_7)), trivial⟩ ?_
  refine nl (sq (ct (sk (sq (bk (sq (X_region ?_)))))))
  obtain ⟨ad_8, ha_9, hc_10⟩ := Kd.atAttr (Kd.C_below hy HB) (i := (i : Int)) (by omega) (by omega)
  replace hc_10 : CellsAt wl (ad_8.add ((i : Int).toNat * 4)) [.string ((ys.getD i at0).1), .int .i64 ((ys.getD i at0).2.1), .int .i64 ((ys.getD i at0).2.2.1), .string ((ys.getD i at0).2.2.2)] := hc_10
  refine xw 3 [(17, .idx ad_8), (18, .load (.agg #[.string ((ys.getD i at0).1), .int .i64 ((ys.getD i at0).2.1), .int .i64 ((ys.getD i at0).2.2.1), .string ((ys.getD i at0).2.2.2)]))] [(9, pw wl.heap.size 0), (18, .agg #[.string ((ys.getD i at0).1), .int .i64 ((ys.getD i at0).2.1), .int .i64 ((ys.getD i at0).2.2.1), .string ((ys.getD i at0).2.2.2)])] [16] (wl.alloc (.cells #[.string ByteArray.empty, .int .i64 0, .int .i64 0, .string ByteArray.empty] 71)) [B = some ad_8, (0 : Int) ≤ (i : Int), (i : Int) < (ys.length : Int), LoadsAs Tryd.prog 71 (ad_8.add ((i : Int).toNat * 4)) (.agg #[.string ((ys.getD i at0).1), .int .i64 ((ys.getD i at0).2.1), .int .i64 ((ys.getD i at0).2.2.1), .string ((ys.getD i at0).2.2.2)]) wl] ⟨ha_9, (by omega), (by omega), loadsE rfl rfl hc_10 0 ⟨by kernel_rfl, by kernel_rfl⟩, trivial⟩ ?_
  obtain ⟨w_11, hw_15, hb_12, hk_13, hz_14⟩ := new_world wl #[.string ByteArray.empty, .int .i64 0, .int .i64 0, .string ByteArray.empty] 71
  rw [hw_15]
  refine xst (.agg #[.string ((ys.getD i at0).1), .int .i64 ((ys.getD i at0).2.1), .int .i64 ((ys.getD i at0).2.2.1), .string ((ys.getD i at0).2.2.2)]) hk_13 0 #[.string ((ys.getD i at0).1), .int .i64 ((ys.getD i at0).2.1), .int .i64 ((ys.getD i at0).2.2.1), .string ((ys.getD i at0).2.2.2)] (fun w_16 hg_17 hk_18 hz_19 => ?_)
  refine nl (sq (rg (xr 3 [(22, .load (.string ((ys.getD i at0).1)))] [(20, .slice A xs.length c), (22, .string ((ys.getD i at0).1))] [18] [LoadsAs Tryd.prog 9 (⟨wl.heap.size, 0, none⟩) (.string ((ys.getD i at0).1)) w_16] ⟨loads1 rfl (Blk.cell hk_18 0 _ rfl), trivial⟩ ?_)))
  refine xc 37 ent37 [.slice A xs.length c, .string ((ys.getD i at0).1)] (has_any _ _ xs ((ys.getD i at0).1) _ (Kd.C_below hx (bg (bt HB hb_12) hg_17 hle3))) ?_
  rintro e w_20 ⟨rfl, hb_21⟩; refine ⟨_, rfl, ?_⟩
  refine xw 4 [] [(10, pw w_20.heap.size 0), (24, .agg #[.int .i64 ((gv xs ((ys.getD i at0).1)).1), .int .i64 ((gv xs ((ys.getD i at0).1)).2.1), .string ((gv xs ((ys.getD i at0).1)).2.2)]), (25, .bool ((get xs ((ys.getD i at0).1)).isSome))] [20, 22, 23] (w_20.alloc (.cells #[.int .i64 0, .int .i64 0, .string ByteArray.empty] 44)) [] trivial ?_
  obtain ⟨w_22, hw_26, hb_23, hk_24, hz_25⟩ := new_world w_20 #[.int .i64 0, .int .i64 0, .string ByteArray.empty] 44
  rw [hw_26]
  refine xst (.agg #[.int .i64 ((gv xs ((ys.getD i at0).1)).1), .int .i64 ((gv xs ((ys.getD i at0).1)).2.1), .string ((gv xs ((ys.getD i at0).1)).2.2)]) hk_24 0 #[.int .i64 ((gv xs ((ys.getD i at0).1)).1), .int .i64 ((gv xs ((ys.getD i at0).1)).2.1), .string ((gv xs ((ys.getD i at0).1)).2.2)] (fun w_27 hg_28 hk_29 hz_30 => ?_)
  have hB_31 : Below wl.heap.size wl w_20 := (bt (bg hb_12 hg_17 (Nat.le_refl _)) hb_21)
  refine xr0 1 [(11, .bool ((get xs ((ys.getD i at0).1)).isSome))] [10, 24, 25] ?_
  refine nl (sq (rg (xe0 1 [(0, .slice A xs.length c), (2, .bool first), (7, .slice A3 zs3.length c3), (9, pw wl.heap.size 0), (11, .bool ((get xs ((ys.getD i at0).1)).isSome)), (13, .slice B ys.length d), (14, .int .i64 (ys.length : Int)), (15, nv i), (26, .bool first)] ?_)))
  by_cases c_32 : first = true
  ·rw [show (first : Bool) = true from by simpa using c_32]
   refine xr0 3 [(2, .bool true), (28, .bool false), (29, .bool ((get xs ((ys.getD i at0).1)).isSome))] [11, 26] ?_
   by_cases c_33 : (get xs ((ys.getD i at0).1)).isSome = true
   ·rw [show ((get xs ((ys.getD i at0).1)).isSome : Bool) = true from by simpa using c_33]
    refine xr0 2 [(31, .bool false)] [28, 29] ?_
    refine nl (cf (sk (rg (xr 2 [(36, .eq (.int .i64 ((i : Int) + 1)))] [(15, .int .i64 ((i : Int) + 1))] [9, 31] [Value.int .i64 (IntKind.i64.wrap ((i : Int) + 1)) = Value.int .i64 ((i : Int) + 1)] ⟨wr_i64 (by omega) (by omega), trivial⟩ ?_))))
    refine nl ?_
    have hB_34 : Below w.heap.size w w_27 := (bg (bt (bt (bg (bt HB hb_12) hg_17 hle3) hb_21) hb_23) hg_28 ((bt (bg (bt HB hb_12) hg_17 hle3) hb_21)).size)
    refine ⟨(i + 1, A3, c3, zs3), by kernel_rfl, ?_, ?_⟩
    ·have hnx : zs3 = (ys.take (i + 1)).filterMap (oF first xs) := by rw [take_map_snoc (oF first xs) (show i < ys.length from by omega), ← he3]; unfold oF; rw [if_pos ⟨c_32, c_33⟩]; simp
     obtain rfl : first = true := c_32
     exact ⟨by omega, hnx, (Kd.R_below hr3 (bg (bt hB_31 hb_23) hg_28 (hB_31).size)), (hB_34).size, hB_34⟩
    (try dsimp only); omega
   rw [show ((get xs ((ys.getD i at0).1)).isSome : Bool) = false from by simpa using c_33]
   refine xr0 2 [(31, .bool true)] [28, 29] ?_
   refine nl (ct (rg (xw 3 [(33, .load (.agg #[.string ((ys.getD i at0).1), .int .i64 ((ys.getD i at0).2.1), .int .i64 ((ys.getD i at0).2.2.1), .string ((ys.getD i at0).2.2.2)]))] [(32, .slice A3 zs3.length c3), (34, .slice (some ⟨w_27.heap.size, 0, none⟩) 1 1)] [7, 9, 31] (w_27.alloc (.cells #[.string ((ys.getD i at0).1), .int .i64 ((ys.getD i at0).2.1), .int .i64 ((ys.getD i at0).2.2.1), .string ((ys.getD i at0).2.2.2)] 71)) [LoadsAs Tryd.prog 71 (⟨wl.heap.size, 0, none⟩) (.agg #[.string ((ys.getD i at0).1), .int .i64 ((ys.getD i at0).2.1), .int .i64 ((ys.getD i at0).2.2.1), .string ((ys.getD i at0).2.2.2)]) w_27] ⟨loadsB rfl rfl (Blk.below hk_18 (bg (bt hb_21 hb_23) hg_28 (hb_21).size)) 0 ⟨by kernel_rfl, by kernel_rfl⟩, trivial⟩ ?_)))
   obtain ⟨w_35, hw_39, hb_36, hk_37, hz_38⟩ := new_world w_27 #[.string ((ys.getD i at0).1), .int .i64 ((ys.getD i at0).2.1), .int .i64 ((ys.getD i at0).2.2.1), .string ((ys.getD i at0).2.2.2)] 71
   rw [hw_39]
   rw [← hw_39]
   have hB_48 : Below w.heap.size w w_27 := (bg (bt (bt (bg (bt HB hb_12) hg_17 hle3) hb_21) hb_23) hg_28 ((bt (bg (bt HB hb_12) hg_17 hle3) hb_21)).size)
   refine XL_append kAttr rfl rfl rfl w.heap.size 71 (.agg #[.string ByteArray.empty, .int .i64 0, .int .i64 0, .string ByteArray.empty]) 48 Tryd.underlying45 info71 rfl (by decide) (by omega) zs3 ((ys.getD i at0).1, (ys.getD i at0).2.1, (ys.getD i at0).2.2.1, (ys.getD i at0).2.2.2) [.string ((ys.getD i at0).1), .int .i64 ((ys.getD i at0).2.1), .int .i64 ((ys.getD i at0).2.2.1), .string ((ys.getD i at0).2.2.2)] (fun _ => False) (by kernel_rfl) (kAttr_M _ _ _ _) (fun _ h => h.elim) (Kd.R_below hr3 (bg (bt hB_31 hb_23) hg_28 (hB_31).size)) (hB_48).size (by first | omega | (simp; omega)) ?_
   intro A_40 c_41 w_42 hr_43 hc_44 hg_45 hl_46 ha_47
   refine xr0 1 [(7, .slice A_40 ((zs3 ++ [((ys.getD i at0).1, (ys.getD i at0).2.1, (ys.getD i at0).2.2.1, (ys.getD i at0).2.2.2)]).length) c_41)] [32, 34, 35] ?_
   refine nl (rg (xr 2 [(36, .eq (.int .i64 ((i : Int) + 1)))] [(15, .int .i64 ((i : Int) + 1))] [] [Value.int .i64 (IntKind.i64.wrap ((i : Int) + 1)) = Value.int .i64 ((i : Int) + 1)] ⟨wr_i64 (by omega) (by omega), trivial⟩ ?_))
   refine nl ?_
   refine ⟨(i + 1, A_40, c_41, (zs3 ++ [((ys.getD i at0).1, (ys.getD i at0).2.1, (ys.getD i at0).2.2.1, (ys.getD i at0).2.2.2)])), by kernel_rfl, ?_, ?_⟩
   ·have hnx : (zs3 ++ [((ys.getD i at0).1, (ys.getD i at0).2.1, (ys.getD i at0).2.2.1, (ys.getD i at0).2.2.2)]) = (ys.take (i + 1)).filterMap (oF first xs) := by rw [take_map_snoc (oF first xs) (show i < ys.length from by omega), ← he3]; unfold oF; rw [if_neg (fun h_ => c_33 h_.2)]; simp
    obtain rfl : first = true := c_32
    exact ⟨by omega, hnx, hr_43, ((bgo hB_48 hg_45 hl_46 (Nat.le_refl _))).size, (bgo hB_48 hg_45 hl_46 (Nat.le_refl _))⟩
   (try dsimp only); omega
  rw [show (first : Bool) = false from by simpa using c_32]
  refine xr0 5 [(2, .bool false), (31, .bool true)] [11, 26] ?_
  refine nl (ct (rg (xw 3 [(33, .load (.agg #[.string ((ys.getD i at0).1), .int .i64 ((ys.getD i at0).2.1), .int .i64 ((ys.getD i at0).2.2.1), .string ((ys.getD i at0).2.2.2)]))] [(32, .slice A3 zs3.length c3), (34, .slice (some ⟨w_27.heap.size, 0, none⟩) 1 1)] [7, 9, 31] (w_27.alloc (.cells #[.string ((ys.getD i at0).1), .int .i64 ((ys.getD i at0).2.1), .int .i64 ((ys.getD i at0).2.2.1), .string ((ys.getD i at0).2.2.2)] 71)) [LoadsAs Tryd.prog 71 (⟨wl.heap.size, 0, none⟩) (.agg #[.string ((ys.getD i at0).1), .int .i64 ((ys.getD i at0).2.1), .int .i64 ((ys.getD i at0).2.2.1), .string ((ys.getD i at0).2.2.2)]) w_27] ⟨loadsB rfl rfl (Blk.below hk_18 (bg (bt hb_21 hb_23) hg_28 (hb_21).size)) 0 ⟨by kernel_rfl, by kernel_rfl⟩, trivial⟩ ?_)))
  obtain ⟨w_49, hw_53, hb_50, hk_51, hz_52⟩ := new_world w_27 #[.string ((ys.getD i at0).1), .int .i64 ((ys.getD i at0).2.1), .int .i64 ((ys.getD i at0).2.2.1), .string ((ys.getD i at0).2.2.2)] 71
  rw [hw_53]
  rw [← hw_53]
  have hB_62 : Below w.heap.size w w_27 := (bg (bt (bt (bg (bt HB hb_12) hg_17 hle3) hb_21) hb_23) hg_28 ((bt (bg (bt HB hb_12) hg_17 hle3) hb_21)).size)
  refine XL_append kAttr rfl rfl rfl w.heap.size 71 (.agg #[.string ByteArray.empty, .int .i64 0, .int .i64 0, .string ByteArray.empty]) 48 Tryd.underlying45 info71 rfl (by decide) (by omega) zs3 ((ys.getD i at0).1, (ys.getD i at0).2.1, (ys.getD i at0).2.2.1, (ys.getD i at0).2.2.2) [.string ((ys.getD i at0).1), .int .i64 ((ys.getD i at0).2.1), .int .i64 ((ys.getD i at0).2.2.1), .string ((ys.getD i at0).2.2.2)] (fun _ => False) (by kernel_rfl) (kAttr_M _ _ _ _) (fun _ h => h.elim) (Kd.R_below hr3 (bg (bt hB_31 hb_23) hg_28 (hB_31).size)) (hB_62).size (by first | omega | (simp; omega)) ?_
  intro A_54 c_55 w_56 hr_57 hc_58 hg_59 hl_60 ha_61
  refine xr0 1 [(7, .slice A_54 ((zs3 ++ [((ys.getD i at0).1, (ys.getD i at0).2.1, (ys.getD i at0).2.2.1, (ys.getD i at0).2.2.2)]).length) c_55)] [32, 34, 35] ?_
  refine nl (rg (xr 2 [(36, .eq (.int .i64 ((i : Int) + 1)))] [(15, .int .i64 ((i : Int) + 1))] [] [Value.int .i64 (IntKind.i64.wrap ((i : Int) + 1)) = Value.int .i64 ((i : Int) + 1)] ⟨wr_i64 (by omega) (by omega), trivial⟩ ?_))
  refine nl ?_
  refine ⟨(i + 1, A_54, c_55, (zs3 ++ [((ys.getD i at0).1, (ys.getD i at0).2.1, (ys.getD i at0).2.2.1, (ys.getD i at0).2.2.2)])), by kernel_rfl, ?_, ?_⟩
  ·have hnx : (zs3 ++ [((ys.getD i at0).1, (ys.getD i at0).2.1, (ys.getD i at0).2.2.1, (ys.getD i at0).2.2.2)]) = (ys.take (i + 1)).filterMap (oF first xs) := by rw [take_map_snoc (oF first xs) (show i < ys.length from by omega), ← he3]; unfold oF; rw [if_neg (fun h_ => c_32 h_.1)]; simp
   obtain rfl : first = false := Bool.eq_false_iff.2 c_32
   exact ⟨by omega, hnx, hr_57, ((bgo hB_62 hg_59 hl_60 (Nat.le_refl _))).size, (bgo hB_62 hg_59 hl_60 (Nat.le_refl _))⟩
  (try dsimp only); omega
 refine xr 1 [(16, .eq (.bool false))] [(16, .bool false)] [] [Value.bool (decide ((i : Int) < (ys.length : Int))) = Value.bool false] ⟨congrArg Value.bool (decide_eq_false (c_7)), trivial⟩ ?_
 refine nl (sq (cf (X_exit (sq (rg (xe0 2 [(6, .slice A3 zs3.length c3)] ?_))))))
 refine nl (X_ret (rk [.slice A3 zs3.length c3] (hR_ _ _ ?_)))
 have hta : ys.take i = ys := List.take_of_length_le (by omega)
 rw [hta] at he3
 exact ⟨_, _, zs3, he3, by omega, rfl, (RX.Kd.R_len hr3).2, hr3, HB⟩
end Go.Proofs.YtkehomiogkoomaaDoor
