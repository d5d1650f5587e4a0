/- vellumlaw06: canonical, came, alike. Conditions: sizes, the tables of utf8. -/
import Derived.Test.YtkehomiogkoomaaDoorT7
import Derived.Test.YtkehomiogkoomaaDoorCanon
import Derived.Test.YtkehomiogkoomaaDoorMixC
set_option linter.unusedVariables false
set_option linter.unusedSimpArgs false
set_option maxRecDepth 100000
namespace Go.Proofs.YtkehomiogkoomaaDoor
open Go Go.RowKit Go.Proofs.YtkehomiogkoomaaDoorW.PrintWords RX
theorem ent66 : Ent Tryd.prog 66 := ent_of Tryd.func66 (by kernel_rfl) rfl
theorem ent129 : Ent Tryd.prog 129 := ent_of Tryd.func129 (by kernel_rfl) rfl
theorem ent69 : Ent Tryd.prog 69 := ent_of Tryd.func69 (by kernel_rfl) rfl
theorem info126 : (Tryd.prog.info? 126).map (fun i => (i.zero, i.size, i.bytes)) = some (some (.agg #[.int .i32 0, .string ByteArray.empty, .int .i64 0, .int .i64 0, .string ByteArray.empty, .slice none 0 0]), 6, 80) := by kernel_rfl
theorem r6canon_any (A : Option Addr) (c : Nat) (ys : List OpA) (w : World) (hx : kOp.C w A ys.length ys) (hn : ys.length ≤ 1100000) (hz : ∀ i, i < ys.length → opSz (ys.getD i op0)) (hc : Can ys) (hT : Tabs w) : Calls Tryd.prog 66 #[.slice A ys.length c] w fun e w' => e = .returned (.bool true) ∧ Below w.heap.size w w' := by
 obtain ⟨hb, hB, hR, hch, hl⟩ := B.of_can hc
 refine RX.enter Tryd.func66 rfl 73 rfl [(0, .slice A ys.length c)] rfl (by kernel_rfl) (fun R_ hR_ => ?_)
 refine sq (rg (xe0 1 [(0, .slice A ys.length c)] ?_))
 refine nl (sq (sq (rg (xr0 3 [(7, .slice A ys.length c), (8, .int .i64 (ys.length : Int)), (9, .int .i64 0)] [] ?_))))
 refine nl (bk (X_loop (ι := Nat) (fun i => [(0, .slice A ys.length c), (7, .slice A ys.length c), (8, .int .i64 (ys.length : Int)), (9, .int .i64 (i : Int))]) (fun i wl => i ≤ ys.length ∧ Below w.heap.size w wl) (fun i => ys.length - i) 0 ⟨Nat.zero_le _, (Below.refl _ _)⟩ (by kernel_rfl) ?_))
 rintro i wl ⟨hi, HB⟩
 refine sq (X_region ?_)
 by_cases c_1 : (i : Int) < (ys.length : Int)
 ·refine xr 1 [(10, .eq (.bool true))] [(10, .bool true)] [] [Value.bool (decide ((i : Int) < (ys.length : Int))) = Value.bool true] ⟨congrArg Value.bool (decide_eq_true (c_1)), trivial⟩ ?_
  refine nl (sq (ct (sk (sq (bk (sq (rg (xr0 1 [(11, nv i)] [10] ?_))))))))
  obtain ⟨ad_2, B_5, c_6, ha_3, hc_4, hl_7, hC_8⟩ := Kd.atOp (Kd.C_below hx HB) (i := (i : Int)) (by omega) (by omega)
  replace hc_4 : CellsAt wl (ad_2.add ((i : Int).toNat * 7)) [.int .i64 ((ys.getD i op0).kind), .string ((ys.getD i op0).text), .int .i64 ((ys.getD i op0).vk), .int .i64 ((ys.getD i op0).vn), .string ((ys.getD i op0).vt), .int .i64 ((ys.getD i op0).count), .slice B_5 ((ys.getD i op0).attrs.length) c_6] := hc_4
  replace hl_7 : (ys.getD i op0).attrs.length ≤ c_6 := hl_7
  replace hC_8 : kAttr.C wl B_5 ((ys.getD i op0).attrs.length) (ys.getD i op0).attrs := hC_8
  refine xw 3 [(12, .idx ad_2), (13, .load (.agg #[.int .i64 ((ys.getD i op0).kind), .string ((ys.getD i op0).text), .int .i64 ((ys.getD i op0).vk), .int .i64 ((ys.getD i op0).vn), .string ((ys.getD i op0).vt), .int .i64 ((ys.getD i op0).count), .slice B_5 ((ys.getD i op0).attrs.length) c_6]))] [(4, pw wl.heap.size 0), (13, .agg #[.int .i64 ((ys.getD i op0).kind), .string ((ys.getD i op0).text), .int .i64 ((ys.getD i op0).vk), .int .i64 ((ys.getD i op0).vn), .string ((ys.getD i op0).vt), .int .i64 ((ys.getD i op0).count), .slice B_5 ((ys.getD i op0).attrs.length) c_6])] [] (wl.alloc (.cells #[.int .i64 0, .string ByteArray.empty, .int .i64 0, .int .i64 0, .string ByteArray.empty, .int .i64 0, .slice none 0 0] 47)) [A = some ad_2, (0 : Int) ≤ (i : Int), (i : Int) < (ys.length : Int), LoadsAs Tryd.prog 47 (ad_2.add ((i : Int).toNat * 7)) (.agg #[.int .i64 ((ys.getD i op0).kind), .string ((ys.getD i op0).text), .int .i64 ((ys.getD i op0).vk), .int .i64 ((ys.getD i op0).vn), .string ((ys.getD i op0).vt), .int .i64 ((ys.getD i op0).count), .slice B_5 ((ys.getD i op0).attrs.length) c_6]) wl] ⟨ha_3, (by omega), (by omega), loadsE rfl rfl hc_4 0 ⟨by kernel_rfl, by kernel_rfl⟩, trivial⟩ ?_
  obtain ⟨w_9, hw_13, hb_10, hk_11, hz_12⟩ := new_world wl #[.int .i64 0, .string ByteArray.empty, .int .i64 0, .int .i64 0, .string ByteArray.empty, .int .i64 0, .slice none 0 0] 47
  rw [hw_13]
  refine xr0 1 [(3, nv i)] [11] ?_
  refine xst (.agg #[.int .i64 ((ys.getD i op0).kind), .string ((ys.getD i op0).text), .int .i64 ((ys.getD i op0).vk), .int .i64 ((ys.getD i op0).vn), .string ((ys.getD i op0).vt), .int .i64 ((ys.getD i op0).count), .slice B_5 ((ys.getD i op0).attrs.length) c_6]) hk_11 0 #[.int .i64 ((ys.getD i op0).kind), .string ((ys.getD i op0).text), .int .i64 ((ys.getD i op0).vk), .int .i64 ((ys.getD i op0).vn), .string ((ys.getD i op0).vt), .int .i64 ((ys.getD i op0).count), .slice B_5 ((ys.getD i op0).attrs.length) c_6] (fun w_14 hg_15 hk_16 hz_17 => ?_)
  refine nl (sq (sq (rg (xr 1 [(14, .load (.agg #[.int .i64 ((ys.getD i op0).kind), .string ((ys.getD i op0).text), .int .i64 ((ys.getD i op0).vk), .int .i64 ((ys.getD i op0).vn), .string ((ys.getD i op0).vt), .int .i64 ((ys.getD i op0).count), .slice B_5 ((ys.getD i op0).attrs.length) c_6]))] [(14, .agg #[.int .i64 ((ys.getD i op0).kind), .string ((ys.getD i op0).text), .int .i64 ((ys.getD i op0).vk), .int .i64 ((ys.getD i op0).vn), .string ((ys.getD i op0).vt), .int .i64 ((ys.getD i op0).count), .slice B_5 ((ys.getD i op0).attrs.length) c_6])] [13] [LoadsAs Tryd.prog 47 (⟨wl.heap.size, 0, none⟩) (.agg #[.int .i64 ((ys.getD i op0).kind), .string ((ys.getD i op0).text), .int .i64 ((ys.getD i op0).vk), .int .i64 ((ys.getD i op0).vn), .string ((ys.getD i op0).vt), .int .i64 ((ys.getD i op0).count), .slice B_5 ((ys.getD i op0).attrs.length) c_6]) w_14] ⟨loadsB rfl rfl hk_16 0 ⟨by kernel_rfl, by kernel_rfl⟩, trivial⟩ ?_))))
  refine xc 124 ent124 [.agg #[.int .i64 ((ys.getD i op0).kind), .string ((ys.getD i op0).text), .int .i64 ((ys.getD i op0).vk), .int .i64 ((ys.getD i op0).vn), .string ((ys.getD i op0).vt), .int .i64 ((ys.getD i op0).count), .slice B_5 ((ys.getD i op0).attrs.length) c_6]] (r5check_any (ys.getD i op0) _ _ _ (Kd.C_below hC_8 (bg hb_10 hg_15 (Nat.le_refl _))) (hz i (by omega)) (hT.below (bg (bt HB hb_10) hg_15 (HB).size))) ?_
  rintro e w_18 ⟨rfl, hb_19⟩; refine ⟨_, rfl, ?_⟩
  rw [badE_getD hb (show i < ys.length by omega)]
  refine xe0 1 [(0, .slice A ys.length c), (3, nv i), (4, pw wl.heap.size 0), (7, .slice A ys.length c), (8, .int .i64 (ys.length : Int)), (9, nv i), (16, .bool false)] ?_
  refine nl (cf (sk (sq (sq (rg (xr 4 [(18, .eq (.int .i64 ((i : Int) + 1)))] [(18, .int .i64 ((i : Int) + 1)), (20, .int .i64 (ys.length : Int))] [16] [Value.int .i64 (IntKind.i64.wrap ((i : Int) + 1)) = Value.int .i64 ((i : Int) + 1)] ⟨wr_i64 (by omega) (by omega), trivial⟩ ?_))))))
  by_cases c_20 : (i : Int) + 1 = (ys.length : Int)
  ·refine xr 1 [(21, .eq (.bool true))] [(21, .bool true)] [18, 20] [Value.bool ((i : Int) + 1 == (ys.length : Int)) = Value.bool true] ⟨congrArg Value.bool (beq_iff_eq.2 (c_20)), trivial⟩ ?_
   refine nl (ct (sq (rg (xr 1 [(22, .load (.agg #[.int .i64 ((ys.getD i op0).kind), .string ((ys.getD i op0).text), .int .i64 ((ys.getD i op0).vk), .int .i64 ((ys.getD i op0).vn), .string ((ys.getD i op0).vt), .int .i64 ((ys.getD i op0).count), .slice B_5 ((ys.getD i op0).attrs.length) c_6]))] [(22, .agg #[.int .i64 ((ys.getD i op0).kind), .string ((ys.getD i op0).text), .int .i64 ((ys.getD i op0).vk), .int .i64 ((ys.getD i op0).vn), .string ((ys.getD i op0).vt), .int .i64 ((ys.getD i op0).count), .slice B_5 ((ys.getD i op0).attrs.length) c_6])] [3, 4, 7, 8, 9, 21] [LoadsAs Tryd.prog 47 (⟨wl.heap.size, 0, none⟩) (.agg #[.int .i64 ((ys.getD i op0).kind), .string ((ys.getD i op0).text), .int .i64 ((ys.getD i op0).vk), .int .i64 ((ys.getD i op0).vn), .string ((ys.getD i op0).vt), .int .i64 ((ys.getD i op0).count), .slice B_5 ((ys.getD i op0).attrs.length) c_6]) w_18] ⟨loadsB rfl rfl (Blk.below hk_16 hb_19) 0 ⟨by kernel_rfl, by kernel_rfl⟩, trivial⟩ ?_))))
   have hB_21 : Below wl.heap.size wl w_18 := (bt (bg hb_10 hg_15 (Nat.le_refl _)) hb_19)
   refine xc 118 ent118 [.agg #[.int .i64 ((ys.getD i op0).kind), .string ((ys.getD i op0).text), .int .i64 ((ys.getD i op0).vk), .int .i64 ((ys.getD i op0).vn), .string ((ys.getD i op0).vt), .int .i64 ((ys.getD i op0).count), .slice B_5 ((ys.getD i op0).attrs.length) c_6]] (r6plain_any (ys.getD i op0) _ _ _ (Kd.C_below hC_8 hB_21)) ?_
   rintro e w_22 ⟨rfl, hb_23⟩; refine ⟨_, rfl, ?_⟩
   rw [show decide (plainR (ys.getD i op0)) = false from decide_eq_false (by have h_ := hl.resolve_left (by omega); unfold B.lst at h_; rw [show ys.length - 1 = i by omega] at h_; exact h_)]
   refine xe0 3 [(25, .bool true), (26, .slice A ys.length c)] ?_
   have hB_24 : Below w.heap.size w w_22 := (bt (bt (bg (bt HB hb_10) hg_15 (HB).size) hb_19) hb_23)
   refine xc 125 ent125 [.slice A ys.length c] (r6long_any _ _ ys _ (Kd.C_below hx hB_24) hn hz hb) ?_
   rintro e w_25 ⟨rfl, hb_26⟩; refine ⟨_, rfl, ?_⟩
   rw [show decide (1099511627776 < sB ys ∨ 1099511627776 < sR ys) = false from decide_eq_false (by have h1_ : sB ys ≤ (1099511627776 : Int) := hB; have h2_ : sR ys ≤ (1099511627776 : Int) := hR; omega)]
   refine xe0 3 [(2, .bool true)] ?_
   refine nl (X_ret (rk [.bool true] (hR_ _ _ ?_)))
   exact ⟨rfl, (bt hB_24 hb_26)⟩
  refine xr 1 [(21, .eq (.bool false))] [(21, .bool false)] [18, 20] [Value.bool ((i : Int) + 1 == (ys.length : Int)) = Value.bool false] ⟨congrArg Value.bool (beq_eq_false_iff_ne.2 (c_20)), trivial⟩ ?_
  refine nl (cf (sk (sq (rg (xr 3 [(32, .eq (.int .i64 ((i : Int) + 1)))] [(30, .slice A ys.length c), (32, .int .i64 ((i : Int) + 1))] [3, 21] [Value.int .i64 (IntKind.i64.wrap ((i : Int) + 1)) = Value.int .i64 ((i : Int) + 1)] ⟨wr_i64 (by omega) (by omega), trivial⟩ ?_)))))
  have hB_27 : Below w.heap.size w w_18 := (bt (bg (bt HB hb_10) hg_15 (HB).size) hb_19)
  obtain ⟨ad_28, B_31, c_32, ha_29, hc_30, hl_33, hC_34⟩ := Kd.atOp (Kd.C_below hx hB_27) (i := (i : Int) + 1) (by omega) (by omega)
  replace hc_30 : CellsAt w_18 (ad_28.add (((i : Int) + 1).toNat * 7)) [.int .i64 ((ys.getD ((i : Int) + 1).toNat op0).kind), .string ((ys.getD ((i : Int) + 1).toNat op0).text), .int .i64 ((ys.getD ((i : Int) + 1).toNat op0).vk), .int .i64 ((ys.getD ((i : Int) + 1).toNat op0).vn), .string ((ys.getD ((i : Int) + 1).toNat op0).vt), .int .i64 ((ys.getD ((i : Int) + 1).toNat op0).count), .slice B_31 ((ys.getD ((i : Int) + 1).toNat op0).attrs.length) c_32] := hc_30
  replace hl_33 : (ys.getD ((i : Int) + 1).toNat op0).attrs.length ≤ c_32 := hl_33
  replace hC_34 : kAttr.C w_18 B_31 ((ys.getD ((i : Int) + 1).toNat op0).attrs.length) (ys.getD ((i : Int) + 1).toNat op0).attrs := hC_34
  refine xw 3 [(33, .idx ad_28), (34, .load (.agg #[.int .i64 ((ys.getD ((i : Int) + 1).toNat op0).kind), .string ((ys.getD ((i : Int) + 1).toNat op0).text), .int .i64 ((ys.getD ((i : Int) + 1).toNat op0).vk), .int .i64 ((ys.getD ((i : Int) + 1).toNat op0).vn), .string ((ys.getD ((i : Int) + 1).toNat op0).vt), .int .i64 ((ys.getD ((i : Int) + 1).toNat op0).count), .slice B_31 ((ys.getD ((i : Int) + 1).toNat op0).attrs.length) c_32]))] [(5, pw w_18.heap.size 0), (34, .agg #[.int .i64 ((ys.getD ((i : Int) + 1).toNat op0).kind), .string ((ys.getD ((i : Int) + 1).toNat op0).text), .int .i64 ((ys.getD ((i : Int) + 1).toNat op0).vk), .int .i64 ((ys.getD ((i : Int) + 1).toNat op0).vn), .string ((ys.getD ((i : Int) + 1).toNat op0).vt), .int .i64 ((ys.getD ((i : Int) + 1).toNat op0).count), .slice B_31 ((ys.getD ((i : Int) + 1).toNat op0).attrs.length) c_32])] [30, 32] (w_18.alloc (.cells #[.int .i64 0, .string ByteArray.empty, .int .i64 0, .int .i64 0, .string ByteArray.empty, .int .i64 0, .slice none 0 0] 47)) [A = some ad_28, (0 : Int) ≤ (i : Int) + 1, (i : Int) + 1 < (ys.length : Int), LoadsAs Tryd.prog 47 (ad_28.add (((i : Int) + 1).toNat * 7)) (.agg #[.int .i64 ((ys.getD ((i : Int) + 1).toNat op0).kind), .string ((ys.getD ((i : Int) + 1).toNat op0).text), .int .i64 ((ys.getD ((i : Int) + 1).toNat op0).vk), .int .i64 ((ys.getD ((i : Int) + 1).toNat op0).vn), .string ((ys.getD ((i : Int) + 1).toNat op0).vt), .int .i64 ((ys.getD ((i : Int) + 1).toNat op0).count), .slice B_31 ((ys.getD ((i : Int) + 1).toNat op0).attrs.length) c_32]) w_18] ⟨ha_29, (by omega), (by omega), loadsE rfl rfl hc_30 0 ⟨by kernel_rfl, by kernel_rfl⟩, trivial⟩ ?_
  obtain ⟨w_35, hw_39, hb_36, hk_37, hz_38⟩ := new_world w_18 #[.int .i64 0, .string ByteArray.empty, .int .i64 0, .int .i64 0, .string ByteArray.empty, .int .i64 0, .slice none 0 0] 47
  rw [hw_39]
  refine xst (.agg #[.int .i64 ((ys.getD ((i : Int) + 1).toNat op0).kind), .string ((ys.getD ((i : Int) + 1).toNat op0).text), .int .i64 ((ys.getD ((i : Int) + 1).toNat op0).vk), .int .i64 ((ys.getD ((i : Int) + 1).toNat op0).vn), .string ((ys.getD ((i : Int) + 1).toNat op0).vt), .int .i64 ((ys.getD ((i : Int) + 1).toNat op0).count), .slice B_31 ((ys.getD ((i : Int) + 1).toNat op0).attrs.length) c_32]) hk_37 0 #[.int .i64 ((ys.getD ((i : Int) + 1).toNat op0).kind), .string ((ys.getD ((i : Int) + 1).toNat op0).text), .int .i64 ((ys.getD ((i : Int) + 1).toNat op0).vk), .int .i64 ((ys.getD ((i : Int) + 1).toNat op0).vn), .string ((ys.getD ((i : Int) + 1).toNat op0).vt), .int .i64 ((ys.getD ((i : Int) + 1).toNat op0).count), .slice B_31 ((ys.getD ((i : Int) + 1).toNat op0).attrs.length) c_32] (fun w_40 hg_41 hk_42 hz_43 => ?_)
  refine nl (sq (rg (xr 4 [(36, .load (.slice B_5 ((ys.getD i op0).attrs.length) c_6)), (38, .load (.slice B_31 ((ys.getD ((i : Int) + 1).toNat op0).attrs.length) c_32))] [(36, .slice B_5 ((ys.getD i op0).attrs.length) c_6), (38, .slice B_31 ((ys.getD ((i : Int) + 1).toNat op0).attrs.length) c_32)] [34] [LoadsAs Tryd.prog 45 (⟨wl.heap.size, 6, none⟩) (.slice B_5 ((ys.getD i op0).attrs.length) c_6) w_40, LoadsAs Tryd.prog 45 (⟨w_18.heap.size, 6, none⟩) (.slice B_31 ((ys.getD ((i : Int) + 1).toNat op0).attrs.length) c_32) w_40] ⟨loads1 rfl (Blk.cell (Blk.below hk_16 (bg (bt hb_19 hb_36) hg_41 (hb_19).size)) 6 _ rfl), loads1 rfl (Blk.cell hk_42 6 _ rfl), trivial⟩ ?_)))
  have hB_44 : Below wl.heap.size wl w_18 := (bt (bg hb_10 hg_15 (Nat.le_refl _)) hb_19)
  have hB_45 : Below wl.heap.size wl w_40 := (bg (bt (bt (bg hb_10 hg_15 (Nat.le_refl _)) hb_19) hb_36) hg_41 (hB_44).size)
  refine xc 46 ent46 [.slice B_5 ((ys.getD i op0).attrs.length) c_6, .slice B_31 ((ys.getD ((i : Int) + 1).toNat op0).attrs.length) c_32] (refSame_any _ _ _ _ ((ys.getD i op0).attrs) ((ys.getD ((i : Int) + 1).toNat op0).attrs) _ (Kd.C_below hC_8 hB_45) (Kd.C_below hC_34 (bg hb_36 hg_41 (Nat.le_refl _)))) ?_
  rintro e w_46 ⟨rfl, hb_47⟩; refine ⟨_, rfl, ?_⟩
  refine xe0 1 [(0, .slice A ys.length c), (4, pw wl.heap.size 0), (5, pw w_18.heap.size 0), (6, .bool (decide ((ys.getD i op0).attrs = (ys.getD ((i : Int) + 1).toNat op0).attrs))), (7, .slice A ys.length c), (8, .int .i64 (ys.length : Int)), (9, nv i)] ?_
  refine nl (sq (X_region ?_))
  have hB_48 : Below w_14.heap.size w_14 w_46 := (bt (bg (bt hb_19 hb_36) hg_41 (hb_19).size) hb_47)
  refine xr 2 [(41, .load (.int .i64 ((ys.getD i op0).kind)))] [(41, .int .i64 ((ys.getD i op0).kind))] [] [LoadsAs Tryd.prog 3 (⟨wl.heap.size, 0, none⟩) (.int .i64 ((ys.getD i op0).kind)) w_46] ⟨loads1 rfl (Blk.cell (Blk.below hk_16 hB_48) 0 _ rfl), trivial⟩ ?_
  by_cases c_49 : (ys.getD i op0).kind = 4
  ·refine xr 4 [(42, .eq (.bool true)), (45, .load (.int .i64 ((ys.getD ((i : Int) + 1).toNat op0).kind)))] [(43, .bool true), (45, .int .i64 ((ys.getD ((i : Int) + 1).toNat op0).kind))] [41] [Value.bool ((ys.getD i op0).kind == 4) = Value.bool true, LoadsAs Tryd.prog 3 (⟨w_18.heap.size, 0, none⟩) (.int .i64 ((ys.getD ((i : Int) + 1).toNat op0).kind)) w_46] ⟨congrArg Value.bool (beq_iff_eq.2 (c_49)), loads1 rfl (Blk.cell (Blk.below hk_42 hb_47) 0 _ rfl), trivial⟩ ?_
   by_cases c_50 : (ys.getD ((i : Int) + 1).toNat op0).kind = 4
   ·refine xr 26 [(46, .eq (.bool true))] [(71, .bool true)] [4, 5, 6, 43, 45] [Value.bool ((ys.getD ((i : Int) + 1).toNat op0).kind == 4) = Value.bool true] ⟨congrArg Value.bool (beq_iff_eq.2 (c_50)), trivial⟩ ?_
    refine nl (ct (sq (rg (xe0 1 [(2, .bool false)] ?_))))
    refine nl (X_ret (rk [.bool false] (hR_ _ _ ?_)))
    exfalso
    have hf := hch i (by omega)
    rw [← show ((i : Int) + 1).toNat = i + 1 by omega] at hf
    unfold fitsP at hf
    by_cases k4 : (ys.getD i op0).kind = 4
    ·rw [if_pos k4, decide_eq_true_eq] at hf
     first | omega | (have h_ := of_decide_eq_true (by assumption : decide (insO (ys.getD ((i : Int) + 1).toNat op0)) = true); unfold insO at h_; omega)
    rw [if_neg k4, decide_eq_true_eq] at hf
    first | omega | (have h_ := of_decide_eq_true (by assumption : decide ((ys.getD i op0).attrs = (ys.getD ((i : Int) + 1).toNat op0).attrs) = true); rcases hf with h1_ | h1_ | h1_; (· omega); (· omega); (· exact h1_ h_))
   refine xr 3 [(46, .eq (.bool false)), (48, .load (.agg #[.int .i64 ((ys.getD ((i : Int) + 1).toNat op0).kind), .string ((ys.getD ((i : Int) + 1).toNat op0).text), .int .i64 ((ys.getD ((i : Int) + 1).toNat op0).vk), .int .i64 ((ys.getD ((i : Int) + 1).toNat op0).vn), .string ((ys.getD ((i : Int) + 1).toNat op0).vt), .int .i64 ((ys.getD ((i : Int) + 1).toNat op0).count), .slice B_31 ((ys.getD ((i : Int) + 1).toNat op0).attrs.length) c_32]))] [(47, .bool false), (48, .agg #[.int .i64 ((ys.getD ((i : Int) + 1).toNat op0).kind), .string ((ys.getD ((i : Int) + 1).toNat op0).text), .int .i64 ((ys.getD ((i : Int) + 1).toNat op0).vk), .int .i64 ((ys.getD ((i : Int) + 1).toNat op0).vn), .string ((ys.getD ((i : Int) + 1).toNat op0).vt), .int .i64 ((ys.getD ((i : Int) + 1).toNat op0).count), .slice B_31 ((ys.getD ((i : Int) + 1).toNat op0).attrs.length) c_32])] [45] [Value.bool ((ys.getD ((i : Int) + 1).toNat op0).kind == 4) = Value.bool false, LoadsAs Tryd.prog 47 (⟨w_18.heap.size, 0, none⟩) (.agg #[.int .i64 ((ys.getD ((i : Int) + 1).toNat op0).kind), .string ((ys.getD ((i : Int) + 1).toNat op0).text), .int .i64 ((ys.getD ((i : Int) + 1).toNat op0).vk), .int .i64 ((ys.getD ((i : Int) + 1).toNat op0).vn), .string ((ys.getD ((i : Int) + 1).toNat op0).vt), .int .i64 ((ys.getD ((i : Int) + 1).toNat op0).count), .slice B_31 ((ys.getD ((i : Int) + 1).toNat op0).attrs.length) c_32]) w_46] ⟨congrArg Value.bool (beq_eq_false_iff_ne.2 (c_50)), loadsB rfl rfl (Blk.below hk_42 hb_47) 0 ⟨by kernel_rfl, by kernel_rfl⟩, trivial⟩ ?_
   have hB_51 : Below w_18.heap.size w_18 w_46 := (bt (bg hb_36 hg_41 (Nat.le_refl _)) hb_47)
   refine xc 28 ent28 [.agg #[.int .i64 ((ys.getD ((i : Int) + 1).toNat op0).kind), .string ((ys.getD ((i : Int) + 1).toNat op0).text), .int .i64 ((ys.getD ((i : Int) + 1).toNat op0).vk), .int .i64 ((ys.getD ((i : Int) + 1).toNat op0).vn), .string ((ys.getD ((i : Int) + 1).toNat op0).vt), .int .i64 ((ys.getD ((i : Int) + 1).toNat op0).count), .slice B_31 ((ys.getD ((i : Int) + 1).toNat op0).attrs.length) c_32]] (r6ins_any (ys.getD ((i : Int) + 1).toNat op0) _ _ _ (Kd.C_below hC_34 hB_51)) ?_
   rintro e w_52 ⟨rfl, hb_53⟩; refine ⟨_, rfl, ?_⟩
   refine xr0 3 [(52, .bool (decide (insO (ys.getD ((i : Int) + 1).toNat op0))))] [43, 47, 48, 49] ?_
   by_cases c_54 : decide (insO (ys.getD ((i : Int) + 1).toNat op0)) = true
   ·rw [show (decide (insO (ys.getD ((i : Int) + 1).toNat op0)) : Bool) = true from by simpa using c_54]
    refine xr0 19 [(71, .bool true)] [4, 5, 6, 52] ?_
    refine nl (ct (sq (rg (xe0 1 [(2, .bool false)] ?_))))
    refine nl (X_ret (rk [.bool false] (hR_ _ _ ?_)))
    exfalso
    have hf := hch i (by omega)
    rw [← show ((i : Int) + 1).toNat = i + 1 by omega] at hf
    unfold fitsP at hf
    by_cases k4 : (ys.getD i op0).kind = 4
    ·rw [if_pos k4, decide_eq_true_eq] at hf
     first | omega | (have h_ := of_decide_eq_true (by assumption : decide (insO (ys.getD ((i : Int) + 1).toNat op0)) = true); unfold insO at h_; omega)
    rw [if_neg k4, decide_eq_true_eq] at hf
    first | omega | (have h_ := of_decide_eq_true (by assumption : decide ((ys.getD i op0).attrs = (ys.getD ((i : Int) + 1).toNat op0).attrs) = true); rcases hf with h1_ | h1_ | h1_; (· omega); (· omega); (· exact h1_ h_))
   rw [show (decide (insO (ys.getD ((i : Int) + 1).toNat op0)) : Bool) = false from by simpa using c_54]
   refine xr 4 [(54, .load (.int .i64 ((ys.getD i op0).kind))), (56, .load (.int .i64 ((ys.getD ((i : Int) + 1).toNat op0).kind)))] [(52, .bool false), (54, .int .i64 ((ys.getD i op0).kind)), (56, .int .i64 ((ys.getD ((i : Int) + 1).toNat op0).kind))] [5] [LoadsAs Tryd.prog 3 (⟨wl.heap.size, 0, none⟩) (.int .i64 ((ys.getD i op0).kind)) w_52, LoadsAs Tryd.prog 3 (⟨w_18.heap.size, 0, none⟩) (.int .i64 ((ys.getD ((i : Int) + 1).toNat op0).kind)) w_52] ⟨loads1 rfl (Blk.cell (Blk.below hk_16 (bt hB_48 hb_53)) 0 _ rfl), loads1 rfl (Blk.cell (Blk.below hk_42 (bt hb_47 hb_53)) 0 _ rfl), trivial⟩ ?_
   by_cases c_55 : (ys.getD i op0).kind = (ys.getD ((i : Int) + 1).toNat op0).kind
   ·refine xe 5 [(57, .eq (.bool true))] [(0, .slice A ys.length c), (4, pw wl.heap.size 0), (7, .slice A ys.length c), (8, .int .i64 (ys.length : Int)), (9, nv i), (52, .bool false), (61, .bool (decide ((ys.getD i op0).attrs = (ys.getD ((i : Int) + 1).toNat op0).attrs)))] [Value.bool ((ys.getD i op0).kind == (ys.getD ((i : Int) + 1).toNat op0).kind) = Value.bool true] ⟨congrArg Value.bool (beq_iff_eq.2 (c_55)), trivial⟩ ?_
    by_cases c_56 : decide ((ys.getD i op0).attrs = (ys.getD ((i : Int) + 1).toNat op0).attrs) = true
    ·rw [show (decide ((ys.getD i op0).attrs = (ys.getD ((i : Int) + 1).toNat op0).attrs) : Bool) = true from by simpa using c_56]
     refine xr 2 [(63, .load (.int .i64 ((ys.getD i op0).kind)))] [(61, .bool true), (63, .int .i64 ((ys.getD i op0).kind))] [] [LoadsAs Tryd.prog 3 (⟨wl.heap.size, 0, none⟩) (.int .i64 ((ys.getD i op0).kind)) w_52] ⟨loads1 rfl (Blk.cell (Blk.below hk_16 (bt hB_48 hb_53)) 0 _ rfl), trivial⟩ ?_
     by_cases c_57 : (ys.getD i op0).kind = 3
     ·refine xr 8 [(64, .eq (.bool true))] [(71, .bool true)] [4, 52, 61, 63] [Value.bool ((ys.getD i op0).kind == 3) = Value.bool true] ⟨congrArg Value.bool (beq_iff_eq.2 (c_57)), trivial⟩ ?_
      refine nl (ct (sq (rg (xe0 1 [(2, .bool false)] ?_))))
      refine nl (X_ret (rk [.bool false] (hR_ _ _ ?_)))
      exfalso
      have hf := hch i (by omega)
      rw [← show ((i : Int) + 1).toNat = i + 1 by omega] at hf
      unfold fitsP at hf
      by_cases k4 : (ys.getD i op0).kind = 4
      ·rw [if_pos k4, decide_eq_true_eq] at hf
       first | omega | (have h_ := of_decide_eq_true (by assumption : decide (insO (ys.getD ((i : Int) + 1).toNat op0)) = true); unfold insO at h_; omega)
      rw [if_neg k4, decide_eq_true_eq] at hf
      first | omega | (have h_ := of_decide_eq_true (by assumption : decide ((ys.getD i op0).attrs = (ys.getD ((i : Int) + 1).toNat op0).attrs) = true); rcases hf with h1_ | h1_ | h1_; (· omega); (· omega); (· exact h1_ h_))
     refine xr 4 [(64, .eq (.bool false)), (67, .load (.int .i64 ((ys.getD i op0).kind)))] [(65, .bool false), (67, .int .i64 ((ys.getD i op0).kind))] [4, 63] [Value.bool ((ys.getD i op0).kind == 3) = Value.bool false, LoadsAs Tryd.prog 3 (⟨wl.heap.size, 0, none⟩) (.int .i64 ((ys.getD i op0).kind)) w_52] ⟨congrArg Value.bool (beq_eq_false_iff_ne.2 (c_57)), loads1 rfl (Blk.cell (Blk.below hk_16 (bt hB_48 hb_53)) 0 _ rfl), trivial⟩ ?_
     by_cases c_58 : (ys.getD i op0).kind = 1
     ·refine xr 4 [(68, .eq (.bool true))] [(71, .bool true)] [52, 61, 65, 67] [Value.bool ((ys.getD i op0).kind == 1) = Value.bool true] ⟨congrArg Value.bool (beq_iff_eq.2 (c_58)), trivial⟩ ?_
      refine nl (ct (sq (rg (xe0 1 [(2, .bool false)] ?_))))
      refine nl (X_ret (rk [.bool false] (hR_ _ _ ?_)))
      exfalso
      have hf := hch i (by omega)
      rw [← show ((i : Int) + 1).toNat = i + 1 by omega] at hf
      unfold fitsP at hf
      by_cases k4 : (ys.getD i op0).kind = 4
      ·rw [if_pos k4, decide_eq_true_eq] at hf
       first | omega | (have h_ := of_decide_eq_true (by assumption : decide (insO (ys.getD ((i : Int) + 1).toNat op0)) = true); unfold insO at h_; omega)
      rw [if_neg k4, decide_eq_true_eq] at hf
      first | omega | (have h_ := of_decide_eq_true (by assumption : decide ((ys.getD i op0).attrs = (ys.getD ((i : Int) + 1).toNat op0).attrs) = true); rcases hf with h1_ | h1_ | h1_; (· omega); (· omega); (· exact h1_ h_))
     refine xr 4 [(68, .eq (.bool false))] [(71, .bool false)] [52, 61, 65, 67] [Value.bool ((ys.getD i op0).kind == 1) = Value.bool false] ⟨congrArg Value.bool (beq_eq_false_iff_ne.2 (c_58)), trivial⟩ ?_
     refine nl (cf (sk (rg (xr 2 [(72, .eq (.int .i64 ((i : Int) + 1)))] [(9, .int .i64 ((i : Int) + 1))] [71] [Value.int .i64 (IntKind.i64.wrap ((i : Int) + 1)) = Value.int .i64 ((i : Int) + 1)] ⟨wr_i64 (by omega) (by omega), trivial⟩ ?_))))
     refine nl ?_
     have hB_59 : Below w.heap.size w w_52 := (bt (bt (bg (bt hB_27 hb_36) hg_41 (hB_27).size) hb_47) hb_53)
     refine ⟨(i + 1), by kernel_rfl, ?_, ?_⟩
     ·exact ⟨by omega, hB_59⟩
     (try dsimp only); omega
    rw [show (decide ((ys.getD i op0).attrs = (ys.getD ((i : Int) + 1).toNat op0).attrs) : Bool) = false from by simpa using c_56]
    refine xr0 10 [(71, .bool false)] [4, 52, 61] ?_
    refine nl (cf (sk (rg (xr 2 [(72, .eq (.int .i64 ((i : Int) + 1)))] [(9, .int .i64 ((i : Int) + 1))] [71] [Value.int .i64 (IntKind.i64.wrap ((i : Int) + 1)) = Value.int .i64 ((i : Int) + 1)] ⟨wr_i64 (by omega) (by omega), trivial⟩ ?_))))
    refine nl ?_
    have hB_60 : Below w.heap.size w w_52 := (bt (bt (bg (bt hB_27 hb_36) hg_41 (hB_27).size) hb_47) hb_53)
    refine ⟨(i + 1), by kernel_rfl, ?_, ?_⟩
    ·exact ⟨by omega, hB_60⟩
    (try dsimp only); omega
   refine xe 15 [(57, .eq (.bool false))] [(0, .slice A ys.length c), (7, .slice A ys.length c), (8, .int .i64 (ys.length : Int)), (9, nv i), (71, .bool false)] [Value.bool ((ys.getD i op0).kind == (ys.getD ((i : Int) + 1).toNat op0).kind) = Value.bool false] ⟨congrArg Value.bool (beq_eq_false_iff_ne.2 (c_55)), trivial⟩ ?_
   refine nl (cf (sk (rg (xr 2 [(72, .eq (.int .i64 ((i : Int) + 1)))] [(9, .int .i64 ((i : Int) + 1))] [71] [Value.int .i64 (IntKind.i64.wrap ((i : Int) + 1)) = Value.int .i64 ((i : Int) + 1)] ⟨wr_i64 (by omega) (by omega), trivial⟩ ?_))))
   refine nl ?_
   have hB_61 : Below w.heap.size w w_52 := (bt (bt (bg (bt hB_27 hb_36) hg_41 (hB_27).size) hb_47) hb_53)
   refine ⟨(i + 1), by kernel_rfl, ?_, ?_⟩
   ·exact ⟨by omega, hB_61⟩
   (try dsimp only); omega
  refine xr 15 [(42, .eq (.bool false)), (54, .load (.int .i64 ((ys.getD i op0).kind))), (56, .load (.int .i64 ((ys.getD ((i : Int) + 1).toNat op0).kind)))] [(52, .bool false), (54, .int .i64 ((ys.getD i op0).kind)), (56, .int .i64 ((ys.getD ((i : Int) + 1).toNat op0).kind))] [5, 41] [Value.bool ((ys.getD i op0).kind == 4) = Value.bool false, LoadsAs Tryd.prog 3 (⟨wl.heap.size, 0, none⟩) (.int .i64 ((ys.getD i op0).kind)) w_46, LoadsAs Tryd.prog 3 (⟨w_18.heap.size, 0, none⟩) (.int .i64 ((ys.getD ((i : Int) + 1).toNat op0).kind)) w_46] ⟨congrArg Value.bool (beq_eq_false_iff_ne.2 (c_49)), loads1 rfl (Blk.cell (Blk.below hk_16 hB_48) 0 _ rfl), loads1 rfl (Blk.cell (Blk.below hk_42 hb_47) 0 _ rfl), trivial⟩ ?_
  by_cases c_62 : (ys.getD i op0).kind = (ys.getD ((i : Int) + 1).toNat op0).kind
  ·refine xr 5 [(57, .eq (.bool true))] [(61, .bool (decide ((ys.getD i op0).attrs = (ys.getD ((i : Int) + 1).toNat op0).attrs)))] [6, 54, 56] [Value.bool ((ys.getD i op0).kind == (ys.getD ((i : Int) + 1).toNat op0).kind) = Value.bool true] ⟨congrArg Value.bool (beq_iff_eq.2 (c_62)), trivial⟩ ?_
   by_cases c_63 : decide ((ys.getD i op0).attrs = (ys.getD ((i : Int) + 1).toNat op0).attrs) = true
   ·rw [show (decide ((ys.getD i op0).attrs = (ys.getD ((i : Int) + 1).toNat op0).attrs) : Bool) = true from by simpa using c_63]
    refine xr 2 [(63, .load (.int .i64 ((ys.getD i op0).kind)))] [(61, .bool true), (63, .int .i64 ((ys.getD i op0).kind))] [] [LoadsAs Tryd.prog 3 (⟨wl.heap.size, 0, none⟩) (.int .i64 ((ys.getD i op0).kind)) w_46] ⟨loads1 rfl (Blk.cell (Blk.below hk_16 hB_48) 0 _ rfl), trivial⟩ ?_
    by_cases c_64 : (ys.getD i op0).kind = 3
    ·refine xr 8 [(64, .eq (.bool true))] [(71, .bool true)] [4, 52, 61, 63] [Value.bool ((ys.getD i op0).kind == 3) = Value.bool true] ⟨congrArg Value.bool (beq_iff_eq.2 (c_64)), trivial⟩ ?_
     refine nl (ct (sq (rg (xe0 1 [(2, .bool false)] ?_))))
     refine nl (X_ret (rk [.bool false] (hR_ _ _ ?_)))
     exfalso
     have hf := hch i (by omega)
     rw [← show ((i : Int) + 1).toNat = i + 1 by omega] at hf
     unfold fitsP at hf
     by_cases k4 : (ys.getD i op0).kind = 4
     ·rw [if_pos k4, decide_eq_true_eq] at hf
      first | omega | (have h_ := of_decide_eq_true (by assumption : decide (insO (ys.getD ((i : Int) + 1).toNat op0)) = true); unfold insO at h_; omega)
     rw [if_neg k4, decide_eq_true_eq] at hf
     first | omega | (have h_ := of_decide_eq_true (by assumption : decide ((ys.getD i op0).attrs = (ys.getD ((i : Int) + 1).toNat op0).attrs) = true); rcases hf with h1_ | h1_ | h1_; (· omega); (· omega); (· exact h1_ h_))
    refine xr 4 [(64, .eq (.bool false)), (67, .load (.int .i64 ((ys.getD i op0).kind)))] [(65, .bool false), (67, .int .i64 ((ys.getD i op0).kind))] [4, 63] [Value.bool ((ys.getD i op0).kind == 3) = Value.bool false, LoadsAs Tryd.prog 3 (⟨wl.heap.size, 0, none⟩) (.int .i64 ((ys.getD i op0).kind)) w_46] ⟨congrArg Value.bool (beq_eq_false_iff_ne.2 (c_64)), loads1 rfl (Blk.cell (Blk.below hk_16 hB_48) 0 _ rfl), trivial⟩ ?_
    by_cases c_65 : (ys.getD i op0).kind = 1
    ·refine xe 4 [(68, .eq (.bool true))] [(0, .slice A ys.length c), (7, .slice A ys.length c), (8, .int .i64 (ys.length : Int)), (9, nv i), (71, .bool true)] [Value.bool ((ys.getD i op0).kind == 1) = Value.bool true] ⟨congrArg Value.bool (beq_iff_eq.2 (c_65)), trivial⟩ ?_
     refine nl (ct (sq (rg (xe0 1 [(2, .bool false)] ?_))))
     refine nl (X_ret (rk [.bool false] (hR_ _ _ ?_)))
     exfalso
     have hf := hch i (by omega)
     rw [← show ((i : Int) + 1).toNat = i + 1 by omega] at hf
     unfold fitsP at hf
     by_cases k4 : (ys.getD i op0).kind = 4
     ·rw [if_pos k4, decide_eq_true_eq] at hf
      first | omega | (have h_ := of_decide_eq_true (by assumption : decide (insO (ys.getD ((i : Int) + 1).toNat op0)) = true); unfold insO at h_; omega)
     rw [if_neg k4, decide_eq_true_eq] at hf
     first | omega | (have h_ := of_decide_eq_true (by assumption : decide ((ys.getD i op0).attrs = (ys.getD ((i : Int) + 1).toNat op0).attrs) = true); rcases hf with h1_ | h1_ | h1_; (· omega); (· omega); (· exact h1_ h_))
    refine xe 4 [(68, .eq (.bool false))] [(0, .slice A ys.length c), (7, .slice A ys.length c), (8, .int .i64 (ys.length : Int)), (9, nv i), (71, .bool false)] [Value.bool ((ys.getD i op0).kind == 1) = Value.bool false] ⟨congrArg Value.bool (beq_eq_false_iff_ne.2 (c_65)), trivial⟩ ?_
    refine nl (cf (sk (rg (xr 2 [(72, .eq (.int .i64 ((i : Int) + 1)))] [(9, .int .i64 ((i : Int) + 1))] [71] [Value.int .i64 (IntKind.i64.wrap ((i : Int) + 1)) = Value.int .i64 ((i : Int) + 1)] ⟨wr_i64 (by omega) (by omega), trivial⟩ ?_))))
    refine nl ?_
    have hB_66 : Below w.heap.size w w_46 := (bt (bg (bt hB_27 hb_36) hg_41 (hB_27).size) hb_47)
    refine ⟨(i + 1), by kernel_rfl, ?_, ?_⟩
    ·exact ⟨by omega, hB_66⟩
    (try dsimp only); omega
   rw [show (decide ((ys.getD i op0).attrs = (ys.getD ((i : Int) + 1).toNat op0).attrs) : Bool) = false from by simpa using c_63]
   refine xr0 10 [(71, .bool false)] [4, 52, 61] ?_
   refine nl (cf (sk (rg (xr 2 [(72, .eq (.int .i64 ((i : Int) + 1)))] [(9, .int .i64 ((i : Int) + 1))] [71] [Value.int .i64 (IntKind.i64.wrap ((i : Int) + 1)) = Value.int .i64 ((i : Int) + 1)] ⟨wr_i64 (by omega) (by omega), trivial⟩ ?_))))
   refine nl ?_
   have hB_67 : Below w.heap.size w w_46 := (bt (bg (bt hB_27 hb_36) hg_41 (hB_27).size) hb_47)
   refine ⟨(i + 1), by kernel_rfl, ?_, ?_⟩
   ·exact ⟨by omega, hB_67⟩
   (try dsimp only); omega
  refine xr 15 [(57, .eq (.bool false))] [(71, .bool false)] [4, 6, 52, 54, 56] [Value.bool ((ys.getD i op0).kind == (ys.getD ((i : Int) + 1).toNat op0).kind) = Value.bool false] ⟨congrArg Value.bool (beq_eq_false_iff_ne.2 (c_62)), trivial⟩ ?_
  refine nl (cf (sk (rg (xr 2 [(72, .eq (.int .i64 ((i : Int) + 1)))] [(9, .int .i64 ((i : Int) + 1))] [71] [Value.int .i64 (IntKind.i64.wrap ((i : Int) + 1)) = Value.int .i64 ((i : Int) + 1)] ⟨wr_i64 (by omega) (by omega), trivial⟩ ?_))))
  refine nl ?_
  have hB_68 : Below w.heap.size w w_46 := (bt (bg (bt hB_27 hb_36) hg_41 (hB_27).size) hb_47)
  refine ⟨(i + 1), by kernel_rfl, ?_, ?_⟩
  ·exact ⟨by omega, hB_68⟩
  (try dsimp only); omega
 refine xr 1 [(10, .eq (.bool false))] [(10, .bool false)] [] [Value.bool (decide ((i : Int) < (ys.length : Int))) = Value.bool false] ⟨congrArg Value.bool (decide_eq_false (c_1)), trivial⟩ ?_
 refine nl (sq (cf (X_exit (sq (rg (xe0 1 [(2, .bool true)] ?_))))))
 refine nl (X_ret (rk [.bool true] (hR_ _ _ ?_)))
 exact ⟨rfl, HB⟩
theorem came_txt {o : OpA} (h : o.kind ≠ 2) : B.came o = (U.sc o.text).map (B.cR o.attrs) := if_neg h
theorem came_emb {o : OpA} (h : o.kind = 2) : B.came o = [⟨-1, o.text, o.vk, o.vn, o.vt, o.attrs⟩] := if_pos h
theorem came_snoc (s : ByteArray) (at4 : List At) (i : Nat) (h : i < (U.sc s).length) : ((U.sc s).take i).map (B.cR at4) ++ [B.cR at4 ((U.sc s)[i])] = ((U.sc s).take (i + 1)).map (B.cR at4) := by
 rw [take_snocD 0 (U.sc s) i h, List.map_append, List.getD_eq_getElem?_getD, List.getElem?_eq_getElem h]; rfl
set_option maxHeartbeats 4000000 in
theorem came_any (o : OpA) (A : Option Addr) (c : Nat) (W0 w : World) (hB0 : Below W0.heap.size W0 w) (hA : kAttr.C W0 A o.attrs.length o.attrs) (hl : o.attrs.length ≤ c) (hu : o.kind ≠ 2 → U.utf o.text) (hz : o.text.size ≤ 50000000) : Calls Tryd.prog 129 #[.agg #[.int .i64 o.kind, .string o.text, .int .i64 o.vk, .int .i64 o.vn, .string o.vt, .int .i64 o.count, .slice A o.attrs.length c]] w fun e w' => ∃ A1 c1, e = .returned (.slice A1 (B.came o).length c1) ∧ MixK kCell cell0 126 w.heap.size W0 w' A1 (B.came o).length c1 (B.came o) ∧ Below w.heap.size w w' := by
 have hscl := U.sc_le o.text
 refine RX.enter Tryd.func129 rfl 32 rfl [(0, .agg #[.int .i64 o.kind, .string o.text, .int .i64 o.vk, .int .i64 o.vn, .string o.vt, .int .i64 o.count, .slice A o.attrs.length c])] rfl (by kernel_rfl) (fun R_ hR_ => ?_)
 refine sq (rg (xwe 1 [] [(1, pw w.heap.size 0)] (w.alloc (.cells #[.int .i64 o.kind, .string o.text, .int .i64 o.vk, .int .i64 o.vn, .string o.vt, .int .i64 o.count, .slice A o.attrs.length c] 47)) [] trivial ?_))
 obtain ⟨w_1, hw_5, hb_2, hk_3, hz_4⟩ := new_world w #[.int .i64 o.kind, .string o.text, .int .i64 o.vk, .int .i64 o.vn, .string o.vt, .int .i64 o.count, .slice A o.attrs.length c] 47
 rw [hw_5]
 refine xr0 1 [] [] ?_
 refine nl (sq (sq (rg (xr 2 [(7, .load (.int .i64 o.kind))] [(7, .int .i64 o.kind)] [] [LoadsAs Tryd.prog 3 (⟨w.heap.size, 0, none⟩) (.int .i64 o.kind) w_1] ⟨loads1 rfl (Blk.cell hk_3 0 _ rfl), trivial⟩ ?_))))
 by_cases c_6 : o.kind = 2
 ·refine xr 1 [(8, .eq (.bool true))] [(8, .bool true)] [7] [Value.bool (o.kind == 2) = Value.bool true] ⟨congrArg Value.bool (beq_iff_eq.2 (c_6)), trivial⟩ ?_
  refine nl (ct (sq (rg (xwe 8 [(10, .load (.string o.text)), (12, .load (.agg #[.int .i64 o.vk, .int .i64 o.vn, .string o.vt])), (14, .load (.slice A o.attrs.length c))] [(16, .slice (some ⟨w_1.heap.size, 0, none⟩) 1 1)] (w_1.alloc (.cells #[.int .i32 (-1), .string o.text, .int .i64 o.vk, .int .i64 o.vn, .string o.vt, .slice A o.attrs.length c] 126)) [LoadsAs Tryd.prog 9 (⟨w.heap.size, 1, none⟩) (.string o.text) w_1, LoadsAs Tryd.prog 44 (⟨w.heap.size, 2, none⟩) (.agg #[.int .i64 o.vk, .int .i64 o.vn, .string o.vt]) w_1, LoadsAs Tryd.prog 45 (⟨w.heap.size, 6, none⟩) (.slice A o.attrs.length c) w_1] ⟨loads1 rfl (Blk.cell hk_3 1 _ rfl), loadsB rfl rfl hk_3 2 ⟨by kernel_rfl, by kernel_rfl⟩, loads1 rfl (Blk.cell hk_3 6 _ rfl), trivial⟩ ?_))))
  obtain ⟨w_7, hw_11, hb_8, hk_9, hz_10⟩ := new_world w_1 #[.int .i32 (-1), .string o.text, .int .i64 o.vk, .int .i64 o.vn, .string o.vt, .slice A o.attrs.length c] 126
  rw [hw_11]
  refine xe0 1 [(2, .slice (some ⟨w_1.heap.size, 0, none⟩) 1 1)] ?_
  refine nl (X_ret (rk [.slice (some ⟨w_1.heap.size, 0, none⟩) 1 1] (hR_ _ _ ?_)))
  rw [came_emb c_6]
  exact ⟨_, _, rfl, MixK.one (d := kCell) (z := cell0) (x := (⟨-1, o.text, o.vk, o.vn, o.vt, o.attrs⟩ : CellA)) (Kd.R_litB (kRaw 6) (W := w_1) (e := 126) (cs := #[.int .i32 (-1), .string o.text, .int .i64 o.vk, .int .i64 o.vn, .string o.vt, .slice A o.attrs.length c]) [[.int .i32 (-1), .string o.text, .int .i64 o.vk, .int .i64 o.vn, .string o.vt, .slice A o.attrs.length c]] hk_9 (rawL1 _ rfl (by kernel_rfl)) (Nat.le_of_ble_eq_true (by kernel_rfl))) (kCell_K_of (x := (⟨-1, o.text, o.vk, o.vn, o.vt, o.attrs⟩ : CellA)) hl hA) (hb_2).size, (bt hb_2 hb_8)⟩
 refine xr 1 [(8, .eq (.bool false))] [(8, .bool false)] [7] [Value.bool (o.kind == 2) = Value.bool false] ⟨congrArg Value.bool (beq_eq_false_iff_ne.2 (c_6)), trivial⟩ ?_
 refine nl (cf (sk (sq (rg (xw 1 [] [(17, .slice (some ⟨w_1.heap.size, 0, none⟩) 0 0)] [8] (w_1.alloc (.cells #[] 126)) [] trivial ?_)))))
 obtain ⟨w_12, hw_16, hb_13, hk_14, hz_15⟩ := new_world w_1 #[] 126
 rw [hw_16]
 refine xr0 1 [(3, .slice (some ⟨w_1.heap.size, 0, none⟩) 0 0)] [17] ?_
 refine nl (sq (sq (rg (xe 2 [(19, .load (.string o.text))] [(1, pw w.heap.size 0), (3, .slice (some ⟨w_1.heap.size, 0, none⟩) 0 0), (19, .string o.text)] [LoadsAs Tryd.prog 9 (⟨w.heap.size, 1, none⟩) (.string o.text) w_12] ⟨loads1 rfl (Blk.cell (Blk.below hk_3 hb_13) 1 _ rfl), trivial⟩ ?_))))
 refine XL_range (s := o.text) rfl rfl rfl Tryd.underlying9 rfl (fun w_17 hb_18 hi_19 => ?_)
 refine nl (X_block ?_)
 have hr_20 := Kd.R_litB kCell (W := w_1) (e := 126) (cs := #[]) [] hk_14 (repsCell0) (Nat.le_of_ble_eq_true (by kernel_rfl))
 have hu1 := hu c_6
 refine X_loop (ι := Nat × Option Addr × Nat × List CellA) (fun ⟨i, A6, c6, zs6⟩ => [(1, .pointer (some ⟨w.heap.size, 0, none⟩)), (3, .slice A6 zs6.length c6), (20, .pointer (some ⟨w_12.heap.size, 0, none⟩))]) (fun ⟨i, A6, c6, zs6⟩ wl => i ≤ (U.sc o.text).length ∧ wl.heap[w_12.heap.size]? = some (.stringIter o.text (U.pl o.text i)) ∧ zs6 = ((U.sc o.text).take i).map (B.cR o.attrs) ∧ MixK kCell cell0 126 w_1.heap.size W0 wl A6 zs6.length c6 zs6 ∧ Below w_1.heap.size w_1 wl) (fun ⟨i, A6, c6, zs6⟩ => (U.sc o.text).length - i) (0, (some ⟨w_1.heap.size, 0, none⟩), 0, []) ⟨by omega, by rw [U.pl_zero]; exact hi_19, rfl, (MixK.nil (z := cell0) (B := w_1.heap.size) (W0 := W0) (Kd.R_below hr_20 hb_18) (Nat.le_refl _)), (bt hb_13 hb_18)⟩ (by kernel_rfl) ?_
 rintro ⟨i, A6, c6, zs6⟩ wl ⟨hi, hit, he6, hm6, HB⟩
 have hzl : zs6.length = min i (U.sc o.text).length := by rw [he6, List.length_map, List.length_take]
 refine sq (rg (XL_next (s := o.text) (g := w_12.heap.size) (pos := (U.pl o.text i)) rfl rfl rfl rfl hit ?_ ?_))
 ·intro hp_21 w_22 hg_23 hi_24
  refine xr0 1 [(21, .tuple #[.bool true, .int .i64 ((U.pl o.text i) : Int), .int .i32 ((Utf8.decode o.text (U.pl o.text i)).1 : Int)]), (22, .bool true)] [] ?_
  refine nl (sq (ct (sk (bk (sq (X_region ?_))))))
  have hlt := (U.pl_lt_iff hu1 i hi).1 hp_21
  have hst := U.pl_step hu1 i hlt
  have hdr : ((Utf8.decode o.text (U.pl o.text i)).1 : Int) = (((U.sc o.text)[i] : Nat) : Int) := by rw [hst.1]
  have hm_25 := MixK.iter hm6 hit hg_23
  refine xr0 2 [(5, .int .i32 ((Utf8.decode o.text (U.pl o.text i)).1 : Int))] [21, 22] ?_
  refine nl (rg (xw 6 [(27, .load (.slice A o.attrs.length c))] [(24, .slice A6 zs6.length c6), (29, .slice (some ⟨w_22.heap.size, 0, none⟩) 1 1)] [3, 5] (w_22.alloc (.cells #[.int .i32 ((Utf8.decode o.text (U.pl o.text i)).1 : Int), .string ByteArray.empty, .int .i64 0, .int .i64 0, .string ByteArray.empty, .slice A o.attrs.length c] 126)) [LoadsAs Tryd.prog 45 (⟨w.heap.size, 6, none⟩) (.slice A o.attrs.length c) w_22] ⟨loads1 rfl (Blk.cell (Blk.below hk_3 (bg HB hg_23 (hb_13).size)) 6 _ rfl), trivial⟩ ?_))
  obtain ⟨w_26, hw_30, hb_27, hk_28, hz_29⟩ := new_world w_22 #[.int .i32 ((Utf8.decode o.text (U.pl o.text i)).1 : Int), .string ByteArray.empty, .int .i64 0, .int .i64 0, .string ByteArray.empty, .slice A o.attrs.length c] 126
  rw [hw_30]
  have hR_31 := Kd.R_litB (kRaw 6) (W := w_22) (e := 126) (cs := #[.int .i32 ((Utf8.decode o.text (U.pl o.text i)).1 : Int), .string ByteArray.empty, .int .i64 0, .int .i64 0, .string ByteArray.empty, .slice A o.attrs.length c]) [[.int .i32 ((Utf8.decode o.text (U.pl o.text i)).1 : Int), .string ByteArray.empty, .int .i64 0, .int .i64 0, .string ByteArray.empty, .slice A o.attrs.length c]] hk_28 (rawL1 _ rfl (by kernel_rfl)) (Nat.le_of_ble_eq_true (by kernel_rfl))
  refine XL_appendMixK (d := kCell) (W0 := W0) (B := w_1.heap.size) (c' := 1) (m := 1) cell0 rfl rfl rfl 126 (.agg #[.int .i32 0, .string ByteArray.empty, .int .i64 0, .int .i64 0, .string ByteArray.empty, .slice none 0 0]) 80 Tryd.underlying124 info126 rfl (by decide) (by omega) zs6 [(⟨((Utf8.decode o.text (U.pl o.text i)).1 : Int), ByteArray.empty, 0, 0, ByteArray.empty, o.attrs⟩ : CellA)] [[.int .i32 ((Utf8.decode o.text (U.pl o.text i)).1 : Int), .string ByteArray.empty, .int .i64 0, .int .i64 0, .string ByteArray.empty, .slice A o.attrs.length c]] (by kernel_rfl) (MixK.below hm_25 hb_27) (Kd.R_C hR_31) rfl (fun i_ hi_ => by have h_ : i_ = 0 := (by omega); subst h_; exact (kCell_K_of (x := (⟨((Utf8.decode o.text (U.pl o.text i)).1 : Int), ByteArray.empty, 0, 0, ByteArray.empty, o.attrs⟩ : CellA)) hl hA)) ((bt (bg HB hg_23 (hb_13).size) hb_27)).size (by omega) ?_
  intro A_32 c_33 w_34 hm_35 hg_36 hl_37
  have hi_38 := MixK.iter_kept ((hb_27.block _ (Array.getElem?_eq_some_iff.1 hi_24).1).trans hi_24) (MixK.below hm_25 hb_27) hg_36
  refine xr0 1 [(3, .slice A_32 ((zs6 ++ [(⟨((Utf8.decode o.text (U.pl o.text i)).1 : Int), ByteArray.empty, 0, 0, ByteArray.empty, o.attrs⟩ : CellA)]).length) c_33)] [24, 29, 30] ?_
  refine nl ?_
  have hB_39 : Below w_1.heap.size w_1 w_34 := (bgo (bt (bg HB hg_23 (hb_13).size) hb_27) hg_36 hl_37 (Nat.le_refl _))
  refine ⟨(i + 1, A_32, c_33, (zs6 ++ [(⟨((Utf8.decode o.text (U.pl o.text i)).1 : Int), ByteArray.empty, 0, 0, ByteArray.empty, o.attrs⟩ : CellA)])), by kernel_rfl, ?_, ?_⟩
  ·have hdc : (Utf8.decode o.text (U.pl o.text i)).2 = (U.enc (U.sc o.text)[i]).length := by rw [hst.1]
   rw [hdc, ← hst.2.1] at hi_38
   exact ⟨by omega, hi_38, by rw [hdr, he6]; exact came_snoc o.text o.attrs i hlt, hm_35, hB_39⟩
  (try dsimp only); omega
 intro hp_40
 refine xr0 1 [(21, .tuple #[.bool false]), (22, .bool false)] [] ?_
 refine nl (sq (cf (X_exit (sq (rg (xe0 2 [(2, .slice A6 zs6.length c6)] ?_))))))
 refine nl (X_ret (rk [.slice A6 zs6.length c6] (hR_ _ _ ?_)))
 have hend : i = (U.sc o.text).length := by have := mt (U.pl_lt_iff hu1 i hi).2 hp_40; omega
 rw [hend, List.take_length] at he6
 rw [came_txt c_6, ← he6]
 exact ⟨_, _, rfl, MixK.low hm6 (hb_2).size, (bt hb_2 HB)⟩
theorem alike_same (A B : Option Addr) (c d : Nat) (xs : List CellA) (w : World) (hx : kCell.C w A xs.length xs) (hy : kCell.C w B xs.length xs) : Calls Tryd.prog 69 #[.slice A xs.length c, .slice B xs.length d] w fun e w' => e = .returned (.bool true) ∧ Below w.heap.size w w' := by
 have hpl : xs.length ≤ 9223372036854775807 := hx.2.1
 refine RX.enter Tryd.func69 rfl 68 rfl [(0, .slice A xs.length c), (1, .slice B xs.length d)] rfl (by kernel_rfl) (fun R_ hR_ => ?_)
 refine sq (rg (xe0 1 [(0, .slice A xs.length c), (1, .slice B xs.length d)] ?_))
 refine nl (sq (sq (rg (xr 5 [(10, .eq (.bool false))] [(10, .bool false)] [] [Value.bool ((xs.length : Int) != (xs.length : Int)) = Value.bool false] ⟨congrArg Value.bool (bneF rfl), trivial⟩ ?_))))
 refine nl (cf (sk (sq (sq (rg (xr0 3 [(12, .int .i64 (xs.length : Int)), (13, .int .i64 0)] [10] ?_))))))
 refine nl (bk (X_loop (ι := Nat) (fun i => [(0, .slice A xs.length c), (1, .slice B xs.length d), (12, .int .i64 (xs.length : Int)), (13, .int .i64 (i : Int))]) (fun i wl => i ≤ xs.length ∧ Below w.heap.size w wl) (fun i => xs.length - i) 0 ⟨Nat.zero_le _, (Below.refl _ _)⟩ (by kernel_rfl) ?_))
 rintro i wl ⟨hi, HB⟩
 refine sq (X_region ?_)
 by_cases c_1 : (i : Int) < (xs.length : Int)
 ·refine xr 1 [(14, .eq (.bool true))] [(14, .bool true)] [] [Value.bool (decide ((i : Int) < (xs.length : Int))) = Value.bool true] ⟨congrArg Value.bool (decide_eq_true (c_1)), trivial⟩ ?_
  refine nl (sq (ct (sk (sq (bk (sq (rg (xr0 2 [(5, nv i)] [14] ?_))))))))
  refine nl (sq (X_any [48] 51 #[false, false, false, false, false, false, false, false, false, false, false, false, false, false, false, false, false, false, false, false, false, false, false, false, false, false, false, false, false, false, false, false, false, false, false, false, false, false, false, false, false, false, false, false, false, false, false, false, false, false, false] (by kernel_rfl) (by kernel_rfl) (by kernel_rfl) (fun wd_2 hb_3 hh_4 => ?_)))
  refine XA_run (fuel' := 49) [0, 1] [] [.slice A xs.length c, .int .i64 (i : Int)] #[true, true, false, false, false, false, false, false, false, false, false, false, false, false, false, false, false, false, false, false, false, false, false, false, false, false, false, false, false, false, false, false, false, false, false, false, false, false, false, false, false, false, false, false, false, false, false, false, false, false, false] [(0, .slice A xs.length c), (1, .slice B xs.length d), (5, .int .i64 (i : Int)), (12, .int .i64 (xs.length : Int)), (13, .int .i64 (i : Int)), (16, .slice A xs.length c), (17, .int .i64 (i : Int))] [] (fun _ _ _ _ h => h) (by kernel_rfl) rfl trivial ?_
  obtain ⟨ad_5, B_8, c_9, ha_6, hc_7, hl_10, hC_11⟩ := Kd.atCell (Kd.C_below hx (bt HB hb_3)) (i := (i : Int)) (by omega) (by omega)
  replace hc_7 : CellsAt wd_2 (ad_5.add ((i : Int).toNat * 6)) [.int .i32 ((xs.getD i cell0).rune), .string ((xs.getD i cell0).kind), .int .i64 ((xs.getD i cell0).vk), .int .i64 ((xs.getD i cell0).vn), .string ((xs.getD i cell0).vt), .slice B_8 ((xs.getD i cell0).attrs.length) c_9] := hc_7
  replace hl_10 : (xs.getD i cell0).attrs.length ≤ c_9 := hl_10
  replace hC_11 : kAttr.C wd_2 B_8 ((xs.getD i cell0).attrs.length) (xs.getD i cell0).attrs := hC_11
  refine XA_run (fuel' := 44) [2, 3, 4, 5, 6] [(18, .idx ad_5), (20, .load (.int .i32 ((xs.getD i cell0).rune)))] [.pointer (some (ad_5.add ((i : Int).toNat * 6))), .pointer (some (ad_5.add ((i : Int).toNat * 6))), .int .i32 ((xs.getD i cell0).rune), .slice B xs.length d, .int .i64 (i : Int)] #[true, true, true, true, true, true, true, false, false, false, false, false, false, false, false, false, false, false, false, false, false, false, false, false, false, false, false, false, false, false, false, false, false, false, false, false, false, false, false, false, false, false, false, false, false, false, false, false, false, false, false] [(0, .slice A xs.length c), (1, .slice B xs.length d), (5, .int .i64 (i : Int)), (12, .int .i64 (xs.length : Int)), (13, .int .i64 (i : Int)), (20, .int .i32 ((xs.getD i cell0).rune)), (21, .slice B xs.length d), (22, .int .i64 (i : Int))] [A = some ad_5, (0 : Int) ≤ (i : Int), (i : Int) < (xs.length : Int), LoadsAs Tryd.prog 21 (ad_5.add ((i : Int).toNat * 6)) (.int .i32 ((xs.getD i cell0).rune)) wd_2] (fun _ _ _ _ h => h) (by kernel_rfl) rfl ⟨ha_6, (by omega), (by omega), loads1 rfl (elem_cell hc_7 0 _ rfl), trivial⟩ ?_
  obtain ⟨ad_12, B_15, c_16, ha_13, hc_14, hl_17, hC_18⟩ := Kd.atCell (Kd.C_below hy (bt HB hb_3)) (i := (i : Int)) (by omega) (by omega)
  replace hc_14 : CellsAt wd_2 (ad_12.add ((i : Int).toNat * 6)) [.int .i32 ((xs.getD i cell0).rune), .string ((xs.getD i cell0).kind), .int .i64 ((xs.getD i cell0).vk), .int .i64 ((xs.getD i cell0).vn), .string ((xs.getD i cell0).vt), .slice B_15 ((xs.getD i cell0).attrs.length) c_16] := hc_14
  replace hl_17 : (xs.getD i cell0).attrs.length ≤ c_16 := hl_17
  replace hC_18 : kAttr.C wd_2 B_15 ((xs.getD i cell0).attrs.length) (xs.getD i cell0).attrs := hC_18
  refine XA_run (fuel' := 37) [7, 8, 9, 10, 11, 12, 13] [(23, .idx ad_12), (25, .load (.int .i32 ((xs.getD i cell0).rune))), (26, .eq (.bool false))] [.pointer (some (ad_12.add ((i : Int).toNat * 6))), .pointer (some (ad_12.add ((i : Int).toNat * 6))), .int .i32 ((xs.getD i cell0).rune), .bool false, .bool false, .slice A xs.length c, .int .i64 (i : Int)] #[true, true, true, true, true, true, true, true, true, true, true, true, true, true, false, false, false, false, false, false, false, false, false, false, false, false, false, false, false, false, false, false, false, false, false, false, false, false, false, false, false, false, false, false, false, false, false, false, false, false, false] [(0, .slice A xs.length c), (1, .slice B xs.length d), (5, .int .i64 (i : Int)), (12, .int .i64 (xs.length : Int)), (13, .int .i64 (i : Int)), (27, .bool false), (28, .slice A xs.length c), (29, .int .i64 (i : Int))] [B = some ad_12, (0 : Int) ≤ (i : Int), (i : Int) < (xs.length : Int), LoadsAs Tryd.prog 21 (ad_12.add ((i : Int).toNat * 6)) (.int .i32 ((xs.getD i cell0).rune)) wd_2, Value.bool ((xs.getD i cell0).rune != (xs.getD i cell0).rune) = Value.bool false] (fun _ _ _ _ h => h) (by kernel_rfl) rfl ⟨ha_13, (by omega), (by omega), loads1 rfl (elem_cell hc_14 0 _ rfl), congrArg Value.bool (bneF rfl), trivial⟩ ?_
  obtain ⟨ad_19, B_22, c_23, ha_20, hc_21, hl_24, hC_25⟩ := Kd.atCell (Kd.C_below hx (bt HB hb_3)) (i := (i : Int)) (by omega) (by omega)
  replace hc_21 : CellsAt wd_2 (ad_19.add ((i : Int).toNat * 6)) [.int .i32 ((xs.getD i cell0).rune), .string ((xs.getD i cell0).kind), .int .i64 ((xs.getD i cell0).vk), .int .i64 ((xs.getD i cell0).vn), .string ((xs.getD i cell0).vt), .slice B_22 ((xs.getD i cell0).attrs.length) c_23] := hc_21
  replace hl_24 : (xs.getD i cell0).attrs.length ≤ c_23 := hl_24
  replace hC_25 : kAttr.C wd_2 B_22 ((xs.getD i cell0).attrs.length) (xs.getD i cell0).attrs := hC_25
  refine XA_run (fuel' := 32) [14, 15, 16, 17, 18] [(30, .idx ad_19), (32, .load (.string ((xs.getD i cell0).kind)))] [.pointer (some (ad_19.add ((i : Int).toNat * 6))), .pointer (some ((ad_19.add ((i : Int).toNat * 6)).add 1)), .string ((xs.getD i cell0).kind), .slice B xs.length d, .int .i64 (i : Int)] #[true, true, true, true, true, true, true, true, true, true, true, true, true, true, true, true, true, true, true, false, false, false, false, false, false, false, false, false, false, false, false, false, false, false, false, false, false, false, false, false, false, false, false, false, false, false, false, false, false, false, false] [(0, .slice A xs.length c), (1, .slice B xs.length d), (5, .int .i64 (i : Int)), (12, .int .i64 (xs.length : Int)), (13, .int .i64 (i : Int)), (27, .bool false), (32, .string ((xs.getD i cell0).kind)), (33, .slice B xs.length d), (34, .int .i64 (i : Int))] [A = some ad_19, (0 : Int) ≤ (i : Int), (i : Int) < (xs.length : Int), LoadsAs Tryd.prog 9 ((ad_19.add ((i : Int).toNat * 6)).add 1) (.string ((xs.getD i cell0).kind)) wd_2] (fun _ _ _ _ h => h) (by kernel_rfl) rfl ⟨ha_20, (by omega), (by omega), loads1 rfl (elem_cell hc_21 1 _ rfl), trivial⟩ ?_
  obtain ⟨ad_26, B_29, c_30, ha_27, hc_28, hl_31, hC_32⟩ := Kd.atCell (Kd.C_below hy (bt HB hb_3)) (i := (i : Int)) (by omega) (by omega)
  replace hc_28 : CellsAt wd_2 (ad_26.add ((i : Int).toNat * 6)) [.int .i32 ((xs.getD i cell0).rune), .string ((xs.getD i cell0).kind), .int .i64 ((xs.getD i cell0).vk), .int .i64 ((xs.getD i cell0).vn), .string ((xs.getD i cell0).vt), .slice B_29 ((xs.getD i cell0).attrs.length) c_30] := hc_28
  replace hl_31 : (xs.getD i cell0).attrs.length ≤ c_30 := hl_31
  replace hC_32 : kAttr.C wd_2 B_29 ((xs.getD i cell0).attrs.length) (xs.getD i cell0).attrs := hC_32
  refine XA_run (fuel' := 29) [19, 20, 21] [(35, .idx ad_26), (37, .load (.string ((xs.getD i cell0).kind)))] [.pointer (some (ad_26.add ((i : Int).toNat * 6))), .pointer (some ((ad_26.add ((i : Int).toNat * 6)).add 1)), .string ((xs.getD i cell0).kind)] #[true, true, true, true, true, true, true, true, true, true, true, true, true, true, true, true, true, true, true, true, true, true, false, false, false, false, false, false, false, false, false, false, false, false, false, false, false, false, false, false, false, false, false, false, false, false, false, false, false, false, false] [(0, .slice A xs.length c), (1, .slice B xs.length d), (5, .int .i64 (i : Int)), (12, .int .i64 (xs.length : Int)), (13, .int .i64 (i : Int)), (27, .bool false), (32, .string ((xs.getD i cell0).kind)), (37, .string ((xs.getD i cell0).kind))] [B = some ad_26, (0 : Int) ≤ (i : Int), (i : Int) < (xs.length : Int), LoadsAs Tryd.prog 9 ((ad_26.add ((i : Int).toNat * 6)).add 1) (.string ((xs.getD i cell0).kind)) wd_2] (fun _ _ _ _ h => h) (by kernel_rfl) rfl ⟨ha_27, (by omega), (by omega), loads1 rfl (elem_cell hc_28 1 _ rfl), trivial⟩ ?_
  by_cases c_33 : ((xs.getD i cell0).kind) = ((xs.getD i cell0).kind)
  ·refine XA_run (fuel' := 24) [22, 23, 24, 25, 26] [(38, .eq (.bool false))] [.bool false, .bool false, .bool false, .slice A xs.length c, .int .i64 (i : Int)] #[true, true, true, true, true, true, true, true, true, true, true, true, true, true, true, true, true, true, true, true, true, true, true, true, true, true, true, false, false, false, false, false, false, false, false, false, false, false, false, false, false, false, false, false, false, false, false, false, false, false, false] [(0, .slice A xs.length c), (1, .slice B xs.length d), (5, .int .i64 (i : Int)), (12, .int .i64 (xs.length : Int)), (13, .int .i64 (i : Int)), (40, .bool false), (41, .slice A xs.length c), (42, .int .i64 (i : Int))] [Value.bool (!((xs.getD i cell0).kind).toList == ((xs.getD i cell0).kind).toList) = Value.bool false] (fun _ _ _ _ h => h) (by kernel_rfl) rfl ⟨congrArg Value.bool (strNeF (c_33)), trivial⟩ ?_
   obtain ⟨ad_34, B_37, c_38, ha_35, hc_36, hl_39, hC_40⟩ := Kd.atCell (Kd.C_below hx (bt HB hb_3)) (i := (i : Int)) (by omega) (by omega)
   replace hc_36 : CellsAt wd_2 (ad_34.add ((i : Int).toNat * 6)) [.int .i32 ((xs.getD i cell0).rune), .string ((xs.getD i cell0).kind), .int .i64 ((xs.getD i cell0).vk), .int .i64 ((xs.getD i cell0).vn), .string ((xs.getD i cell0).vt), .slice B_37 ((xs.getD i cell0).attrs.length) c_38] := hc_36
   replace hl_39 : (xs.getD i cell0).attrs.length ≤ c_38 := hl_39
   replace hC_40 : kAttr.C wd_2 B_37 ((xs.getD i cell0).attrs.length) (xs.getD i cell0).attrs := hC_40
   refine XA_run (fuel' := 19) [27, 28, 29, 30, 31] [(43, .idx ad_34), (45, .load (.agg #[.int .i64 ((xs.getD i cell0).vk), .int .i64 ((xs.getD i cell0).vn), .string ((xs.getD i cell0).vt)]))] [.pointer (some (ad_34.add ((i : Int).toNat * 6))), .pointer (some ((ad_34.add ((i : Int).toNat * 6)).add 2)), .agg #[.int .i64 ((xs.getD i cell0).vk), .int .i64 ((xs.getD i cell0).vn), .string ((xs.getD i cell0).vt)], .slice B xs.length d, .int .i64 (i : Int)] #[true, true, true, true, true, true, true, true, true, true, true, true, true, true, true, true, true, true, true, true, true, true, true, true, true, true, true, true, true, true, true, true, false, false, false, false, false, false, false, false, false, false, false, false, false, false, false, false, false, false, false] [(0, .slice A xs.length c), (1, .slice B xs.length d), (5, .int .i64 (i : Int)), (12, .int .i64 (xs.length : Int)), (13, .int .i64 (i : Int)), (40, .bool false), (45, .agg #[.int .i64 ((xs.getD i cell0).vk), .int .i64 ((xs.getD i cell0).vn), .string ((xs.getD i cell0).vt)]), (46, .slice B xs.length d), (47, .int .i64 (i : Int))] [A = some ad_34, (0 : Int) ≤ (i : Int), (i : Int) < (xs.length : Int), LoadsAs Tryd.prog 44 ((ad_34.add ((i : Int).toNat * 6)).add 2) (.agg #[.int .i64 ((xs.getD i cell0).vk), .int .i64 ((xs.getD i cell0).vn), .string ((xs.getD i cell0).vt)]) wd_2] (fun _ _ _ _ h => h) (by kernel_rfl) rfl ⟨ha_35, (by omega), (by omega), loadsE rfl rfl hc_36 2 ⟨by kernel_rfl, by kernel_rfl⟩, trivial⟩ ?_
   obtain ⟨ad_41, B_44, c_45, ha_42, hc_43, hl_46, hC_47⟩ := Kd.atCell (Kd.C_below hy (bt HB hb_3)) (i := (i : Int)) (by omega) (by omega)
   replace hc_43 : CellsAt wd_2 (ad_41.add ((i : Int).toNat * 6)) [.int .i32 ((xs.getD i cell0).rune), .string ((xs.getD i cell0).kind), .int .i64 ((xs.getD i cell0).vk), .int .i64 ((xs.getD i cell0).vn), .string ((xs.getD i cell0).vt), .slice B_44 ((xs.getD i cell0).attrs.length) c_45] := hc_43
   replace hl_46 : (xs.getD i cell0).attrs.length ≤ c_45 := hl_46
   replace hC_47 : kAttr.C wd_2 B_44 ((xs.getD i cell0).attrs.length) (xs.getD i cell0).attrs := hC_47
   refine XA_run (fuel' := 16) [32, 33, 34] [(48, .idx ad_41), (50, .load (.agg #[.int .i64 ((xs.getD i cell0).vk), .int .i64 ((xs.getD i cell0).vn), .string ((xs.getD i cell0).vt)]))] [.pointer (some (ad_41.add ((i : Int).toNat * 6))), .pointer (some ((ad_41.add ((i : Int).toNat * 6)).add 2)), .agg #[.int .i64 ((xs.getD i cell0).vk), .int .i64 ((xs.getD i cell0).vn), .string ((xs.getD i cell0).vt)]] #[true, true, true, true, true, true, true, true, true, true, true, true, true, true, true, true, true, true, true, true, true, true, true, true, true, true, true, true, true, true, true, true, true, true, true, false, false, false, false, false, false, false, false, false, false, false, false, false, false, false, false] [(0, .slice A xs.length c), (1, .slice B xs.length d), (5, .int .i64 (i : Int)), (12, .int .i64 (xs.length : Int)), (13, .int .i64 (i : Int)), (40, .bool false), (45, .agg #[.int .i64 ((xs.getD i cell0).vk), .int .i64 ((xs.getD i cell0).vn), .string ((xs.getD i cell0).vt)]), (50, .agg #[.int .i64 ((xs.getD i cell0).vk), .int .i64 ((xs.getD i cell0).vn), .string ((xs.getD i cell0).vt)])] [B = some ad_41, (0 : Int) ≤ (i : Int), (i : Int) < (xs.length : Int), LoadsAs Tryd.prog 44 ((ad_41.add ((i : Int).toNat * 6)).add 2) (.agg #[.int .i64 ((xs.getD i cell0).vk), .int .i64 ((xs.getD i cell0).vn), .string ((xs.getD i cell0).vt)]) wd_2] (fun _ _ _ _ h => h) (by kernel_rfl) rfl ⟨ha_42, (by omega), (by omega), loadsE rfl rfl hc_43 2 ⟨by kernel_rfl, by kernel_rfl⟩, trivial⟩ ?_
   refine XA_run (fuel' := 11) [35, 36, 37, 38, 39] [(51, .as (.bool false))] [.bool false, .bool false, .bool false, .slice A xs.length c, .int .i64 (i : Int)] #[true, true, true, true, true, true, true, true, true, true, true, true, true, true, true, true, true, true, true, true, true, true, true, true, true, true, true, true, true, true, true, true, true, true, true, true, true, true, true, true, false, false, false, false, false, false, false, false, false, false, false] [(0, .slice A xs.length c), (1, .slice B xs.length d), (5, .int .i64 (i : Int)), (12, .int .i64 (xs.length : Int)), (13, .int .i64 (i : Int)), (53, .bool false), (54, .slice A xs.length c), (55, .int .i64 (i : Int))] [RunsAs Tryd.prog [(45, .agg #[.int .i64 ((xs.getD i cell0).vk), .int .i64 ((xs.getD i cell0).vn), .string ((xs.getD i cell0).vt)]), (50, .agg #[.int .i64 ((xs.getD i cell0).vk), .int .i64 ((xs.getD i cell0).vn), .string ((xs.getD i cell0).vt)])] (Go.Op.binOp Go.BinOp.neq 44 (Go.Operand.tmp 45) (Go.Operand.tmp 50) 44) 4 (.bool false) wd_2] (fun _ _ _ _ h => h) (by kernel_rfl) rfl ⟨runs_bin rfl rfl (run_eqGuard_agg _ _ _ _ _ _ _ (by kernel_rfl)) (by have h := plain_neq ((xs.getD i cell0).vk, (xs.getD i cell0).vn, (xs.getD i cell0).vt) ((xs.getD i cell0).vk, (xs.getD i cell0).vn, (xs.getD i cell0).vt) wd_2; rw [show ple ((xs.getD i cell0).vk, (xs.getD i cell0).vn, (xs.getD i cell0).vt) ((xs.getD i cell0).vk, (xs.getD i cell0).vn, (xs.getD i cell0).vt) = true from (ple_iff _ _).2 rfl] at h; exact h), trivial⟩ ?_
   obtain ⟨ad_48, B_51, c_52, ha_49, hc_50, hl_53, hC_54⟩ := Kd.atCell (Kd.C_below hx (bt HB hb_3)) (i := (i : Int)) (by omega) (by omega)
   replace hc_50 : CellsAt wd_2 (ad_48.add ((i : Int).toNat * 6)) [.int .i32 ((xs.getD i cell0).rune), .string ((xs.getD i cell0).kind), .int .i64 ((xs.getD i cell0).vk), .int .i64 ((xs.getD i cell0).vn), .string ((xs.getD i cell0).vt), .slice B_51 ((xs.getD i cell0).attrs.length) c_52] := hc_50
   replace hl_53 : (xs.getD i cell0).attrs.length ≤ c_52 := hl_53
   replace hC_54 : kAttr.C wd_2 B_51 ((xs.getD i cell0).attrs.length) (xs.getD i cell0).attrs := hC_54
   refine XA_run (fuel' := 6) [40, 41, 42, 43, 44] [(56, .idx ad_48), (58, .load (.slice B_51 ((xs.getD i cell0).attrs.length) c_52))] [.pointer (some (ad_48.add ((i : Int).toNat * 6))), .pointer (some ((ad_48.add ((i : Int).toNat * 6)).add 5)), .slice B_51 ((xs.getD i cell0).attrs.length) c_52, .slice B xs.length d, .int .i64 (i : Int)] #[true, true, true, true, true, true, true, true, true, true, true, true, true, true, true, true, true, true, true, true, true, true, true, true, true, true, true, true, true, true, true, true, true, true, true, true, true, true, true, true, true, true, true, true, true, false, false, false, false, false, false] [(0, .slice A xs.length c), (1, .slice B xs.length d), (12, .int .i64 (xs.length : Int)), (13, .int .i64 (i : Int)), (53, .bool false), (58, .slice B_51 ((xs.getD i cell0).attrs.length) c_52), (59, .slice B xs.length d), (60, .int .i64 (i : Int))] [A = some ad_48, (0 : Int) ≤ (i : Int), (i : Int) < (xs.length : Int), LoadsAs Tryd.prog 45 ((ad_48.add ((i : Int).toNat * 6)).add 5) (.slice B_51 ((xs.getD i cell0).attrs.length) c_52) wd_2] (fun _ _ _ _ h => h) (by kernel_rfl) rfl ⟨ha_49, (by omega), (by omega), loads1 rfl (elem_cell hc_50 5 _ rfl), trivial⟩ ?_
   obtain ⟨ad_55, B_58, c_59, ha_56, hc_57, hl_60, hC_61⟩ := Kd.atCell (Kd.C_below hy (bt HB hb_3)) (i := (i : Int)) (by omega) (by omega)
   replace hc_57 : CellsAt wd_2 (ad_55.add ((i : Int).toNat * 6)) [.int .i32 ((xs.getD i cell0).rune), .string ((xs.getD i cell0).kind), .int .i64 ((xs.getD i cell0).vk), .int .i64 ((xs.getD i cell0).vn), .string ((xs.getD i cell0).vt), .slice B_58 ((xs.getD i cell0).attrs.length) c_59] := hc_57
   replace hl_60 : (xs.getD i cell0).attrs.length ≤ c_59 := hl_60
   replace hC_61 : kAttr.C wd_2 B_58 ((xs.getD i cell0).attrs.length) (xs.getD i cell0).attrs := hC_61
   refine XA_run (fuel' := 3) [45, 46, 47] [(61, .idx ad_55), (63, .load (.slice B_58 ((xs.getD i cell0).attrs.length) c_59))] [.pointer (some (ad_55.add ((i : Int).toNat * 6))), .pointer (some ((ad_55.add ((i : Int).toNat * 6)).add 5)), .slice B_58 ((xs.getD i cell0).attrs.length) c_59] #[true, true, true, true, true, true, true, true, true, true, true, true, true, true, true, true, true, true, true, true, true, true, true, true, true, true, true, true, true, true, true, true, true, true, true, true, true, true, true, true, true, true, true, true, true, true, true, true, false, false, false] [(0, .slice A xs.length c), (1, .slice B xs.length d), (12, .int .i64 (xs.length : Int)), (13, .int .i64 (i : Int)), (53, .bool false), (58, .slice B_51 ((xs.getD i cell0).attrs.length) c_52), (63, .slice B_58 ((xs.getD i cell0).attrs.length) c_59)] [B = some ad_55, (0 : Int) ≤ (i : Int), (i : Int) < (xs.length : Int), LoadsAs Tryd.prog 45 ((ad_55.add ((i : Int).toNat * 6)).add 5) (.slice B_58 ((xs.getD i cell0).attrs.length) c_59) wd_2] (fun _ _ _ _ h => h) (by kernel_rfl) rfl ⟨ha_56, (by omega), (by omega), loads1 rfl (elem_cell hc_57 5 _ rfl), trivial⟩ ?_
   refine XA_act (fuel' := 2) 48 #[true, true, true, true, true, true, true, true, true, true, true, true, true, true, true, true, true, true, true, true, true, true, true, true, true, true, true, true, true, true, true, true, true, true, true, true, true, true, true, true, true, true, true, true, true, true, true, true, true, false, false] _ rfl (by kernel_rfl) rfl (by kernel_rfl) rfl ?_
   refine xc 46 ent46 [.slice B_51 ((xs.getD i cell0).attrs.length) c_52, .slice B_58 ((xs.getD i cell0).attrs.length) c_59] (refSame_any _ _ _ _ ((xs.getD i cell0).attrs) ((xs.getD i cell0).attrs) _ hC_54 hC_61) ?_
   rintro e w_62 ⟨rfl, hb_63⟩; refine ⟨_, rfl, ?_⟩
   rw [show decide ((xs.getD i cell0).attrs = (xs.getD i cell0).attrs) = true from decide_eq_true rfl]
   refine nl (XA_pure (fuel' := 0) [49, 50] [] [.bool false, .bool false] #[true, true, true, true, true, true, true, true, true, true, true, true, true, true, true, true, true, true, true, true, true, true, true, true, true, true, true, true, true, true, true, true, true, true, true, true, true, true, true, true, true, true, true, true, true, true, true, true, true, true, true] [(0, .slice A xs.length c), (1, .slice B xs.length d), (12, .int .i64 (xs.length : Int)), (13, .int .i64 (i : Int)), (66, .bool false)] (fun w_ => []) (fun _ _ _ _ h => h) (fun w_ => by kernel_rfl) rfl (fun w_ => trivial) ?_)
   refine XA_done (by kernel_rfl) ?_
   refine cf (sk (rg (xr 2 [(67, .eq (.int .i64 ((i : Int) + 1)))] [(13, .int .i64 ((i : Int) + 1))] [66] [Value.int .i64 (IntKind.i64.wrap ((i : Int) + 1)) = Value.int .i64 ((i : Int) + 1)] ⟨wr_i64 (by omega) (by omega), trivial⟩ ?_)))
   refine nl ?_
   refine ⟨(i + 1), by kernel_rfl, ?_, ?_⟩
   ·exact ⟨by omega, (bt (bt HB hb_3) hb_63)⟩
   (try dsimp only); omega
  exact absurd rfl c_33
 refine xr 1 [(14, .eq (.bool false))] [(14, .bool false)] [] [Value.bool (decide ((i : Int) < (xs.length : Int))) = Value.bool false] ⟨congrArg Value.bool (decide_eq_false (c_1)), trivial⟩ ?_
 refine nl (sq (cf (X_exit (sq (rg (xe0 1 [(4, .bool true)] ?_))))))
 refine nl (X_ret (rk [.bool true] (hR_ _ _ ?_)))
 exact ⟨rfl, HB⟩
end Go.Proofs.YtkehomiogkoomaaDoor
