/- ContentCuts returns true. Conditions: sizes, the tables of utf8, the errors' variables. -/
import Derived.Test.YtekfdfafhfhfbaaDoorP4
import Derived.Test.YtekfdfafhfhfbaaDoorP3
import Derived.Test.YtekfdfafhfhfbaaDoorSp
import Derived.Test.YtekfdfafhfhfbaaDoorLim
import Derived.Test.YtekfdfafhfhfbaaDoorNum
import Derived.Test.YtekfdfafhfhfbaaDoorAn3
set_option linter.unusedVariables false
set_option linter.unusedSimpArgs false
set_option maxRecDepth 100000
namespace Go.Proofs.YtekfdfafhfhfbaaDoor
open Go Go.RowKit Go.Proofs.YtekfdfafhfhfbaaDoorW.PrintWords RX
theorem ent10 : Ent Tryd.prog 10 := ent_of Tryd.func10 (by kernel_rfl) rfl
theorem cutO_attrs (o : OpA) (n : Int) : (cutO o n).1.attrs.length ≤ o.attrs.length := by
  unfold cutO
  repeat (first | exact Nat.le_refl _ | exact Nat.zero_le _ | split)
set_option maxHeartbeats 4000000 in
theorem ccuts_any (o : OpA) (A : Option Addr) (i0 : Nat) (n : Int) (w : World) (hA : kAttr.C w A o.attrs.length o.attrs) (hAc : o.attrs.length ≤ i0) (hz : opSz o) (hn0 : -9223372036854775808 ≤ n) (hn1 : n ≤ 9223372036854775807) (hT : Tabs w) (es : List Addr) (hE : Errs w es) :
    Calls Tryd.prog 10 #[.agg #[.int .i64 o.kind, .string o.text, .int .i64 o.vk, .int .i64 o.vn, .string o.vt, .int .i64 o.count, .slice A o.attrs.length i0], .int .i64 n] w fun e w' => e = .returned (.bool true) ∧ Below w.heap.size w w' := by
  have hC : ErrsC w es := hE.on rfl
  have hLa := cutO_attrs o n
  have hz3 := hz.2.2.1
  refine RX.enter Tryd.func10 rfl 80 rfl [(0, .agg #[.int .i64 o.kind, .string o.text, .int .i64 o.vk, .int .i64 o.vn, .string o.vt, .int .i64 o.count, .slice A o.attrs.length i0]), (1, .int .i64 n)] rfl (by kernel_rfl) (fun R_ hR_ => ?_)
  refine X_seq ?_
  refine X_region ?_
  refine XL_run 1 [] [(1, .int .i64 n), (2, .pointer (some ⟨w.heap.size, 0, none⟩))] (w.alloc (.cells #[.int .i64 o.kind, .string o.text, .int .i64 o.vk, .int .i64 o.vn, .string o.vt, .int .i64 o.count, .slice A o.attrs.length i0] 33)) [] (by kernel_rfl) trivial ?_
  obtain ⟨w_1, hw_5, hb_2, hk_3, hz_4⟩ := new_world w #[.int .i64 o.kind, .string o.text, .int .i64 o.vk, .int .i64 o.vn, .string o.vt, .int .i64 o.count, .slice A o.attrs.length i0] 33
  rw [hw_5]
  refine XL_run 1 [] [(1, .int .i64 n), (2, .pointer (some ⟨w.heap.size, 0, none⟩))] w_1 [] (by kernel_rfl) trivial ?_
  refine XL_nil ?_
  refine X_seq ?_
  refine X_seq ?_
  refine X_region ?_
  refine XL_call 45 rfl rfl rfl ent45 [] (by kernel_rfl) (lives_any _ (hT.below hb_2) es (hC.below hb_2)) ?_
  rintro e w_6 ⟨rfl, hb_7⟩; refine ⟨_, rfl, ?_⟩
  refine XL_run 1 [] [(1, .int .i64 n), (2, .pointer (some ⟨w.heap.size, 0, none⟩)), (14, .bool false)] w_6 [] (by kernel_rfl) trivial ?_
  refine XL_nil ?_
  refine X_cond false rfl ?_
  refine X_skip ?_
  refine X_seq ?_
  refine X_region ?_
  refine XL_run 2 [(15, .load (.agg #[.int .i64 o.kind, .string o.text, .int .i64 o.vk, .int .i64 o.vn, .string o.vt, .int .i64 o.count, .slice A o.attrs.length i0]))] [(1, .int .i64 n), (2, .pointer (some ⟨w.heap.size, 0, none⟩)), (16, .slice (some ⟨w_6.heap.size, 0, none⟩) 1 1)] (w_6.alloc (.cells #[.int .i64 o.kind, .string o.text, .int .i64 o.vk, .int .i64 o.vn, .string o.vt, .int .i64 o.count, .slice A o.attrs.length i0] 33)) [LoadsAs Tryd.prog 33 (⟨w.heap.size, 0, none⟩) (.agg #[.int .i64 o.kind, .string o.text, .int .i64 o.vk, .int .i64 o.vn, .string o.vt, .int .i64 o.count, .slice A o.attrs.length i0]) w_6] (by kernel_rfl) ⟨loadsB rfl rfl (Blk.below hk_3 hb_7) 0 ⟨by kernel_rfl, by kernel_rfl⟩, trivial⟩ ?_
  obtain ⟨w_8, hw_12, hb_9, hk_10, hz_11⟩ := new_world w_6 #[.int .i64 o.kind, .string o.text, .int .i64 o.vk, .int .i64 o.vn, .string o.vt, .int .i64 o.count, .slice A o.attrs.length i0] 33
  rw [hw_12]
  have hR_13 := Kd.R_litB (kRaw 7) (W := w_6) (e := 33) (cs := #[.int .i64 o.kind, .string o.text, .int .i64 o.vk, .int .i64 o.vn, .string o.vt, .int .i64 o.count, .slice A o.attrs.length i0]) [[.int .i64 o.kind, .string o.text, .int .i64 o.vk, .int .i64 o.vn, .string o.vt, .int .i64 o.count, .slice A o.attrs.length i0]] hk_10 (reps_raw [[.int .i64 o.kind, .string o.text, .int .i64 o.vk, .int .i64 o.vn, .string o.vt, .int .i64 o.count, .slice A o.attrs.length i0]] (by kernel_rfl)) (Nat.le_of_ble_eq_true (by kernel_rfl))
  have hC_14 : kOp.C w_8 (some ⟨w_6.heap.size, 0, none⟩) 1 [o] := C_lit1 (Kd.R_C hR_13) (kOp_K_of (x := o) hAc (Kd.C_below hA (bt (bt hb_2 hb_7) hb_9)))
  refine XL_call 47 rfl rfl rfl ent47 [.slice (some ⟨w_6.heap.size, 0, none⟩) 1 1] (by kernel_rfl) (spCopy_any _ _ [o] _ hC_14 (Nat.le_of_ble_eq_true rfl) (fun i_ hi_ => by obtain rfl : i_ = 0 := (by simp only [List.length_cons, List.length_nil] at hi_; omega); exact hz)) ?_
  rintro e w_19 ⟨A_15, c_16, rfl, hc_17, hR_18, hb_20⟩; refine ⟨_, rfl, ?_⟩
  have hS_21 := Kd.R_C hR_18
  have hC_22 : kOp.C w_19 A_15 1 [o] := kOpS_C (kOpS_init hS_21)
  refine XL_run 1 [] [(1, .int .i64 n), (2, .pointer (some ⟨w.heap.size, 0, none⟩)), (5, .slice A_15 1 c_16)] w_19 [] (by kernel_rfl) trivial ?_
  refine XL_nil ?_
  refine X_seq ?_
  refine X_region ?_
  refine XL_run 1 [] [(1, .int .i64 n), (2, .pointer (some ⟨w.heap.size, 0, none⟩)), (5, .slice A_15 1 c_16), (19, .slice A_15 1 c_16)] w_19 [] (by kernel_rfl) trivial ?_
  obtain ⟨ad_23, B_26, c_27, ha_24, hc_25, hl_28, hC_29⟩ := Kd.atOp hC_22 (i := (0 : Int)) (by decide) (by decide)
  replace hc_25 : CellsAt w_19 (ad_23.add ((0 : Int).toNat * 7)) [.int .i64 o.kind, .string o.text, .int .i64 o.vk, .int .i64 o.vn, .string o.vt, .int .i64 o.count, .slice B_26 o.attrs.length c_27] := hc_25
  replace hl_28 : o.attrs.length ≤ c_27 := hl_28
  replace hC_29 : kAttr.C w_19 B_26 o.attrs.length o.attrs := hC_29
  refine XL_run 3 [(20, .idx ad_23), (21, .load (.agg #[.int .i64 o.kind, .string o.text, .int .i64 o.vk, .int .i64 o.vn, .string o.vt, .int .i64 o.count, .slice B_26 o.attrs.length c_27]))] [(1, .int .i64 n), (2, .pointer (some ⟨w.heap.size, 0, none⟩)), (5, .slice A_15 1 c_16), (21, .agg #[.int .i64 o.kind, .string o.text, .int .i64 o.vk, .int .i64 o.vn, .string o.vt, .int .i64 o.count, .slice B_26 o.attrs.length c_27]), (22, .int .i64 n)] w_19 [A_15 = some ad_23, (0 : Int) ≤ 0, 0 < (1 : Int), LoadsAs Tryd.prog 33 (ad_23.add ((0 : Int).toNat * 7)) (.agg #[.int .i64 o.kind, .string o.text, .int .i64 o.vk, .int .i64 o.vn, .string o.vt, .int .i64 o.count, .slice B_26 o.attrs.length c_27]) w_19] (by kernel_rfl) ⟨ha_24, (by omega), (by omega), loadsE rfl rfl hc_25 0 ⟨by kernel_rfl, by kernel_rfl⟩, trivial⟩ ?_
  refine XL_call 58 rfl rfl rfl ent58 [.agg #[.int .i64 o.kind, .string o.text, .int .i64 o.vk, .int .i64 o.vn, .string o.vt, .int .i64 o.count, .slice B_26 o.attrs.length c_27], .int .i64 n] (by kernel_rfl) (ccut_any o _ _ n _ hC_29 hz hn0 hn1 (hT.below (bt (bt (bt hb_2 hb_7) hb_9) hb_20)) es (hC.below (bt (bt (bt hb_2 hb_7) hb_9) hb_20))) ?_
  rintro e w_37 ⟨A_30, c_31, A_32, c_33, rfl, hr_34, hr_35, hne_36, hb_38⟩; refine ⟨_, rfl, ?_⟩
  refine XL_run 5 [] [(1, .int .i64 n), (2, .pointer (some ⟨w.heap.size, 0, none⟩)), (5, .slice A_15 1 c_16), (6, .pointer (some ⟨w_37.heap.size, 0, none⟩)), (24, .agg #[.int .i64 ((cutO o n).1.kind), .string ((cutO o n).1.text), .int .i64 ((cutO o n).1.vk), .int .i64 ((cutO o n).1.vn), .string ((cutO o n).1.vt), .int .i64 ((cutO o n).1.count), .slice A_30 ((cutO o n).1.attrs.length) c_31]), (25, .agg #[.int .i64 ((cutO o n).2.1.kind), .string ((cutO o n).2.1.text), .int .i64 ((cutO o n).2.1.vk), .int .i64 ((cutO o n).2.1.vn), .string ((cutO o n).2.1.vt), .int .i64 ((cutO o n).2.1.count), .slice A_32 ((cutO o n).2.1.attrs.length) c_33]), (26, errV es ((cutO o n).2.2))] (w_37.alloc (.cells #[.int .i64 0, .string ByteArray.empty, .int .i64 0, .int .i64 0, .string ByteArray.empty, .int .i64 0, .slice none 0 0] 33)) [] (by kernel_rfl) trivial ?_
  obtain ⟨w_39, hw_43, hb_40, hk_41, hz_42⟩ := new_world w_37 #[.int .i64 0, .string ByteArray.empty, .int .i64 0, .int .i64 0, .string ByteArray.empty, .int .i64 0, .slice none 0 0] 33
  rw [hw_43]
  refine XL_run 1 [] [(1, .int .i64 n), (2, .pointer (some ⟨w.heap.size, 0, none⟩)), (5, .slice A_15 1 c_16), (6, .pointer (some ⟨w_37.heap.size, 0, none⟩)), (7, .pointer (some ⟨w_39.heap.size, 0, none⟩)), (24, .agg #[.int .i64 ((cutO o n).1.kind), .string ((cutO o n).1.text), .int .i64 ((cutO o n).1.vk), .int .i64 ((cutO o n).1.vn), .string ((cutO o n).1.vt), .int .i64 ((cutO o n).1.count), .slice A_30 ((cutO o n).1.attrs.length) c_31]), (25, .agg #[.int .i64 ((cutO o n).2.1.kind), .string ((cutO o n).2.1.text), .int .i64 ((cutO o n).2.1.vk), .int .i64 ((cutO o n).2.1.vn), .string ((cutO o n).2.1.vt), .int .i64 ((cutO o n).2.1.count), .slice A_32 ((cutO o n).2.1.attrs.length) c_33]), (26, errV es ((cutO o n).2.2))] (w_39.alloc (.cells #[.int .i64 0, .string ByteArray.empty, .int .i64 0, .int .i64 0, .string ByteArray.empty, .int .i64 0, .slice none 0 0] 33)) [] (by kernel_rfl) trivial ?_
  obtain ⟨w_44, hw_48, hb_45, hk_46, hz_47⟩ := new_world w_39 #[.int .i64 0, .string ByteArray.empty, .int .i64 0, .int .i64 0, .string ByteArray.empty, .int .i64 0, .slice none 0 0] 33
  rw [hw_48]
  refine XL_store (v := .agg #[.int .i64 ((cutO o n).1.kind), .string ((cutO o n).1.text), .int .i64 ((cutO o n).1.vk), .int .i64 ((cutO o n).1.vn), .string ((cutO o n).1.vt), .int .i64 ((cutO o n).1.count), .slice A_30 ((cutO o n).1.attrs.length) c_31]) rfl rfl rfl (by kernel_rfl) (Blk.below hk_41 hb_45) 0 [.int .i64 ((cutO o n).1.kind), .string ((cutO o n).1.text), .int .i64 ((cutO o n).1.vk), .int .i64 ((cutO o n).1.vn), .string ((cutO o n).1.vt), .int .i64 ((cutO o n).1.count), .slice A_30 ((cutO o n).1.attrs.length) c_31] #[.int .i64 ((cutO o n).1.kind), .string ((cutO o n).1.text), .int .i64 ((cutO o n).1.vk), .int .i64 ((cutO o n).1.vn), .string ((cutO o n).1.vt), .int .i64 ((cutO o n).1.count), .slice A_30 ((cutO o n).1.attrs.length) c_31] ⟨by kernel_rfl, rfl, by kernel_rfl⟩ ⟨by kernel_rfl, by kernel_rfl⟩ (Nat.le_of_ble_eq_true (by kernel_rfl)) (fun w_49 hg_50 hk_51 hz_52 => ?_)
  have hne_53 : w_39.heap.size ≠ w_37.heap.size := Nat.ne_of_gt (Nat.lt_of_lt_of_le (Blk.lt hk_41) (Nat.le_refl _))
  have hk_54 := Blk.other hk_46 hg_50 hne_53
  refine XL_store (v := .agg #[.int .i64 ((cutO o n).2.1.kind), .string ((cutO o n).2.1.text), .int .i64 ((cutO o n).2.1.vk), .int .i64 ((cutO o n).2.1.vn), .string ((cutO o n).2.1.vt), .int .i64 ((cutO o n).2.1.count), .slice A_32 ((cutO o n).2.1.attrs.length) c_33]) rfl rfl rfl (by kernel_rfl) hk_54 0 [.int .i64 ((cutO o n).2.1.kind), .string ((cutO o n).2.1.text), .int .i64 ((cutO o n).2.1.vk), .int .i64 ((cutO o n).2.1.vn), .string ((cutO o n).2.1.vt), .int .i64 ((cutO o n).2.1.count), .slice A_32 ((cutO o n).2.1.attrs.length) c_33] #[.int .i64 ((cutO o n).2.1.kind), .string ((cutO o n).2.1.text), .int .i64 ((cutO o n).2.1.vk), .int .i64 ((cutO o n).2.1.vn), .string ((cutO o n).2.1.vt), .int .i64 ((cutO o n).2.1.count), .slice A_32 ((cutO o n).2.1.attrs.length) c_33] ⟨by kernel_rfl, rfl, by kernel_rfl⟩ ⟨by kernel_rfl, by kernel_rfl⟩ (Nat.le_of_ble_eq_true (by kernel_rfl)) (fun w_55 hg_56 hk_57 hz_58 => ?_)
  have hB_59 : Below w_1.heap.size w_1 w_39 := (bt (bt (bt (bt hb_7 hb_9) hb_20) hb_38) hb_40)
  have hne_60 : w_37.heap.size ≠ w_39.heap.size := Nat.ne_of_lt (Nat.lt_of_lt_of_le (Blk.lt hk_41) (Nat.le_refl _))
  have hk_61 := Blk.other hk_51 hg_56 hne_60
  refine XL_run 1 [] [(1, .int .i64 n), (2, .pointer (some ⟨w.heap.size, 0, none⟩)), (5, .slice A_15 1 c_16), (6, .pointer (some ⟨w_37.heap.size, 0, none⟩)), (7, .pointer (some ⟨w_39.heap.size, 0, none⟩)), (8, errV es ((cutO o n).2.2))] w_55 [] (by kernel_rfl) trivial ?_
  refine XL_nil ?_
  refine X_seq ?_
  refine X_region ?_
  have hB_62 : Below w_1.heap.size w_1 w_55 := (bg (bg (bt hB_59 hb_45) hg_50 ((bt (bt (bt hb_7 hb_9) hb_20) hb_38)).size) hg_56 (hB_59).size)
  refine XL_run 2 [(28, .load (.agg #[.int .i64 o.kind, .string o.text, .int .i64 o.vk, .int .i64 o.vn, .string o.vt, .int .i64 o.count, .slice A o.attrs.length i0]))] [(2, .pointer (some ⟨w.heap.size, 0, none⟩)), (5, .slice A_15 1 c_16), (6, .pointer (some ⟨w_37.heap.size, 0, none⟩)), (7, .pointer (some ⟨w_39.heap.size, 0, none⟩)), (8, errV es ((cutO o n).2.2)), (28, .agg #[.int .i64 o.kind, .string o.text, .int .i64 o.vk, .int .i64 o.vn, .string o.vt, .int .i64 o.count, .slice A o.attrs.length i0]), (29, .int .i64 n)] w_55 [LoadsAs Tryd.prog 33 (⟨w.heap.size, 0, none⟩) (.agg #[.int .i64 o.kind, .string o.text, .int .i64 o.vk, .int .i64 o.vn, .string o.vt, .int .i64 o.count, .slice A o.attrs.length i0]) w_55] (by kernel_rfl) ⟨loadsB rfl rfl (Blk.below hk_3 hB_62) 0 ⟨by kernel_rfl, by kernel_rfl⟩, trivial⟩ ?_
  have hB_71 : Below w.heap.size w w_37 := (bt (bt (bt (bt hb_2 hb_7) hb_9) hb_20) hb_38)
  have hB_72 : Below w.heap.size w w_55 := (bg (bg (bt (bt (bt (bt (bt (bt hb_2 hb_7) hb_9) hb_20) hb_38) hb_40) hb_45) hg_50 (hB_71).size) hg_56 ((bt hB_71 hb_40)).size)
  refine XL_call 59 rfl rfl rfl ent59 [.agg #[.int .i64 o.kind, .string o.text, .int .i64 o.vk, .int .i64 o.vn, .string o.vt, .int .i64 o.count, .slice A o.attrs.length i0], .int .i64 n] (by kernel_rfl) (r4cut_any o _ _ n _ (Kd.C_below hA hB_72) hz hn0 hn1 (hT.below hB_72)) ?_
  rintro e w_69 ⟨A_63, c_64, A_65, c_66, rfl, hr_67, hr_68, hb_70⟩; refine ⟨_, rfl, ?_⟩
  have hne_73 := rrne_new (RX.Kd.R_lt hr_35) (Nat.le_trans (Nat.le_trans (Nat.le_trans hb_40.size hb_45.size) hg_50.size) hg_56.size) (RX.Kd.R_ge hr_68)
  have hne_74 := rrne_new (RX.Kd.R_lt hr_34) (Nat.le_trans (Nat.le_trans (Nat.le_trans hb_40.size hb_45.size) hg_50.size) hg_56.size) (RX.Kd.R_ge hr_68)
  have hne_75 := rrne_new (RX.Kd.R_lt hr_35) (Nat.le_trans (Nat.le_trans (Nat.le_trans hb_40.size hb_45.size) hg_50.size) hg_56.size) (RX.Kd.R_ge hr_67)
  have hne_76 := rrne_new (RX.Kd.R_lt hr_34) (Nat.le_trans (Nat.le_trans (Nat.le_trans hb_40.size hb_45.size) hg_50.size) hg_56.size) (RX.Kd.R_ge hr_67)
  refine XL_run 5 [] [(2, .pointer (some ⟨w.heap.size, 0, none⟩)), (5, .slice A_15 1 c_16), (6, .pointer (some ⟨w_37.heap.size, 0, none⟩)), (7, .pointer (some ⟨w_39.heap.size, 0, none⟩)), (8, errV es ((cutO o n).2.2)), (9, .pointer (some ⟨w_69.heap.size, 0, none⟩)), (31, .agg #[.int .i64 ((cutO o n).1.kind), .string ((cutO o n).1.text), .int .i64 ((cutO o n).1.vk), .int .i64 ((cutO o n).1.vn), .string ((cutO o n).1.vt), .int .i64 ((cutO o n).1.count), .slice A_63 ((cutO o n).1.attrs.length) c_64]), (32, .agg #[.int .i64 ((cutO o n).2.1.kind), .string ((cutO o n).2.1.text), .int .i64 ((cutO o n).2.1.vk), .int .i64 ((cutO o n).2.1.vn), .string ((cutO o n).2.1.vt), .int .i64 ((cutO o n).2.1.count), .slice A_65 ((cutO o n).2.1.attrs.length) c_66]), (33, .int .i64 (((cutO o n).2.2) : Int))] (w_69.alloc (.cells #[.int .i64 0, .string ByteArray.empty, .int .i64 0, .int .i64 0, .string ByteArray.empty, .int .i64 0, .slice none 0 0] 33)) [] (by kernel_rfl) trivial ?_
  obtain ⟨w_77, hw_81, hb_78, hk_79, hz_80⟩ := new_world w_69 #[.int .i64 0, .string ByteArray.empty, .int .i64 0, .int .i64 0, .string ByteArray.empty, .int .i64 0, .slice none 0 0] 33
  rw [hw_81]
  refine XL_run 1 [] [(2, .pointer (some ⟨w.heap.size, 0, none⟩)), (5, .slice A_15 1 c_16), (6, .pointer (some ⟨w_37.heap.size, 0, none⟩)), (7, .pointer (some ⟨w_39.heap.size, 0, none⟩)), (8, errV es ((cutO o n).2.2)), (9, .pointer (some ⟨w_69.heap.size, 0, none⟩)), (10, .pointer (some ⟨w_77.heap.size, 0, none⟩)), (31, .agg #[.int .i64 ((cutO o n).1.kind), .string ((cutO o n).1.text), .int .i64 ((cutO o n).1.vk), .int .i64 ((cutO o n).1.vn), .string ((cutO o n).1.vt), .int .i64 ((cutO o n).1.count), .slice A_63 ((cutO o n).1.attrs.length) c_64]), (32, .agg #[.int .i64 ((cutO o n).2.1.kind), .string ((cutO o n).2.1.text), .int .i64 ((cutO o n).2.1.vk), .int .i64 ((cutO o n).2.1.vn), .string ((cutO o n).2.1.vt), .int .i64 ((cutO o n).2.1.count), .slice A_65 ((cutO o n).2.1.attrs.length) c_66]), (33, .int .i64 (((cutO o n).2.2) : Int))] (w_77.alloc (.cells #[.int .i64 0, .string ByteArray.empty, .int .i64 0, .int .i64 0, .string ByteArray.empty, .int .i64 0, .slice none 0 0] 33)) [] (by kernel_rfl) trivial ?_
  obtain ⟨w_82, hw_86, hb_83, hk_84, hz_85⟩ := new_world w_77 #[.int .i64 0, .string ByteArray.empty, .int .i64 0, .int .i64 0, .string ByteArray.empty, .int .i64 0, .slice none 0 0] 33
  rw [hw_86]
  refine XL_store (v := .agg #[.int .i64 ((cutO o n).1.kind), .string ((cutO o n).1.text), .int .i64 ((cutO o n).1.vk), .int .i64 ((cutO o n).1.vn), .string ((cutO o n).1.vt), .int .i64 ((cutO o n).1.count), .slice A_63 ((cutO o n).1.attrs.length) c_64]) rfl rfl rfl (by kernel_rfl) (Blk.below hk_79 hb_83) 0 [.int .i64 ((cutO o n).1.kind), .string ((cutO o n).1.text), .int .i64 ((cutO o n).1.vk), .int .i64 ((cutO o n).1.vn), .string ((cutO o n).1.vt), .int .i64 ((cutO o n).1.count), .slice A_63 ((cutO o n).1.attrs.length) c_64] #[.int .i64 ((cutO o n).1.kind), .string ((cutO o n).1.text), .int .i64 ((cutO o n).1.vk), .int .i64 ((cutO o n).1.vn), .string ((cutO o n).1.vt), .int .i64 ((cutO o n).1.count), .slice A_63 ((cutO o n).1.attrs.length) c_64] ⟨by kernel_rfl, rfl, by kernel_rfl⟩ ⟨by kernel_rfl, by kernel_rfl⟩ (Nat.le_of_ble_eq_true (by kernel_rfl)) (fun w_87 hg_88 hk_89 hz_90 => ?_)
  have hB_91 : Below w_8.heap.size w_8 w_69 := (bt (bg (bg (bt (bt (bt hb_20 hb_38) hb_40) hb_45) hg_50 ((bt hb_20 hb_38)).size) hg_56 ((bt (bt hb_20 hb_38) hb_40)).size) hb_70)
  have hne_92 : w_77.heap.size ≠ w_69.heap.size := Nat.ne_of_gt (Nat.lt_of_lt_of_le (Blk.lt hk_79) (Nat.le_refl _))
  have hk_93 := Blk.other hk_84 hg_88 hne_92
  have hB_94 : Below w_37.heap.size w_37 w_69 := (bt (bg (bg (bt hb_40 hb_45) hg_50 (Nat.le_refl _)) hg_56 (hb_40).size) hb_70)
  refine XL_store (v := .agg #[.int .i64 ((cutO o n).2.1.kind), .string ((cutO o n).2.1.text), .int .i64 ((cutO o n).2.1.vk), .int .i64 ((cutO o n).2.1.vn), .string ((cutO o n).2.1.vt), .int .i64 ((cutO o n).2.1.count), .slice A_65 ((cutO o n).2.1.attrs.length) c_66]) rfl rfl rfl (by kernel_rfl) hk_93 0 [.int .i64 ((cutO o n).2.1.kind), .string ((cutO o n).2.1.text), .int .i64 ((cutO o n).2.1.vk), .int .i64 ((cutO o n).2.1.vn), .string ((cutO o n).2.1.vt), .int .i64 ((cutO o n).2.1.count), .slice A_65 ((cutO o n).2.1.attrs.length) c_66] #[.int .i64 ((cutO o n).2.1.kind), .string ((cutO o n).2.1.text), .int .i64 ((cutO o n).2.1.vk), .int .i64 ((cutO o n).2.1.vn), .string ((cutO o n).2.1.vt), .int .i64 ((cutO o n).2.1.count), .slice A_65 ((cutO o n).2.1.attrs.length) c_66] ⟨by kernel_rfl, rfl, by kernel_rfl⟩ ⟨by kernel_rfl, by kernel_rfl⟩ (Nat.le_of_ble_eq_true (by kernel_rfl)) (fun w_95 hg_96 hk_97 hz_98 => ?_)
  have hne_99 : w_69.heap.size ≠ w_77.heap.size := Nat.ne_of_lt (Nat.lt_of_lt_of_le (Blk.lt hk_79) (Nat.le_refl _))
  have hk_100 := Blk.other hk_89 hg_96 hne_99
  refine XL_run 1 [] [(2, .pointer (some ⟨w.heap.size, 0, none⟩)), (5, .slice A_15 1 c_16), (6, .pointer (some ⟨w_37.heap.size, 0, none⟩)), (7, .pointer (some ⟨w_39.heap.size, 0, none⟩)), (8, errV es ((cutO o n).2.2)), (9, .pointer (some ⟨w_69.heap.size, 0, none⟩)), (10, .pointer (some ⟨w_77.heap.size, 0, none⟩)), (11, .int .i64 (((cutO o n).2.2) : Int))] w_95 [] (by kernel_rfl) trivial ?_
  refine XL_nil ?_
  refine X_seq ?_
  refine X_seq ?_
  refine X_region ?_
  have hne_101 := rne_new (RX.Kd.R_lt hr_34) (Nat.le_refl _)
  have hne_102 := rne_new (RX.Kd.R_lt hr_34) hb_40.size
  have hne_103 := rne_new (RX.Kd.R_lt hr_34) (Nat.le_trans (Nat.le_trans (Nat.le_trans (Nat.le_trans hb_40.size hb_45.size) hg_50.size) hg_56.size) hb_70.size)
  have hne_104 := rne_new (RX.Kd.R_lt hr_34) (Nat.le_trans (Nat.le_trans (Nat.le_trans (Nat.le_trans (Nat.le_trans hb_40.size hb_45.size) hg_50.size) hg_56.size) hb_70.size) hb_78.size)
  have hne_105 := rne_new (RX.Kd.R_lt hr_35) (Nat.le_refl _)
  refine XL_run 1 [] [(2, .pointer (some ⟨w.heap.size, 0, none⟩)), (5, .slice A_15 1 c_16), (6, .pointer (some ⟨w_37.heap.size, 0, none⟩)), (7, .pointer (some ⟨w_39.heap.size, 0, none⟩)), (9, .pointer (some ⟨w_69.heap.size, 0, none⟩)), (10, .pointer (some ⟨w_77.heap.size, 0, none⟩)), (11, .int .i64 (((cutO o n).2.2) : Int)), (34, errV es ((cutO o n).2.2))] w_95 [] (by kernel_rfl) trivial ?_
  have hB_106 : Below w.heap.size w w_95 := (bg (bg (bt (bt (bt hB_72 hb_70) hb_78) hb_83) hg_88 ((bt hB_72 hb_70)).size) hg_96 ((bt (bt hB_72 hb_70) hb_78)).size)
  refine XL_call 17 rfl rfl rfl ent17 [errV es ((cutO o n).2.2)] (by kernel_rfl) (num_any es ((cutO o n).2.2) (cutO_le _ _) _ (hE.below hB_106)) ?_
  rintro e w_107 ⟨rfl, hb_108⟩; refine ⟨_, rfl, ?_⟩
  have hB_109 : Below w_55.heap.size w_55 w_107 := (bt (bg (bg (bt (bt hb_70 hb_78) hb_83) hg_88 (hb_70).size) hg_96 ((bt hb_70 hb_78)).size) hb_108)
  refine XL_run 5 [(37, .eq (.bool false)), (39, .load (.agg #[.int .i64 ((cutO o n).1.kind), .string ((cutO o n).1.text), .int .i64 ((cutO o n).1.vk), .int .i64 ((cutO o n).1.vn), .string ((cutO o n).1.vt), .int .i64 ((cutO o n).1.count), .slice A_30 ((cutO o n).1.attrs.length) c_31])), (40, .load (.agg #[.int .i64 ((cutO o n).1.kind), .string ((cutO o n).1.text), .int .i64 ((cutO o n).1.vk), .int .i64 ((cutO o n).1.vn), .string ((cutO o n).1.vt), .int .i64 ((cutO o n).1.count), .slice A_63 ((cutO o n).1.attrs.length) c_64]))] [(2, .pointer (some ⟨w.heap.size, 0, none⟩)), (5, .slice A_15 1 c_16), (6, .pointer (some ⟨w_37.heap.size, 0, none⟩)), (7, .pointer (some ⟨w_39.heap.size, 0, none⟩)), (10, .pointer (some ⟨w_77.heap.size, 0, none⟩)), (38, .bool false), (39, .agg #[.int .i64 ((cutO o n).1.kind), .string ((cutO o n).1.text), .int .i64 ((cutO o n).1.vk), .int .i64 ((cutO o n).1.vn), .string ((cutO o n).1.vt), .int .i64 ((cutO o n).1.count), .slice A_30 ((cutO o n).1.attrs.length) c_31]), (40, .agg #[.int .i64 ((cutO o n).1.kind), .string ((cutO o n).1.text), .int .i64 ((cutO o n).1.vk), .int .i64 ((cutO o n).1.vn), .string ((cutO o n).1.vt), .int .i64 ((cutO o n).1.count), .slice A_63 ((cutO o n).1.attrs.length) c_64])] w_107 [Value.bool ((((cutO o n).2.2) : Int) != (((cutO o n).2.2) : Int)) = Value.bool false, LoadsAs Tryd.prog 33 (⟨w_37.heap.size, 0, none⟩) (.agg #[.int .i64 ((cutO o n).1.kind), .string ((cutO o n).1.text), .int .i64 ((cutO o n).1.vk), .int .i64 ((cutO o n).1.vn), .string ((cutO o n).1.vt), .int .i64 ((cutO o n).1.count), .slice A_30 ((cutO o n).1.attrs.length) c_31]) w_107, LoadsAs Tryd.prog 33 (⟨w_69.heap.size, 0, none⟩) (.agg #[.int .i64 ((cutO o n).1.kind), .string ((cutO o n).1.text), .int .i64 ((cutO o n).1.vk), .int .i64 ((cutO o n).1.vn), .string ((cutO o n).1.vt), .int .i64 ((cutO o n).1.count), .slice A_63 ((cutO o n).1.attrs.length) c_64]) w_107] (by kernel_rfl) ⟨congrArg Value.bool (bneF rfl), loadsB rfl rfl (Blk.below hk_61 hB_109) 0 ⟨by kernel_rfl, by kernel_rfl⟩, loadsB rfl rfl (Blk.below hk_100 hb_108) 0 ⟨by kernel_rfl, by kernel_rfl⟩, trivial⟩ ?_
  have hB_110 : Below w_37.heap.size w_37 w_107 := (bt (bg (bg (bt (bt hB_94 hb_78) hb_83) hg_88 (hB_94).size) hg_96 ((bt hB_94 hb_78)).size) hb_108)
  have hB_111 : Below w_69.heap.size w_69 w_107 := (bt (bg (bg (bt hb_78 hb_83) hg_88 (Nat.le_refl _)) hg_96 (hb_78).size) hb_108)
  refine XL_call 60 rfl rfl rfl ent60 [.agg #[.int .i64 ((cutO o n).1.kind), .string ((cutO o n).1.text), .int .i64 ((cutO o n).1.vk), .int .i64 ((cutO o n).1.vn), .string ((cutO o n).1.vt), .int .i64 ((cutO o n).1.count), .slice A_30 ((cutO o n).1.attrs.length) c_31], .agg #[.int .i64 ((cutO o n).1.kind), .string ((cutO o n).1.text), .int .i64 ((cutO o n).1.vk), .int .i64 ((cutO o n).1.vn), .string ((cutO o n).1.vt), .int .i64 ((cutO o n).1.count), .slice A_63 ((cutO o n).1.attrs.length) c_64]] (by kernel_rfl) (r4same_any (cutO o n).1 (cutO o n).1 _ _ _ _ _ (Kd.R_C (Kd.R_below hr_34 hB_110)) (Kd.R_C (Kd.R_below hr_67 hB_111))) ?_
  rintro e w_112 ⟨rfl, hb_113⟩; refine ⟨_, rfl, ?_⟩
  rw [(opEqP_iff (cutO o n).1 (cutO o n).1).2 rfl]
  refine XL_run 5 [(45, .load (.agg #[.int .i64 ((cutO o n).2.1.kind), .string ((cutO o n).2.1.text), .int .i64 ((cutO o n).2.1.vk), .int .i64 ((cutO o n).2.1.vn), .string ((cutO o n).2.1.vt), .int .i64 ((cutO o n).2.1.count), .slice A_32 ((cutO o n).2.1.attrs.length) c_33])), (46, .load (.agg #[.int .i64 ((cutO o n).2.1.kind), .string ((cutO o n).2.1.text), .int .i64 ((cutO o n).2.1.vk), .int .i64 ((cutO o n).2.1.vn), .string ((cutO o n).2.1.vt), .int .i64 ((cutO o n).2.1.count), .slice A_65 ((cutO o n).2.1.attrs.length) c_66]))] [(2, .pointer (some ⟨w.heap.size, 0, none⟩)), (5, .slice A_15 1 c_16), (6, .pointer (some ⟨w_37.heap.size, 0, none⟩)), (7, .pointer (some ⟨w_39.heap.size, 0, none⟩)), (10, .pointer (some ⟨w_77.heap.size, 0, none⟩)), (44, .bool false), (45, .agg #[.int .i64 ((cutO o n).2.1.kind), .string ((cutO o n).2.1.text), .int .i64 ((cutO o n).2.1.vk), .int .i64 ((cutO o n).2.1.vn), .string ((cutO o n).2.1.vt), .int .i64 ((cutO o n).2.1.count), .slice A_32 ((cutO o n).2.1.attrs.length) c_33]), (46, .agg #[.int .i64 ((cutO o n).2.1.kind), .string ((cutO o n).2.1.text), .int .i64 ((cutO o n).2.1.vk), .int .i64 ((cutO o n).2.1.vn), .string ((cutO o n).2.1.vt), .int .i64 ((cutO o n).2.1.count), .slice A_65 ((cutO o n).2.1.attrs.length) c_66])] w_112 [LoadsAs Tryd.prog 33 (⟨w_39.heap.size, 0, none⟩) (.agg #[.int .i64 ((cutO o n).2.1.kind), .string ((cutO o n).2.1.text), .int .i64 ((cutO o n).2.1.vk), .int .i64 ((cutO o n).2.1.vn), .string ((cutO o n).2.1.vt), .int .i64 ((cutO o n).2.1.count), .slice A_32 ((cutO o n).2.1.attrs.length) c_33]) w_112, LoadsAs Tryd.prog 33 (⟨w_77.heap.size, 0, none⟩) (.agg #[.int .i64 ((cutO o n).2.1.kind), .string ((cutO o n).2.1.text), .int .i64 ((cutO o n).2.1.vk), .int .i64 ((cutO o n).2.1.vn), .string ((cutO o n).2.1.vt), .int .i64 ((cutO o n).2.1.count), .slice A_65 ((cutO o n).2.1.attrs.length) c_66]) w_112] (by kernel_rfl) ⟨loadsB rfl rfl (Blk.below hk_57 (bt hB_109 hb_113)) 0 ⟨by kernel_rfl, by kernel_rfl⟩, loadsB rfl rfl (Blk.below hk_97 (bt hb_108 hb_113)) 0 ⟨by kernel_rfl, by kernel_rfl⟩, trivial⟩ ?_
  refine XL_call 60 rfl rfl rfl ent60 [.agg #[.int .i64 ((cutO o n).2.1.kind), .string ((cutO o n).2.1.text), .int .i64 ((cutO o n).2.1.vk), .int .i64 ((cutO o n).2.1.vn), .string ((cutO o n).2.1.vt), .int .i64 ((cutO o n).2.1.count), .slice A_32 ((cutO o n).2.1.attrs.length) c_33], .agg #[.int .i64 ((cutO o n).2.1.kind), .string ((cutO o n).2.1.text), .int .i64 ((cutO o n).2.1.vk), .int .i64 ((cutO o n).2.1.vn), .string ((cutO o n).2.1.vt), .int .i64 ((cutO o n).2.1.count), .slice A_65 ((cutO o n).2.1.attrs.length) c_66]] (by kernel_rfl) (r4same_any (cutO o n).2.1 (cutO o n).2.1 _ _ _ _ _ (Kd.R_C (Kd.R_below hr_35 (bt hB_110 hb_113))) (Kd.R_C (Kd.R_below hr_68 (bt hB_111 hb_113)))) ?_
  rintro e w_114 ⟨rfl, hb_115⟩; refine ⟨_, rfl, ?_⟩
  rw [(opEqP_iff (cutO o n).2.1 (cutO o n).2.1).2 rfl]
  have hB_116 : Below w_1.heap.size w_1 w_114 := (bt (bt (bt (bg (bg (bt (bt (bt hB_62 hb_70) hb_78) hb_83) hg_88 ((bt hB_62 hb_70)).size) hg_96 ((bt (bt hB_62 hb_70) hb_78)).size) hb_108) hb_113) hb_115)
  refine XL_run 6 [(52, .load (.agg #[.int .i64 o.kind, .string o.text, .int .i64 o.vk, .int .i64 o.vn, .string o.vt, .int .i64 o.count, .slice A o.attrs.length i0]))] [(5, .slice A_15 1 c_16), (6, .pointer (some ⟨w_37.heap.size, 0, none⟩)), (7, .pointer (some ⟨w_39.heap.size, 0, none⟩)), (10, .pointer (some ⟨w_77.heap.size, 0, none⟩)), (50, .bool false), (51, .slice A_15 1 c_16), (53, .slice (some ⟨w_114.heap.size, 0, none⟩) 1 1)] (w_114.alloc (.cells #[.int .i64 o.kind, .string o.text, .int .i64 o.vk, .int .i64 o.vn, .string o.vt, .int .i64 o.count, .slice A o.attrs.length i0] 33)) [LoadsAs Tryd.prog 33 (⟨w.heap.size, 0, none⟩) (.agg #[.int .i64 o.kind, .string o.text, .int .i64 o.vk, .int .i64 o.vn, .string o.vt, .int .i64 o.count, .slice A o.attrs.length i0]) w_114] (by kernel_rfl) ⟨loadsB rfl rfl (Blk.below hk_3 hB_116) 0 ⟨by kernel_rfl, by kernel_rfl⟩, trivial⟩ ?_
  obtain ⟨w_117, hw_121, hb_118, hk_119, hz_120⟩ := new_world w_114 #[.int .i64 o.kind, .string o.text, .int .i64 o.vk, .int .i64 o.vn, .string o.vt, .int .i64 o.count, .slice A o.attrs.length i0] 33
  rw [hw_121]
  have hR_122 := Kd.R_litB (kRaw 7) (W := w_114) (e := 33) (cs := #[.int .i64 o.kind, .string o.text, .int .i64 o.vk, .int .i64 o.vn, .string o.vt, .int .i64 o.count, .slice A o.attrs.length i0]) [[.int .i64 o.kind, .string o.text, .int .i64 o.vk, .int .i64 o.vn, .string o.vt, .int .i64 o.count, .slice A o.attrs.length i0]] hk_119 (reps_raw [[.int .i64 o.kind, .string o.text, .int .i64 o.vk, .int .i64 o.vn, .string o.vt, .int .i64 o.count, .slice A o.attrs.length i0]] (by kernel_rfl)) (Nat.le_of_ble_eq_true (by kernel_rfl))
  have hB_124 : Below w.heap.size w w_117 := (bt (bt (bt (bt hB_106 hb_108) hb_113) hb_115) hb_118)
  have hC_123 : kOp.C w_117 (some ⟨w_114.heap.size, 0, none⟩) 1 [o] := C_lit1 (Kd.R_C hR_122) (kOp_K_of (x := o) hAc (Kd.C_below hA hB_124))
  have hB_125 : Below w_19.heap.size w_19 w_69 := (bt (bg (bg (bt (bt hb_38 hb_40) hb_45) hg_50 (hb_38).size) hg_56 ((bt hb_38 hb_40)).size) hb_70)
  have hB_126 : Below w_19.heap.size w_19 w_117 := (bt (bt (bt (bt (bg (bg (bt (bt (bt (bg (bg (bt (bt hb_38 hb_40) hb_45) hg_50 (hb_38).size) hg_56 ((bt hb_38 hb_40)).size) hb_70) hb_78) hb_83) hg_88 (hB_125).size) hg_96 ((bt hB_125 hb_78)).size) hb_108) hb_113) hb_115) hb_118)
  refine XL_call 52 rfl rfl rfl ent52 [.slice A_15 1 c_16, .slice (some ⟨w_114.heap.size, 0, none⟩) 1 1] (by kernel_rfl) (spKept_any _ _ _ _ [o] _ (Kd.C_below hS_21 hB_126) hc_17 hC_123 (Nat.le_of_ble_eq_true rfl) (fun i_ hi_ => by obtain rfl : i_ = 0 := (by simp only [List.length_cons, List.length_nil] at hi_; omega); exact hz)) ?_
  rintro e w_127 ⟨rfl, hb_128⟩; refine ⟨_, rfl, ?_⟩
  refine XL_run 2 [] [(5, .slice A_15 1 c_16), (6, .pointer (some ⟨w_37.heap.size, 0, none⟩)), (7, .pointer (some ⟨w_39.heap.size, 0, none⟩)), (10, .pointer (some ⟨w_77.heap.size, 0, none⟩)), (56, .bool false)] w_127 [] (by kernel_rfl) trivial ?_
  refine XL_nil ?_
  refine X_cond false rfl ?_
  refine X_skip ?_
  refine X_seq ?_
  refine X_region ?_
  refine XL_run 1 [] [(6, .pointer (some ⟨w_37.heap.size, 0, none⟩)), (7, .pointer (some ⟨w_39.heap.size, 0, none⟩)), (10, .pointer (some ⟨w_77.heap.size, 0, none⟩)), (57, .slice A_15 1 c_16)] w_127 [] (by kernel_rfl) trivial ?_
  refine XL_call 57 rfl rfl rfl ent57 [.slice A_15 1 c_16] (by kernel_rfl) (spoil_any A_15 c_16 [o] w_8 w_19 _ hR_18 (bt hB_126 hb_128) (hb_20).size (Nat.le_of_ble_eq_true rfl)) ?_
  rintro e w_129 ⟨rfl, hS_130⟩; refine ⟨_, rfl, ?_⟩
  have hB_131 : Below w_19.heap.size w_19 w_55 := (bg (bg (bt (bt hb_38 hb_40) hb_45) hg_50 (hb_38).size) hg_56 ((bt hb_38 hb_40)).size)
  have hB_133 : Below w_69.heap.size w_69 w_127 := (bt (bt (bt (bt hB_111 hb_113) hb_115) hb_118) hb_128)
  have hr_132 := Kd.R_spoilt (Kd.R_below hr_68 hB_133) hS_130 (hB_131).size
  have hr_134 := Kd.R_spoilt (Kd.R_below hr_67 hB_133) hS_130 (hB_131).size
  have hB_136 : Below w_37.heap.size w_37 w_127 := (bt (bt (bt (bt hB_110 hb_113) hb_115) hb_118) hb_128)
  have hr_135 := Kd.R_spoilt (Kd.R_below hr_35 hB_136) hS_130 (Nat.le_refl _)
  have hr_137 := Kd.R_spoilt (Kd.R_below hr_34 hB_136) hS_130 (Nat.le_refl _)
  have hB_138 : Below w_1.heap.size w_1 w_129 := (bsp (bt (bt hB_116 hb_118) hb_128) hS_130 ((bt hb_7 hb_9)).size)
  have hB_139 : Below w_8.heap.size w_8 w_129 := (bsp (bt (bt (bt (bt (bt (bg (bg (bt (bt hB_91 hb_78) hb_83) hg_88 (hB_91).size) hg_96 ((bt hB_91 hb_78)).size) hb_108) hb_113) hb_115) hb_118) hb_128) hS_130 (Nat.le_refl _))
  have hB_140 : Below w_55.heap.size w_55 w_127 := (bt (bt (bt (bt hB_109 hb_113) hb_115) hb_118) hb_128)
  have hk_141 := Spoilt.blk hS_130 (Blk.below hk_61 hB_140) (hb_38).size
  have hk_142 := Spoilt.blk hS_130 (Blk.below hk_57 hB_140) ((bt hb_38 hb_40)).size
  have hB_143 : Below w_95.heap.size w_95 w_127 := (bt (bt (bt (bt hb_108 hb_113) hb_115) hb_118) hb_128)
  have hk_144 := Spoilt.blk hS_130 (Blk.below hk_100 hB_143) (hB_125).size
  have hk_145 := Spoilt.blk hS_130 (Blk.below hk_97 hB_143) ((bt hB_125 hb_78)).size
  have hB_147 : Below w_19.heap.size w_19 w_114 := (bt (bt (bt (bg (bg (bt (bt hB_125 hb_78) hb_83) hg_88 (hB_125).size) hg_96 ((bt hB_125 hb_78)).size) hb_108) hb_113) hb_115)
  have hk_146 := Spoilt.blk hS_130 (Blk.below hk_119 hb_128) (hB_147).size
  refine XL_nil ?_
  refine X_seq ?_
  refine X_seq ?_
  refine X_region ?_
  refine XL_run 4 [(60, .load (.slice A_30 ((cutO o n).1.attrs.length) c_31))] [(6, .pointer (some ⟨w_37.heap.size, 0, none⟩)), (7, .pointer (some ⟨w_39.heap.size, 0, none⟩)), (10, .pointer (some ⟨w_77.heap.size, 0, none⟩)), (61, .int .i64 ((cutO o n).1.attrs.length : Int)), (62, .int .i64 0)] w_129 [LoadsAs Tryd.prog 31 (⟨w_37.heap.size, 6, none⟩) (.slice A_30 ((cutO o n).1.attrs.length) c_31) w_129] (by kernel_rfl) ⟨loads1 rfl (Blk.cell hk_141 6 _ rfl), trivial⟩ ?_
  refine XL_nil ?_
  refine X_block ?_
  have hLm : (cutO o n).1.attrs.length ≤ 9223372036854775807 := (Kd.R_C hr_137).2.1
  have hB_148 : Below w.heap.size w w_129 := (bsp (bt hB_124 hb_128) hS_130 ((bt (bt hb_2 hb_7) hb_9)).size)
  refine X_loop (ι := Nat × List At) (fun ⟨i, zs⟩ => [(6, .pointer (some ⟨w_37.heap.size, 0, none⟩)), (7, .pointer (some ⟨w_39.heap.size, 0, none⟩)), (10, .pointer (some ⟨w_77.heap.size, 0, none⟩)), (61, .int .i64 ((cutO o n).1.attrs.length : Int)), (62, .int .i64 (i : Int))]) (fun ⟨i, zs⟩ wl => i ≤ (cutO o n).1.attrs.length ∧ kAttr.R 79 wl w_19.heap.size (OkFrom w_19.heap.size) (.slice A_30 ((cutO o n).1.attrs.length) c_31) zs ∧ kAttr.R 79 wl w_19.heap.size (OkFrom w_19.heap.size) (.slice A_32 ((cutO o n).2.1.attrs.length) c_33) (cutO o n).2.1.attrs ∧ kAttr.R 79 wl w_55.heap.size (OkFrom w_55.heap.size) (.slice A_65 ((cutO o n).2.1.attrs.length) c_66) (cutO o n).2.1.attrs ∧ RX.Blk wl w_37.heap.size 33 #[.int .i64 ((cutO o n).1.kind), .string ((cutO o n).1.text), .int .i64 ((cutO o n).1.vk), .int .i64 ((cutO o n).1.vn), .string ((cutO o n).1.vt), .int .i64 ((cutO o n).1.count), .slice A_30 ((cutO o n).1.attrs.length) c_31] ∧ RX.Blk wl w_39.heap.size 33 #[.int .i64 ((cutO o n).2.1.kind), .string ((cutO o n).2.1.text), .int .i64 ((cutO o n).2.1.vk), .int .i64 ((cutO o n).2.1.vn), .string ((cutO o n).2.1.vt), .int .i64 ((cutO o n).2.1.count), .slice A_32 ((cutO o n).2.1.attrs.length) c_33] ∧ RX.Blk wl w_77.heap.size 33 #[.int .i64 ((cutO o n).2.1.kind), .string ((cutO o n).2.1.text), .int .i64 ((cutO o n).2.1.vk), .int .i64 ((cutO o n).2.1.vn), .string ((cutO o n).2.1.vt), .int .i64 ((cutO o n).2.1.count), .slice A_65 ((cutO o n).2.1.attrs.length) c_66] ∧ w_19.heap.size ≤ wl.heap.size ∧ w_19.heap.size ≤ wl.heap.size ∧ w_55.heap.size ≤ wl.heap.size ∧ Below w.heap.size w wl) (fun ⟨i, zs⟩ => (cutO o n).1.attrs.length - i) (0, (cutO o n).1.attrs) ⟨by omega, hr_137, hr_135, hr_132, hk_141, hk_142, hk_145, (Nat.le_trans (Nat.le_trans (Nat.le_trans (Nat.le_trans (Nat.le_trans (Nat.le_trans (Nat.le_trans (Nat.le_trans (Nat.le_trans (Nat.le_trans (Nat.le_trans (Nat.le_trans (Nat.le_trans (Nat.le_trans (Nat.le_trans hb_38.size hb_40.size) hb_45.size) hg_50.size) hg_56.size) hb_70.size) hb_78.size) hb_83.size) hg_88.size) hg_96.size) hb_108.size) hb_113.size) hb_115.size) hb_118.size) hb_128.size) hS_130.b.size), (Nat.le_trans (Nat.le_trans (Nat.le_trans (Nat.le_trans (Nat.le_trans (Nat.le_trans (Nat.le_trans (Nat.le_trans (Nat.le_trans (Nat.le_trans (Nat.le_trans (Nat.le_trans (Nat.le_trans (Nat.le_trans (Nat.le_trans hb_38.size hb_40.size) hb_45.size) hg_50.size) hg_56.size) hb_70.size) hb_78.size) hb_83.size) hg_88.size) hg_96.size) hb_108.size) hb_113.size) hb_115.size) hb_118.size) hb_128.size) hS_130.b.size), (Nat.le_trans (Nat.le_trans (Nat.le_trans (Nat.le_trans (Nat.le_trans (Nat.le_trans (Nat.le_trans (Nat.le_trans (Nat.le_trans (Nat.le_trans hb_70.size hb_78.size) hb_83.size) hg_88.size) hg_96.size) hb_108.size) hb_113.size) hb_115.size) hb_118.size) hb_128.size) hS_130.b.size), hB_148⟩ (by kernel_rfl) ?_
  rintro ⟨i, zs⟩ wl ⟨hi, hra, hrb, hry, hk6, hk7, hk10, hle_A_30, hle_A_32, hle_A_65, HB⟩
  refine X_seq ?_
  refine X_region ?_
  by_cases c_149 : (i : Int) < ((cutO o n).1.attrs.length : Int)
  · refine XL_run 1 [(63, .eq (.bool true))] [(6, .pointer (some ⟨w_37.heap.size, 0, none⟩)), (7, .pointer (some ⟨w_39.heap.size, 0, none⟩)), (10, .pointer (some ⟨w_77.heap.size, 0, none⟩)), (61, .int .i64 ((cutO o n).1.attrs.length : Int)), (62, .int .i64 (i : Int)), (63, .bool true)] wl [Value.bool (decide ((i : Int) < ((cutO o n).1.attrs.length : Int))) = Value.bool true] (by kernel_rfl) ⟨congrArg Value.bool (decide_eq_true (c_149)), trivial⟩ ?_
    refine XL_nil ?_
    refine X_seq ?_
    refine X_cond true rfl ?_
    refine X_skip ?_
    refine X_seq ?_
    refine X_block ?_
    refine X_seq ?_
    refine X_region ?_
    refine XL_run 2 [] [(6, .pointer (some ⟨w_37.heap.size, 0, none⟩)), (7, .pointer (some ⟨w_39.heap.size, 0, none⟩)), (10, .pointer (some ⟨w_77.heap.size, 0, none⟩)), (12, .int .i64 (i : Int)), (61, .int .i64 ((cutO o n).1.attrs.length : Int)), (62, .int .i64 (i : Int))] wl [] (by kernel_rfl) trivial ?_
    refine XL_nil ?_
    refine X_region ?_
    refine XL_run 4 [(66, .load (.slice A_30 ((cutO o n).1.attrs.length) c_31))] [(6, .pointer (some ⟨w_37.heap.size, 0, none⟩)), (7, .pointer (some ⟨w_39.heap.size, 0, none⟩)), (10, .pointer (some ⟨w_77.heap.size, 0, none⟩)), (61, .int .i64 ((cutO o n).1.attrs.length : Int)), (62, .int .i64 (i : Int)), (66, .slice A_30 ((cutO o n).1.attrs.length) c_31), (67, .int .i64 (i : Int)), (68, .agg #[.string (⟨#[115, 112, 111, 105, 108, 116]⟩ : ByteArray), .int .i64 0, .int .i64 0, .string ByteArray.empty])] wl [LoadsAs Tryd.prog 31 (⟨w_37.heap.size, 6, none⟩) (.slice A_30 ((cutO o n).1.attrs.length) c_31) wl] (by kernel_rfl) ⟨loads1 rfl (Blk.cell hk6 6 _ rfl), trivial⟩ ?_
    obtain ⟨ad_150, ha_151, hc_152⟩ := Kd.atAttr (Kd.R_C hra) (i := (i : Int)) (by omega) (by omega)
    replace hc_152 : CellsAt wl (ad_150.add ((i : Int).toNat * 4)) [.string ((zs.getD i at0).1), .int .i64 ((zs.getD i at0).2.1), .int .i64 ((zs.getD i at0).2.2.1), .string ((zs.getD i at0).2.2.2)] := hc_152
    refine XL_run 1 [(69, .idx ad_150)] [(6, .pointer (some ⟨w_37.heap.size, 0, none⟩)), (7, .pointer (some ⟨w_39.heap.size, 0, none⟩)), (10, .pointer (some ⟨w_77.heap.size, 0, none⟩)), (61, .int .i64 ((cutO o n).1.attrs.length : Int)), (62, .int .i64 (i : Int)), (68, .agg #[.string (⟨#[115, 112, 111, 105, 108, 116]⟩ : ByteArray), .int .i64 0, .int .i64 0, .string ByteArray.empty]), (69, .pointer (some (ad_150.add ((i : Int).toNat * 4))))] wl [A_30 = some ad_150, (0 : Int) ≤ (i : Int), (i : Int) < ((cutO o n).1.attrs.length : Int)] (by kernel_rfl) ⟨ha_151, (by omega), (by omega), trivial⟩ ?_
    refine XL_rowset kAttr rfl rfl rfl w_19.heap.size 79 (ad := ad_150) (i := (i : Int)) (v := .agg #[.string (⟨#[115, 112, 111, 105, 108, 116]⟩ : ByteArray), .int .i64 0, .int .i64 0, .string ByteArray.empty]) zs ((⟨#[115, 112, 111, 105, 108, 116]⟩ : ByteArray), 0, 0, ByteArray.empty) (by kernel_rfl) ha_151 hra (by omega) (by omega) [.string (⟨#[115, 112, 111, 105, 108, 116]⟩ : ByteArray), .int .i64 0, .int .i64 0, .string ByteArray.empty] ⟨by kernel_rfl, by kernel_rfl⟩ (by kernel_rfl) (kAttr_M _ _ _ _) ?_
    intro w_153 hr_154 hg_155 hl_156
    have hr_157 := RX.Kd.R_flat rfl hry hg_155 hne_74
    have hr_158 := RX.Kd.R_flat rfl hrb hg_155 hne_36
    have hk_159 := Blk.ne hk6 hg_155 hne_101
    have hk_160 := Blk.ne hk7 hg_155 hne_102
    have hk_161 := Blk.ne hk10 hg_155 hne_104
    refine XL_nil ?_
    refine X_region ?_
    refine XL_run 2 [(70, .eq (.int .i64 ((i : Int) + 1)))] [(6, .pointer (some ⟨w_37.heap.size, 0, none⟩)), (7, .pointer (some ⟨w_39.heap.size, 0, none⟩)), (10, .pointer (some ⟨w_77.heap.size, 0, none⟩)), (61, .int .i64 ((cutO o n).1.attrs.length : Int)), (62, .int .i64 ((i : Int) + 1))] w_153 [Value.int .i64 (IntKind.i64.wrap ((i : Int) + 1)) = Value.int .i64 ((i : Int) + 1)] (by kernel_rfl) ⟨wr_i64 (by omega) (by omega), trivial⟩ ?_
    refine XL_nil ?_
    have hB_162 : Below w.heap.size w w_153 := (bgo HB hg_155 hl_156 ((bt (bt (bt hb_2 hb_7) hb_9) hb_20)).size)
    refine ⟨(i + 1, (zs.set (i : Int).toNat ((⟨#[115, 112, 111, 105, 108, 116]⟩ : ByteArray), 0, 0, ByteArray.empty))), by kernel_rfl, ?_, ?_⟩
    · exact ⟨by omega, hr_154, hr_158, hr_157, hk_159, hk_160, hk_161, (Nat.le_trans hle_A_32 hg_155.size), (Nat.le_trans hle_A_32 hg_155.size), (Nat.le_trans hle_A_65 hg_155.size), hB_162⟩
    · (try dsimp only); omega
  · refine XL_run 1 [(63, .eq (.bool false))] [(6, .pointer (some ⟨w_37.heap.size, 0, none⟩)), (7, .pointer (some ⟨w_39.heap.size, 0, none⟩)), (10, .pointer (some ⟨w_77.heap.size, 0, none⟩)), (61, .int .i64 ((cutO o n).1.attrs.length : Int)), (62, .int .i64 (i : Int)), (63, .bool false)] wl [Value.bool (decide ((i : Int) < ((cutO o n).1.attrs.length : Int))) = Value.bool false] (by kernel_rfl) ⟨congrArg Value.bool (decide_eq_false (c_149)), trivial⟩ ?_
    refine XL_nil ?_
    refine X_seq ?_
    refine X_cond false rfl ?_
    refine X_exit ?_
    refine X_seq ?_
    refine X_region ?_
    refine XL_run 4 [(72, .load (.slice A_30 ((cutO o n).1.attrs.length) c_31))] [(6, .pointer (some ⟨w_37.heap.size, 0, none⟩)), (7, .pointer (some ⟨w_39.heap.size, 0, none⟩)), (10, .pointer (some ⟨w_77.heap.size, 0, none⟩)), (72, .slice A_30 ((cutO o n).1.attrs.length) c_31), (74, .slice (some ⟨wl.heap.size, 0, none⟩) 1 1)] (wl.alloc (.cells #[.string (⟨#[109, 111, 114, 101]⟩ : ByteArray), .int .i64 0, .int .i64 0, .string ByteArray.empty] 79)) [LoadsAs Tryd.prog 31 (⟨w_37.heap.size, 6, none⟩) (.slice A_30 ((cutO o n).1.attrs.length) c_31) wl] (by kernel_rfl) ⟨loads1 rfl (Blk.cell hk6 6 _ rfl), trivial⟩ ?_
    obtain ⟨w_163, hw_167, hb_164, hk_165, hz_166⟩ := new_world wl #[.string (⟨#[109, 111, 114, 101]⟩ : ByteArray), .int .i64 0, .int .i64 0, .string ByteArray.empty] 79
    rw [hw_167]
    rw [← hw_167]
    refine XL_append kAttr rfl rfl rfl w_19.heap.size 79 (.agg #[.string ByteArray.empty, .int .i64 0, .int .i64 0, .string ByteArray.empty]) 48 Tryd.underlying31 info79 rfl (by decide) (by omega) zs ((⟨#[109, 111, 114, 101]⟩ : ByteArray), 0, 0, ByteArray.empty) [.string (⟨#[109, 111, 114, 101]⟩ : ByteArray), .int .i64 0, .int .i64 0, .string ByteArray.empty] (fun _ => False) (by kernel_rfl) (kAttr_M _ _ _ _) (fun _ h => h.elim) hra hle_A_32 (by have h_ := (RX.Kd.R_len hra).1; omega) ?_
    intro A_168 c_169 w_170 hr_171 hc_172 hg_173 hl_174 ha_175
    have hr_176 := RX.Kd.R_flat rfl hry hg_173 hne_74
    have hr_177 := RX.Kd.R_flat rfl hrb hg_173 hne_36
    have hk_178 := Blk.ne hk6 hg_173 hne_101
    have hk_179 := Blk.ne hk7 hg_173 hne_102
    have hk_180 := Blk.ne hk10 hg_173 hne_104
    have hne_181 := rne_step hne_101 ha_175 (Blk.lt hk6)
    have hne_182 := rne_step hne_102 ha_175 (Blk.lt hk7)
    have hne_183 := rne_step hne_104 ha_175 (Blk.lt hk10)
    have hne_184 := rrne_step hne_74 ha_175 (RX.Kd.R_lt hry)
    have hne_185 := rrne_step hne_36 ha_175 (RX.Kd.R_lt hrb)
    refine XL_run 1 [] [(7, .pointer (some ⟨w_39.heap.size, 0, none⟩)), (10, .pointer (some ⟨w_77.heap.size, 0, none⟩)), (75, .slice A_168 ((zs ++ [((⟨#[109, 111, 114, 101]⟩ : ByteArray), 0, 0, ByteArray.empty)]).length) c_169), (76, .pointer (some ⟨w_37.heap.size, 6, none⟩))] w_170 [] (by kernel_rfl) trivial ?_
    refine XL_store (v := .slice A_168 ((zs ++ [((⟨#[109, 111, 114, 101]⟩ : ByteArray), 0, 0, ByteArray.empty)]).length) c_169) rfl rfl rfl (by kernel_rfl) hk_178 6 [.slice A_168 ((zs ++ [((⟨#[109, 111, 114, 101]⟩ : ByteArray), 0, 0, ByteArray.empty)]).length) c_169] #[.int .i64 ((cutO o n).1.kind), .string ((cutO o n).1.text), .int .i64 ((cutO o n).1.vk), .int .i64 ((cutO o n).1.vn), .string ((cutO o n).1.vt), .int .i64 ((cutO o n).1.count), .slice A_168 ((zs ++ [((⟨#[109, 111, 114, 101]⟩ : ByteArray), 0, 0, ByteArray.empty)]).length) c_169] ⟨by kernel_rfl, rfl, by kernel_rfl⟩ ⟨by kernel_rfl, by kernel_rfl⟩ (Nat.le_of_ble_eq_true (by kernel_rfl)) (fun w_186 hg_187 hk_188 hz_189 => ?_)
    have hk_190 := Blk.other hk_179 hg_187 hne_53
    have hne_191 : w_77.heap.size ≠ w_37.heap.size := Nat.ne_of_gt (Nat.lt_of_lt_of_le (Blk.lt hk_41) (Nat.le_trans (Nat.le_trans (Nat.le_trans (Nat.le_trans hb_45.size hg_50.size) hg_56.size) hb_70.size) hb_78.size))
    have hk_192 := Blk.other hk_180 hg_187 hne_191
    have hr_193 := RX.Kd.R_past hr_176 hg_187 (Nat.lt_of_lt_of_le (Blk.lt hk_41) (Nat.le_trans (Nat.le_trans hb_45.size hg_50.size) hg_56.size))
    have hr_194 := RX.Kd.R_flat rfl hr_177 hg_187 (fun k_ hk_ e_ => by injection hk_ with hk_; exact hne_105 k_ e_ hk_.symm)
    have hr_195 := RX.Kd.R_flat rfl hr_171 hg_187 (fun k_ hk_ e_ => by injection hk_ with hk_; exact hne_181 k_ e_ hk_.symm)
    refine XL_nil ?_
    refine X_seq ?_
    refine X_region ?_
    refine XL_run 2 [(77, .load (.agg #[.int .i64 ((cutO o n).2.1.kind), .string ((cutO o n).2.1.text), .int .i64 ((cutO o n).2.1.vk), .int .i64 ((cutO o n).2.1.vn), .string ((cutO o n).2.1.vt), .int .i64 ((cutO o n).2.1.count), .slice A_32 ((cutO o n).2.1.attrs.length) c_33])), (78, .load (.agg #[.int .i64 ((cutO o n).2.1.kind), .string ((cutO o n).2.1.text), .int .i64 ((cutO o n).2.1.vk), .int .i64 ((cutO o n).2.1.vn), .string ((cutO o n).2.1.vt), .int .i64 ((cutO o n).2.1.count), .slice A_65 ((cutO o n).2.1.attrs.length) c_66]))] [(77, .agg #[.int .i64 ((cutO o n).2.1.kind), .string ((cutO o n).2.1.text), .int .i64 ((cutO o n).2.1.vk), .int .i64 ((cutO o n).2.1.vn), .string ((cutO o n).2.1.vt), .int .i64 ((cutO o n).2.1.count), .slice A_32 ((cutO o n).2.1.attrs.length) c_33]), (78, .agg #[.int .i64 ((cutO o n).2.1.kind), .string ((cutO o n).2.1.text), .int .i64 ((cutO o n).2.1.vk), .int .i64 ((cutO o n).2.1.vn), .string ((cutO o n).2.1.vt), .int .i64 ((cutO o n).2.1.count), .slice A_65 ((cutO o n).2.1.attrs.length) c_66])] w_186 [LoadsAs Tryd.prog 33 (⟨w_39.heap.size, 0, none⟩) (.agg #[.int .i64 ((cutO o n).2.1.kind), .string ((cutO o n).2.1.text), .int .i64 ((cutO o n).2.1.vk), .int .i64 ((cutO o n).2.1.vn), .string ((cutO o n).2.1.vt), .int .i64 ((cutO o n).2.1.count), .slice A_32 ((cutO o n).2.1.attrs.length) c_33]) w_186, LoadsAs Tryd.prog 33 (⟨w_77.heap.size, 0, none⟩) (.agg #[.int .i64 ((cutO o n).2.1.kind), .string ((cutO o n).2.1.text), .int .i64 ((cutO o n).2.1.vk), .int .i64 ((cutO o n).2.1.vn), .string ((cutO o n).2.1.vt), .int .i64 ((cutO o n).2.1.count), .slice A_65 ((cutO o n).2.1.attrs.length) c_66]) w_186] (by kernel_rfl) ⟨loadsB rfl rfl hk_190 0 ⟨by kernel_rfl, by kernel_rfl⟩, loadsB rfl rfl hk_192 0 ⟨by kernel_rfl, by kernel_rfl⟩, trivial⟩ ?_
    refine XL_call 60 rfl rfl rfl ent60 [.agg #[.int .i64 ((cutO o n).2.1.kind), .string ((cutO o n).2.1.text), .int .i64 ((cutO o n).2.1.vk), .int .i64 ((cutO o n).2.1.vn), .string ((cutO o n).2.1.vt), .int .i64 ((cutO o n).2.1.count), .slice A_32 ((cutO o n).2.1.attrs.length) c_33], .agg #[.int .i64 ((cutO o n).2.1.kind), .string ((cutO o n).2.1.text), .int .i64 ((cutO o n).2.1.vk), .int .i64 ((cutO o n).2.1.vn), .string ((cutO o n).2.1.vt), .int .i64 ((cutO o n).2.1.count), .slice A_65 ((cutO o n).2.1.attrs.length) c_66]] (by kernel_rfl) (r4same_any (cutO o n).2.1 (cutO o n).2.1 _ _ _ _ _ (Kd.R_C hr_194) (Kd.R_C hr_193)) ?_
    rintro e w_196 ⟨rfl, hb_197⟩; refine ⟨_, rfl, ?_⟩
    rw [(opEqP_iff (cutO o n).2.1 (cutO o n).2.1).2 rfl]
    refine XL_run 1 [] [(4, .bool true)] w_196 [] (by kernel_rfl) trivial ?_
    refine XL_nil ?_
    refine X_ret ?_
    refine RX.ret_ok (P := Tryd.prog) (fn := Tryd.f10) (N := 80) (R := R_) [.bool true] (by kernel_rfl) (hR_ _ _ ?_)
    have hB_198 : Below w.heap.size w w_196 := (bt (bg (bgo HB hg_173 hl_174 ((bt (bt (bt hb_2 hb_7) hb_9) hb_20)).size) hg_187 (hB_71).size) hb_197)
    exact ⟨rfl, hB_198⟩
end Go.Proofs.YtekfdfafhfhfbaaDoor
