/- ContentPieces returns true. Conditions: sizes, the tables of utf8, the errors' variables. -/
import Derived.Test.YtekfdfafhfhfbaaDoorP4
import Derived.Test.YtekfdfafhfhfbaaDoorP2
import Derived.Test.YtekfdfafhfhfbaaDoorPC
import Derived.Test.YtekfdfafhfhfbaaDoorSp
import Derived.Test.YtekfdfafhfhfbaaDoorLim
import Derived.Test.YtekfdfafhfhfbaaDoorAn3
set_option linter.unusedVariables false
set_option linter.unusedSimpArgs false
set_option maxRecDepth 100000
namespace Go.Proofs.YtekfdfafhfhfbaaDoor
open Go Go.RowKit Go.Proofs.YtekfdfafhfhfbaaDoorW.PrintWords RX
theorem ent14 : Ent Tryd.prog 14 := ent_of Tryd.func14 (by kernel_rfl) rfl
theorem ent54 : Ent Tryd.prog 54 := ent_of Tryd.func54 (by kernel_rfl) rfl
theorem ent46 : Ent Tryd.prog 46 := ent_of Tryd.func46 (by kernel_rfl) rfl
set_option maxHeartbeats 4000000 in
theorem cpieces_any (o : OpA) (A : Option Addr) (i0 : Nat) (w : World) (hA : kAttr.C w A o.attrs.length o.attrs) (hAc : o.attrs.length ≤ i0) (hz : opSz o) (hT : Tabs w) (es : List Addr) (hC : ErrsC w es) :
    Calls Tryd.prog 14 #[.agg #[.int .i64 o.kind, .string o.text, .int .i64 o.vk, .int .i64 o.vn, .string o.vt, .int .i64 o.count, .slice A o.attrs.length i0]] w fun e w' => e = .returned (.bool true) ∧ Below w.heap.size w w' := by
  have hz1 := hz.1
  have hz3 := hz.2.2.1
  have hpl : o.attrs.length ≤ 9223372036854775807 := hA.2.1
  have hscl := U.sc_le o.text
  refine RX.enter Tryd.func14 rfl 184 rfl [(0, .agg #[.int .i64 o.kind, .string o.text, .int .i64 o.vk, .int .i64 o.vn, .string o.vt, .int .i64 o.count, .slice A o.attrs.length i0])] rfl (by kernel_rfl) (fun R_ hR_ => ?_)
  refine X_seq ?_
  refine X_region ?_
  refine XL_run 1 [] [(1, .pointer (some ⟨w.heap.size, 0, none⟩))] (w.alloc (.cells #[.int .i64 o.kind, .string o.text, .int .i64 o.vk, .int .i64 o.vn, .string o.vt, .int .i64 o.count, .slice A o.attrs.length i0] 33)) [] (by kernel_rfl) trivial ?_
  obtain ⟨w_1, hw_5, hb_2, hk_3, hz_4⟩ := new_world w #[.int .i64 o.kind, .string o.text, .int .i64 o.vk, .int .i64 o.vn, .string o.vt, .int .i64 o.count, .slice A o.attrs.length i0] 33
  rw [hw_5]
  refine XL_run 1 [] [(1, .pointer (some ⟨w.heap.size, 0, none⟩))] w_1 [] (by kernel_rfl) trivial ?_
  refine XL_nil ?_
  refine X_seq ?_
  refine X_seq ?_
  refine X_region ?_
  refine XL_call 45 rfl rfl rfl ent45 [] (by kernel_rfl) (lives_any _ (hT.below hb_2) es (hC.below hb_2)) ?_
  rintro e w_6 ⟨rfl, hb_7⟩; refine ⟨_, rfl, ?_⟩
  refine XL_run 1 [] [(1, .pointer (some ⟨w.heap.size, 0, none⟩)), (17, .bool false)] w_6 [] (by kernel_rfl) trivial ?_
  refine XL_nil ?_
  refine X_cond false rfl ?_
  refine X_skip ?_
  refine X_seq ?_
  refine X_region ?_
  refine XL_run 2 [(18, .load (.agg #[.int .i64 o.kind, .string o.text, .int .i64 o.vk, .int .i64 o.vn, .string o.vt, .int .i64 o.count, .slice A o.attrs.length i0]))] [(1, .pointer (some ⟨w.heap.size, 0, none⟩)), (19, .slice (some ⟨w_6.heap.size, 0, none⟩) 1 1)] (w_6.alloc (.cells #[.int .i64 o.kind, .string o.text, .int .i64 o.vk, .int .i64 o.vn, .string o.vt, .int .i64 o.count, .slice A o.attrs.length i0] 33)) [LoadsAs Tryd.prog 33 (⟨w.heap.size, 0, none⟩) (.agg #[.int .i64 o.kind, .string o.text, .int .i64 o.vk, .int .i64 o.vn, .string o.vt, .int .i64 o.count, .slice A o.attrs.length i0]) w_6] (by kernel_rfl) ⟨loadsB rfl rfl (Blk.below hk_3 hb_7) 0 ⟨by kernel_rfl, by kernel_rfl⟩, trivial⟩ ?_
  obtain ⟨w_8, hw_12, hb_9, hk_10, hz_11⟩ := new_world w_6 #[.int .i64 o.kind, .string o.text, .int .i64 o.vk, .int .i64 o.vn, .string o.vt, .int .i64 o.count, .slice A o.attrs.length i0] 33
  rw [hw_12]
  have hR_13 := Kd.R_litB (kRaw 7) (W := w_6) (e := 33) (cs := #[.int .i64 o.kind, .string o.text, .int .i64 o.vk, .int .i64 o.vn, .string o.vt, .int .i64 o.count, .slice A o.attrs.length i0]) [[.int .i64 o.kind, .string o.text, .int .i64 o.vk, .int .i64 o.vn, .string o.vt, .int .i64 o.count, .slice A o.attrs.length i0]] hk_10 (reps_raw [[.int .i64 o.kind, .string o.text, .int .i64 o.vk, .int .i64 o.vn, .string o.vt, .int .i64 o.count, .slice A o.attrs.length i0]] (by kernel_rfl)) (Nat.le_of_ble_eq_true (by kernel_rfl))
  have hC_14 : kOp.C w_8 (some ⟨w_6.heap.size, 0, none⟩) 1 [o] := C_lit1 (Kd.R_C hR_13) (kOp_K_of (x := o) hAc (Kd.C_below hA (bt (bt hb_2 hb_7) hb_9)))
  refine XL_call 47 rfl rfl rfl ent47 [.slice (some ⟨w_6.heap.size, 0, none⟩) 1 1] (by kernel_rfl) (spCopy_any _ _ [o] _ hC_14 (Nat.le_of_ble_eq_true rfl) (fun i_ hi_ => by obtain rfl : i_ = 0 := (by simp only [List.length_cons, List.length_nil] at hi_; omega); exact hz)) ?_
  rintro e w_19 ⟨A_15, c_16, rfl, hc_17, hR_18, hb_20⟩; refine ⟨_, rfl, ?_⟩
  have hS_21 := Kd.R_C hR_18
  have hC_22 : kOp.C w_19 A_15 1 [o] := kOpS_C (kOpS_init hS_21)
  refine XL_run 1 [] [(1, .pointer (some ⟨w.heap.size, 0, none⟩)), (3, .slice A_15 1 c_16)] w_19 [] (by kernel_rfl) trivial ?_
  refine XL_nil ?_
  refine X_seq ?_
  refine X_region ?_
  refine XL_run 1 [] [(1, .pointer (some ⟨w.heap.size, 0, none⟩)), (3, .slice A_15 1 c_16), (22, .slice A_15 1 c_16)] w_19 [] (by kernel_rfl) trivial ?_
  obtain ⟨ad_23, B_26, c_27, ha_24, hc_25, hl_28, hC_29⟩ := Kd.atOp hC_22 (i := (0 : Int)) (by decide) (by decide)
  replace hc_25 : CellsAt w_19 (ad_23.add ((0 : Int).toNat * 7)) [.int .i64 o.kind, .string o.text, .int .i64 o.vk, .int .i64 o.vn, .string o.vt, .int .i64 o.count, .slice B_26 o.attrs.length c_27] := hc_25
  replace hl_28 : o.attrs.length ≤ c_27 := hl_28
  replace hC_29 : kAttr.C w_19 B_26 o.attrs.length o.attrs := hC_29
  refine XL_run 2 [(23, .idx ad_23), (24, .load (.agg #[.int .i64 o.kind, .string o.text, .int .i64 o.vk, .int .i64 o.vn, .string o.vt, .int .i64 o.count, .slice B_26 o.attrs.length c_27]))] [(1, .pointer (some ⟨w.heap.size, 0, none⟩)), (3, .slice A_15 1 c_16), (24, .agg #[.int .i64 o.kind, .string o.text, .int .i64 o.vk, .int .i64 o.vn, .string o.vt, .int .i64 o.count, .slice B_26 o.attrs.length c_27])] w_19 [A_15 = some ad_23, (0 : Int) ≤ 0, 0 < (1 : Int), LoadsAs Tryd.prog 33 (ad_23.add ((0 : Int).toNat * 7)) (.agg #[.int .i64 o.kind, .string o.text, .int .i64 o.vk, .int .i64 o.vn, .string o.vt, .int .i64 o.count, .slice B_26 o.attrs.length c_27]) w_19] (by kernel_rfl) ⟨ha_24, (by omega), (by omega), loadsE rfl rfl hc_25 0 ⟨by kernel_rfl, by kernel_rfl⟩, trivial⟩ ?_
  refine XL_call 51 rfl rfl rfl ent51 [.agg #[.int .i64 o.kind, .string o.text, .int .i64 o.vk, .int .i64 o.vn, .string o.vt, .int .i64 o.count, .slice B_26 o.attrs.length c_27]] (by kernel_rfl) (cof_any o _ _ _ hC_29 hz (hT.below (bt (bt (bt hb_2 hb_7) hb_9) hb_20)) es (hC.i.below (bt (bt (bt hb_2 hb_7) hb_9) hb_20))) ?_
  rintro e w_33 ⟨v_30, rfl, hM_31, hN_32, hb_34⟩; refine ⟨_, rfl, ?_⟩
  refine XL_run 5 [] [(1, .pointer (some ⟨w.heap.size, 0, none⟩)), (3, .slice A_15 1 c_16), (4, v_30), (5, errV es (refuseP o))] w_33 [] (by kernel_rfl) trivial ?_
  refine XL_nil ?_
  refine X_seq ?_
  refine X_region ?_
  refine XL_run 1 [] [(1, .pointer (some ⟨w.heap.size, 0, none⟩)), (3, .slice A_15 1 c_16), (4, v_30), (5, errV es (refuseP o)), (29, .slice A_15 1 c_16)] w_33 [] (by kernel_rfl) trivial ?_
  obtain ⟨ad_35, B_38, c_39, ha_36, hc_37, hl_40, hC_41⟩ := Kd.atOp (Kd.C_below hC_22 hb_34) (i := (0 : Int)) (by decide) (by decide)
  replace hc_37 : CellsAt w_33 (ad_35.add ((0 : Int).toNat * 7)) [.int .i64 o.kind, .string o.text, .int .i64 o.vk, .int .i64 o.vn, .string o.vt, .int .i64 o.count, .slice B_38 o.attrs.length c_39] := hc_37
  replace hl_40 : o.attrs.length ≤ c_39 := hl_40
  replace hC_41 : kAttr.C w_33 B_38 o.attrs.length o.attrs := hC_41
  refine XL_run 2 [(30, .idx ad_35), (31, .load (.agg #[.int .i64 o.kind, .string o.text, .int .i64 o.vk, .int .i64 o.vn, .string o.vt, .int .i64 o.count, .slice B_38 o.attrs.length c_39]))] [(1, .pointer (some ⟨w.heap.size, 0, none⟩)), (3, .slice A_15 1 c_16), (4, v_30), (5, errV es (refuseP o)), (31, .agg #[.int .i64 o.kind, .string o.text, .int .i64 o.vk, .int .i64 o.vn, .string o.vt, .int .i64 o.count, .slice B_38 o.attrs.length c_39])] w_33 [A_15 = some ad_35, (0 : Int) ≤ 0, 0 < (1 : Int), LoadsAs Tryd.prog 33 (ad_35.add ((0 : Int).toNat * 7)) (.agg #[.int .i64 o.kind, .string o.text, .int .i64 o.vk, .int .i64 o.vn, .string o.vt, .int .i64 o.count, .slice B_38 o.attrs.length c_39]) w_33] (by kernel_rfl) ⟨ha_36, (by omega), (by omega), loadsE rfl rfl hc_37 0 ⟨by kernel_rfl, by kernel_rfl⟩, trivial⟩ ?_
  have hB_47 : Below w.heap.size w w_33 := (bt (bt (bt (bt hb_2 hb_7) hb_9) hb_20) hb_34)
  refine XL_call 51 rfl rfl rfl ent51 [.agg #[.int .i64 o.kind, .string o.text, .int .i64 o.vk, .int .i64 o.vn, .string o.vt, .int .i64 o.count, .slice B_38 o.attrs.length c_39]] (by kernel_rfl) (cof_any o _ _ _ hC_41 hz (hT.below hB_47) es (hC.i.below hB_47)) ?_
  rintro e w_45 ⟨v_42, rfl, hM_43, hN_44, hb_46⟩; refine ⟨_, rfl, ?_⟩
  refine XL_run 5 [] [(1, .pointer (some ⟨w.heap.size, 0, none⟩)), (3, .slice A_15 1 c_16), (4, v_30), (5, errV es (refuseP o)), (6, v_42)] w_45 [] (by kernel_rfl) trivial ?_
  refine XL_nil ?_
  refine X_seq ?_
  refine X_seq ?_
  refine X_region ?_
  by_cases c_48 : (refuseP o) = 0
  · rcases refuse_kind c_48 with hk_49 | hk_49
    · have hp_50 := hM_31 c_48
      rw [pOf_ins hk_49] at hp_50
      obtain ⟨A_51, c_52, e_53, hl_54, hR_55⟩ := kPiece_insM hp_50
      obtain rfl := (List.cons.inj e_53).1
      have hp_56 := hM_43 c_48
      rw [pOf_ins hk_49] at hp_56
      obtain ⟨A_57, c_58, e_59, hl_60, hR_61⟩ := kPiece_insM hp_56
      obtain rfl := (List.cons.inj e_59).1
      have hne_62 := rrne_new (RX.Kd.R_lt hR_55) (Nat.le_refl _) (RX.Kd.R_ge hR_61)
      have hB_63 : Below w_1.heap.size w_1 w_45 := (bt (bt (bt (bt hb_7 hb_9) hb_20) hb_34) hb_46)
      refine XL_run 1 [(35, .load (.agg #[.int .i64 o.kind, .string o.text, .int .i64 o.vk, .int .i64 o.vn, .string o.vt, .int .i64 o.count, .slice A o.attrs.length i0]))] [(1, .pointer (some ⟨w.heap.size, 0, none⟩)), (3, .slice A_15 1 c_16), (4, .iface 51 (.agg #[.slice A_51 o.attrs.length c_52, .string o.text, .int .i64 ((U.sc o.text).length : Int)])), (5, errV es (refuseP o)), (6, .iface 51 (.agg #[.slice A_57 o.attrs.length c_58, .string o.text, .int .i64 ((U.sc o.text).length : Int)])), (35, .agg #[.int .i64 o.kind, .string o.text, .int .i64 o.vk, .int .i64 o.vn, .string o.vt, .int .i64 o.count, .slice A o.attrs.length i0])] w_45 [LoadsAs Tryd.prog 33 (⟨w.heap.size, 0, none⟩) (.agg #[.int .i64 o.kind, .string o.text, .int .i64 o.vk, .int .i64 o.vn, .string o.vt, .int .i64 o.count, .slice A o.attrs.length i0]) w_45] (by kernel_rfl) ⟨loadsB rfl rfl (Blk.below hk_3 hB_63) 0 ⟨by kernel_rfl, by kernel_rfl⟩, trivial⟩ ?_
      refine XL_call 46 rfl rfl rfl ent46 [.agg #[.int .i64 o.kind, .string o.text, .int .i64 o.vk, .int .i64 o.vn, .string o.vt, .int .i64 o.count, .slice A o.attrs.length i0]] (by kernel_rfl) (r4refuse_any o _ _ _ (Kd.C_below hA (bt hB_47 hb_46)) hz (hT.below (bt hB_47 hb_46))) ?_
      rintro e w_64 ⟨rfl, hb_65⟩; refine ⟨_, rfl, ?_⟩
      refine XL_run 1 [(37, .eq (.bool false))] [(1, .pointer (some ⟨w.heap.size, 0, none⟩)), (3, .slice A_15 1 c_16), (4, .iface 51 (.agg #[.slice A_51 o.attrs.length c_52, .string o.text, .int .i64 ((U.sc o.text).length : Int)])), (5, errV es (refuseP o)), (6, .iface 51 (.agg #[.slice A_57 o.attrs.length c_58, .string o.text, .int .i64 ((U.sc o.text).length : Int)])), (37, .bool false)] w_64 [Value.bool (((refuseP o) : Int) != 0) = Value.bool false] (by kernel_rfl) ⟨congrArg Value.bool (bneF ((by omega))), trivial⟩ ?_
      refine XL_nil ?_
      refine X_cond false rfl ?_
      refine X_skip ?_
      refine X_seq ?_
      refine X_seq ?_
      refine X_region ?_
      refine XL_run 1 [] [(1, .pointer (some ⟨w.heap.size, 0, none⟩)), (3, .slice A_15 1 c_16), (4, .iface 51 (.agg #[.slice A_51 o.attrs.length c_52, .string o.text, .int .i64 ((U.sc o.text).length : Int)])), (6, .iface 51 (.agg #[.slice A_57 o.attrs.length c_58, .string o.text, .int .i64 ((U.sc o.text).length : Int)])), (44, errV es (refuseP o))] w_64 [] (by kernel_rfl) trivial ?_
      rw [show errV es (refuseP o) = .nilIface from by rw [c_48]; rfl]
      refine XL_run 9 [] [(1, .pointer (some ⟨w.heap.size, 0, none⟩)), (3, .slice A_15 1 c_16), (4, .iface 51 (.agg #[.slice A_51 o.attrs.length c_52, .string o.text, .int .i64 ((U.sc o.text).length : Int)])), (6, .iface 51 (.agg #[.slice A_57 o.attrs.length c_58, .string o.text, .int .i64 ((U.sc o.text).length : Int)])), (53, .bool false)] w_64 [] (by kernel_rfl) trivial ?_
      refine XL_nil ?_
      refine X_cond false rfl ?_
      refine X_skip ?_
      refine X_seq ?_
      refine X_region ?_
      refine XL_run 1 [(54, .load (.agg #[.int .i64 o.kind, .string o.text, .int .i64 o.vk, .int .i64 o.vn, .string o.vt, .int .i64 o.count, .slice A o.attrs.length i0]))] [(1, .pointer (some ⟨w.heap.size, 0, none⟩)), (3, .slice A_15 1 c_16), (4, .iface 51 (.agg #[.slice A_51 o.attrs.length c_52, .string o.text, .int .i64 ((U.sc o.text).length : Int)])), (6, .iface 51 (.agg #[.slice A_57 o.attrs.length c_58, .string o.text, .int .i64 ((U.sc o.text).length : Int)])), (54, .agg #[.int .i64 o.kind, .string o.text, .int .i64 o.vk, .int .i64 o.vn, .string o.vt, .int .i64 o.count, .slice A o.attrs.length i0])] w_64 [LoadsAs Tryd.prog 33 (⟨w.heap.size, 0, none⟩) (.agg #[.int .i64 o.kind, .string o.text, .int .i64 o.vk, .int .i64 o.vn, .string o.vt, .int .i64 o.count, .slice A o.attrs.length i0]) w_64] (by kernel_rfl) ⟨loadsB rfl rfl (Blk.below hk_3 (bt hB_63 hb_65)) 0 ⟨by kernel_rfl, by kernel_rfl⟩, trivial⟩ ?_
      refine XL_call 54 rfl rfl rfl ent54 [.agg #[.int .i64 o.kind, .string o.text, .int .i64 o.vk, .int .i64 o.vn, .string o.vt, .int .i64 o.count, .slice A o.attrs.length i0]] (by kernel_rfl) (r4len_any o _ _ _ (Kd.C_below hA (bt (bt hB_47 hb_46) hb_65)) hz) ?_
      rintro e w_66 ⟨rfl, hb_67⟩; refine ⟨_, rfl, ?_⟩
      refine XL_run 1 [] [(1, .pointer (some ⟨w.heap.size, 0, none⟩)), (3, .slice A_15 1 c_16), (4, .iface 51 (.agg #[.slice A_51 o.attrs.length c_52, .string o.text, .int .i64 ((U.sc o.text).length : Int)])), (6, .iface 51 (.agg #[.slice A_57 o.attrs.length c_58, .string o.text, .int .i64 ((U.sc o.text).length : Int)])), (8, .int .i64 (len4 o))] w_66 [] (by kernel_rfl) trivial ?_
      refine XL_nil ?_
      refine X_seq ?_
      refine X_seq ?_
      refine X_region ?_
      refine XL_run 1 [] [(1, .pointer (some ⟨w.heap.size, 0, none⟩)), (3, .slice A_15 1 c_16), (6, .iface 51 (.agg #[.slice A_57 o.attrs.length c_58, .string o.text, .int .i64 ((U.sc o.text).length : Int)])), (8, .int .i64 (len4 o)), (56, .iface 51 (.agg #[.slice A_51 o.attrs.length c_52, .string o.text, .int .i64 ((U.sc o.text).length : Int)]))] w_66 [] (by kernel_rfl) trivial ?_
      refine XL_nil ?_
      refine X_block ?_
      refine X_seq ?_
      refine X_region ?_
      refine XL_run 3 [] [(1, .pointer (some ⟨w.heap.size, 0, none⟩)), (3, .slice A_15 1 c_16), (6, .iface 51 (.agg #[.slice A_57 o.attrs.length c_58, .string o.text, .int .i64 ((U.sc o.text).length : Int)])), (8, .int .i64 (len4 o)), (56, .iface 51 (.agg #[.slice A_51 o.attrs.length c_52, .string o.text, .int .i64 ((U.sc o.text).length : Int)])), (58, .bool true), (59, .agg #[.slice A_51 o.attrs.length c_52, .string o.text, .int .i64 ((U.sc o.text).length : Int)])] w_66 [] (by kernel_rfl) trivial ?_
      refine XL_nil ?_
      refine X_cond true rfl ?_
      refine X_seq ?_
      refine X_region ?_
      refine XL_run 1 [] [(1, .pointer (some ⟨w.heap.size, 0, none⟩)), (3, .slice A_15 1 c_16), (6, .iface 51 (.agg #[.slice A_57 o.attrs.length c_58, .string o.text, .int .i64 ((U.sc o.text).length : Int)])), (8, .int .i64 (len4 o)), (9, .pointer (some ⟨w_66.heap.size, 0, none⟩)), (59, .agg #[.slice A_51 o.attrs.length c_52, .string o.text, .int .i64 ((U.sc o.text).length : Int)])] (w_66.alloc (.cells #[.slice none 0 0, .string ByteArray.empty, .int .i64 0] 51)) [] (by kernel_rfl) trivial ?_
      obtain ⟨w_68, hw_72, hb_69, hk_70, hz_71⟩ := new_world w_66 #[.slice none 0 0, .string ByteArray.empty, .int .i64 0] 51
      rw [hw_72]
      refine XL_store (v := .agg #[.slice A_51 o.attrs.length c_52, .string o.text, .int .i64 ((U.sc o.text).length : Int)]) rfl rfl rfl (by kernel_rfl) hk_70 0 [.slice A_51 o.attrs.length c_52, .string o.text, .int .i64 ((U.sc o.text).length : Int)] #[.slice A_51 o.attrs.length c_52, .string o.text, .int .i64 ((U.sc o.text).length : Int)] ⟨by kernel_rfl, rfl, by kernel_rfl⟩ ⟨by kernel_rfl, by kernel_rfl⟩ (Nat.le_of_ble_eq_true (by kernel_rfl)) (fun w_73 hg_74 hk_75 hz_76 => ?_)
      have hB_77 : Below w_8.heap.size w_8 w_66 := (bt (bt (bt (bt hb_20 hb_34) hb_46) hb_65) hb_67)
      refine XL_nil ?_
      refine X_seq ?_
      refine X_seq ?_
      refine X_region ?_
      have hB_78 : Below w_1.heap.size w_1 w_73 := (bg (bt (bt (bt hB_63 hb_65) hb_67) hb_69) hg_74 ((bt (bt hB_63 hb_65) hb_67)).size)
      refine XL_run 22 [(61, .load (.int .i64 o.kind)), (62, .eq (.bool false)), (65, .load (.string o.text)), (67, .load (.string o.text)), (68, .eq (.bool false)), (72, .load (.int .i64 ((U.sc o.text).length : Int))), (74, .eq (.bool false)), (79, .load (.slice A_51 o.attrs.length c_52)), (81, .load (.slice A o.attrs.length i0))] [(1, .pointer (some ⟨w.heap.size, 0, none⟩)), (3, .slice A_15 1 c_16), (6, .iface 51 (.agg #[.slice A_57 o.attrs.length c_58, .string o.text, .int .i64 ((U.sc o.text).length : Int)])), (8, .int .i64 (len4 o)), (9, .pointer (some ⟨w_66.heap.size, 0, none⟩)), (76, .bool false), (79, .slice A_51 o.attrs.length c_52), (81, .slice A o.attrs.length i0)] w_73 [LoadsAs Tryd.prog 3 (⟨w.heap.size, 0, none⟩) (.int .i64 o.kind) w_73, Value.bool (o.kind != 1) = Value.bool false, LoadsAs Tryd.prog 9 (⟨w_66.heap.size, 1, none⟩) (.string o.text) w_73, LoadsAs Tryd.prog 9 (⟨w.heap.size, 1, none⟩) (.string o.text) w_73, Value.bool (!o.text.toList == o.text.toList) = Value.bool false, LoadsAs Tryd.prog 3 (⟨w_66.heap.size, 2, none⟩) (.int .i64 ((U.sc o.text).length : Int)) w_73, Value.bool (((U.sc o.text).length : Int) != (len4 o)) = Value.bool false, LoadsAs Tryd.prog 31 (⟨w_66.heap.size, 0, none⟩) (.slice A_51 o.attrs.length c_52) w_73, LoadsAs Tryd.prog 31 (⟨w.heap.size, 6, none⟩) (.slice A o.attrs.length i0) w_73] (by kernel_rfl) ⟨loads1 rfl (Blk.cell (Blk.below hk_3 hB_78) 0 _ rfl), congrArg Value.bool (bneF (hk_49)), loads1 rfl (Blk.cell hk_75 1 _ rfl), loads1 rfl (Blk.cell (Blk.below hk_3 hB_78) 1 _ rfl), congrArg Value.bool (strNeF (rfl)), loads1 rfl (Blk.cell hk_75 2 _ rfl), congrArg Value.bool (bneF ((len4_1 hk_49).symm)), loads1 rfl (Blk.cell hk_75 0 _ rfl), loads1 rfl (Blk.cell (Blk.below hk_3 hB_78) 6 _ rfl), trivial⟩ ?_
      have hB_79 : Below w_33.heap.size w_33 w_73 := (bg (bt (bt (bt hb_46 hb_65) hb_67) hb_69) hg_74 ((bt (bt hb_46 hb_65) hb_67)).size)
      have hB_80 : Below w.heap.size w w_73 := (bg (bt (bt (bt (bt hB_47 hb_46) hb_65) hb_67) hb_69) hg_74 ((bt (bt (bt hB_47 hb_46) hb_65) hb_67)).size)
      refine XL_call 65 rfl rfl rfl ent65 [.slice A_51 o.attrs.length c_52, .slice A o.attrs.length i0] (by kernel_rfl) (sattrs_any _ _ _ _ o.attrs o.attrs _ (Kd.R_C (Kd.R_below hR_55 hB_79)) (Kd.C_below hA hB_80)) ?_
      rintro e w_81 ⟨rfl, hb_82⟩; refine ⟨_, rfl, ?_⟩
      rw [show decide (o.attrs = o.attrs) = true from decide_eq_true rfl]
      refine XL_run 2 [] [(1, .pointer (some ⟨w.heap.size, 0, none⟩)), (3, .slice A_15 1 c_16), (6, .iface 51 (.agg #[.slice A_57 o.attrs.length c_58, .string o.text, .int .i64 ((U.sc o.text).length : Int)])), (8, .int .i64 (len4 o)), (9, .pointer (some ⟨w_66.heap.size, 0, none⟩)), (84, .bool false)] w_81 [] (by kernel_rfl) trivial ?_
      refine XL_nil ?_
      refine X_cond false rfl ?_
      refine X_skip ?_
      refine X_seq ?_
      refine X_region ?_
      refine XL_run 5 [(87, .load (.slice A_51 o.attrs.length c_52))] [(1, .pointer (some ⟨w.heap.size, 0, none⟩)), (3, .slice A_15 1 c_16), (6, .iface 51 (.agg #[.slice A_57 o.attrs.length c_58, .string o.text, .int .i64 ((U.sc o.text).length : Int)])), (8, .int .i64 (len4 o)), (9, .pointer (some ⟨w_66.heap.size, 0, none⟩)), (88, .int .i64 (o.attrs.length : Int)), (89, .int .i64 0)] w_81 [LoadsAs Tryd.prog 31 (⟨w_66.heap.size, 0, none⟩) (.slice A_51 o.attrs.length c_52) w_81] (by kernel_rfl) ⟨loads1 rfl (Blk.cell (Blk.below hk_75 hb_82) 0 _ rfl), trivial⟩ ?_
      refine XL_nil ?_
      refine X_block ?_
      have hne_83 := rne_new (RX.Kd.R_lt hR_55) (Nat.le_trans (Nat.le_trans hb_46.size hb_65.size) hb_67.size)
      have hne_84 : ∀ k, A_51.map (·.block) = some k → k ≠ w.heap.size := fun k_ hk_ e_ => by have h_ := RX.Kd.R_ge hR_55 k_ hk_; have h2_ := Blk.lt hk_3; have h3_ := ((bt (bt hb_7 hb_9) hb_20)).size; omega
      have hB_85 : Below w_45.heap.size w_45 w_81 := (bt (bg (bt (bt hb_65 hb_67) hb_69) hg_74 ((bt hb_65 hb_67)).size) hb_82)
      have hB_86 : Below w_19.heap.size w_19 w_81 := (bt (bg (bt (bt (bt (bt hb_34 hb_46) hb_65) hb_67) hb_69) hg_74 ((bt (bt (bt hb_34 hb_46) hb_65) hb_67)).size) hb_82)
      refine X_loop (ι := Nat × List At) (fun ⟨i, zs⟩ => [(1, .pointer (some ⟨w.heap.size, 0, none⟩)), (3, .slice A_15 1 c_16), (6, .iface 51 (.agg #[.slice A_57 o.attrs.length c_58, .string o.text, .int .i64 ((U.sc o.text).length : Int)])), (8, .int .i64 (len4 o)), (9, .pointer (some ⟨w_66.heap.size, 0, none⟩)), (88, .int .i64 (o.attrs.length : Int)), (89, .int .i64 (i : Int))]) (fun ⟨i, zs⟩ wl => i ≤ o.attrs.length ∧ kAttr.R 79 wl w_19.heap.size (OkFrom w_19.heap.size) (.slice A_51 o.attrs.length c_52) zs ∧ kAttr.R 79 wl w_33.heap.size (OkFrom w_33.heap.size) (.slice A_57 o.attrs.length c_58) o.attrs ∧ RX.Blk wl w.heap.size 33 #[.int .i64 o.kind, .string o.text, .int .i64 o.vk, .int .i64 o.vn, .string o.vt, .int .i64 o.count, .slice A o.attrs.length i0] ∧ RX.Blk wl w_66.heap.size 51 #[.slice A_51 o.attrs.length c_52, .string o.text, .int .i64 ((U.sc o.text).length : Int)] ∧ w_19.heap.size ≤ wl.heap.size ∧ w_33.heap.size ≤ wl.heap.size ∧ Below w.heap.size w wl ∧ Below w_19.heap.size w_19 wl) (fun ⟨i, zs⟩ => o.attrs.length - i) (0, o.attrs) ⟨by omega, (Kd.R_below hR_55 (bt hB_79 hb_82)), (Kd.R_below hR_61 hB_85), (Blk.below hk_3 (bt hB_78 hb_82)), (Blk.below hk_75 hb_82), (hB_86).size, ((bt hB_79 hb_82)).size, (bt hB_80 hb_82), hB_86⟩ (by kernel_rfl) ?_
      rintro ⟨i, zs⟩ wl ⟨hi, hra, hrb, hk1, hk2, hle_A_51, hle_A_57, HB, HB2⟩
      refine X_seq ?_
      refine X_region ?_
      by_cases c_87 : (i : Int) < (o.attrs.length : Int)
      · refine XL_run 1 [(90, .eq (.bool true))] [(1, .pointer (some ⟨w.heap.size, 0, none⟩)), (3, .slice A_15 1 c_16), (6, .iface 51 (.agg #[.slice A_57 o.attrs.length c_58, .string o.text, .int .i64 ((U.sc o.text).length : Int)])), (8, .int .i64 (len4 o)), (9, .pointer (some ⟨w_66.heap.size, 0, none⟩)), (88, .int .i64 (o.attrs.length : Int)), (89, .int .i64 (i : Int)), (90, .bool true)] wl [Value.bool (decide ((i : Int) < (o.attrs.length : Int))) = Value.bool true] (by kernel_rfl) ⟨congrArg Value.bool (decide_eq_true (c_87)), trivial⟩ ?_
        refine XL_nil ?_
        refine X_seq ?_
        refine X_cond true rfl ?_
        refine X_skip ?_
        refine X_seq ?_
        refine X_block ?_
        refine X_seq ?_
        refine X_region ?_
        refine XL_run 2 [] [(1, .pointer (some ⟨w.heap.size, 0, none⟩)), (3, .slice A_15 1 c_16), (6, .iface 51 (.agg #[.slice A_57 o.attrs.length c_58, .string o.text, .int .i64 ((U.sc o.text).length : Int)])), (8, .int .i64 (len4 o)), (9, .pointer (some ⟨w_66.heap.size, 0, none⟩)), (10, .int .i64 (i : Int)), (88, .int .i64 (o.attrs.length : Int)), (89, .int .i64 (i : Int))] wl [] (by kernel_rfl) trivial ?_
        refine XL_nil ?_
        refine X_region ?_
        refine XL_run 5 [(94, .load (.slice A_51 o.attrs.length c_52))] [(1, .pointer (some ⟨w.heap.size, 0, none⟩)), (3, .slice A_15 1 c_16), (6, .iface 51 (.agg #[.slice A_57 o.attrs.length c_58, .string o.text, .int .i64 ((U.sc o.text).length : Int)])), (8, .int .i64 (len4 o)), (9, .pointer (some ⟨w_66.heap.size, 0, none⟩)), (88, .int .i64 (o.attrs.length : Int)), (89, .int .i64 (i : Int)), (94, .slice A_51 o.attrs.length c_52), (95, .int .i64 (i : Int)), (96, .agg #[.string (⟨#[115, 112, 111, 105, 108, 116]⟩ : ByteArray), .int .i64 0, .int .i64 0, .string ByteArray.empty])] wl [LoadsAs Tryd.prog 31 (⟨w_66.heap.size, 0, none⟩) (.slice A_51 o.attrs.length c_52) wl] (by kernel_rfl) ⟨loads1 rfl (Blk.cell hk2 0 _ rfl), trivial⟩ ?_
        obtain ⟨ad_88, ha_89, hc_90⟩ := Kd.atAttr (Kd.R_C hra) (i := (i : Int)) (by omega) (by omega)
        replace hc_90 : CellsAt wl (ad_88.add ((i : Int).toNat * 4)) [.string ((zs.getD i at0).1), .int .i64 ((zs.getD i at0).2.1), .int .i64 ((zs.getD i at0).2.2.1), .string ((zs.getD i at0).2.2.2)] := hc_90
        refine XL_run 1 [(97, .idx ad_88)] [(1, .pointer (some ⟨w.heap.size, 0, none⟩)), (3, .slice A_15 1 c_16), (6, .iface 51 (.agg #[.slice A_57 o.attrs.length c_58, .string o.text, .int .i64 ((U.sc o.text).length : Int)])), (8, .int .i64 (len4 o)), (9, .pointer (some ⟨w_66.heap.size, 0, none⟩)), (88, .int .i64 (o.attrs.length : Int)), (89, .int .i64 (i : Int)), (96, .agg #[.string (⟨#[115, 112, 111, 105, 108, 116]⟩ : ByteArray), .int .i64 0, .int .i64 0, .string ByteArray.empty]), (97, .pointer (some (ad_88.add ((i : Int).toNat * 4))))] wl [A_51 = some ad_88, (0 : Int) ≤ (i : Int), (i : Int) < (o.attrs.length : Int)] (by kernel_rfl) ⟨ha_89, (by omega), (by omega), trivial⟩ ?_
        refine XL_rowset kAttr rfl rfl rfl w_19.heap.size 79 (ad := ad_88) (i := (i : Int)) (v := .agg #[.string (⟨#[115, 112, 111, 105, 108, 116]⟩ : ByteArray), .int .i64 0, .int .i64 0, .string ByteArray.empty]) zs ((⟨#[115, 112, 111, 105, 108, 116]⟩ : ByteArray), 0, 0, ByteArray.empty) (by kernel_rfl) ha_89 hra (by omega) (by omega) [.string (⟨#[115, 112, 111, 105, 108, 116]⟩ : ByteArray), .int .i64 0, .int .i64 0, .string ByteArray.empty] ⟨by kernel_rfl, by kernel_rfl⟩ (by kernel_rfl) (kAttr_M _ _ _ _) ?_
        intro w_91 hr_92 hg_93 hl_94
        have hr_95 := RX.Kd.R_flat rfl hrb hg_93 hne_62
        have hk_96 := Blk.ne hk1 hg_93 hne_84
        have hk_97 := Blk.ne hk2 hg_93 hne_83
        refine XL_nil ?_
        refine X_region ?_
        refine XL_run 2 [(98, .eq (.int .i64 ((i : Int) + 1)))] [(1, .pointer (some ⟨w.heap.size, 0, none⟩)), (3, .slice A_15 1 c_16), (6, .iface 51 (.agg #[.slice A_57 o.attrs.length c_58, .string o.text, .int .i64 ((U.sc o.text).length : Int)])), (8, .int .i64 (len4 o)), (9, .pointer (some ⟨w_66.heap.size, 0, none⟩)), (88, .int .i64 (o.attrs.length : Int)), (89, .int .i64 ((i : Int) + 1))] w_91 [Value.int .i64 (IntKind.i64.wrap ((i : Int) + 1)) = Value.int .i64 ((i : Int) + 1)] (by kernel_rfl) ⟨wr_i64 (by omega) (by omega), trivial⟩ ?_
        refine XL_nil ?_
        have hB_98 : Below w.heap.size w w_91 := (bgo HB hg_93 hl_94 ((bt (bt (bt hb_2 hb_7) hb_9) hb_20)).size)
        refine ⟨(i + 1, (zs.set (i : Int).toNat ((⟨#[115, 112, 111, 105, 108, 116]⟩ : ByteArray), 0, 0, ByteArray.empty))), by kernel_rfl, ?_, ?_⟩
        · exact ⟨by omega, hr_92, hr_95, hk_96, hk_97, ((bgo HB2 hg_93 hl_94 (Nat.le_refl _))).size, (Nat.le_trans hle_A_57 hg_93.size), hB_98, (bgo HB2 hg_93 hl_94 (Nat.le_refl _))⟩
        · (try dsimp only); omega
      · refine XL_run 1 [(90, .eq (.bool false))] [(1, .pointer (some ⟨w.heap.size, 0, none⟩)), (3, .slice A_15 1 c_16), (6, .iface 51 (.agg #[.slice A_57 o.attrs.length c_58, .string o.text, .int .i64 ((U.sc o.text).length : Int)])), (8, .int .i64 (len4 o)), (9, .pointer (some ⟨w_66.heap.size, 0, none⟩)), (88, .int .i64 (o.attrs.length : Int)), (89, .int .i64 (i : Int)), (90, .bool false)] wl [Value.bool (decide ((i : Int) < (o.attrs.length : Int))) = Value.bool false] (by kernel_rfl) ⟨congrArg Value.bool (decide_eq_false (c_87)), trivial⟩ ?_
        refine XL_nil ?_
        refine X_seq ?_
        refine X_cond false rfl ?_
        refine X_exit ?_
        refine X_seq ?_
        refine X_region ?_
        refine XL_run 1 [] [(1, .pointer (some ⟨w.heap.size, 0, none⟩)), (6, .iface 51 (.agg #[.slice A_57 o.attrs.length c_58, .string o.text, .int .i64 ((U.sc o.text).length : Int)])), (8, .int .i64 (len4 o)), (157, .slice A_15 1 c_16)] wl [] (by kernel_rfl) trivial ?_
        refine XL_call 57 rfl rfl rfl ent57 [.slice A_15 1 c_16] (by kernel_rfl) (spoil_any A_15 c_16 [o] w_8 w_19 _ hR_18 HB2 (hb_20).size (Nat.le_of_ble_eq_true rfl)) ?_
        rintro e w_99 ⟨rfl, hS_100⟩; refine ⟨_, rfl, ?_⟩
        have hr_101 := Kd.R_spoilt hrb hS_100 (hb_34).size
        have hr_102 := Kd.R_spoilt hra hS_100 (Nat.le_refl _)
        have hk_103 := Spoilt.blkLo hS_100 hk1 (Nat.lt_of_lt_of_le (Blk.lt hk_3) ((bt hb_7 hb_9)).size)
        have hk_104 := Spoilt.blk hS_100 hk2 ((bt (bt (bt hb_34 hb_46) hb_65) hb_67)).size
        refine XL_nil ?_
        refine X_seq ?_
        refine X_region ?_
        refine XL_run 7 [] [(1, .pointer (some ⟨w.heap.size, 0, none⟩)), (6, .iface 51 (.agg #[.slice A_57 o.attrs.length c_58, .string o.text, .int .i64 ((U.sc o.text).length : Int)])), (8, .int .i64 (len4 o)), (14, .iface 51 (.agg #[.slice A_57 o.attrs.length c_58, .string o.text, .int .i64 ((U.sc o.text).length : Int)])), (15, .bool true)] w_99 [] (by kernel_rfl) trivial ?_
        refine XL_nil ?_
        refine X_seq ?_
        refine X_gen (S := fun w_ => RX.Blk w_ w.heap.size 33 #[.int .i64 o.kind, .string o.text, .int .i64 o.vk, .int .i64 o.vn, .string o.vt, .int .i64 o.count, .slice A o.attrs.length i0]) [] 21 #[false, false, false, false, false, false, false, false, false, false, false, false, false, false, false, false, false, false, false, false, false] (by kernel_rfl) (by kernel_rfl) (by kernel_rfl) (fun wd_105 hb_106 hh_107 => ?_)
        refine XG_run (fuel' := 17) (Blk.below hk_103 hb_106) [0, 1, 2, 4] [] [.bool true, .bool true, .iface 51 (.agg #[.slice A_57 o.attrs.length c_58, .string o.text, .int .i64 ((U.sc o.text).length : Int)]), .int .i64 (len4 o)] #[true, true, true, false, true, false, false, false, false, false, false, false, false, false, false, false, false, false, false, false, false] [(1, .pointer (some ⟨w.heap.size, 0, none⟩)), (6, .iface 51 (.agg #[.slice A_57 o.attrs.length c_58, .string o.text, .int .i64 ((U.sc o.text).length : Int)])), (14, .iface 51 (.agg #[.slice A_57 o.attrs.length c_58, .string o.text, .int .i64 ((U.sc o.text).length : Int)])), (165, .bool true), (166, .iface 51 (.agg #[.slice A_57 o.attrs.length c_58, .string o.text, .int .i64 ((U.sc o.text).length : Int)])), (168, .int .i64 (len4 o))] (fun w_ => []) (fun _ _ _ _ h => h) (fun w_ => by kernel_rfl) rfl (fun w_ hC_ => trivial) ?_
        refine XG_mid (fuel' := 16) 3 #[true, true, true, true, true, false, false, false, false, false, false, false, false, false, false, false, false, false, false, false, false] _ rfl (by kernel_rfl) (by kernel_rfl) rfl ?_
        refine XL_inv 165 #[.agg #[.slice A_57 o.attrs.length c_58, .string o.text, .int .i64 ((U.sc o.text).length : Int)]] rfl rfl (by kernel_rfl) (by kernel_rfl) (insertLen_any _ _ _ _ _ _) ?_
        rintro e w_108 ⟨rfl, hb_109⟩; refine ⟨_, rfl, ?_⟩
        refine XL_nil ?_
        refine ⟨(Blk.below hk_103 (bt hb_106 hb_109)), ?_⟩
        refine XG_run (fuel' := 11) (Blk.below hk_103 (bt hb_106 hb_109)) [5, 6, 7, 8, 10] [(169, .eq (.bool true)), (174, .load (.agg #[.int .i64 o.kind, .string o.text, .int .i64 o.vk, .int .i64 o.vn, .string o.vt, .int .i64 o.count, .slice A o.attrs.length i0]))] [.bool true, .bool true, .bool true, .iface 51 (.agg #[.slice A_57 o.attrs.length c_58, .string o.text, .int .i64 ((U.sc o.text).length : Int)]), .agg #[.int .i64 o.kind, .string o.text, .int .i64 o.vk, .int .i64 o.vn, .string o.vt, .int .i64 o.count, .slice A o.attrs.length i0]] #[true, true, true, true, true, true, true, true, true, false, true, false, false, false, false, false, false, false, false, false, false] [(1, .pointer (some ⟨w.heap.size, 0, none⟩)), (14, .iface 51 (.agg #[.slice A_57 o.attrs.length c_58, .string o.text, .int .i64 ((U.sc o.text).length : Int)])), (171, .bool true), (172, .iface 51 (.agg #[.slice A_57 o.attrs.length c_58, .string o.text, .int .i64 ((U.sc o.text).length : Int)])), (174, .agg #[.int .i64 o.kind, .string o.text, .int .i64 o.vk, .int .i64 o.vn, .string o.vt, .int .i64 o.count, .slice A o.attrs.length i0])] (fun w_ => [Value.bool (((U.sc o.text).length : Int) == (len4 o)) = Value.bool true, LoadsAs Tryd.prog 33 (⟨w.heap.size, 0, none⟩) (.agg #[.int .i64 o.kind, .string o.text, .int .i64 o.vk, .int .i64 o.vn, .string o.vt, .int .i64 o.count, .slice A o.attrs.length i0]) w_]) (fun _ _ _ _ h => h) (fun w_ => by kernel_rfl) rfl (fun w_ hC_ => ⟨congrArg Value.bool (beq_iff_eq.2 ((len4_1 hk_49).symm)), loadsB rfl rfl hC_ 0 ⟨by kernel_rfl, by kernel_rfl⟩, trivial⟩) ?_
        refine XG_mid (fuel' := 10) 9 #[true, true, true, true, true, true, true, true, true, true, true, false, false, false, false, false, false, false, false, false, false] _ rfl (by kernel_rfl) (by kernel_rfl) rfl ?_
        refine XL_inv 166 #[.agg #[.slice A_57 o.attrs.length c_58, .string o.text, .int .i64 ((U.sc o.text).length : Int)]] rfl rfl (by kernel_rfl) (by kernel_rfl) (insertOp_any _ _ o.attrs o.text _ _ (Kd.R_C (Kd.R_below hr_101 (bt hb_106 hb_109))) (by omega)) ?_
        rintro e w_112 ⟨A_110, c_111, rfl, hl_114, hr_115, hb_113⟩; refine ⟨_, rfl, ?_⟩
        refine XL_nil ?_
        refine ⟨(Blk.below hk_103 (bt (bt hb_106 hb_109) hb_113)), ?_⟩
        refine XG_mid (fuel' := 9) 11 #[true, true, true, true, true, true, true, true, true, true, true, true, false, false, false, false, false, false, false, false, false] _ rfl (by kernel_rfl) (by kernel_rfl) rfl ?_
        have hB_116 : Below w.heap.size w w_112 := (bt (bt (bt (bsp HB hS_100 ((bt (bt hb_2 hb_7) hb_9)).size) hb_106) hb_109) hb_113)
        refine XL_call 60 rfl rfl rfl ent60 [.agg #[.int .i64 ((mkT o.text o.attrs).kind), .string ((mkT o.text o.attrs).text), .int .i64 ((mkT o.text o.attrs).vk), .int .i64 ((mkT o.text o.attrs).vn), .string ((mkT o.text o.attrs).vt), .int .i64 ((mkT o.text o.attrs).count), .slice A_110 ((mkT o.text o.attrs).attrs.length) c_111], .agg #[.int .i64 o.kind, .string o.text, .int .i64 o.vk, .int .i64 o.vn, .string o.vt, .int .i64 o.count, .slice A o.attrs.length i0]] (by kernel_rfl) (r4same_any (mkT o.text o.attrs) o _ _ _ _ _ (Kd.R_C hr_115) (Kd.C_below hA hB_116)) ?_
        rintro e w_117 ⟨rfl, hb_118⟩; refine ⟨_, rfl, ?_⟩
        rw [show opEqP (mkT o.text o.attrs) o = true from (opEqP_iff _ _).2 (refuse_text c_48 hk_49).1.symm]
        refine XL_nil ?_
        have hB_119 : Below w_99.heap.size w_99 w_117 := (bt (bt (bt hb_106 hb_109) hb_113) hb_118)
        refine ⟨(Blk.below hk_103 hB_119), ?_⟩
        refine XG_run (fuel' := 4) (Blk.below hk_103 hB_119) [12, 13, 14, 16, 17] [(181, .load (.slice A o.attrs.length i0))] [.bool true, .bool true, .iface 51 (.agg #[.slice A_57 o.attrs.length c_58, .string o.text, .int .i64 ((U.sc o.text).length : Int)]), .pointer (some ⟨w.heap.size, 6, none⟩), .slice A o.attrs.length i0] #[true, true, true, true, true, true, true, true, true, true, true, true, true, true, true, false, true, true, false, false, false] [(177, .bool true), (178, .iface 51 (.agg #[.slice A_57 o.attrs.length c_58, .string o.text, .int .i64 ((U.sc o.text).length : Int)])), (181, .slice A o.attrs.length i0)] (fun w_ => [LoadsAs Tryd.prog 31 (⟨w.heap.size, 6, none⟩) (.slice A o.attrs.length i0) w_]) (fun _ _ _ _ h => h) (fun w_ => by kernel_rfl) rfl (fun w_ hC_ => ⟨loads1 rfl (Blk.cell hC_ 6 _ rfl), trivial⟩) ?_
        refine XG_mid (fuel' := 3) 15 #[true, true, true, true, true, true, true, true, true, true, true, true, true, true, true, true, true, true, false, false, false] _ rfl (by kernel_rfl) (by kernel_rfl) rfl ?_
        refine XL_inv 97 #[.agg #[.slice A_57 o.attrs.length c_58]] rfl rfl (by kernel_rfl) (by kernel_rfl) (attributes_any _ _ o.attrs _ (Kd.R_C (Kd.R_below hr_101 hB_119)) (by omega)) ?_
        rintro e w_122 ⟨A_120, c_121, rfl, hl_124, hr_125, hb_123⟩; refine ⟨_, rfl, ?_⟩
        refine XL_nil ?_
        refine ⟨(Blk.below hk_103 (bt hB_119 hb_123)), ?_⟩
        refine XG_mid (fuel' := 2) 18 #[true, true, true, true, true, true, true, true, true, true, true, true, true, true, true, true, true, true, true, false, false] _ rfl (by kernel_rfl) (by kernel_rfl) rfl ?_
        refine XL_call 65 rfl rfl rfl ent65 [.slice A_120 o.attrs.length c_121, .slice A o.attrs.length i0] (by kernel_rfl) (sattrs_any _ _ _ _ o.attrs o.attrs _ (Kd.R_C hr_125) (Kd.C_below hA (bt (bt hB_116 hb_118) hb_123))) ?_
        rintro e w_126 ⟨rfl, hb_127⟩; refine ⟨_, rfl, ?_⟩
        rw [show decide (o.attrs = o.attrs) = true from decide_eq_true rfl]
        refine XL_nil ?_
        refine ⟨(Blk.below hk_103 (bt (bt hB_119 hb_123) hb_127)), ?_⟩
        refine XG_run (fuel' := 0) (Blk.below hk_103 (bt (bt hB_119 hb_123) hb_127)) [19, 20] [] [.bool true, .bool true] #[true, true, true, true, true, true, true, true, true, true, true, true, true, true, true, true, true, true, true, true, true] [(2, .bool true)] (fun w_ => []) (fun _ _ _ _ h => h) (fun w_ => by kernel_rfl) rfl (fun w_ hC_ => trivial) ?_
        refine XG_done (by kernel_rfl) ?_
        refine X_ret ?_
        refine RX.ret_ok (P := Tryd.prog) (fn := Tryd.f14) (N := 184) (R := R_) [.bool true] (by kernel_rfl) (hR_ _ _ ?_)
        have hB_128 : Below w.heap.size w w_126 := (bt (bt (bt hB_116 hb_118) hb_123) hb_127)
        exact ⟨rfl, hB_128⟩
    · have hp_129 := hM_31 c_48
      rw [pOf_emb hk_49] at hp_129
      obtain ⟨A_130, c_131, e_132, hl_133, hR_134⟩ := kPiece_embM hp_129
      obtain rfl := (List.cons.inj e_132).1
      have hp_135 := hM_43 c_48
      rw [pOf_emb hk_49] at hp_135
      obtain ⟨A_136, c_137, e_138, hl_139, hR_140⟩ := kPiece_embM hp_135
      obtain rfl := (List.cons.inj e_138).1
      have hval : o.val = (o.vk, o.vn, o.vt) := rfl
      try rw [hval]
      have hne_141 := rrne_new (RX.Kd.R_lt hR_134) (Nat.le_refl _) (RX.Kd.R_ge hR_140)
      have hB_142 : Below w_1.heap.size w_1 w_45 := (bt (bt (bt (bt hb_7 hb_9) hb_20) hb_34) hb_46)
      refine XL_run 1 [(35, .load (.agg #[.int .i64 o.kind, .string o.text, .int .i64 o.vk, .int .i64 o.vn, .string o.vt, .int .i64 o.count, .slice A o.attrs.length i0]))] [(1, .pointer (some ⟨w.heap.size, 0, none⟩)), (3, .slice A_15 1 c_16), (4, .iface 56 (.agg #[.slice A_130 o.attrs.length c_131, .string o.text, valV (o.vk, o.vn, o.vt)])), (5, errV es (refuseP o)), (6, .iface 56 (.agg #[.slice A_136 o.attrs.length c_137, .string o.text, valV (o.vk, o.vn, o.vt)])), (35, .agg #[.int .i64 o.kind, .string o.text, .int .i64 o.vk, .int .i64 o.vn, .string o.vt, .int .i64 o.count, .slice A o.attrs.length i0])] w_45 [LoadsAs Tryd.prog 33 (⟨w.heap.size, 0, none⟩) (.agg #[.int .i64 o.kind, .string o.text, .int .i64 o.vk, .int .i64 o.vn, .string o.vt, .int .i64 o.count, .slice A o.attrs.length i0]) w_45] (by kernel_rfl) ⟨loadsB rfl rfl (Blk.below hk_3 hB_142) 0 ⟨by kernel_rfl, by kernel_rfl⟩, trivial⟩ ?_
      refine XL_call 46 rfl rfl rfl ent46 [.agg #[.int .i64 o.kind, .string o.text, .int .i64 o.vk, .int .i64 o.vn, .string o.vt, .int .i64 o.count, .slice A o.attrs.length i0]] (by kernel_rfl) (r4refuse_any o _ _ _ (Kd.C_below hA (bt hB_47 hb_46)) hz (hT.below (bt hB_47 hb_46))) ?_
      rintro e w_143 ⟨rfl, hb_144⟩; refine ⟨_, rfl, ?_⟩
      refine XL_run 1 [(37, .eq (.bool false))] [(1, .pointer (some ⟨w.heap.size, 0, none⟩)), (3, .slice A_15 1 c_16), (4, .iface 56 (.agg #[.slice A_130 o.attrs.length c_131, .string o.text, valV (o.vk, o.vn, o.vt)])), (5, errV es (refuseP o)), (6, .iface 56 (.agg #[.slice A_136 o.attrs.length c_137, .string o.text, valV (o.vk, o.vn, o.vt)])), (37, .bool false)] w_143 [Value.bool (((refuseP o) : Int) != 0) = Value.bool false] (by kernel_rfl) ⟨congrArg Value.bool (bneF ((by omega))), trivial⟩ ?_
      refine XL_nil ?_
      refine X_cond false rfl ?_
      refine X_skip ?_
      refine X_seq ?_
      refine X_seq ?_
      refine X_region ?_
      refine XL_run 1 [] [(1, .pointer (some ⟨w.heap.size, 0, none⟩)), (3, .slice A_15 1 c_16), (4, .iface 56 (.agg #[.slice A_130 o.attrs.length c_131, .string o.text, valV (o.vk, o.vn, o.vt)])), (6, .iface 56 (.agg #[.slice A_136 o.attrs.length c_137, .string o.text, valV (o.vk, o.vn, o.vt)])), (44, errV es (refuseP o))] w_143 [] (by kernel_rfl) trivial ?_
      rw [show errV es (refuseP o) = .nilIface from by rw [c_48]; rfl]
      refine XL_run 9 [] [(1, .pointer (some ⟨w.heap.size, 0, none⟩)), (3, .slice A_15 1 c_16), (4, .iface 56 (.agg #[.slice A_130 o.attrs.length c_131, .string o.text, valV (o.vk, o.vn, o.vt)])), (6, .iface 56 (.agg #[.slice A_136 o.attrs.length c_137, .string o.text, valV (o.vk, o.vn, o.vt)])), (53, .bool false)] w_143 [] (by kernel_rfl) trivial ?_
      refine XL_nil ?_
      refine X_cond false rfl ?_
      refine X_skip ?_
      refine X_seq ?_
      refine X_region ?_
      refine XL_run 1 [(54, .load (.agg #[.int .i64 o.kind, .string o.text, .int .i64 o.vk, .int .i64 o.vn, .string o.vt, .int .i64 o.count, .slice A o.attrs.length i0]))] [(1, .pointer (some ⟨w.heap.size, 0, none⟩)), (3, .slice A_15 1 c_16), (4, .iface 56 (.agg #[.slice A_130 o.attrs.length c_131, .string o.text, valV (o.vk, o.vn, o.vt)])), (6, .iface 56 (.agg #[.slice A_136 o.attrs.length c_137, .string o.text, valV (o.vk, o.vn, o.vt)])), (54, .agg #[.int .i64 o.kind, .string o.text, .int .i64 o.vk, .int .i64 o.vn, .string o.vt, .int .i64 o.count, .slice A o.attrs.length i0])] w_143 [LoadsAs Tryd.prog 33 (⟨w.heap.size, 0, none⟩) (.agg #[.int .i64 o.kind, .string o.text, .int .i64 o.vk, .int .i64 o.vn, .string o.vt, .int .i64 o.count, .slice A o.attrs.length i0]) w_143] (by kernel_rfl) ⟨loadsB rfl rfl (Blk.below hk_3 (bt hB_142 hb_144)) 0 ⟨by kernel_rfl, by kernel_rfl⟩, trivial⟩ ?_
      refine XL_call 54 rfl rfl rfl ent54 [.agg #[.int .i64 o.kind, .string o.text, .int .i64 o.vk, .int .i64 o.vn, .string o.vt, .int .i64 o.count, .slice A o.attrs.length i0]] (by kernel_rfl) (r4len_any o _ _ _ (Kd.C_below hA (bt (bt hB_47 hb_46) hb_144)) hz) ?_
      rintro e w_145 ⟨rfl, hb_146⟩; refine ⟨_, rfl, ?_⟩
      refine XL_run 1 [] [(1, .pointer (some ⟨w.heap.size, 0, none⟩)), (3, .slice A_15 1 c_16), (4, .iface 56 (.agg #[.slice A_130 o.attrs.length c_131, .string o.text, valV (o.vk, o.vn, o.vt)])), (6, .iface 56 (.agg #[.slice A_136 o.attrs.length c_137, .string o.text, valV (o.vk, o.vn, o.vt)])), (8, .int .i64 (len4 o))] w_145 [] (by kernel_rfl) trivial ?_
      refine XL_nil ?_
      refine X_seq ?_
      refine X_seq ?_
      refine X_region ?_
      refine XL_run 1 [] [(1, .pointer (some ⟨w.heap.size, 0, none⟩)), (3, .slice A_15 1 c_16), (6, .iface 56 (.agg #[.slice A_136 o.attrs.length c_137, .string o.text, valV (o.vk, o.vn, o.vt)])), (8, .int .i64 (len4 o)), (56, .iface 56 (.agg #[.slice A_130 o.attrs.length c_131, .string o.text, valV (o.vk, o.vn, o.vt)]))] w_145 [] (by kernel_rfl) trivial ?_
      refine XL_nil ?_
      refine X_block ?_
      refine X_seq ?_
      refine X_region ?_
      refine XL_run 3 [] [(1, .pointer (some ⟨w.heap.size, 0, none⟩)), (3, .slice A_15 1 c_16), (6, .iface 56 (.agg #[.slice A_136 o.attrs.length c_137, .string o.text, valV (o.vk, o.vn, o.vt)])), (8, .int .i64 (len4 o)), (56, .iface 56 (.agg #[.slice A_130 o.attrs.length c_131, .string o.text, valV (o.vk, o.vn, o.vt)])), (58, .bool false), (59, .agg #[.slice none 0 0, .string ByteArray.empty, .int .i64 0])] w_145 [] (by kernel_rfl) trivial ?_
      refine XL_nil ?_
      refine X_cond false rfl ?_
      refine X_seq ?_
      refine X_region ?_
      refine XL_run 3 [] [(1, .pointer (some ⟨w.heap.size, 0, none⟩)), (3, .slice A_15 1 c_16), (6, .iface 56 (.agg #[.slice A_136 o.attrs.length c_137, .string o.text, valV (o.vk, o.vn, o.vt)])), (8, .int .i64 (len4 o)), (56, .iface 56 (.agg #[.slice A_130 o.attrs.length c_131, .string o.text, valV (o.vk, o.vn, o.vt)])), (100, .bool true), (101, .agg #[.slice A_130 o.attrs.length c_131, .string o.text, valV (o.vk, o.vn, o.vt)])] w_145 [] (by kernel_rfl) trivial ?_
      refine XL_nil ?_
      refine X_cond true rfl ?_
      refine X_seq ?_
      refine X_region ?_
      by_cases c_147 : o.vk = 1
      · rw [valV_1 (v := (o.vk, o.vn, o.vt)) c_147]
        refine XL_run 1 [] [(1, .pointer (some ⟨w.heap.size, 0, none⟩)), (3, .slice A_15 1 c_16), (6, .iface 56 (.agg #[.slice A_136 o.attrs.length c_137, .string o.text, .iface 133 (.bool (decide (o.vn = 1)))])), (8, .int .i64 (len4 o)), (11, .pointer (some ⟨w_145.heap.size, 0, none⟩)), (101, .agg #[.slice A_130 o.attrs.length c_131, .string o.text, .iface 133 (.bool (decide (o.vn = 1)))])] (w_145.alloc (.cells #[.slice none 0 0, .string ByteArray.empty, .nilIface] 56)) [] (by kernel_rfl) trivial ?_
        obtain ⟨w_148, hw_152, hb_149, hk_150, hz_151⟩ := new_world w_145 #[.slice none 0 0, .string ByteArray.empty, .nilIface] 56
        rw [hw_152]
        refine XL_store (v := .agg #[.slice A_130 o.attrs.length c_131, .string o.text, .iface 133 (.bool (decide (o.vn = 1)))]) rfl rfl rfl (by kernel_rfl) hk_150 0 [.slice A_130 o.attrs.length c_131, .string o.text, .iface 133 (.bool (decide (o.vn = 1)))] #[.slice A_130 o.attrs.length c_131, .string o.text, .iface 133 (.bool (decide (o.vn = 1)))] ⟨by kernel_rfl, rfl, by kernel_rfl⟩ ⟨by kernel_rfl, by kernel_rfl⟩ (Nat.le_of_ble_eq_true (by kernel_rfl)) (fun w_153 hg_154 hk_155 hz_156 => ?_)
        have hB_157 : Below w_8.heap.size w_8 w_145 := (bt (bt (bt (bt hb_20 hb_34) hb_46) hb_144) hb_146)
        refine XL_nil ?_
        refine X_seq ?_
        refine X_seq ?_
        refine X_gen (S := fun w_ => RX.Blk w_ w.heap.size 33 #[.int .i64 o.kind, .string o.text, .int .i64 o.vk, .int .i64 o.vn, .string o.vt, .int .i64 o.count, .slice A o.attrs.length i0] ∧ RX.Blk w_ w_145.heap.size 56 #[.slice A_130 o.attrs.length c_131, .string o.text, .iface 133 (.bool (decide (o.vn = 1)))]) [] 41 #[false, false, false, false, false, false, false, false, false, false, false, false, false, false, false, false, false, false, false, false, false, false, false, false, false, false, false, false, false, false, false, false, false, false, false, false, false, false, false, false, false] (by kernel_rfl) (by kernel_rfl) (by kernel_rfl) (fun wd_158 hb_159 hh_160 => ?_)
        have hB_161 : Below w_1.heap.size w_1 wd_158 := (bt (bg (bt (bt (bt hB_142 hb_144) hb_146) hb_149) hg_154 ((bt (bt hB_142 hb_144) hb_146)).size) hb_159)
        refine XG_run (fuel' := 21) ⟨(Blk.below hk_3 hB_161), (Blk.below hk_155 hb_159)⟩ [0, 1, 2, 3, 4, 5, 6, 7, 8, 9, 10, 11, 12, 13, 14, 15, 16, 17, 19, 20] [(103, .load (.int .i64 o.kind)), (104, .eq (.bool false)), (107, .load (.string o.text)), (109, .load (.string o.text)), (110, .eq (.bool false)), (114, .load (.iface 133 (.bool (decide (o.vn = 1))))), (119, .load (.iface 133 (.bool (decide (o.vn = 1))))), (122, .load (.agg #[.int .i64 o.vk, .int .i64 o.vn, .string o.vt]))] [.pointer (some ⟨w.heap.size, 0, none⟩), .int .i64 o.kind, .bool false, .bool false, .pointer (some ⟨w_145.heap.size, 1, none⟩), .string o.text, .pointer (some ⟨w.heap.size, 1, none⟩), .string o.text, .bool false, .bool false, .bool false, .pointer (some ⟨w_145.heap.size, 2, none⟩), .iface 133 (.bool (decide (o.vn = 1))), .bool false, .bool false, .bool false, .pointer (some ⟨w_145.heap.size, 2, none⟩), .iface 133 (.bool (decide (o.vn = 1))), .pointer (some ⟨w.heap.size, 2, none⟩), .agg #[.int .i64 o.vk, .int .i64 o.vn, .string o.vt]] #[true, true, true, true, true, true, true, true, true, true, true, true, true, true, true, true, true, true, false, true, true, false, false, false, false, false, false, false, false, false, false, false, false, false, false, false, false, false, false, false, false] [(1, .pointer (some ⟨w.heap.size, 0, none⟩)), (3, .slice A_15 1 c_16), (6, .iface 56 (.agg #[.slice A_136 o.attrs.length c_137, .string o.text, .iface 133 (.bool (decide (o.vn = 1)))])), (8, .int .i64 (len4 o)), (11, .pointer (some ⟨w_145.heap.size, 0, none⟩)), (117, .bool false), (119, .iface 133 (.bool (decide (o.vn = 1)))), (122, .agg #[.int .i64 o.vk, .int .i64 o.vn, .string o.vt])] (fun w_ => [LoadsAs Tryd.prog 3 (⟨w.heap.size, 0, none⟩) (.int .i64 o.kind) w_, Value.bool (o.kind != 2) = Value.bool false, LoadsAs Tryd.prog 9 (⟨w_145.heap.size, 1, none⟩) (.string o.text) w_, LoadsAs Tryd.prog 9 (⟨w.heap.size, 1, none⟩) (.string o.text) w_, Value.bool (!o.text.toList == o.text.toList) = Value.bool false, LoadsAs Tryd.prog 54 (⟨w_145.heap.size, 2, none⟩) (.iface 133 (.bool (decide (o.vn = 1)))) w_, LoadsAs Tryd.prog 54 (⟨w_145.heap.size, 2, none⟩) (.iface 133 (.bool (decide (o.vn = 1)))) w_, LoadsAs Tryd.prog 30 (⟨w.heap.size, 2, none⟩) (.agg #[.int .i64 o.vk, .int .i64 o.vn, .string o.vt]) w_]) (fun _ _ _ _ h => h) (fun w_ => by kernel_rfl) rfl (fun w_ hC_ => ⟨loads1 rfl (Blk.cell hC_.1 0 _ rfl), congrArg Value.bool (bneF (hk_49)), loads1 rfl (Blk.cell hC_.2 1 _ rfl), loads1 rfl (Blk.cell hC_.1 1 _ rfl), congrArg Value.bool (strNeF (rfl)), loads1 rfl (Blk.cell hC_.2 2 _ rfl), loads1 rfl (Blk.cell hC_.2 2 _ rfl), loadsB rfl rfl hC_.1 2 ⟨by kernel_rfl, by kernel_rfl⟩, trivial⟩) ?_
        refine XG_mid (fuel' := 20) 18 #[true, true, true, true, true, true, true, true, true, true, true, true, true, true, true, true, true, true, true, true, true, false, false, false, false, false, false, false, false, false, false, false, false, false, false, false, false, false, false, false, false] _ rfl (by kernel_rfl) (by kernel_rfl) rfl ?_
        refine XL_inv 174 #[.bool (decide (o.vn = 1))] rfl rfl (by kernel_rfl) (by kernel_rfl) (flagPlain_any o.vk o.vn o.vt _ (refuse_val c_48 hk_49) c_147) ?_
        rintro e w_162 ⟨rfl, hb_163⟩; refine ⟨_, rfl, ?_⟩
        refine XL_nil ?_
        refine ⟨⟨(Blk.below hk_3 (bt hB_161 hb_163)), (Blk.below hk_155 (bt hb_159 hb_163))⟩, ?_⟩
        refine XG_run (fuel' := 12) ⟨(Blk.below hk_3 (bt hB_161 hb_163)), (Blk.below hk_155 (bt hb_159 hb_163))⟩ [21, 22, 23, 24, 25, 27, 28, 29] [(123, .as (.bool false)), (127, .load (.iface 133 (.bool (decide (o.vn = 1))))), (131, .load (.int .i64 o.vk))] [.bool false, .bool false, .bool false, .pointer (some ⟨w_145.heap.size, 2, none⟩), .iface 133 (.bool (decide (o.vn = 1))), .pointer (some ⟨w.heap.size, 2, none⟩), .pointer (some ⟨w.heap.size, 2, none⟩), .int .i64 o.vk] #[true, true, true, true, true, true, true, true, true, true, true, true, true, true, true, true, true, true, true, true, true, true, true, true, true, true, false, true, true, true, false, false, false, false, false, false, false, false, false, false, false] [(1, .pointer (some ⟨w.heap.size, 0, none⟩)), (3, .slice A_15 1 c_16), (6, .iface 56 (.agg #[.slice A_136 o.attrs.length c_137, .string o.text, .iface 133 (.bool (decide (o.vn = 1)))])), (8, .int .i64 (len4 o)), (11, .pointer (some ⟨w_145.heap.size, 0, none⟩)), (125, .bool false), (127, .iface 133 (.bool (decide (o.vn = 1)))), (131, .int .i64 o.vk)] (fun w_ => [RunsAs Tryd.prog [(120, .agg #[.int .i64 o.vk, .int .i64 o.vn, .string o.vt]), (122, .agg #[.int .i64 o.vk, .int .i64 o.vn, .string o.vt])] (Go.Op.binOp Go.BinOp.neq 30 (Go.Operand.tmp 120) (Go.Operand.tmp 122) 30) 4 (.bool false) w_, LoadsAs Tryd.prog 54 (⟨w_145.heap.size, 2, none⟩) (.iface 133 (.bool (decide (o.vn = 1)))) w_, LoadsAs Tryd.prog 3 (⟨w.heap.size, 2, none⟩) (.int .i64 o.vk) w_]) (fun _ _ _ _ h => h) (fun w_ => by kernel_rfl) rfl (fun w_ hC_ => ⟨runs_bin rfl rfl (run_eqGuard_agg _ _ _ _ _ _ _ (by kernel_rfl)) (by have h := plain_neq (o.vk, o.vn, o.vt) (o.vk, o.vn, o.vt) w_; rw [show ple (o.vk, o.vn, o.vt) (o.vk, o.vn, o.vt) = true from (ple_iff _ _).2 rfl] at h; exact h), loads1 rfl (Blk.cell hC_.2 2 _ rfl), loads1 rfl (Blk.cell hC_.1 2 _ rfl), trivial⟩) ?_
        refine XG_mid (fuel' := 11) 26 #[true, true, true, true, true, true, true, true, true, true, true, true, true, true, true, true, true, true, true, true, true, true, true, true, true, true, true, true, true, true, false, false, false, false, false, false, false, false, false, false, false] _ rfl (by kernel_rfl) (by kernel_rfl) rfl ?_
        refine XL_inv 173 #[.bool (decide (o.vn = 1))] rfl rfl (by kernel_rfl) (by kernel_rfl) (flagKind_any _ _) ?_
        rintro e w_164 ⟨rfl, hb_165⟩; refine ⟨_, rfl, ?_⟩
        refine XL_nil ?_
        refine ⟨⟨(Blk.below hk_3 (bt (bt hB_161 hb_163) hb_165)), (Blk.below hk_155 (bt (bt hb_159 hb_163) hb_165))⟩, ?_⟩
        refine XG_run (fuel' := 3) ⟨(Blk.below hk_3 (bt (bt hB_161 hb_163) hb_165)), (Blk.below hk_155 (bt (bt hb_159 hb_163) hb_165))⟩ [30, 31, 32, 33, 34, 35, 36, 37] [(132, .eq (.bool false)), (137, .load (.slice A_130 o.attrs.length c_131)), (139, .load (.slice A o.attrs.length i0))] [.bool false, .bool false, .bool false, .pointer (some ⟨w_145.heap.size, 0, none⟩), .pointer (some ⟨w_145.heap.size, 0, none⟩), .slice A_130 o.attrs.length c_131, .pointer (some ⟨w.heap.size, 6, none⟩), .slice A o.attrs.length i0] #[true, true, true, true, true, true, true, true, true, true, true, true, true, true, true, true, true, true, true, true, true, true, true, true, true, true, true, true, true, true, true, true, true, true, true, true, true, true, false, false, false] [(1, .pointer (some ⟨w.heap.size, 0, none⟩)), (3, .slice A_15 1 c_16), (6, .iface 56 (.agg #[.slice A_136 o.attrs.length c_137, .string o.text, .iface 133 (.bool (decide (o.vn = 1)))])), (8, .int .i64 (len4 o)), (11, .pointer (some ⟨w_145.heap.size, 0, none⟩)), (134, .bool false), (137, .slice A_130 o.attrs.length c_131), (139, .slice A o.attrs.length i0)] (fun w_ => [Value.bool ((1 : Int) != o.vk) = Value.bool false, LoadsAs Tryd.prog 31 (⟨w_145.heap.size, 0, none⟩) (.slice A_130 o.attrs.length c_131) w_, LoadsAs Tryd.prog 31 (⟨w.heap.size, 6, none⟩) (.slice A o.attrs.length i0) w_]) (fun _ _ _ _ h => h) (fun w_ => by kernel_rfl) rfl (fun w_ hC_ => ⟨congrArg Value.bool (bneF ((c_147.symm))), loads1 rfl (Blk.cell hC_.2 0 _ rfl), loads1 rfl (Blk.cell hC_.1 6 _ rfl), trivial⟩) ?_
        refine XG_mid (fuel' := 2) 38 #[true, true, true, true, true, true, true, true, true, true, true, true, true, true, true, true, true, true, true, true, true, true, true, true, true, true, true, true, true, true, true, true, true, true, true, true, true, true, true, false, false] _ rfl (by kernel_rfl) (by kernel_rfl) rfl ?_
        have hB_166 : Below w_33.heap.size w_33 w_164 := (bt (bt (bt (bg (bt (bt (bt hb_46 hb_144) hb_146) hb_149) hg_154 ((bt (bt hb_46 hb_144) hb_146)).size) hb_159) hb_163) hb_165)
        have hB_167 : Below w.heap.size w w_164 := (bt (bt (bt (bg (bt (bt (bt (bt hB_47 hb_46) hb_144) hb_146) hb_149) hg_154 ((bt (bt (bt hB_47 hb_46) hb_144) hb_146)).size) hb_159) hb_163) hb_165)
        refine XL_call 65 rfl rfl rfl ent65 [.slice A_130 o.attrs.length c_131, .slice A o.attrs.length i0] (by kernel_rfl) (sattrs_any _ _ _ _ o.attrs o.attrs _ (Kd.R_C (Kd.R_below hR_134 hB_166)) (Kd.C_below hA hB_167)) ?_
        rintro e w_168 ⟨rfl, hb_169⟩; refine ⟨_, rfl, ?_⟩
        rw [show decide (o.attrs = o.attrs) = true from decide_eq_true rfl]
        refine XL_nil ?_
        have hB_170 : Below w_1.heap.size w_1 w_168 := (bt (bt (bt hB_161 hb_163) hb_165) hb_169)
        have hB_171 : Below w_153.heap.size w_153 w_168 := (bt (bt (bt hb_159 hb_163) hb_165) hb_169)
        refine ⟨⟨(Blk.below hk_3 hB_170), (Blk.below hk_155 hB_171)⟩, ?_⟩
        refine XG_run (fuel' := 0) ⟨(Blk.below hk_3 hB_170), (Blk.below hk_155 hB_171)⟩ [39, 40] [] [.bool false, .bool false] #[true, true, true, true, true, true, true, true, true, true, true, true, true, true, true, true, true, true, true, true, true, true, true, true, true, true, true, true, true, true, true, true, true, true, true, true, true, true, true, true, true] [(1, .pointer (some ⟨w.heap.size, 0, none⟩)), (3, .slice A_15 1 c_16), (6, .iface 56 (.agg #[.slice A_136 o.attrs.length c_137, .string o.text, .iface 133 (.bool (decide (o.vn = 1)))])), (8, .int .i64 (len4 o)), (11, .pointer (some ⟨w_145.heap.size, 0, none⟩)), (142, .bool false)] (fun w_ => []) (fun _ _ _ _ h => h) (fun w_ => by kernel_rfl) rfl (fun w_ hC_ => trivial) ?_
        refine XG_done (by kernel_rfl) ?_
        refine X_cond false rfl ?_
        refine X_skip ?_
        refine X_seq ?_
        refine X_region ?_
        refine XL_run 5 [(145, .load (.slice A_130 o.attrs.length c_131))] [(1, .pointer (some ⟨w.heap.size, 0, none⟩)), (3, .slice A_15 1 c_16), (6, .iface 56 (.agg #[.slice A_136 o.attrs.length c_137, .string o.text, .iface 133 (.bool (decide (o.vn = 1)))])), (8, .int .i64 (len4 o)), (11, .pointer (some ⟨w_145.heap.size, 0, none⟩)), (146, .int .i64 (o.attrs.length : Int)), (147, .int .i64 0)] w_168 [LoadsAs Tryd.prog 31 (⟨w_145.heap.size, 0, none⟩) (.slice A_130 o.attrs.length c_131) w_168] (by kernel_rfl) ⟨loads1 rfl (Blk.cell (Blk.below hk_155 hB_171) 0 _ rfl), trivial⟩ ?_
        refine XL_nil ?_
        refine X_block ?_
        have hne_172 := rne_new (RX.Kd.R_lt hR_134) (Nat.le_trans (Nat.le_trans hb_46.size hb_144.size) hb_146.size)
        have hne_173 : ∀ k, A_130.map (·.block) = some k → k ≠ w.heap.size := fun k_ hk_ e_ => by have h_ := RX.Kd.R_ge hR_134 k_ hk_; have h2_ := Blk.lt hk_3; have h3_ := ((bt (bt hb_7 hb_9) hb_20)).size; omega
        have hB_174 : Below w_45.heap.size w_45 w_168 := (bt (bt (bt (bt (bg (bt (bt hb_144 hb_146) hb_149) hg_154 ((bt hb_144 hb_146)).size) hb_159) hb_163) hb_165) hb_169)
        have hB_175 : Below w_19.heap.size w_19 w_168 := (bt (bt (bt (bt (bg (bt (bt (bt (bt hb_34 hb_46) hb_144) hb_146) hb_149) hg_154 ((bt (bt (bt hb_34 hb_46) hb_144) hb_146)).size) hb_159) hb_163) hb_165) hb_169)
        refine X_loop (ι := Nat × List At) (fun ⟨i, zs⟩ => [(1, .pointer (some ⟨w.heap.size, 0, none⟩)), (3, .slice A_15 1 c_16), (6, .iface 56 (.agg #[.slice A_136 o.attrs.length c_137, .string o.text, .iface 133 (.bool (decide (o.vn = 1)))])), (8, .int .i64 (len4 o)), (11, .pointer (some ⟨w_145.heap.size, 0, none⟩)), (146, .int .i64 (o.attrs.length : Int)), (147, .int .i64 (i : Int))]) (fun ⟨i, zs⟩ wl => i ≤ o.attrs.length ∧ kAttr.R 79 wl w_19.heap.size (OkFrom w_19.heap.size) (.slice A_130 o.attrs.length c_131) zs ∧ kAttr.R 79 wl w_33.heap.size (OkFrom w_33.heap.size) (.slice A_136 o.attrs.length c_137) o.attrs ∧ RX.Blk wl w.heap.size 33 #[.int .i64 o.kind, .string o.text, .int .i64 o.vk, .int .i64 o.vn, .string o.vt, .int .i64 o.count, .slice A o.attrs.length i0] ∧ RX.Blk wl w_145.heap.size 56 #[.slice A_130 o.attrs.length c_131, .string o.text, .iface 133 (.bool (decide (o.vn = 1)))] ∧ w_19.heap.size ≤ wl.heap.size ∧ w_33.heap.size ≤ wl.heap.size ∧ Below w.heap.size w wl ∧ Below w_19.heap.size w_19 wl) (fun ⟨i, zs⟩ => o.attrs.length - i) (0, o.attrs) ⟨by omega, (Kd.R_below hR_134 (bt hB_166 hb_169)), (Kd.R_below hR_140 hB_174), (Blk.below hk_3 hB_170), (Blk.below hk_155 hB_171), (hB_175).size, ((bt hB_166 hb_169)).size, (bt hB_167 hb_169), hB_175⟩ (by kernel_rfl) ?_
        rintro ⟨i, zs⟩ wl ⟨hi, hra, hrb, hk1, hk2, hle_A_130, hle_A_136, HB, HB2⟩
        refine X_seq ?_
        refine X_region ?_
        by_cases c_176 : (i : Int) < (o.attrs.length : Int)
        · refine XL_run 1 [(148, .eq (.bool true))] [(1, .pointer (some ⟨w.heap.size, 0, none⟩)), (3, .slice A_15 1 c_16), (6, .iface 56 (.agg #[.slice A_136 o.attrs.length c_137, .string o.text, .iface 133 (.bool (decide (o.vn = 1)))])), (8, .int .i64 (len4 o)), (11, .pointer (some ⟨w_145.heap.size, 0, none⟩)), (146, .int .i64 (o.attrs.length : Int)), (147, .int .i64 (i : Int)), (148, .bool true)] wl [Value.bool (decide ((i : Int) < (o.attrs.length : Int))) = Value.bool true] (by kernel_rfl) ⟨congrArg Value.bool (decide_eq_true (c_176)), trivial⟩ ?_
          refine XL_nil ?_
          refine X_seq ?_
          refine X_cond true rfl ?_
          refine X_skip ?_
          refine X_seq ?_
          refine X_block ?_
          refine X_seq ?_
          refine X_region ?_
          refine XL_run 2 [] [(1, .pointer (some ⟨w.heap.size, 0, none⟩)), (3, .slice A_15 1 c_16), (6, .iface 56 (.agg #[.slice A_136 o.attrs.length c_137, .string o.text, .iface 133 (.bool (decide (o.vn = 1)))])), (8, .int .i64 (len4 o)), (11, .pointer (some ⟨w_145.heap.size, 0, none⟩)), (12, .int .i64 (i : Int)), (146, .int .i64 (o.attrs.length : Int)), (147, .int .i64 (i : Int))] wl [] (by kernel_rfl) trivial ?_
          refine XL_nil ?_
          refine X_region ?_
          refine XL_run 5 [(152, .load (.slice A_130 o.attrs.length c_131))] [(1, .pointer (some ⟨w.heap.size, 0, none⟩)), (3, .slice A_15 1 c_16), (6, .iface 56 (.agg #[.slice A_136 o.attrs.length c_137, .string o.text, .iface 133 (.bool (decide (o.vn = 1)))])), (8, .int .i64 (len4 o)), (11, .pointer (some ⟨w_145.heap.size, 0, none⟩)), (146, .int .i64 (o.attrs.length : Int)), (147, .int .i64 (i : Int)), (152, .slice A_130 o.attrs.length c_131), (153, .int .i64 (i : Int)), (154, .agg #[.string (⟨#[115, 112, 111, 105, 108, 116]⟩ : ByteArray), .int .i64 0, .int .i64 0, .string ByteArray.empty])] wl [LoadsAs Tryd.prog 31 (⟨w_145.heap.size, 0, none⟩) (.slice A_130 o.attrs.length c_131) wl] (by kernel_rfl) ⟨loads1 rfl (Blk.cell hk2 0 _ rfl), trivial⟩ ?_
          obtain ⟨ad_177, ha_178, hc_179⟩ := Kd.atAttr (Kd.R_C hra) (i := (i : Int)) (by omega) (by omega)
          replace hc_179 : CellsAt wl (ad_177.add ((i : Int).toNat * 4)) [.string ((zs.getD i at0).1), .int .i64 ((zs.getD i at0).2.1), .int .i64 ((zs.getD i at0).2.2.1), .string ((zs.getD i at0).2.2.2)] := hc_179
          refine XL_run 1 [(155, .idx ad_177)] [(1, .pointer (some ⟨w.heap.size, 0, none⟩)), (3, .slice A_15 1 c_16), (6, .iface 56 (.agg #[.slice A_136 o.attrs.length c_137, .string o.text, .iface 133 (.bool (decide (o.vn = 1)))])), (8, .int .i64 (len4 o)), (11, .pointer (some ⟨w_145.heap.size, 0, none⟩)), (146, .int .i64 (o.attrs.length : Int)), (147, .int .i64 (i : Int)), (154, .agg #[.string (⟨#[115, 112, 111, 105, 108, 116]⟩ : ByteArray), .int .i64 0, .int .i64 0, .string ByteArray.empty]), (155, .pointer (some (ad_177.add ((i : Int).toNat * 4))))] wl [A_130 = some ad_177, (0 : Int) ≤ (i : Int), (i : Int) < (o.attrs.length : Int)] (by kernel_rfl) ⟨ha_178, (by omega), (by omega), trivial⟩ ?_
          refine XL_rowset kAttr rfl rfl rfl w_19.heap.size 79 (ad := ad_177) (i := (i : Int)) (v := .agg #[.string (⟨#[115, 112, 111, 105, 108, 116]⟩ : ByteArray), .int .i64 0, .int .i64 0, .string ByteArray.empty]) zs ((⟨#[115, 112, 111, 105, 108, 116]⟩ : ByteArray), 0, 0, ByteArray.empty) (by kernel_rfl) ha_178 hra (by omega) (by omega) [.string (⟨#[115, 112, 111, 105, 108, 116]⟩ : ByteArray), .int .i64 0, .int .i64 0, .string ByteArray.empty] ⟨by kernel_rfl, by kernel_rfl⟩ (by kernel_rfl) (kAttr_M _ _ _ _) ?_
          intro w_180 hr_181 hg_182 hl_183
          have hr_184 := RX.Kd.R_flat rfl hrb hg_182 hne_141
          have hk_185 := Blk.ne hk1 hg_182 hne_173
          have hk_186 := Blk.ne hk2 hg_182 hne_172
          refine XL_nil ?_
          refine X_region ?_
          refine XL_run 2 [(156, .eq (.int .i64 ((i : Int) + 1)))] [(1, .pointer (some ⟨w.heap.size, 0, none⟩)), (3, .slice A_15 1 c_16), (6, .iface 56 (.agg #[.slice A_136 o.attrs.length c_137, .string o.text, .iface 133 (.bool (decide (o.vn = 1)))])), (8, .int .i64 (len4 o)), (11, .pointer (some ⟨w_145.heap.size, 0, none⟩)), (146, .int .i64 (o.attrs.length : Int)), (147, .int .i64 ((i : Int) + 1))] w_180 [Value.int .i64 (IntKind.i64.wrap ((i : Int) + 1)) = Value.int .i64 ((i : Int) + 1)] (by kernel_rfl) ⟨wr_i64 (by omega) (by omega), trivial⟩ ?_
          refine XL_nil ?_
          have hB_187 : Below w.heap.size w w_180 := (bgo HB hg_182 hl_183 ((bt (bt (bt hb_2 hb_7) hb_9) hb_20)).size)
          refine ⟨(i + 1, (zs.set (i : Int).toNat ((⟨#[115, 112, 111, 105, 108, 116]⟩ : ByteArray), 0, 0, ByteArray.empty))), by kernel_rfl, ?_, ?_⟩
          · exact ⟨by omega, hr_181, hr_184, hk_185, hk_186, ((bgo HB2 hg_182 hl_183 (Nat.le_refl _))).size, (Nat.le_trans hle_A_136 hg_182.size), hB_187, (bgo HB2 hg_182 hl_183 (Nat.le_refl _))⟩
          · (try dsimp only); omega
        · refine XL_run 1 [(148, .eq (.bool false))] [(1, .pointer (some ⟨w.heap.size, 0, none⟩)), (3, .slice A_15 1 c_16), (6, .iface 56 (.agg #[.slice A_136 o.attrs.length c_137, .string o.text, .iface 133 (.bool (decide (o.vn = 1)))])), (8, .int .i64 (len4 o)), (11, .pointer (some ⟨w_145.heap.size, 0, none⟩)), (146, .int .i64 (o.attrs.length : Int)), (147, .int .i64 (i : Int)), (148, .bool false)] wl [Value.bool (decide ((i : Int) < (o.attrs.length : Int))) = Value.bool false] (by kernel_rfl) ⟨congrArg Value.bool (decide_eq_false (c_176)), trivial⟩ ?_
          refine XL_nil ?_
          refine X_seq ?_
          refine X_cond false rfl ?_
          refine X_exit ?_
          refine X_seq ?_
          refine X_region ?_
          refine XL_run 1 [] [(1, .pointer (some ⟨w.heap.size, 0, none⟩)), (6, .iface 56 (.agg #[.slice A_136 o.attrs.length c_137, .string o.text, .iface 133 (.bool (decide (o.vn = 1)))])), (8, .int .i64 (len4 o)), (157, .slice A_15 1 c_16)] wl [] (by kernel_rfl) trivial ?_
          refine XL_call 57 rfl rfl rfl ent57 [.slice A_15 1 c_16] (by kernel_rfl) (spoil_any A_15 c_16 [o] w_8 w_19 _ hR_18 HB2 (hb_20).size (Nat.le_of_ble_eq_true rfl)) ?_
          rintro e w_188 ⟨rfl, hS_189⟩; refine ⟨_, rfl, ?_⟩
          have hr_190 := Kd.R_spoilt hrb hS_189 (hb_34).size
          have hr_191 := Kd.R_spoilt hra hS_189 (Nat.le_refl _)
          have hk_192 := Spoilt.blkLo hS_189 hk1 (Nat.lt_of_lt_of_le (Blk.lt hk_3) ((bt hb_7 hb_9)).size)
          have hk_193 := Spoilt.blk hS_189 hk2 ((bt (bt (bt hb_34 hb_46) hb_144) hb_146)).size
          refine XL_nil ?_
          refine X_seq ?_
          refine X_region ?_
          refine XL_run 7 [] [(1, .pointer (some ⟨w.heap.size, 0, none⟩)), (6, .iface 56 (.agg #[.slice A_136 o.attrs.length c_137, .string o.text, .iface 133 (.bool (decide (o.vn = 1)))])), (8, .int .i64 (len4 o)), (14, .iface 56 (.agg #[.slice A_136 o.attrs.length c_137, .string o.text, .iface 133 (.bool (decide (o.vn = 1)))])), (15, .bool true)] w_188 [] (by kernel_rfl) trivial ?_
          refine XL_nil ?_
          refine X_seq ?_
          refine X_gen (S := fun w_ => RX.Blk w_ w.heap.size 33 #[.int .i64 o.kind, .string o.text, .int .i64 o.vk, .int .i64 o.vn, .string o.vt, .int .i64 o.count, .slice A o.attrs.length i0]) [] 21 #[false, false, false, false, false, false, false, false, false, false, false, false, false, false, false, false, false, false, false, false, false] (by kernel_rfl) (by kernel_rfl) (by kernel_rfl) (fun wd_194 hb_195 hh_196 => ?_)
          refine XG_run (fuel' := 17) (Blk.below hk_192 hb_195) [0, 1, 2, 4] [] [.bool true, .bool true, .iface 56 (.agg #[.slice A_136 o.attrs.length c_137, .string o.text, .iface 133 (.bool (decide (o.vn = 1)))]), .int .i64 (len4 o)] #[true, true, true, false, true, false, false, false, false, false, false, false, false, false, false, false, false, false, false, false, false] [(1, .pointer (some ⟨w.heap.size, 0, none⟩)), (6, .iface 56 (.agg #[.slice A_136 o.attrs.length c_137, .string o.text, .iface 133 (.bool (decide (o.vn = 1)))])), (14, .iface 56 (.agg #[.slice A_136 o.attrs.length c_137, .string o.text, .iface 133 (.bool (decide (o.vn = 1)))])), (165, .bool true), (166, .iface 56 (.agg #[.slice A_136 o.attrs.length c_137, .string o.text, .iface 133 (.bool (decide (o.vn = 1)))])), (168, .int .i64 (len4 o))] (fun w_ => []) (fun _ _ _ _ h => h) (fun w_ => by kernel_rfl) rfl (fun w_ hC_ => trivial) ?_
          refine XG_mid (fuel' := 16) 3 #[true, true, true, true, true, false, false, false, false, false, false, false, false, false, false, false, false, false, false, false, false] _ rfl (by kernel_rfl) (by kernel_rfl) rfl ?_
          refine XL_inv 167 #[.agg #[.slice A_136 o.attrs.length c_137, .string o.text, .iface 133 (.bool (decide (o.vn = 1)))]] rfl rfl (by kernel_rfl) (by kernel_rfl) (embedLen_any _ _ _ _ _ _) ?_
          rintro e w_197 ⟨rfl, hb_198⟩; refine ⟨_, rfl, ?_⟩
          refine XL_nil ?_
          refine ⟨(Blk.below hk_192 (bt hb_195 hb_198)), ?_⟩
          refine XG_run (fuel' := 11) (Blk.below hk_192 (bt hb_195 hb_198)) [5, 6, 7, 8, 10] [(169, .eq (.bool true)), (174, .load (.agg #[.int .i64 o.kind, .string o.text, .int .i64 o.vk, .int .i64 o.vn, .string o.vt, .int .i64 o.count, .slice A o.attrs.length i0]))] [.bool true, .bool true, .bool true, .iface 56 (.agg #[.slice A_136 o.attrs.length c_137, .string o.text, .iface 133 (.bool (decide (o.vn = 1)))]), .agg #[.int .i64 o.kind, .string o.text, .int .i64 o.vk, .int .i64 o.vn, .string o.vt, .int .i64 o.count, .slice A o.attrs.length i0]] #[true, true, true, true, true, true, true, true, true, false, true, false, false, false, false, false, false, false, false, false, false] [(1, .pointer (some ⟨w.heap.size, 0, none⟩)), (14, .iface 56 (.agg #[.slice A_136 o.attrs.length c_137, .string o.text, .iface 133 (.bool (decide (o.vn = 1)))])), (171, .bool true), (172, .iface 56 (.agg #[.slice A_136 o.attrs.length c_137, .string o.text, .iface 133 (.bool (decide (o.vn = 1)))])), (174, .agg #[.int .i64 o.kind, .string o.text, .int .i64 o.vk, .int .i64 o.vn, .string o.vt, .int .i64 o.count, .slice A o.attrs.length i0])] (fun w_ => [Value.bool ((1 : Int) == (len4 o)) = Value.bool true, LoadsAs Tryd.prog 33 (⟨w.heap.size, 0, none⟩) (.agg #[.int .i64 o.kind, .string o.text, .int .i64 o.vk, .int .i64 o.vn, .string o.vt, .int .i64 o.count, .slice A o.attrs.length i0]) w_]) (fun _ _ _ _ h => h) (fun w_ => by kernel_rfl) rfl (fun w_ hC_ => ⟨congrArg Value.bool (beq_iff_eq.2 ((len4_2 hk_49).symm)), loadsB rfl rfl hC_ 0 ⟨by kernel_rfl, by kernel_rfl⟩, trivial⟩) ?_
          refine XG_mid (fuel' := 10) 9 #[true, true, true, true, true, true, true, true, true, true, true, false, false, false, false, false, false, false, false, false, false] _ rfl (by kernel_rfl) (by kernel_rfl) rfl ?_
          refine XL_inv 168 #[.agg #[.slice A_136 o.attrs.length c_137, .string o.text, .iface 133 (.bool (decide (o.vn = 1)))]] rfl rfl (by kernel_rfl) (by kernel_rfl) (by have h_ := embedOp_any o A_136 c_137 w_197 (Kd.R_C (Kd.R_below hr_190 (bt hb_195 hb_198))) (by omega) (refuse_val c_48 hk_49); rw [valV_1 (v := (o.vk, o.vn, o.vt)) c_147] at h_; exact h_) ?_
          rintro e w_201 ⟨A_199, c_200, rfl, hl_203, hr_204, hb_202⟩; refine ⟨_, rfl, ?_⟩
          refine XL_nil ?_
          refine ⟨(Blk.below hk_192 (bt (bt hb_195 hb_198) hb_202)), ?_⟩
          refine XG_mid (fuel' := 9) 11 #[true, true, true, true, true, true, true, true, true, true, true, true, false, false, false, false, false, false, false, false, false] _ rfl (by kernel_rfl) (by kernel_rfl) rfl ?_
          have hB_205 : Below w.heap.size w w_201 := (bt (bt (bt (bsp HB hS_189 ((bt (bt hb_2 hb_7) hb_9)).size) hb_195) hb_198) hb_202)
          refine XL_call 60 rfl rfl rfl ent60 [.agg #[.int .i64 ((⟨2, o.text, o.vk, o.vn, o.vt, 0, o.attrs⟩ : OpA).kind), .string ((⟨2, o.text, o.vk, o.vn, o.vt, 0, o.attrs⟩ : OpA).text), .int .i64 ((⟨2, o.text, o.vk, o.vn, o.vt, 0, o.attrs⟩ : OpA).vk), .int .i64 ((⟨2, o.text, o.vk, o.vn, o.vt, 0, o.attrs⟩ : OpA).vn), .string ((⟨2, o.text, o.vk, o.vn, o.vt, 0, o.attrs⟩ : OpA).vt), .int .i64 ((⟨2, o.text, o.vk, o.vn, o.vt, 0, o.attrs⟩ : OpA).count), .slice A_199 ((⟨2, o.text, o.vk, o.vn, o.vt, 0, o.attrs⟩ : OpA).attrs.length) c_200], .agg #[.int .i64 o.kind, .string o.text, .int .i64 o.vk, .int .i64 o.vn, .string o.vt, .int .i64 o.count, .slice A o.attrs.length i0]] (by kernel_rfl) (r4same_any (⟨2, o.text, o.vk, o.vn, o.vt, 0, o.attrs⟩ : OpA) o _ _ _ _ _ (Kd.R_C hr_204) (Kd.C_below hA hB_205)) ?_
          rintro e w_206 ⟨rfl, hb_207⟩; refine ⟨_, rfl, ?_⟩
          rw [show opEqP (⟨2, o.text, o.vk, o.vn, o.vt, 0, o.attrs⟩ : OpA) o = true from (opEqP_iff _ _).2 (refuse_emb c_48 hk_49).symm]
          refine XL_nil ?_
          have hB_208 : Below w_188.heap.size w_188 w_206 := (bt (bt (bt hb_195 hb_198) hb_202) hb_207)
          refine ⟨(Blk.below hk_192 hB_208), ?_⟩
          refine XG_run (fuel' := 4) (Blk.below hk_192 hB_208) [12, 13, 14, 16, 17] [(181, .load (.slice A o.attrs.length i0))] [.bool true, .bool true, .iface 56 (.agg #[.slice A_136 o.attrs.length c_137, .string o.text, .iface 133 (.bool (decide (o.vn = 1)))]), .pointer (some ⟨w.heap.size, 6, none⟩), .slice A o.attrs.length i0] #[true, true, true, true, true, true, true, true, true, true, true, true, true, true, true, false, true, true, false, false, false] [(177, .bool true), (178, .iface 56 (.agg #[.slice A_136 o.attrs.length c_137, .string o.text, .iface 133 (.bool (decide (o.vn = 1)))])), (181, .slice A o.attrs.length i0)] (fun w_ => [LoadsAs Tryd.prog 31 (⟨w.heap.size, 6, none⟩) (.slice A o.attrs.length i0) w_]) (fun _ _ _ _ h => h) (fun w_ => by kernel_rfl) rfl (fun w_ hC_ => ⟨loads1 rfl (Blk.cell hC_ 6 _ rfl), trivial⟩) ?_
          refine XG_mid (fuel' := 3) 15 #[true, true, true, true, true, true, true, true, true, true, true, true, true, true, true, true, true, true, false, false, false] _ rfl (by kernel_rfl) (by kernel_rfl) rfl ?_
          refine XL_inv 97 #[.agg #[.slice A_136 o.attrs.length c_137]] rfl rfl (by kernel_rfl) (by kernel_rfl) (attributes_any _ _ o.attrs _ (Kd.R_C (Kd.R_below hr_190 hB_208)) (by omega)) ?_
          rintro e w_211 ⟨A_209, c_210, rfl, hl_213, hr_214, hb_212⟩; refine ⟨_, rfl, ?_⟩
          refine XL_nil ?_
          refine ⟨(Blk.below hk_192 (bt hB_208 hb_212)), ?_⟩
          refine XG_mid (fuel' := 2) 18 #[true, true, true, true, true, true, true, true, true, true, true, true, true, true, true, true, true, true, true, false, false] _ rfl (by kernel_rfl) (by kernel_rfl) rfl ?_
          refine XL_call 65 rfl rfl rfl ent65 [.slice A_209 o.attrs.length c_210, .slice A o.attrs.length i0] (by kernel_rfl) (sattrs_any _ _ _ _ o.attrs o.attrs _ (Kd.R_C hr_214) (Kd.C_below hA (bt (bt hB_205 hb_207) hb_212))) ?_
          rintro e w_215 ⟨rfl, hb_216⟩; refine ⟨_, rfl, ?_⟩
          rw [show decide (o.attrs = o.attrs) = true from decide_eq_true rfl]
          refine XL_nil ?_
          refine ⟨(Blk.below hk_192 (bt (bt hB_208 hb_212) hb_216)), ?_⟩
          refine XG_run (fuel' := 0) (Blk.below hk_192 (bt (bt hB_208 hb_212) hb_216)) [19, 20] [] [.bool true, .bool true] #[true, true, true, true, true, true, true, true, true, true, true, true, true, true, true, true, true, true, true, true, true] [(2, .bool true)] (fun w_ => []) (fun _ _ _ _ h => h) (fun w_ => by kernel_rfl) rfl (fun w_ hC_ => trivial) ?_
          refine XG_done (by kernel_rfl) ?_
          refine X_ret ?_
          refine RX.ret_ok (P := Tryd.prog) (fn := Tryd.f14) (N := 184) (R := R_) [.bool true] (by kernel_rfl) (hR_ _ _ ?_)
          have hB_217 : Below w.heap.size w w_215 := (bt (bt (bt hB_205 hb_207) hb_212) hb_216)
          exact ⟨rfl, hB_217⟩
      · by_cases c_218 : o.vk = 2
        · rw [valV_2 (v := (o.vk, o.vn, o.vt)) c_147 c_218]
          refine XL_run 1 [] [(1, .pointer (some ⟨w.heap.size, 0, none⟩)), (3, .slice A_15 1 c_16), (6, .iface 56 (.agg #[.slice A_136 o.attrs.length c_137, .string o.text, .iface 134 (.int .i64 o.vn)])), (8, .int .i64 (len4 o)), (11, .pointer (some ⟨w_145.heap.size, 0, none⟩)), (101, .agg #[.slice A_130 o.attrs.length c_131, .string o.text, .iface 134 (.int .i64 o.vn)])] (w_145.alloc (.cells #[.slice none 0 0, .string ByteArray.empty, .nilIface] 56)) [] (by kernel_rfl) trivial ?_
          obtain ⟨w_219, hw_223, hb_220, hk_221, hz_222⟩ := new_world w_145 #[.slice none 0 0, .string ByteArray.empty, .nilIface] 56
          rw [hw_223]
          refine XL_store (v := .agg #[.slice A_130 o.attrs.length c_131, .string o.text, .iface 134 (.int .i64 o.vn)]) rfl rfl rfl (by kernel_rfl) hk_221 0 [.slice A_130 o.attrs.length c_131, .string o.text, .iface 134 (.int .i64 o.vn)] #[.slice A_130 o.attrs.length c_131, .string o.text, .iface 134 (.int .i64 o.vn)] ⟨by kernel_rfl, rfl, by kernel_rfl⟩ ⟨by kernel_rfl, by kernel_rfl⟩ (Nat.le_of_ble_eq_true (by kernel_rfl)) (fun w_224 hg_225 hk_226 hz_227 => ?_)
          have hB_228 : Below w_8.heap.size w_8 w_145 := (bt (bt (bt (bt hb_20 hb_34) hb_46) hb_144) hb_146)
          refine XL_nil ?_
          refine X_seq ?_
          refine X_seq ?_
          refine X_gen (S := fun w_ => RX.Blk w_ w.heap.size 33 #[.int .i64 o.kind, .string o.text, .int .i64 o.vk, .int .i64 o.vn, .string o.vt, .int .i64 o.count, .slice A o.attrs.length i0] ∧ RX.Blk w_ w_145.heap.size 56 #[.slice A_130 o.attrs.length c_131, .string o.text, .iface 134 (.int .i64 o.vn)]) [] 41 #[false, false, false, false, false, false, false, false, false, false, false, false, false, false, false, false, false, false, false, false, false, false, false, false, false, false, false, false, false, false, false, false, false, false, false, false, false, false, false, false, false] (by kernel_rfl) (by kernel_rfl) (by kernel_rfl) (fun wd_229 hb_230 hh_231 => ?_)
          have hB_232 : Below w_1.heap.size w_1 wd_229 := (bt (bg (bt (bt (bt hB_142 hb_144) hb_146) hb_220) hg_225 ((bt (bt hB_142 hb_144) hb_146)).size) hb_230)
          refine XG_run (fuel' := 21) ⟨(Blk.below hk_3 hB_232), (Blk.below hk_226 hb_230)⟩ [0, 1, 2, 3, 4, 5, 6, 7, 8, 9, 10, 11, 12, 13, 14, 15, 16, 17, 19, 20] [(103, .load (.int .i64 o.kind)), (104, .eq (.bool false)), (107, .load (.string o.text)), (109, .load (.string o.text)), (110, .eq (.bool false)), (114, .load (.iface 134 (.int .i64 o.vn))), (119, .load (.iface 134 (.int .i64 o.vn))), (122, .load (.agg #[.int .i64 o.vk, .int .i64 o.vn, .string o.vt]))] [.pointer (some ⟨w.heap.size, 0, none⟩), .int .i64 o.kind, .bool false, .bool false, .pointer (some ⟨w_145.heap.size, 1, none⟩), .string o.text, .pointer (some ⟨w.heap.size, 1, none⟩), .string o.text, .bool false, .bool false, .bool false, .pointer (some ⟨w_145.heap.size, 2, none⟩), .iface 134 (.int .i64 o.vn), .bool false, .bool false, .bool false, .pointer (some ⟨w_145.heap.size, 2, none⟩), .iface 134 (.int .i64 o.vn), .pointer (some ⟨w.heap.size, 2, none⟩), .agg #[.int .i64 o.vk, .int .i64 o.vn, .string o.vt]] #[true, true, true, true, true, true, true, true, true, true, true, true, true, true, true, true, true, true, false, true, true, false, false, false, false, false, false, false, false, false, false, false, false, false, false, false, false, false, false, false, false] [(1, .pointer (some ⟨w.heap.size, 0, none⟩)), (3, .slice A_15 1 c_16), (6, .iface 56 (.agg #[.slice A_136 o.attrs.length c_137, .string o.text, .iface 134 (.int .i64 o.vn)])), (8, .int .i64 (len4 o)), (11, .pointer (some ⟨w_145.heap.size, 0, none⟩)), (117, .bool false), (119, .iface 134 (.int .i64 o.vn)), (122, .agg #[.int .i64 o.vk, .int .i64 o.vn, .string o.vt])] (fun w_ => [LoadsAs Tryd.prog 3 (⟨w.heap.size, 0, none⟩) (.int .i64 o.kind) w_, Value.bool (o.kind != 2) = Value.bool false, LoadsAs Tryd.prog 9 (⟨w_145.heap.size, 1, none⟩) (.string o.text) w_, LoadsAs Tryd.prog 9 (⟨w.heap.size, 1, none⟩) (.string o.text) w_, Value.bool (!o.text.toList == o.text.toList) = Value.bool false, LoadsAs Tryd.prog 54 (⟨w_145.heap.size, 2, none⟩) (.iface 134 (.int .i64 o.vn)) w_, LoadsAs Tryd.prog 54 (⟨w_145.heap.size, 2, none⟩) (.iface 134 (.int .i64 o.vn)) w_, LoadsAs Tryd.prog 30 (⟨w.heap.size, 2, none⟩) (.agg #[.int .i64 o.vk, .int .i64 o.vn, .string o.vt]) w_]) (fun _ _ _ _ h => h) (fun w_ => by kernel_rfl) rfl (fun w_ hC_ => ⟨loads1 rfl (Blk.cell hC_.1 0 _ rfl), congrArg Value.bool (bneF (hk_49)), loads1 rfl (Blk.cell hC_.2 1 _ rfl), loads1 rfl (Blk.cell hC_.1 1 _ rfl), congrArg Value.bool (strNeF (rfl)), loads1 rfl (Blk.cell hC_.2 2 _ rfl), loads1 rfl (Blk.cell hC_.2 2 _ rfl), loadsB rfl rfl hC_.1 2 ⟨by kernel_rfl, by kernel_rfl⟩, trivial⟩) ?_
          refine XG_mid (fuel' := 20) 18 #[true, true, true, true, true, true, true, true, true, true, true, true, true, true, true, true, true, true, true, true, true, false, false, false, false, false, false, false, false, false, false, false, false, false, false, false, false, false, false, false, false] _ rfl (by kernel_rfl) (by kernel_rfl) rfl ?_
          refine XL_inv 176 #[.int .i64 o.vn] rfl rfl (by kernel_rfl) (by kernel_rfl) (numberPlain_any o.vk o.vn o.vt _ (refuse_val c_48 hk_49) c_218) ?_
          rintro e w_233 ⟨rfl, hb_234⟩; refine ⟨_, rfl, ?_⟩
          refine XL_nil ?_
          refine ⟨⟨(Blk.below hk_3 (bt hB_232 hb_234)), (Blk.below hk_226 (bt hb_230 hb_234))⟩, ?_⟩
          refine XG_run (fuel' := 12) ⟨(Blk.below hk_3 (bt hB_232 hb_234)), (Blk.below hk_226 (bt hb_230 hb_234))⟩ [21, 22, 23, 24, 25, 27, 28, 29] [(123, .as (.bool false)), (127, .load (.iface 134 (.int .i64 o.vn))), (131, .load (.int .i64 o.vk))] [.bool false, .bool false, .bool false, .pointer (some ⟨w_145.heap.size, 2, none⟩), .iface 134 (.int .i64 o.vn), .pointer (some ⟨w.heap.size, 2, none⟩), .pointer (some ⟨w.heap.size, 2, none⟩), .int .i64 o.vk] #[true, true, true, true, true, true, true, true, true, true, true, true, true, true, true, true, true, true, true, true, true, true, true, true, true, true, false, true, true, true, false, false, false, false, false, false, false, false, false, false, false] [(1, .pointer (some ⟨w.heap.size, 0, none⟩)), (3, .slice A_15 1 c_16), (6, .iface 56 (.agg #[.slice A_136 o.attrs.length c_137, .string o.text, .iface 134 (.int .i64 o.vn)])), (8, .int .i64 (len4 o)), (11, .pointer (some ⟨w_145.heap.size, 0, none⟩)), (125, .bool false), (127, .iface 134 (.int .i64 o.vn)), (131, .int .i64 o.vk)] (fun w_ => [RunsAs Tryd.prog [(120, .agg #[.int .i64 o.vk, .int .i64 o.vn, .string o.vt]), (122, .agg #[.int .i64 o.vk, .int .i64 o.vn, .string o.vt])] (Go.Op.binOp Go.BinOp.neq 30 (Go.Operand.tmp 120) (Go.Operand.tmp 122) 30) 4 (.bool false) w_, LoadsAs Tryd.prog 54 (⟨w_145.heap.size, 2, none⟩) (.iface 134 (.int .i64 o.vn)) w_, LoadsAs Tryd.prog 3 (⟨w.heap.size, 2, none⟩) (.int .i64 o.vk) w_]) (fun _ _ _ _ h => h) (fun w_ => by kernel_rfl) rfl (fun w_ hC_ => ⟨runs_bin rfl rfl (run_eqGuard_agg _ _ _ _ _ _ _ (by kernel_rfl)) (by have h := plain_neq (o.vk, o.vn, o.vt) (o.vk, o.vn, o.vt) w_; rw [show ple (o.vk, o.vn, o.vt) (o.vk, o.vn, o.vt) = true from (ple_iff _ _).2 rfl] at h; exact h), loads1 rfl (Blk.cell hC_.2 2 _ rfl), loads1 rfl (Blk.cell hC_.1 2 _ rfl), trivial⟩) ?_
          refine XG_mid (fuel' := 11) 26 #[true, true, true, true, true, true, true, true, true, true, true, true, true, true, true, true, true, true, true, true, true, true, true, true, true, true, true, true, true, true, false, false, false, false, false, false, false, false, false, false, false] _ rfl (by kernel_rfl) (by kernel_rfl) rfl ?_
          refine XL_inv 175 #[.int .i64 o.vn] rfl rfl (by kernel_rfl) (by kernel_rfl) (numberKind_any _ _) ?_
          rintro e w_235 ⟨rfl, hb_236⟩; refine ⟨_, rfl, ?_⟩
          refine XL_nil ?_
          refine ⟨⟨(Blk.below hk_3 (bt (bt hB_232 hb_234) hb_236)), (Blk.below hk_226 (bt (bt hb_230 hb_234) hb_236))⟩, ?_⟩
          refine XG_run (fuel' := 3) ⟨(Blk.below hk_3 (bt (bt hB_232 hb_234) hb_236)), (Blk.below hk_226 (bt (bt hb_230 hb_234) hb_236))⟩ [30, 31, 32, 33, 34, 35, 36, 37] [(132, .eq (.bool false)), (137, .load (.slice A_130 o.attrs.length c_131)), (139, .load (.slice A o.attrs.length i0))] [.bool false, .bool false, .bool false, .pointer (some ⟨w_145.heap.size, 0, none⟩), .pointer (some ⟨w_145.heap.size, 0, none⟩), .slice A_130 o.attrs.length c_131, .pointer (some ⟨w.heap.size, 6, none⟩), .slice A o.attrs.length i0] #[true, true, true, true, true, true, true, true, true, true, true, true, true, true, true, true, true, true, true, true, true, true, true, true, true, true, true, true, true, true, true, true, true, true, true, true, true, true, false, false, false] [(1, .pointer (some ⟨w.heap.size, 0, none⟩)), (3, .slice A_15 1 c_16), (6, .iface 56 (.agg #[.slice A_136 o.attrs.length c_137, .string o.text, .iface 134 (.int .i64 o.vn)])), (8, .int .i64 (len4 o)), (11, .pointer (some ⟨w_145.heap.size, 0, none⟩)), (134, .bool false), (137, .slice A_130 o.attrs.length c_131), (139, .slice A o.attrs.length i0)] (fun w_ => [Value.bool ((2 : Int) != o.vk) = Value.bool false, LoadsAs Tryd.prog 31 (⟨w_145.heap.size, 0, none⟩) (.slice A_130 o.attrs.length c_131) w_, LoadsAs Tryd.prog 31 (⟨w.heap.size, 6, none⟩) (.slice A o.attrs.length i0) w_]) (fun _ _ _ _ h => h) (fun w_ => by kernel_rfl) rfl (fun w_ hC_ => ⟨congrArg Value.bool (bneF ((c_218.symm))), loads1 rfl (Blk.cell hC_.2 0 _ rfl), loads1 rfl (Blk.cell hC_.1 6 _ rfl), trivial⟩) ?_
          refine XG_mid (fuel' := 2) 38 #[true, true, true, true, true, true, true, true, true, true, true, true, true, true, true, true, true, true, true, true, true, true, true, true, true, true, true, true, true, true, true, true, true, true, true, true, true, true, true, false, false] _ rfl (by kernel_rfl) (by kernel_rfl) rfl ?_
          have hB_237 : Below w_33.heap.size w_33 w_235 := (bt (bt (bt (bg (bt (bt (bt hb_46 hb_144) hb_146) hb_220) hg_225 ((bt (bt hb_46 hb_144) hb_146)).size) hb_230) hb_234) hb_236)
          have hB_238 : Below w.heap.size w w_235 := (bt (bt (bt (bg (bt (bt (bt (bt hB_47 hb_46) hb_144) hb_146) hb_220) hg_225 ((bt (bt (bt hB_47 hb_46) hb_144) hb_146)).size) hb_230) hb_234) hb_236)
          refine XL_call 65 rfl rfl rfl ent65 [.slice A_130 o.attrs.length c_131, .slice A o.attrs.length i0] (by kernel_rfl) (sattrs_any _ _ _ _ o.attrs o.attrs _ (Kd.R_C (Kd.R_below hR_134 hB_237)) (Kd.C_below hA hB_238)) ?_
          rintro e w_239 ⟨rfl, hb_240⟩; refine ⟨_, rfl, ?_⟩
          rw [show decide (o.attrs = o.attrs) = true from decide_eq_true rfl]
          refine XL_nil ?_
          have hB_241 : Below w_1.heap.size w_1 w_239 := (bt (bt (bt hB_232 hb_234) hb_236) hb_240)
          have hB_242 : Below w_224.heap.size w_224 w_239 := (bt (bt (bt hb_230 hb_234) hb_236) hb_240)
          refine ⟨⟨(Blk.below hk_3 hB_241), (Blk.below hk_226 hB_242)⟩, ?_⟩
          refine XG_run (fuel' := 0) ⟨(Blk.below hk_3 hB_241), (Blk.below hk_226 hB_242)⟩ [39, 40] [] [.bool false, .bool false] #[true, true, true, true, true, true, true, true, true, true, true, true, true, true, true, true, true, true, true, true, true, true, true, true, true, true, true, true, true, true, true, true, true, true, true, true, true, true, true, true, true] [(1, .pointer (some ⟨w.heap.size, 0, none⟩)), (3, .slice A_15 1 c_16), (6, .iface 56 (.agg #[.slice A_136 o.attrs.length c_137, .string o.text, .iface 134 (.int .i64 o.vn)])), (8, .int .i64 (len4 o)), (11, .pointer (some ⟨w_145.heap.size, 0, none⟩)), (142, .bool false)] (fun w_ => []) (fun _ _ _ _ h => h) (fun w_ => by kernel_rfl) rfl (fun w_ hC_ => trivial) ?_
          refine XG_done (by kernel_rfl) ?_
          refine X_cond false rfl ?_
          refine X_skip ?_
          refine X_seq ?_
          refine X_region ?_
          refine XL_run 5 [(145, .load (.slice A_130 o.attrs.length c_131))] [(1, .pointer (some ⟨w.heap.size, 0, none⟩)), (3, .slice A_15 1 c_16), (6, .iface 56 (.agg #[.slice A_136 o.attrs.length c_137, .string o.text, .iface 134 (.int .i64 o.vn)])), (8, .int .i64 (len4 o)), (11, .pointer (some ⟨w_145.heap.size, 0, none⟩)), (146, .int .i64 (o.attrs.length : Int)), (147, .int .i64 0)] w_239 [LoadsAs Tryd.prog 31 (⟨w_145.heap.size, 0, none⟩) (.slice A_130 o.attrs.length c_131) w_239] (by kernel_rfl) ⟨loads1 rfl (Blk.cell (Blk.below hk_226 hB_242) 0 _ rfl), trivial⟩ ?_
          refine XL_nil ?_
          refine X_block ?_
          have hne_243 := rne_new (RX.Kd.R_lt hR_134) (Nat.le_trans (Nat.le_trans hb_46.size hb_144.size) hb_146.size)
          have hne_244 : ∀ k, A_130.map (·.block) = some k → k ≠ w.heap.size := fun k_ hk_ e_ => by have h_ := RX.Kd.R_ge hR_134 k_ hk_; have h2_ := Blk.lt hk_3; have h3_ := ((bt (bt hb_7 hb_9) hb_20)).size; omega
          have hB_245 : Below w_45.heap.size w_45 w_239 := (bt (bt (bt (bt (bg (bt (bt hb_144 hb_146) hb_220) hg_225 ((bt hb_144 hb_146)).size) hb_230) hb_234) hb_236) hb_240)
          have hB_246 : Below w_19.heap.size w_19 w_239 := (bt (bt (bt (bt (bg (bt (bt (bt (bt hb_34 hb_46) hb_144) hb_146) hb_220) hg_225 ((bt (bt (bt hb_34 hb_46) hb_144) hb_146)).size) hb_230) hb_234) hb_236) hb_240)
          refine X_loop (ι := Nat × List At) (fun ⟨i, zs⟩ => [(1, .pointer (some ⟨w.heap.size, 0, none⟩)), (3, .slice A_15 1 c_16), (6, .iface 56 (.agg #[.slice A_136 o.attrs.length c_137, .string o.text, .iface 134 (.int .i64 o.vn)])), (8, .int .i64 (len4 o)), (11, .pointer (some ⟨w_145.heap.size, 0, none⟩)), (146, .int .i64 (o.attrs.length : Int)), (147, .int .i64 (i : Int))]) (fun ⟨i, zs⟩ wl => i ≤ o.attrs.length ∧ kAttr.R 79 wl w_19.heap.size (OkFrom w_19.heap.size) (.slice A_130 o.attrs.length c_131) zs ∧ kAttr.R 79 wl w_33.heap.size (OkFrom w_33.heap.size) (.slice A_136 o.attrs.length c_137) o.attrs ∧ RX.Blk wl w.heap.size 33 #[.int .i64 o.kind, .string o.text, .int .i64 o.vk, .int .i64 o.vn, .string o.vt, .int .i64 o.count, .slice A o.attrs.length i0] ∧ RX.Blk wl w_145.heap.size 56 #[.slice A_130 o.attrs.length c_131, .string o.text, .iface 134 (.int .i64 o.vn)] ∧ w_19.heap.size ≤ wl.heap.size ∧ w_33.heap.size ≤ wl.heap.size ∧ Below w.heap.size w wl ∧ Below w_19.heap.size w_19 wl) (fun ⟨i, zs⟩ => o.attrs.length - i) (0, o.attrs) ⟨by omega, (Kd.R_below hR_134 (bt hB_237 hb_240)), (Kd.R_below hR_140 hB_245), (Blk.below hk_3 hB_241), (Blk.below hk_226 hB_242), (hB_246).size, ((bt hB_237 hb_240)).size, (bt hB_238 hb_240), hB_246⟩ (by kernel_rfl) ?_
          rintro ⟨i, zs⟩ wl ⟨hi, hra, hrb, hk1, hk2, hle_A_130, hle_A_136, HB, HB2⟩
          refine X_seq ?_
          refine X_region ?_
          by_cases c_247 : (i : Int) < (o.attrs.length : Int)
          · refine XL_run 1 [(148, .eq (.bool true))] [(1, .pointer (some ⟨w.heap.size, 0, none⟩)), (3, .slice A_15 1 c_16), (6, .iface 56 (.agg #[.slice A_136 o.attrs.length c_137, .string o.text, .iface 134 (.int .i64 o.vn)])), (8, .int .i64 (len4 o)), (11, .pointer (some ⟨w_145.heap.size, 0, none⟩)), (146, .int .i64 (o.attrs.length : Int)), (147, .int .i64 (i : Int)), (148, .bool true)] wl [Value.bool (decide ((i : Int) < (o.attrs.length : Int))) = Value.bool true] (by kernel_rfl) ⟨congrArg Value.bool (decide_eq_true (c_247)), trivial⟩ ?_
            refine XL_nil ?_
            refine X_seq ?_
            refine X_cond true rfl ?_
            refine X_skip ?_
            refine X_seq ?_
            refine X_block ?_
            refine X_seq ?_
            refine X_region ?_
            refine XL_run 2 [] [(1, .pointer (some ⟨w.heap.size, 0, none⟩)), (3, .slice A_15 1 c_16), (6, .iface 56 (.agg #[.slice A_136 o.attrs.length c_137, .string o.text, .iface 134 (.int .i64 o.vn)])), (8, .int .i64 (len4 o)), (11, .pointer (some ⟨w_145.heap.size, 0, none⟩)), (12, .int .i64 (i : Int)), (146, .int .i64 (o.attrs.length : Int)), (147, .int .i64 (i : Int))] wl [] (by kernel_rfl) trivial ?_
            refine XL_nil ?_
            refine X_region ?_
            refine XL_run 5 [(152, .load (.slice A_130 o.attrs.length c_131))] [(1, .pointer (some ⟨w.heap.size, 0, none⟩)), (3, .slice A_15 1 c_16), (6, .iface 56 (.agg #[.slice A_136 o.attrs.length c_137, .string o.text, .iface 134 (.int .i64 o.vn)])), (8, .int .i64 (len4 o)), (11, .pointer (some ⟨w_145.heap.size, 0, none⟩)), (146, .int .i64 (o.attrs.length : Int)), (147, .int .i64 (i : Int)), (152, .slice A_130 o.attrs.length c_131), (153, .int .i64 (i : Int)), (154, .agg #[.string (⟨#[115, 112, 111, 105, 108, 116]⟩ : ByteArray), .int .i64 0, .int .i64 0, .string ByteArray.empty])] wl [LoadsAs Tryd.prog 31 (⟨w_145.heap.size, 0, none⟩) (.slice A_130 o.attrs.length c_131) wl] (by kernel_rfl) ⟨loads1 rfl (Blk.cell hk2 0 _ rfl), trivial⟩ ?_
            obtain ⟨ad_248, ha_249, hc_250⟩ := Kd.atAttr (Kd.R_C hra) (i := (i : Int)) (by omega) (by omega)
            replace hc_250 : CellsAt wl (ad_248.add ((i : Int).toNat * 4)) [.string ((zs.getD i at0).1), .int .i64 ((zs.getD i at0).2.1), .int .i64 ((zs.getD i at0).2.2.1), .string ((zs.getD i at0).2.2.2)] := hc_250
            refine XL_run 1 [(155, .idx ad_248)] [(1, .pointer (some ⟨w.heap.size, 0, none⟩)), (3, .slice A_15 1 c_16), (6, .iface 56 (.agg #[.slice A_136 o.attrs.length c_137, .string o.text, .iface 134 (.int .i64 o.vn)])), (8, .int .i64 (len4 o)), (11, .pointer (some ⟨w_145.heap.size, 0, none⟩)), (146, .int .i64 (o.attrs.length : Int)), (147, .int .i64 (i : Int)), (154, .agg #[.string (⟨#[115, 112, 111, 105, 108, 116]⟩ : ByteArray), .int .i64 0, .int .i64 0, .string ByteArray.empty]), (155, .pointer (some (ad_248.add ((i : Int).toNat * 4))))] wl [A_130 = some ad_248, (0 : Int) ≤ (i : Int), (i : Int) < (o.attrs.length : Int)] (by kernel_rfl) ⟨ha_249, (by omega), (by omega), trivial⟩ ?_
            refine XL_rowset kAttr rfl rfl rfl w_19.heap.size 79 (ad := ad_248) (i := (i : Int)) (v := .agg #[.string (⟨#[115, 112, 111, 105, 108, 116]⟩ : ByteArray), .int .i64 0, .int .i64 0, .string ByteArray.empty]) zs ((⟨#[115, 112, 111, 105, 108, 116]⟩ : ByteArray), 0, 0, ByteArray.empty) (by kernel_rfl) ha_249 hra (by omega) (by omega) [.string (⟨#[115, 112, 111, 105, 108, 116]⟩ : ByteArray), .int .i64 0, .int .i64 0, .string ByteArray.empty] ⟨by kernel_rfl, by kernel_rfl⟩ (by kernel_rfl) (kAttr_M _ _ _ _) ?_
            intro w_251 hr_252 hg_253 hl_254
            have hr_255 := RX.Kd.R_flat rfl hrb hg_253 hne_141
            have hk_256 := Blk.ne hk1 hg_253 hne_244
            have hk_257 := Blk.ne hk2 hg_253 hne_243
            refine XL_nil ?_
            refine X_region ?_
            refine XL_run 2 [(156, .eq (.int .i64 ((i : Int) + 1)))] [(1, .pointer (some ⟨w.heap.size, 0, none⟩)), (3, .slice A_15 1 c_16), (6, .iface 56 (.agg #[.slice A_136 o.attrs.length c_137, .string o.text, .iface 134 (.int .i64 o.vn)])), (8, .int .i64 (len4 o)), (11, .pointer (some ⟨w_145.heap.size, 0, none⟩)), (146, .int .i64 (o.attrs.length : Int)), (147, .int .i64 ((i : Int) + 1))] w_251 [Value.int .i64 (IntKind.i64.wrap ((i : Int) + 1)) = Value.int .i64 ((i : Int) + 1)] (by kernel_rfl) ⟨wr_i64 (by omega) (by omega), trivial⟩ ?_
            refine XL_nil ?_
            have hB_258 : Below w.heap.size w w_251 := (bgo HB hg_253 hl_254 ((bt (bt (bt hb_2 hb_7) hb_9) hb_20)).size)
            refine ⟨(i + 1, (zs.set (i : Int).toNat ((⟨#[115, 112, 111, 105, 108, 116]⟩ : ByteArray), 0, 0, ByteArray.empty))), by kernel_rfl, ?_, ?_⟩
            · exact ⟨by omega, hr_252, hr_255, hk_256, hk_257, ((bgo HB2 hg_253 hl_254 (Nat.le_refl _))).size, (Nat.le_trans hle_A_136 hg_253.size), hB_258, (bgo HB2 hg_253 hl_254 (Nat.le_refl _))⟩
            · (try dsimp only); omega
          · refine XL_run 1 [(148, .eq (.bool false))] [(1, .pointer (some ⟨w.heap.size, 0, none⟩)), (3, .slice A_15 1 c_16), (6, .iface 56 (.agg #[.slice A_136 o.attrs.length c_137, .string o.text, .iface 134 (.int .i64 o.vn)])), (8, .int .i64 (len4 o)), (11, .pointer (some ⟨w_145.heap.size, 0, none⟩)), (146, .int .i64 (o.attrs.length : Int)), (147, .int .i64 (i : Int)), (148, .bool false)] wl [Value.bool (decide ((i : Int) < (o.attrs.length : Int))) = Value.bool false] (by kernel_rfl) ⟨congrArg Value.bool (decide_eq_false (c_247)), trivial⟩ ?_
            refine XL_nil ?_
            refine X_seq ?_
            refine X_cond false rfl ?_
            refine X_exit ?_
            refine X_seq ?_
            refine X_region ?_
            refine XL_run 1 [] [(1, .pointer (some ⟨w.heap.size, 0, none⟩)), (6, .iface 56 (.agg #[.slice A_136 o.attrs.length c_137, .string o.text, .iface 134 (.int .i64 o.vn)])), (8, .int .i64 (len4 o)), (157, .slice A_15 1 c_16)] wl [] (by kernel_rfl) trivial ?_
            refine XL_call 57 rfl rfl rfl ent57 [.slice A_15 1 c_16] (by kernel_rfl) (spoil_any A_15 c_16 [o] w_8 w_19 _ hR_18 HB2 (hb_20).size (Nat.le_of_ble_eq_true rfl)) ?_
            rintro e w_259 ⟨rfl, hS_260⟩; refine ⟨_, rfl, ?_⟩
            have hr_261 := Kd.R_spoilt hrb hS_260 (hb_34).size
            have hr_262 := Kd.R_spoilt hra hS_260 (Nat.le_refl _)
            have hk_263 := Spoilt.blkLo hS_260 hk1 (Nat.lt_of_lt_of_le (Blk.lt hk_3) ((bt hb_7 hb_9)).size)
            have hk_264 := Spoilt.blk hS_260 hk2 ((bt (bt (bt hb_34 hb_46) hb_144) hb_146)).size
            refine XL_nil ?_
            refine X_seq ?_
            refine X_region ?_
            refine XL_run 7 [] [(1, .pointer (some ⟨w.heap.size, 0, none⟩)), (6, .iface 56 (.agg #[.slice A_136 o.attrs.length c_137, .string o.text, .iface 134 (.int .i64 o.vn)])), (8, .int .i64 (len4 o)), (14, .iface 56 (.agg #[.slice A_136 o.attrs.length c_137, .string o.text, .iface 134 (.int .i64 o.vn)])), (15, .bool true)] w_259 [] (by kernel_rfl) trivial ?_
            refine XL_nil ?_
            refine X_seq ?_
            refine X_gen (S := fun w_ => RX.Blk w_ w.heap.size 33 #[.int .i64 o.kind, .string o.text, .int .i64 o.vk, .int .i64 o.vn, .string o.vt, .int .i64 o.count, .slice A o.attrs.length i0]) [] 21 #[false, false, false, false, false, false, false, false, false, false, false, false, false, false, false, false, false, false, false, false, false] (by kernel_rfl) (by kernel_rfl) (by kernel_rfl) (fun wd_265 hb_266 hh_267 => ?_)
            refine XG_run (fuel' := 17) (Blk.below hk_263 hb_266) [0, 1, 2, 4] [] [.bool true, .bool true, .iface 56 (.agg #[.slice A_136 o.attrs.length c_137, .string o.text, .iface 134 (.int .i64 o.vn)]), .int .i64 (len4 o)] #[true, true, true, false, true, false, false, false, false, false, false, false, false, false, false, false, false, false, false, false, false] [(1, .pointer (some ⟨w.heap.size, 0, none⟩)), (6, .iface 56 (.agg #[.slice A_136 o.attrs.length c_137, .string o.text, .iface 134 (.int .i64 o.vn)])), (14, .iface 56 (.agg #[.slice A_136 o.attrs.length c_137, .string o.text, .iface 134 (.int .i64 o.vn)])), (165, .bool true), (166, .iface 56 (.agg #[.slice A_136 o.attrs.length c_137, .string o.text, .iface 134 (.int .i64 o.vn)])), (168, .int .i64 (len4 o))] (fun w_ => []) (fun _ _ _ _ h => h) (fun w_ => by kernel_rfl) rfl (fun w_ hC_ => trivial) ?_
            refine XG_mid (fuel' := 16) 3 #[true, true, true, true, true, false, false, false, false, false, false, false, false, false, false, false, false, false, false, false, false] _ rfl (by kernel_rfl) (by kernel_rfl) rfl ?_
            refine XL_inv 167 #[.agg #[.slice A_136 o.attrs.length c_137, .string o.text, .iface 134 (.int .i64 o.vn)]] rfl rfl (by kernel_rfl) (by kernel_rfl) (embedLen_any _ _ _ _ _ _) ?_
            rintro e w_268 ⟨rfl, hb_269⟩; refine ⟨_, rfl, ?_⟩
            refine XL_nil ?_
            refine ⟨(Blk.below hk_263 (bt hb_266 hb_269)), ?_⟩
            refine XG_run (fuel' := 11) (Blk.below hk_263 (bt hb_266 hb_269)) [5, 6, 7, 8, 10] [(169, .eq (.bool true)), (174, .load (.agg #[.int .i64 o.kind, .string o.text, .int .i64 o.vk, .int .i64 o.vn, .string o.vt, .int .i64 o.count, .slice A o.attrs.length i0]))] [.bool true, .bool true, .bool true, .iface 56 (.agg #[.slice A_136 o.attrs.length c_137, .string o.text, .iface 134 (.int .i64 o.vn)]), .agg #[.int .i64 o.kind, .string o.text, .int .i64 o.vk, .int .i64 o.vn, .string o.vt, .int .i64 o.count, .slice A o.attrs.length i0]] #[true, true, true, true, true, true, true, true, true, false, true, false, false, false, false, false, false, false, false, false, false] [(1, .pointer (some ⟨w.heap.size, 0, none⟩)), (14, .iface 56 (.agg #[.slice A_136 o.attrs.length c_137, .string o.text, .iface 134 (.int .i64 o.vn)])), (171, .bool true), (172, .iface 56 (.agg #[.slice A_136 o.attrs.length c_137, .string o.text, .iface 134 (.int .i64 o.vn)])), (174, .agg #[.int .i64 o.kind, .string o.text, .int .i64 o.vk, .int .i64 o.vn, .string o.vt, .int .i64 o.count, .slice A o.attrs.length i0])] (fun w_ => [Value.bool ((1 : Int) == (len4 o)) = Value.bool true, LoadsAs Tryd.prog 33 (⟨w.heap.size, 0, none⟩) (.agg #[.int .i64 o.kind, .string o.text, .int .i64 o.vk, .int .i64 o.vn, .string o.vt, .int .i64 o.count, .slice A o.attrs.length i0]) w_]) (fun _ _ _ _ h => h) (fun w_ => by kernel_rfl) rfl (fun w_ hC_ => ⟨congrArg Value.bool (beq_iff_eq.2 ((len4_2 hk_49).symm)), loadsB rfl rfl hC_ 0 ⟨by kernel_rfl, by kernel_rfl⟩, trivial⟩) ?_
            refine XG_mid (fuel' := 10) 9 #[true, true, true, true, true, true, true, true, true, true, true, false, false, false, false, false, false, false, false, false, false] _ rfl (by kernel_rfl) (by kernel_rfl) rfl ?_
            refine XL_inv 168 #[.agg #[.slice A_136 o.attrs.length c_137, .string o.text, .iface 134 (.int .i64 o.vn)]] rfl rfl (by kernel_rfl) (by kernel_rfl) (by have h_ := embedOp_any o A_136 c_137 w_268 (Kd.R_C (Kd.R_below hr_261 (bt hb_266 hb_269))) (by omega) (refuse_val c_48 hk_49); rw [valV_2 (v := (o.vk, o.vn, o.vt)) c_147 c_218] at h_; exact h_) ?_
            rintro e w_272 ⟨A_270, c_271, rfl, hl_274, hr_275, hb_273⟩; refine ⟨_, rfl, ?_⟩
            refine XL_nil ?_
            refine ⟨(Blk.below hk_263 (bt (bt hb_266 hb_269) hb_273)), ?_⟩
            refine XG_mid (fuel' := 9) 11 #[true, true, true, true, true, true, true, true, true, true, true, true, false, false, false, false, false, false, false, false, false] _ rfl (by kernel_rfl) (by kernel_rfl) rfl ?_
            have hB_276 : Below w.heap.size w w_272 := (bt (bt (bt (bsp HB hS_260 ((bt (bt hb_2 hb_7) hb_9)).size) hb_266) hb_269) hb_273)
            refine XL_call 60 rfl rfl rfl ent60 [.agg #[.int .i64 ((⟨2, o.text, o.vk, o.vn, o.vt, 0, o.attrs⟩ : OpA).kind), .string ((⟨2, o.text, o.vk, o.vn, o.vt, 0, o.attrs⟩ : OpA).text), .int .i64 ((⟨2, o.text, o.vk, o.vn, o.vt, 0, o.attrs⟩ : OpA).vk), .int .i64 ((⟨2, o.text, o.vk, o.vn, o.vt, 0, o.attrs⟩ : OpA).vn), .string ((⟨2, o.text, o.vk, o.vn, o.vt, 0, o.attrs⟩ : OpA).vt), .int .i64 ((⟨2, o.text, o.vk, o.vn, o.vt, 0, o.attrs⟩ : OpA).count), .slice A_270 ((⟨2, o.text, o.vk, o.vn, o.vt, 0, o.attrs⟩ : OpA).attrs.length) c_271], .agg #[.int .i64 o.kind, .string o.text, .int .i64 o.vk, .int .i64 o.vn, .string o.vt, .int .i64 o.count, .slice A o.attrs.length i0]] (by kernel_rfl) (r4same_any (⟨2, o.text, o.vk, o.vn, o.vt, 0, o.attrs⟩ : OpA) o _ _ _ _ _ (Kd.R_C hr_275) (Kd.C_below hA hB_276)) ?_
            rintro e w_277 ⟨rfl, hb_278⟩; refine ⟨_, rfl, ?_⟩
            rw [show opEqP (⟨2, o.text, o.vk, o.vn, o.vt, 0, o.attrs⟩ : OpA) o = true from (opEqP_iff _ _).2 (refuse_emb c_48 hk_49).symm]
            refine XL_nil ?_
            have hB_279 : Below w_259.heap.size w_259 w_277 := (bt (bt (bt hb_266 hb_269) hb_273) hb_278)
            refine ⟨(Blk.below hk_263 hB_279), ?_⟩
            refine XG_run (fuel' := 4) (Blk.below hk_263 hB_279) [12, 13, 14, 16, 17] [(181, .load (.slice A o.attrs.length i0))] [.bool true, .bool true, .iface 56 (.agg #[.slice A_136 o.attrs.length c_137, .string o.text, .iface 134 (.int .i64 o.vn)]), .pointer (some ⟨w.heap.size, 6, none⟩), .slice A o.attrs.length i0] #[true, true, true, true, true, true, true, true, true, true, true, true, true, true, true, false, true, true, false, false, false] [(177, .bool true), (178, .iface 56 (.agg #[.slice A_136 o.attrs.length c_137, .string o.text, .iface 134 (.int .i64 o.vn)])), (181, .slice A o.attrs.length i0)] (fun w_ => [LoadsAs Tryd.prog 31 (⟨w.heap.size, 6, none⟩) (.slice A o.attrs.length i0) w_]) (fun _ _ _ _ h => h) (fun w_ => by kernel_rfl) rfl (fun w_ hC_ => ⟨loads1 rfl (Blk.cell hC_ 6 _ rfl), trivial⟩) ?_
            refine XG_mid (fuel' := 3) 15 #[true, true, true, true, true, true, true, true, true, true, true, true, true, true, true, true, true, true, false, false, false] _ rfl (by kernel_rfl) (by kernel_rfl) rfl ?_
            refine XL_inv 97 #[.agg #[.slice A_136 o.attrs.length c_137]] rfl rfl (by kernel_rfl) (by kernel_rfl) (attributes_any _ _ o.attrs _ (Kd.R_C (Kd.R_below hr_261 hB_279)) (by omega)) ?_
            rintro e w_282 ⟨A_280, c_281, rfl, hl_284, hr_285, hb_283⟩; refine ⟨_, rfl, ?_⟩
            refine XL_nil ?_
            refine ⟨(Blk.below hk_263 (bt hB_279 hb_283)), ?_⟩
            refine XG_mid (fuel' := 2) 18 #[true, true, true, true, true, true, true, true, true, true, true, true, true, true, true, true, true, true, true, false, false] _ rfl (by kernel_rfl) (by kernel_rfl) rfl ?_
            refine XL_call 65 rfl rfl rfl ent65 [.slice A_280 o.attrs.length c_281, .slice A o.attrs.length i0] (by kernel_rfl) (sattrs_any _ _ _ _ o.attrs o.attrs _ (Kd.R_C hr_285) (Kd.C_below hA (bt (bt hB_276 hb_278) hb_283))) ?_
            rintro e w_286 ⟨rfl, hb_287⟩; refine ⟨_, rfl, ?_⟩
            rw [show decide (o.attrs = o.attrs) = true from decide_eq_true rfl]
            refine XL_nil ?_
            refine ⟨(Blk.below hk_263 (bt (bt hB_279 hb_283) hb_287)), ?_⟩
            refine XG_run (fuel' := 0) (Blk.below hk_263 (bt (bt hB_279 hb_283) hb_287)) [19, 20] [] [.bool true, .bool true] #[true, true, true, true, true, true, true, true, true, true, true, true, true, true, true, true, true, true, true, true, true] [(2, .bool true)] (fun w_ => []) (fun _ _ _ _ h => h) (fun w_ => by kernel_rfl) rfl (fun w_ hC_ => trivial) ?_
            refine XG_done (by kernel_rfl) ?_
            refine X_ret ?_
            refine RX.ret_ok (P := Tryd.prog) (fn := Tryd.f14) (N := 184) (R := R_) [.bool true] (by kernel_rfl) (hR_ _ _ ?_)
            have hB_288 : Below w.heap.size w w_286 := (bt (bt (bt hB_276 hb_278) hb_283) hb_287)
            exact ⟨rfl, hB_288⟩
        · by_cases c_289 : o.vk = 3
          · rw [valV_3 (v := (o.vk, o.vn, o.vt)) c_147 c_218 c_289]
            refine XL_run 1 [] [(1, .pointer (some ⟨w.heap.size, 0, none⟩)), (3, .slice A_15 1 c_16), (6, .iface 56 (.agg #[.slice A_136 o.attrs.length c_137, .string o.text, .iface 135 (.string o.vt)])), (8, .int .i64 (len4 o)), (11, .pointer (some ⟨w_145.heap.size, 0, none⟩)), (101, .agg #[.slice A_130 o.attrs.length c_131, .string o.text, .iface 135 (.string o.vt)])] (w_145.alloc (.cells #[.slice none 0 0, .string ByteArray.empty, .nilIface] 56)) [] (by kernel_rfl) trivial ?_
            obtain ⟨w_290, hw_294, hb_291, hk_292, hz_293⟩ := new_world w_145 #[.slice none 0 0, .string ByteArray.empty, .nilIface] 56
            rw [hw_294]
            refine XL_store (v := .agg #[.slice A_130 o.attrs.length c_131, .string o.text, .iface 135 (.string o.vt)]) rfl rfl rfl (by kernel_rfl) hk_292 0 [.slice A_130 o.attrs.length c_131, .string o.text, .iface 135 (.string o.vt)] #[.slice A_130 o.attrs.length c_131, .string o.text, .iface 135 (.string o.vt)] ⟨by kernel_rfl, rfl, by kernel_rfl⟩ ⟨by kernel_rfl, by kernel_rfl⟩ (Nat.le_of_ble_eq_true (by kernel_rfl)) (fun w_295 hg_296 hk_297 hz_298 => ?_)
            have hB_299 : Below w_8.heap.size w_8 w_145 := (bt (bt (bt (bt hb_20 hb_34) hb_46) hb_144) hb_146)
            refine XL_nil ?_
            refine X_seq ?_
            refine X_seq ?_
            refine X_gen (S := fun w_ => RX.Blk w_ w.heap.size 33 #[.int .i64 o.kind, .string o.text, .int .i64 o.vk, .int .i64 o.vn, .string o.vt, .int .i64 o.count, .slice A o.attrs.length i0] ∧ RX.Blk w_ w_145.heap.size 56 #[.slice A_130 o.attrs.length c_131, .string o.text, .iface 135 (.string o.vt)]) [] 41 #[false, false, false, false, false, false, false, false, false, false, false, false, false, false, false, false, false, false, false, false, false, false, false, false, false, false, false, false, false, false, false, false, false, false, false, false, false, false, false, false, false] (by kernel_rfl) (by kernel_rfl) (by kernel_rfl) (fun wd_300 hb_301 hh_302 => ?_)
            have hB_303 : Below w_1.heap.size w_1 wd_300 := (bt (bg (bt (bt (bt hB_142 hb_144) hb_146) hb_291) hg_296 ((bt (bt hB_142 hb_144) hb_146)).size) hb_301)
            refine XG_run (fuel' := 21) ⟨(Blk.below hk_3 hB_303), (Blk.below hk_297 hb_301)⟩ [0, 1, 2, 3, 4, 5, 6, 7, 8, 9, 10, 11, 12, 13, 14, 15, 16, 17, 19, 20] [(103, .load (.int .i64 o.kind)), (104, .eq (.bool false)), (107, .load (.string o.text)), (109, .load (.string o.text)), (110, .eq (.bool false)), (114, .load (.iface 135 (.string o.vt))), (119, .load (.iface 135 (.string o.vt))), (122, .load (.agg #[.int .i64 o.vk, .int .i64 o.vn, .string o.vt]))] [.pointer (some ⟨w.heap.size, 0, none⟩), .int .i64 o.kind, .bool false, .bool false, .pointer (some ⟨w_145.heap.size, 1, none⟩), .string o.text, .pointer (some ⟨w.heap.size, 1, none⟩), .string o.text, .bool false, .bool false, .bool false, .pointer (some ⟨w_145.heap.size, 2, none⟩), .iface 135 (.string o.vt), .bool false, .bool false, .bool false, .pointer (some ⟨w_145.heap.size, 2, none⟩), .iface 135 (.string o.vt), .pointer (some ⟨w.heap.size, 2, none⟩), .agg #[.int .i64 o.vk, .int .i64 o.vn, .string o.vt]] #[true, true, true, true, true, true, true, true, true, true, true, true, true, true, true, true, true, true, false, true, true, false, false, false, false, false, false, false, false, false, false, false, false, false, false, false, false, false, false, false, false] [(1, .pointer (some ⟨w.heap.size, 0, none⟩)), (3, .slice A_15 1 c_16), (6, .iface 56 (.agg #[.slice A_136 o.attrs.length c_137, .string o.text, .iface 135 (.string o.vt)])), (8, .int .i64 (len4 o)), (11, .pointer (some ⟨w_145.heap.size, 0, none⟩)), (117, .bool false), (119, .iface 135 (.string o.vt)), (122, .agg #[.int .i64 o.vk, .int .i64 o.vn, .string o.vt])] (fun w_ => [LoadsAs Tryd.prog 3 (⟨w.heap.size, 0, none⟩) (.int .i64 o.kind) w_, Value.bool (o.kind != 2) = Value.bool false, LoadsAs Tryd.prog 9 (⟨w_145.heap.size, 1, none⟩) (.string o.text) w_, LoadsAs Tryd.prog 9 (⟨w.heap.size, 1, none⟩) (.string o.text) w_, Value.bool (!o.text.toList == o.text.toList) = Value.bool false, LoadsAs Tryd.prog 54 (⟨w_145.heap.size, 2, none⟩) (.iface 135 (.string o.vt)) w_, LoadsAs Tryd.prog 54 (⟨w_145.heap.size, 2, none⟩) (.iface 135 (.string o.vt)) w_, LoadsAs Tryd.prog 30 (⟨w.heap.size, 2, none⟩) (.agg #[.int .i64 o.vk, .int .i64 o.vn, .string o.vt]) w_]) (fun _ _ _ _ h => h) (fun w_ => by kernel_rfl) rfl (fun w_ hC_ => ⟨loads1 rfl (Blk.cell hC_.1 0 _ rfl), congrArg Value.bool (bneF (hk_49)), loads1 rfl (Blk.cell hC_.2 1 _ rfl), loads1 rfl (Blk.cell hC_.1 1 _ rfl), congrArg Value.bool (strNeF (rfl)), loads1 rfl (Blk.cell hC_.2 2 _ rfl), loads1 rfl (Blk.cell hC_.2 2 _ rfl), loadsB rfl rfl hC_.1 2 ⟨by kernel_rfl, by kernel_rfl⟩, trivial⟩) ?_
            refine XG_mid (fuel' := 20) 18 #[true, true, true, true, true, true, true, true, true, true, true, true, true, true, true, true, true, true, true, true, true, false, false, false, false, false, false, false, false, false, false, false, false, false, false, false, false, false, false, false, false] _ rfl (by kernel_rfl) (by kernel_rfl) rfl ?_
            refine XL_inv 178 #[.string o.vt] rfl rfl (by kernel_rfl) (by kernel_rfl) (textPlain_any o.vk o.vn o.vt _ (refuse_val c_48 hk_49) c_289) ?_
            rintro e w_304 ⟨rfl, hb_305⟩; refine ⟨_, rfl, ?_⟩
            refine XL_nil ?_
            refine ⟨⟨(Blk.below hk_3 (bt hB_303 hb_305)), (Blk.below hk_297 (bt hb_301 hb_305))⟩, ?_⟩
            refine XG_run (fuel' := 12) ⟨(Blk.below hk_3 (bt hB_303 hb_305)), (Blk.below hk_297 (bt hb_301 hb_305))⟩ [21, 22, 23, 24, 25, 27, 28, 29] [(123, .as (.bool false)), (127, .load (.iface 135 (.string o.vt))), (131, .load (.int .i64 o.vk))] [.bool false, .bool false, .bool false, .pointer (some ⟨w_145.heap.size, 2, none⟩), .iface 135 (.string o.vt), .pointer (some ⟨w.heap.size, 2, none⟩), .pointer (some ⟨w.heap.size, 2, none⟩), .int .i64 o.vk] #[true, true, true, true, true, true, true, true, true, true, true, true, true, true, true, true, true, true, true, true, true, true, true, true, true, true, false, true, true, true, false, false, false, false, false, false, false, false, false, false, false] [(1, .pointer (some ⟨w.heap.size, 0, none⟩)), (3, .slice A_15 1 c_16), (6, .iface 56 (.agg #[.slice A_136 o.attrs.length c_137, .string o.text, .iface 135 (.string o.vt)])), (8, .int .i64 (len4 o)), (11, .pointer (some ⟨w_145.heap.size, 0, none⟩)), (125, .bool false), (127, .iface 135 (.string o.vt)), (131, .int .i64 o.vk)] (fun w_ => [RunsAs Tryd.prog [(120, .agg #[.int .i64 o.vk, .int .i64 o.vn, .string o.vt]), (122, .agg #[.int .i64 o.vk, .int .i64 o.vn, .string o.vt])] (Go.Op.binOp Go.BinOp.neq 30 (Go.Operand.tmp 120) (Go.Operand.tmp 122) 30) 4 (.bool false) w_, LoadsAs Tryd.prog 54 (⟨w_145.heap.size, 2, none⟩) (.iface 135 (.string o.vt)) w_, LoadsAs Tryd.prog 3 (⟨w.heap.size, 2, none⟩) (.int .i64 o.vk) w_]) (fun _ _ _ _ h => h) (fun w_ => by kernel_rfl) rfl (fun w_ hC_ => ⟨runs_bin rfl rfl (run_eqGuard_agg _ _ _ _ _ _ _ (by kernel_rfl)) (by have h := plain_neq (o.vk, o.vn, o.vt) (o.vk, o.vn, o.vt) w_; rw [show ple (o.vk, o.vn, o.vt) (o.vk, o.vn, o.vt) = true from (ple_iff _ _).2 rfl] at h; exact h), loads1 rfl (Blk.cell hC_.2 2 _ rfl), loads1 rfl (Blk.cell hC_.1 2 _ rfl), trivial⟩) ?_
            refine XG_mid (fuel' := 11) 26 #[true, true, true, true, true, true, true, true, true, true, true, true, true, true, true, true, true, true, true, true, true, true, true, true, true, true, true, true, true, true, false, false, false, false, false, false, false, false, false, false, false] _ rfl (by kernel_rfl) (by kernel_rfl) rfl ?_
            refine XL_inv 177 #[.string o.vt] rfl rfl (by kernel_rfl) (by kernel_rfl) (textKind_any _ _) ?_
            rintro e w_306 ⟨rfl, hb_307⟩; refine ⟨_, rfl, ?_⟩
            refine XL_nil ?_
            refine ⟨⟨(Blk.below hk_3 (bt (bt hB_303 hb_305) hb_307)), (Blk.below hk_297 (bt (bt hb_301 hb_305) hb_307))⟩, ?_⟩
            refine XG_run (fuel' := 3) ⟨(Blk.below hk_3 (bt (bt hB_303 hb_305) hb_307)), (Blk.below hk_297 (bt (bt hb_301 hb_305) hb_307))⟩ [30, 31, 32, 33, 34, 35, 36, 37] [(132, .eq (.bool false)), (137, .load (.slice A_130 o.attrs.length c_131)), (139, .load (.slice A o.attrs.length i0))] [.bool false, .bool false, .bool false, .pointer (some ⟨w_145.heap.size, 0, none⟩), .pointer (some ⟨w_145.heap.size, 0, none⟩), .slice A_130 o.attrs.length c_131, .pointer (some ⟨w.heap.size, 6, none⟩), .slice A o.attrs.length i0] #[true, true, true, true, true, true, true, true, true, true, true, true, true, true, true, true, true, true, true, true, true, true, true, true, true, true, true, true, true, true, true, true, true, true, true, true, true, true, false, false, false] [(1, .pointer (some ⟨w.heap.size, 0, none⟩)), (3, .slice A_15 1 c_16), (6, .iface 56 (.agg #[.slice A_136 o.attrs.length c_137, .string o.text, .iface 135 (.string o.vt)])), (8, .int .i64 (len4 o)), (11, .pointer (some ⟨w_145.heap.size, 0, none⟩)), (134, .bool false), (137, .slice A_130 o.attrs.length c_131), (139, .slice A o.attrs.length i0)] (fun w_ => [Value.bool ((3 : Int) != o.vk) = Value.bool false, LoadsAs Tryd.prog 31 (⟨w_145.heap.size, 0, none⟩) (.slice A_130 o.attrs.length c_131) w_, LoadsAs Tryd.prog 31 (⟨w.heap.size, 6, none⟩) (.slice A o.attrs.length i0) w_]) (fun _ _ _ _ h => h) (fun w_ => by kernel_rfl) rfl (fun w_ hC_ => ⟨congrArg Value.bool (bneF ((c_289.symm))), loads1 rfl (Blk.cell hC_.2 0 _ rfl), loads1 rfl (Blk.cell hC_.1 6 _ rfl), trivial⟩) ?_
            refine XG_mid (fuel' := 2) 38 #[true, true, true, true, true, true, true, true, true, true, true, true, true, true, true, true, true, true, true, true, true, true, true, true, true, true, true, true, true, true, true, true, true, true, true, true, true, true, true, false, false] _ rfl (by kernel_rfl) (by kernel_rfl) rfl ?_
            have hB_308 : Below w_33.heap.size w_33 w_306 := (bt (bt (bt (bg (bt (bt (bt hb_46 hb_144) hb_146) hb_291) hg_296 ((bt (bt hb_46 hb_144) hb_146)).size) hb_301) hb_305) hb_307)
            have hB_309 : Below w.heap.size w w_306 := (bt (bt (bt (bg (bt (bt (bt (bt hB_47 hb_46) hb_144) hb_146) hb_291) hg_296 ((bt (bt (bt hB_47 hb_46) hb_144) hb_146)).size) hb_301) hb_305) hb_307)
            refine XL_call 65 rfl rfl rfl ent65 [.slice A_130 o.attrs.length c_131, .slice A o.attrs.length i0] (by kernel_rfl) (sattrs_any _ _ _ _ o.attrs o.attrs _ (Kd.R_C (Kd.R_below hR_134 hB_308)) (Kd.C_below hA hB_309)) ?_
            rintro e w_310 ⟨rfl, hb_311⟩; refine ⟨_, rfl, ?_⟩
            rw [show decide (o.attrs = o.attrs) = true from decide_eq_true rfl]
            refine XL_nil ?_
            have hB_312 : Below w_1.heap.size w_1 w_310 := (bt (bt (bt hB_303 hb_305) hb_307) hb_311)
            have hB_313 : Below w_295.heap.size w_295 w_310 := (bt (bt (bt hb_301 hb_305) hb_307) hb_311)
            refine ⟨⟨(Blk.below hk_3 hB_312), (Blk.below hk_297 hB_313)⟩, ?_⟩
            refine XG_run (fuel' := 0) ⟨(Blk.below hk_3 hB_312), (Blk.below hk_297 hB_313)⟩ [39, 40] [] [.bool false, .bool false] #[true, true, true, true, true, true, true, true, true, true, true, true, true, true, true, true, true, true, true, true, true, true, true, true, true, true, true, true, true, true, true, true, true, true, true, true, true, true, true, true, true] [(1, .pointer (some ⟨w.heap.size, 0, none⟩)), (3, .slice A_15 1 c_16), (6, .iface 56 (.agg #[.slice A_136 o.attrs.length c_137, .string o.text, .iface 135 (.string o.vt)])), (8, .int .i64 (len4 o)), (11, .pointer (some ⟨w_145.heap.size, 0, none⟩)), (142, .bool false)] (fun w_ => []) (fun _ _ _ _ h => h) (fun w_ => by kernel_rfl) rfl (fun w_ hC_ => trivial) ?_
            refine XG_done (by kernel_rfl) ?_
            refine X_cond false rfl ?_
            refine X_skip ?_
            refine X_seq ?_
            refine X_region ?_
            refine XL_run 5 [(145, .load (.slice A_130 o.attrs.length c_131))] [(1, .pointer (some ⟨w.heap.size, 0, none⟩)), (3, .slice A_15 1 c_16), (6, .iface 56 (.agg #[.slice A_136 o.attrs.length c_137, .string o.text, .iface 135 (.string o.vt)])), (8, .int .i64 (len4 o)), (11, .pointer (some ⟨w_145.heap.size, 0, none⟩)), (146, .int .i64 (o.attrs.length : Int)), (147, .int .i64 0)] w_310 [LoadsAs Tryd.prog 31 (⟨w_145.heap.size, 0, none⟩) (.slice A_130 o.attrs.length c_131) w_310] (by kernel_rfl) ⟨loads1 rfl (Blk.cell (Blk.below hk_297 hB_313) 0 _ rfl), trivial⟩ ?_
            refine XL_nil ?_
            refine X_block ?_
            have hne_314 := rne_new (RX.Kd.R_lt hR_134) (Nat.le_trans (Nat.le_trans hb_46.size hb_144.size) hb_146.size)
            have hne_315 : ∀ k, A_130.map (·.block) = some k → k ≠ w.heap.size := fun k_ hk_ e_ => by have h_ := RX.Kd.R_ge hR_134 k_ hk_; have h2_ := Blk.lt hk_3; have h3_ := ((bt (bt hb_7 hb_9) hb_20)).size; omega
            have hB_316 : Below w_45.heap.size w_45 w_310 := (bt (bt (bt (bt (bg (bt (bt hb_144 hb_146) hb_291) hg_296 ((bt hb_144 hb_146)).size) hb_301) hb_305) hb_307) hb_311)
            have hB_317 : Below w_19.heap.size w_19 w_310 := (bt (bt (bt (bt (bg (bt (bt (bt (bt hb_34 hb_46) hb_144) hb_146) hb_291) hg_296 ((bt (bt (bt hb_34 hb_46) hb_144) hb_146)).size) hb_301) hb_305) hb_307) hb_311)
            refine X_loop (ι := Nat × List At) (fun ⟨i, zs⟩ => [(1, .pointer (some ⟨w.heap.size, 0, none⟩)), (3, .slice A_15 1 c_16), (6, .iface 56 (.agg #[.slice A_136 o.attrs.length c_137, .string o.text, .iface 135 (.string o.vt)])), (8, .int .i64 (len4 o)), (11, .pointer (some ⟨w_145.heap.size, 0, none⟩)), (146, .int .i64 (o.attrs.length : Int)), (147, .int .i64 (i : Int))]) (fun ⟨i, zs⟩ wl => i ≤ o.attrs.length ∧ kAttr.R 79 wl w_19.heap.size (OkFrom w_19.heap.size) (.slice A_130 o.attrs.length c_131) zs ∧ kAttr.R 79 wl w_33.heap.size (OkFrom w_33.heap.size) (.slice A_136 o.attrs.length c_137) o.attrs ∧ RX.Blk wl w.heap.size 33 #[.int .i64 o.kind, .string o.text, .int .i64 o.vk, .int .i64 o.vn, .string o.vt, .int .i64 o.count, .slice A o.attrs.length i0] ∧ RX.Blk wl w_145.heap.size 56 #[.slice A_130 o.attrs.length c_131, .string o.text, .iface 135 (.string o.vt)] ∧ w_19.heap.size ≤ wl.heap.size ∧ w_33.heap.size ≤ wl.heap.size ∧ Below w.heap.size w wl ∧ Below w_19.heap.size w_19 wl) (fun ⟨i, zs⟩ => o.attrs.length - i) (0, o.attrs) ⟨by omega, (Kd.R_below hR_134 (bt hB_308 hb_311)), (Kd.R_below hR_140 hB_316), (Blk.below hk_3 hB_312), (Blk.below hk_297 hB_313), (hB_317).size, ((bt hB_308 hb_311)).size, (bt hB_309 hb_311), hB_317⟩ (by kernel_rfl) ?_
            rintro ⟨i, zs⟩ wl ⟨hi, hra, hrb, hk1, hk2, hle_A_130, hle_A_136, HB, HB2⟩
            refine X_seq ?_
            refine X_region ?_
            by_cases c_318 : (i : Int) < (o.attrs.length : Int)
            · refine XL_run 1 [(148, .eq (.bool true))] [(1, .pointer (some ⟨w.heap.size, 0, none⟩)), (3, .slice A_15 1 c_16), (6, .iface 56 (.agg #[.slice A_136 o.attrs.length c_137, .string o.text, .iface 135 (.string o.vt)])), (8, .int .i64 (len4 o)), (11, .pointer (some ⟨w_145.heap.size, 0, none⟩)), (146, .int .i64 (o.attrs.length : Int)), (147, .int .i64 (i : Int)), (148, .bool true)] wl [Value.bool (decide ((i : Int) < (o.attrs.length : Int))) = Value.bool true] (by kernel_rfl) ⟨congrArg Value.bool (decide_eq_true (c_318)), trivial⟩ ?_
              refine XL_nil ?_
              refine X_seq ?_
              refine X_cond true rfl ?_
              refine X_skip ?_
              refine X_seq ?_
              refine X_block ?_
              refine X_seq ?_
              refine X_region ?_
              refine XL_run 2 [] [(1, .pointer (some ⟨w.heap.size, 0, none⟩)), (3, .slice A_15 1 c_16), (6, .iface 56 (.agg #[.slice A_136 o.attrs.length c_137, .string o.text, .iface 135 (.string o.vt)])), (8, .int .i64 (len4 o)), (11, .pointer (some ⟨w_145.heap.size, 0, none⟩)), (12, .int .i64 (i : Int)), (146, .int .i64 (o.attrs.length : Int)), (147, .int .i64 (i : Int))] wl [] (by kernel_rfl) trivial ?_
              refine XL_nil ?_
              refine X_region ?_
              refine XL_run 5 [(152, .load (.slice A_130 o.attrs.length c_131))] [(1, .pointer (some ⟨w.heap.size, 0, none⟩)), (3, .slice A_15 1 c_16), (6, .iface 56 (.agg #[.slice A_136 o.attrs.length c_137, .string o.text, .iface 135 (.string o.vt)])), (8, .int .i64 (len4 o)), (11, .pointer (some ⟨w_145.heap.size, 0, none⟩)), (146, .int .i64 (o.attrs.length : Int)), (147, .int .i64 (i : Int)), (152, .slice A_130 o.attrs.length c_131), (153, .int .i64 (i : Int)), (154, .agg #[.string (⟨#[115, 112, 111, 105, 108, 116]⟩ : ByteArray), .int .i64 0, .int .i64 0, .string ByteArray.empty])] wl [LoadsAs Tryd.prog 31 (⟨w_145.heap.size, 0, none⟩) (.slice A_130 o.attrs.length c_131) wl] (by kernel_rfl) ⟨loads1 rfl (Blk.cell hk2 0 _ rfl), trivial⟩ ?_
              obtain ⟨ad_319, ha_320, hc_321⟩ := Kd.atAttr (Kd.R_C hra) (i := (i : Int)) (by omega) (by omega)
              replace hc_321 : CellsAt wl (ad_319.add ((i : Int).toNat * 4)) [.string ((zs.getD i at0).1), .int .i64 ((zs.getD i at0).2.1), .int .i64 ((zs.getD i at0).2.2.1), .string ((zs.getD i at0).2.2.2)] := hc_321
              refine XL_run 1 [(155, .idx ad_319)] [(1, .pointer (some ⟨w.heap.size, 0, none⟩)), (3, .slice A_15 1 c_16), (6, .iface 56 (.agg #[.slice A_136 o.attrs.length c_137, .string o.text, .iface 135 (.string o.vt)])), (8, .int .i64 (len4 o)), (11, .pointer (some ⟨w_145.heap.size, 0, none⟩)), (146, .int .i64 (o.attrs.length : Int)), (147, .int .i64 (i : Int)), (154, .agg #[.string (⟨#[115, 112, 111, 105, 108, 116]⟩ : ByteArray), .int .i64 0, .int .i64 0, .string ByteArray.empty]), (155, .pointer (some (ad_319.add ((i : Int).toNat * 4))))] wl [A_130 = some ad_319, (0 : Int) ≤ (i : Int), (i : Int) < (o.attrs.length : Int)] (by kernel_rfl) ⟨ha_320, (by omega), (by omega), trivial⟩ ?_
              refine XL_rowset kAttr rfl rfl rfl w_19.heap.size 79 (ad := ad_319) (i := (i : Int)) (v := .agg #[.string (⟨#[115, 112, 111, 105, 108, 116]⟩ : ByteArray), .int .i64 0, .int .i64 0, .string ByteArray.empty]) zs ((⟨#[115, 112, 111, 105, 108, 116]⟩ : ByteArray), 0, 0, ByteArray.empty) (by kernel_rfl) ha_320 hra (by omega) (by omega) [.string (⟨#[115, 112, 111, 105, 108, 116]⟩ : ByteArray), .int .i64 0, .int .i64 0, .string ByteArray.empty] ⟨by kernel_rfl, by kernel_rfl⟩ (by kernel_rfl) (kAttr_M _ _ _ _) ?_
              intro w_322 hr_323 hg_324 hl_325
              have hr_326 := RX.Kd.R_flat rfl hrb hg_324 hne_141
              have hk_327 := Blk.ne hk1 hg_324 hne_315
              have hk_328 := Blk.ne hk2 hg_324 hne_314
              refine XL_nil ?_
              refine X_region ?_
              refine XL_run 2 [(156, .eq (.int .i64 ((i : Int) + 1)))] [(1, .pointer (some ⟨w.heap.size, 0, none⟩)), (3, .slice A_15 1 c_16), (6, .iface 56 (.agg #[.slice A_136 o.attrs.length c_137, .string o.text, .iface 135 (.string o.vt)])), (8, .int .i64 (len4 o)), (11, .pointer (some ⟨w_145.heap.size, 0, none⟩)), (146, .int .i64 (o.attrs.length : Int)), (147, .int .i64 ((i : Int) + 1))] w_322 [Value.int .i64 (IntKind.i64.wrap ((i : Int) + 1)) = Value.int .i64 ((i : Int) + 1)] (by kernel_rfl) ⟨wr_i64 (by omega) (by omega), trivial⟩ ?_
              refine XL_nil ?_
              have hB_329 : Below w.heap.size w w_322 := (bgo HB hg_324 hl_325 ((bt (bt (bt hb_2 hb_7) hb_9) hb_20)).size)
              refine ⟨(i + 1, (zs.set (i : Int).toNat ((⟨#[115, 112, 111, 105, 108, 116]⟩ : ByteArray), 0, 0, ByteArray.empty))), by kernel_rfl, ?_, ?_⟩
              · exact ⟨by omega, hr_323, hr_326, hk_327, hk_328, ((bgo HB2 hg_324 hl_325 (Nat.le_refl _))).size, (Nat.le_trans hle_A_136 hg_324.size), hB_329, (bgo HB2 hg_324 hl_325 (Nat.le_refl _))⟩
              · (try dsimp only); omega
            · refine XL_run 1 [(148, .eq (.bool false))] [(1, .pointer (some ⟨w.heap.size, 0, none⟩)), (3, .slice A_15 1 c_16), (6, .iface 56 (.agg #[.slice A_136 o.attrs.length c_137, .string o.text, .iface 135 (.string o.vt)])), (8, .int .i64 (len4 o)), (11, .pointer (some ⟨w_145.heap.size, 0, none⟩)), (146, .int .i64 (o.attrs.length : Int)), (147, .int .i64 (i : Int)), (148, .bool false)] wl [Value.bool (decide ((i : Int) < (o.attrs.length : Int))) = Value.bool false] (by kernel_rfl) ⟨congrArg Value.bool (decide_eq_false (c_318)), trivial⟩ ?_
              refine XL_nil ?_
              refine X_seq ?_
              refine X_cond false rfl ?_
              refine X_exit ?_
              refine X_seq ?_
              refine X_region ?_
              refine XL_run 1 [] [(1, .pointer (some ⟨w.heap.size, 0, none⟩)), (6, .iface 56 (.agg #[.slice A_136 o.attrs.length c_137, .string o.text, .iface 135 (.string o.vt)])), (8, .int .i64 (len4 o)), (157, .slice A_15 1 c_16)] wl [] (by kernel_rfl) trivial ?_
              refine XL_call 57 rfl rfl rfl ent57 [.slice A_15 1 c_16] (by kernel_rfl) (spoil_any A_15 c_16 [o] w_8 w_19 _ hR_18 HB2 (hb_20).size (Nat.le_of_ble_eq_true rfl)) ?_
              rintro e w_330 ⟨rfl, hS_331⟩; refine ⟨_, rfl, ?_⟩
              have hr_332 := Kd.R_spoilt hrb hS_331 (hb_34).size
              have hr_333 := Kd.R_spoilt hra hS_331 (Nat.le_refl _)
              have hk_334 := Spoilt.blkLo hS_331 hk1 (Nat.lt_of_lt_of_le (Blk.lt hk_3) ((bt hb_7 hb_9)).size)
              have hk_335 := Spoilt.blk hS_331 hk2 ((bt (bt (bt hb_34 hb_46) hb_144) hb_146)).size
              refine XL_nil ?_
              refine X_seq ?_
              refine X_region ?_
              refine XL_run 7 [] [(1, .pointer (some ⟨w.heap.size, 0, none⟩)), (6, .iface 56 (.agg #[.slice A_136 o.attrs.length c_137, .string o.text, .iface 135 (.string o.vt)])), (8, .int .i64 (len4 o)), (14, .iface 56 (.agg #[.slice A_136 o.attrs.length c_137, .string o.text, .iface 135 (.string o.vt)])), (15, .bool true)] w_330 [] (by kernel_rfl) trivial ?_
              refine XL_nil ?_
              refine X_seq ?_
              refine X_gen (S := fun w_ => RX.Blk w_ w.heap.size 33 #[.int .i64 o.kind, .string o.text, .int .i64 o.vk, .int .i64 o.vn, .string o.vt, .int .i64 o.count, .slice A o.attrs.length i0]) [] 21 #[false, false, false, false, false, false, false, false, false, false, false, false, false, false, false, false, false, false, false, false, false] (by kernel_rfl) (by kernel_rfl) (by kernel_rfl) (fun wd_336 hb_337 hh_338 => ?_)
              refine XG_run (fuel' := 17) (Blk.below hk_334 hb_337) [0, 1, 2, 4] [] [.bool true, .bool true, .iface 56 (.agg #[.slice A_136 o.attrs.length c_137, .string o.text, .iface 135 (.string o.vt)]), .int .i64 (len4 o)] #[true, true, true, false, true, false, false, false, false, false, false, false, false, false, false, false, false, false, false, false, false] [(1, .pointer (some ⟨w.heap.size, 0, none⟩)), (6, .iface 56 (.agg #[.slice A_136 o.attrs.length c_137, .string o.text, .iface 135 (.string o.vt)])), (14, .iface 56 (.agg #[.slice A_136 o.attrs.length c_137, .string o.text, .iface 135 (.string o.vt)])), (165, .bool true), (166, .iface 56 (.agg #[.slice A_136 o.attrs.length c_137, .string o.text, .iface 135 (.string o.vt)])), (168, .int .i64 (len4 o))] (fun w_ => []) (fun _ _ _ _ h => h) (fun w_ => by kernel_rfl) rfl (fun w_ hC_ => trivial) ?_
              refine XG_mid (fuel' := 16) 3 #[true, true, true, true, true, false, false, false, false, false, false, false, false, false, false, false, false, false, false, false, false] _ rfl (by kernel_rfl) (by kernel_rfl) rfl ?_
              refine XL_inv 167 #[.agg #[.slice A_136 o.attrs.length c_137, .string o.text, .iface 135 (.string o.vt)]] rfl rfl (by kernel_rfl) (by kernel_rfl) (embedLen_any _ _ _ _ _ _) ?_
              rintro e w_339 ⟨rfl, hb_340⟩; refine ⟨_, rfl, ?_⟩
              refine XL_nil ?_
              refine ⟨(Blk.below hk_334 (bt hb_337 hb_340)), ?_⟩
              refine XG_run (fuel' := 11) (Blk.below hk_334 (bt hb_337 hb_340)) [5, 6, 7, 8, 10] [(169, .eq (.bool true)), (174, .load (.agg #[.int .i64 o.kind, .string o.text, .int .i64 o.vk, .int .i64 o.vn, .string o.vt, .int .i64 o.count, .slice A o.attrs.length i0]))] [.bool true, .bool true, .bool true, .iface 56 (.agg #[.slice A_136 o.attrs.length c_137, .string o.text, .iface 135 (.string o.vt)]), .agg #[.int .i64 o.kind, .string o.text, .int .i64 o.vk, .int .i64 o.vn, .string o.vt, .int .i64 o.count, .slice A o.attrs.length i0]] #[true, true, true, true, true, true, true, true, true, false, true, false, false, false, false, false, false, false, false, false, false] [(1, .pointer (some ⟨w.heap.size, 0, none⟩)), (14, .iface 56 (.agg #[.slice A_136 o.attrs.length c_137, .string o.text, .iface 135 (.string o.vt)])), (171, .bool true), (172, .iface 56 (.agg #[.slice A_136 o.attrs.length c_137, .string o.text, .iface 135 (.string o.vt)])), (174, .agg #[.int .i64 o.kind, .string o.text, .int .i64 o.vk, .int .i64 o.vn, .string o.vt, .int .i64 o.count, .slice A o.attrs.length i0])] (fun w_ => [Value.bool ((1 : Int) == (len4 o)) = Value.bool true, LoadsAs Tryd.prog 33 (⟨w.heap.size, 0, none⟩) (.agg #[.int .i64 o.kind, .string o.text, .int .i64 o.vk, .int .i64 o.vn, .string o.vt, .int .i64 o.count, .slice A o.attrs.length i0]) w_]) (fun _ _ _ _ h => h) (fun w_ => by kernel_rfl) rfl (fun w_ hC_ => ⟨congrArg Value.bool (beq_iff_eq.2 ((len4_2 hk_49).symm)), loadsB rfl rfl hC_ 0 ⟨by kernel_rfl, by kernel_rfl⟩, trivial⟩) ?_
              refine XG_mid (fuel' := 10) 9 #[true, true, true, true, true, true, true, true, true, true, true, false, false, false, false, false, false, false, false, false, false] _ rfl (by kernel_rfl) (by kernel_rfl) rfl ?_
              refine XL_inv 168 #[.agg #[.slice A_136 o.attrs.length c_137, .string o.text, .iface 135 (.string o.vt)]] rfl rfl (by kernel_rfl) (by kernel_rfl) (by have h_ := embedOp_any o A_136 c_137 w_339 (Kd.R_C (Kd.R_below hr_332 (bt hb_337 hb_340))) (by omega) (refuse_val c_48 hk_49); rw [valV_3 (v := (o.vk, o.vn, o.vt)) c_147 c_218 c_289] at h_; exact h_) ?_
              rintro e w_343 ⟨A_341, c_342, rfl, hl_345, hr_346, hb_344⟩; refine ⟨_, rfl, ?_⟩
              refine XL_nil ?_
              refine ⟨(Blk.below hk_334 (bt (bt hb_337 hb_340) hb_344)), ?_⟩
              refine XG_mid (fuel' := 9) 11 #[true, true, true, true, true, true, true, true, true, true, true, true, false, false, false, false, false, false, false, false, false] _ rfl (by kernel_rfl) (by kernel_rfl) rfl ?_
              have hB_347 : Below w.heap.size w w_343 := (bt (bt (bt (bsp HB hS_331 ((bt (bt hb_2 hb_7) hb_9)).size) hb_337) hb_340) hb_344)
              refine XL_call 60 rfl rfl rfl ent60 [.agg #[.int .i64 ((⟨2, o.text, o.vk, o.vn, o.vt, 0, o.attrs⟩ : OpA).kind), .string ((⟨2, o.text, o.vk, o.vn, o.vt, 0, o.attrs⟩ : OpA).text), .int .i64 ((⟨2, o.text, o.vk, o.vn, o.vt, 0, o.attrs⟩ : OpA).vk), .int .i64 ((⟨2, o.text, o.vk, o.vn, o.vt, 0, o.attrs⟩ : OpA).vn), .string ((⟨2, o.text, o.vk, o.vn, o.vt, 0, o.attrs⟩ : OpA).vt), .int .i64 ((⟨2, o.text, o.vk, o.vn, o.vt, 0, o.attrs⟩ : OpA).count), .slice A_341 ((⟨2, o.text, o.vk, o.vn, o.vt, 0, o.attrs⟩ : OpA).attrs.length) c_342], .agg #[.int .i64 o.kind, .string o.text, .int .i64 o.vk, .int .i64 o.vn, .string o.vt, .int .i64 o.count, .slice A o.attrs.length i0]] (by kernel_rfl) (r4same_any (⟨2, o.text, o.vk, o.vn, o.vt, 0, o.attrs⟩ : OpA) o _ _ _ _ _ (Kd.R_C hr_346) (Kd.C_below hA hB_347)) ?_
              rintro e w_348 ⟨rfl, hb_349⟩; refine ⟨_, rfl, ?_⟩
              rw [show opEqP (⟨2, o.text, o.vk, o.vn, o.vt, 0, o.attrs⟩ : OpA) o = true from (opEqP_iff _ _).2 (refuse_emb c_48 hk_49).symm]
              refine XL_nil ?_
              have hB_350 : Below w_330.heap.size w_330 w_348 := (bt (bt (bt hb_337 hb_340) hb_344) hb_349)
              refine ⟨(Blk.below hk_334 hB_350), ?_⟩
              refine XG_run (fuel' := 4) (Blk.below hk_334 hB_350) [12, 13, 14, 16, 17] [(181, .load (.slice A o.attrs.length i0))] [.bool true, .bool true, .iface 56 (.agg #[.slice A_136 o.attrs.length c_137, .string o.text, .iface 135 (.string o.vt)]), .pointer (some ⟨w.heap.size, 6, none⟩), .slice A o.attrs.length i0] #[true, true, true, true, true, true, true, true, true, true, true, true, true, true, true, false, true, true, false, false, false] [(177, .bool true), (178, .iface 56 (.agg #[.slice A_136 o.attrs.length c_137, .string o.text, .iface 135 (.string o.vt)])), (181, .slice A o.attrs.length i0)] (fun w_ => [LoadsAs Tryd.prog 31 (⟨w.heap.size, 6, none⟩) (.slice A o.attrs.length i0) w_]) (fun _ _ _ _ h => h) (fun w_ => by kernel_rfl) rfl (fun w_ hC_ => ⟨loads1 rfl (Blk.cell hC_ 6 _ rfl), trivial⟩) ?_
              refine XG_mid (fuel' := 3) 15 #[true, true, true, true, true, true, true, true, true, true, true, true, true, true, true, true, true, true, false, false, false] _ rfl (by kernel_rfl) (by kernel_rfl) rfl ?_
              refine XL_inv 97 #[.agg #[.slice A_136 o.attrs.length c_137]] rfl rfl (by kernel_rfl) (by kernel_rfl) (attributes_any _ _ o.attrs _ (Kd.R_C (Kd.R_below hr_332 hB_350)) (by omega)) ?_
              rintro e w_353 ⟨A_351, c_352, rfl, hl_355, hr_356, hb_354⟩; refine ⟨_, rfl, ?_⟩
              refine XL_nil ?_
              refine ⟨(Blk.below hk_334 (bt hB_350 hb_354)), ?_⟩
              refine XG_mid (fuel' := 2) 18 #[true, true, true, true, true, true, true, true, true, true, true, true, true, true, true, true, true, true, true, false, false] _ rfl (by kernel_rfl) (by kernel_rfl) rfl ?_
              refine XL_call 65 rfl rfl rfl ent65 [.slice A_351 o.attrs.length c_352, .slice A o.attrs.length i0] (by kernel_rfl) (sattrs_any _ _ _ _ o.attrs o.attrs _ (Kd.R_C hr_356) (Kd.C_below hA (bt (bt hB_347 hb_349) hb_354))) ?_
              rintro e w_357 ⟨rfl, hb_358⟩; refine ⟨_, rfl, ?_⟩
              rw [show decide (o.attrs = o.attrs) = true from decide_eq_true rfl]
              refine XL_nil ?_
              refine ⟨(Blk.below hk_334 (bt (bt hB_350 hb_354) hb_358)), ?_⟩
              refine XG_run (fuel' := 0) (Blk.below hk_334 (bt (bt hB_350 hb_354) hb_358)) [19, 20] [] [.bool true, .bool true] #[true, true, true, true, true, true, true, true, true, true, true, true, true, true, true, true, true, true, true, true, true] [(2, .bool true)] (fun w_ => []) (fun _ _ _ _ h => h) (fun w_ => by kernel_rfl) rfl (fun w_ hC_ => trivial) ?_
              refine XG_done (by kernel_rfl) ?_
              refine X_ret ?_
              refine RX.ret_ok (P := Tryd.prog) (fn := Tryd.f14) (N := 184) (R := R_) [.bool true] (by kernel_rfl) (hR_ _ _ ?_)
              have hB_359 : Below w.heap.size w w_357 := (bt (bt (bt hB_347 hb_349) hb_354) hb_358)
              exact ⟨rfl, hB_359⟩
          · rw [valV_0 (v := (o.vk, o.vn, o.vt)) c_147 c_218 c_289]
            refine XL_run 1 [] [(1, .pointer (some ⟨w.heap.size, 0, none⟩)), (3, .slice A_15 1 c_16), (6, .iface 56 (.agg #[.slice A_136 o.attrs.length c_137, .string o.text, .iface 137 (.agg #[])])), (8, .int .i64 (len4 o)), (11, .pointer (some ⟨w_145.heap.size, 0, none⟩)), (101, .agg #[.slice A_130 o.attrs.length c_131, .string o.text, .iface 137 (.agg #[])])] (w_145.alloc (.cells #[.slice none 0 0, .string ByteArray.empty, .nilIface] 56)) [] (by kernel_rfl) trivial ?_
            obtain ⟨w_360, hw_364, hb_361, hk_362, hz_363⟩ := new_world w_145 #[.slice none 0 0, .string ByteArray.empty, .nilIface] 56
            rw [hw_364]
            refine XL_store (v := .agg #[.slice A_130 o.attrs.length c_131, .string o.text, .iface 137 (.agg #[])]) rfl rfl rfl (by kernel_rfl) hk_362 0 [.slice A_130 o.attrs.length c_131, .string o.text, .iface 137 (.agg #[])] #[.slice A_130 o.attrs.length c_131, .string o.text, .iface 137 (.agg #[])] ⟨by kernel_rfl, rfl, by kernel_rfl⟩ ⟨by kernel_rfl, by kernel_rfl⟩ (Nat.le_of_ble_eq_true (by kernel_rfl)) (fun w_365 hg_366 hk_367 hz_368 => ?_)
            have hB_369 : Below w_8.heap.size w_8 w_145 := (bt (bt (bt (bt hb_20 hb_34) hb_46) hb_144) hb_146)
            refine XL_nil ?_
            refine X_seq ?_
            refine X_seq ?_
            refine X_gen (S := fun w_ => RX.Blk w_ w.heap.size 33 #[.int .i64 o.kind, .string o.text, .int .i64 o.vk, .int .i64 o.vn, .string o.vt, .int .i64 o.count, .slice A o.attrs.length i0] ∧ RX.Blk w_ w_145.heap.size 56 #[.slice A_130 o.attrs.length c_131, .string o.text, .iface 137 (.agg #[])]) [] 41 #[false, false, false, false, false, false, false, false, false, false, false, false, false, false, false, false, false, false, false, false, false, false, false, false, false, false, false, false, false, false, false, false, false, false, false, false, false, false, false, false, false] (by kernel_rfl) (by kernel_rfl) (by kernel_rfl) (fun wd_370 hb_371 hh_372 => ?_)
            have hB_373 : Below w_1.heap.size w_1 wd_370 := (bt (bg (bt (bt (bt hB_142 hb_144) hb_146) hb_361) hg_366 ((bt (bt hB_142 hb_144) hb_146)).size) hb_371)
            refine XG_run (fuel' := 21) ⟨(Blk.below hk_3 hB_373), (Blk.below hk_367 hb_371)⟩ [0, 1, 2, 3, 4, 5, 6, 7, 8, 9, 10, 11, 12, 13, 14, 15, 16, 17, 19, 20] [(103, .load (.int .i64 o.kind)), (104, .eq (.bool false)), (107, .load (.string o.text)), (109, .load (.string o.text)), (110, .eq (.bool false)), (114, .load (.iface 137 (.agg #[]))), (119, .load (.iface 137 (.agg #[]))), (122, .load (.agg #[.int .i64 o.vk, .int .i64 o.vn, .string o.vt]))] [.pointer (some ⟨w.heap.size, 0, none⟩), .int .i64 o.kind, .bool false, .bool false, .pointer (some ⟨w_145.heap.size, 1, none⟩), .string o.text, .pointer (some ⟨w.heap.size, 1, none⟩), .string o.text, .bool false, .bool false, .bool false, .pointer (some ⟨w_145.heap.size, 2, none⟩), .iface 137 (.agg #[]), .bool false, .bool false, .bool false, .pointer (some ⟨w_145.heap.size, 2, none⟩), .iface 137 (.agg #[]), .pointer (some ⟨w.heap.size, 2, none⟩), .agg #[.int .i64 o.vk, .int .i64 o.vn, .string o.vt]] #[true, true, true, true, true, true, true, true, true, true, true, true, true, true, true, true, true, true, false, true, true, false, false, false, false, false, false, false, false, false, false, false, false, false, false, false, false, false, false, false, false] [(1, .pointer (some ⟨w.heap.size, 0, none⟩)), (3, .slice A_15 1 c_16), (6, .iface 56 (.agg #[.slice A_136 o.attrs.length c_137, .string o.text, .iface 137 (.agg #[])])), (8, .int .i64 (len4 o)), (11, .pointer (some ⟨w_145.heap.size, 0, none⟩)), (117, .bool false), (119, .iface 137 (.agg #[])), (122, .agg #[.int .i64 o.vk, .int .i64 o.vn, .string o.vt])] (fun w_ => [LoadsAs Tryd.prog 3 (⟨w.heap.size, 0, none⟩) (.int .i64 o.kind) w_, Value.bool (o.kind != 2) = Value.bool false, LoadsAs Tryd.prog 9 (⟨w_145.heap.size, 1, none⟩) (.string o.text) w_, LoadsAs Tryd.prog 9 (⟨w.heap.size, 1, none⟩) (.string o.text) w_, Value.bool (!o.text.toList == o.text.toList) = Value.bool false, LoadsAs Tryd.prog 54 (⟨w_145.heap.size, 2, none⟩) (.iface 137 (.agg #[])) w_, LoadsAs Tryd.prog 54 (⟨w_145.heap.size, 2, none⟩) (.iface 137 (.agg #[])) w_, LoadsAs Tryd.prog 30 (⟨w.heap.size, 2, none⟩) (.agg #[.int .i64 o.vk, .int .i64 o.vn, .string o.vt]) w_]) (fun _ _ _ _ h => h) (fun w_ => by kernel_rfl) rfl (fun w_ hC_ => ⟨loads1 rfl (Blk.cell hC_.1 0 _ rfl), congrArg Value.bool (bneF (hk_49)), loads1 rfl (Blk.cell hC_.2 1 _ rfl), loads1 rfl (Blk.cell hC_.1 1 _ rfl), congrArg Value.bool (strNeF (rfl)), loads1 rfl (Blk.cell hC_.2 2 _ rfl), loads1 rfl (Blk.cell hC_.2 2 _ rfl), loadsB rfl rfl hC_.1 2 ⟨by kernel_rfl, by kernel_rfl⟩, trivial⟩) ?_
            refine XG_mid (fuel' := 20) 18 #[true, true, true, true, true, true, true, true, true, true, true, true, true, true, true, true, true, true, true, true, true, false, false, false, false, false, false, false, false, false, false, false, false, false, false, false, false, false, false, false, false] _ rfl (by kernel_rfl) (by kernel_rfl) rfl ?_
            refine XL_inv 180 #[.agg #[]] rfl rfl (by kernel_rfl) (by kernel_rfl) (nullPlain_any o.vk o.vn o.vt _ (refuse_val c_48 hk_49) (by have h_ := plainOk_kind (refuse_val c_48 hk_49); omega)) ?_
            rintro e w_374 ⟨rfl, hb_375⟩; refine ⟨_, rfl, ?_⟩
            refine XL_nil ?_
            refine ⟨⟨(Blk.below hk_3 (bt hB_373 hb_375)), (Blk.below hk_367 (bt hb_371 hb_375))⟩, ?_⟩
            refine XG_run (fuel' := 12) ⟨(Blk.below hk_3 (bt hB_373 hb_375)), (Blk.below hk_367 (bt hb_371 hb_375))⟩ [21, 22, 23, 24, 25, 27, 28, 29] [(123, .as (.bool false)), (127, .load (.iface 137 (.agg #[]))), (131, .load (.int .i64 o.vk))] [.bool false, .bool false, .bool false, .pointer (some ⟨w_145.heap.size, 2, none⟩), .iface 137 (.agg #[]), .pointer (some ⟨w.heap.size, 2, none⟩), .pointer (some ⟨w.heap.size, 2, none⟩), .int .i64 o.vk] #[true, true, true, true, true, true, true, true, true, true, true, true, true, true, true, true, true, true, true, true, true, true, true, true, true, true, false, true, true, true, false, false, false, false, false, false, false, false, false, false, false] [(1, .pointer (some ⟨w.heap.size, 0, none⟩)), (3, .slice A_15 1 c_16), (6, .iface 56 (.agg #[.slice A_136 o.attrs.length c_137, .string o.text, .iface 137 (.agg #[])])), (8, .int .i64 (len4 o)), (11, .pointer (some ⟨w_145.heap.size, 0, none⟩)), (125, .bool false), (127, .iface 137 (.agg #[])), (131, .int .i64 o.vk)] (fun w_ => [RunsAs Tryd.prog [(120, .agg #[.int .i64 o.vk, .int .i64 o.vn, .string o.vt]), (122, .agg #[.int .i64 o.vk, .int .i64 o.vn, .string o.vt])] (Go.Op.binOp Go.BinOp.neq 30 (Go.Operand.tmp 120) (Go.Operand.tmp 122) 30) 4 (.bool false) w_, LoadsAs Tryd.prog 54 (⟨w_145.heap.size, 2, none⟩) (.iface 137 (.agg #[])) w_, LoadsAs Tryd.prog 3 (⟨w.heap.size, 2, none⟩) (.int .i64 o.vk) w_]) (fun _ _ _ _ h => h) (fun w_ => by kernel_rfl) rfl (fun w_ hC_ => ⟨runs_bin rfl rfl (run_eqGuard_agg _ _ _ _ _ _ _ (by kernel_rfl)) (by have h := plain_neq (o.vk, o.vn, o.vt) (o.vk, o.vn, o.vt) w_; rw [show ple (o.vk, o.vn, o.vt) (o.vk, o.vn, o.vt) = true from (ple_iff _ _).2 rfl] at h; exact h), loads1 rfl (Blk.cell hC_.2 2 _ rfl), loads1 rfl (Blk.cell hC_.1 2 _ rfl), trivial⟩) ?_
            refine XG_mid (fuel' := 11) 26 #[true, true, true, true, true, true, true, true, true, true, true, true, true, true, true, true, true, true, true, true, true, true, true, true, true, true, true, true, true, true, false, false, false, false, false, false, false, false, false, false, false] _ rfl (by kernel_rfl) (by kernel_rfl) rfl ?_
            refine XL_inv 179 #[.agg #[]] rfl rfl (by kernel_rfl) (by kernel_rfl) (nullKind_any _) ?_
            rintro e w_376 ⟨rfl, hb_377⟩; refine ⟨_, rfl, ?_⟩
            refine XL_nil ?_
            refine ⟨⟨(Blk.below hk_3 (bt (bt hB_373 hb_375) hb_377)), (Blk.below hk_367 (bt (bt hb_371 hb_375) hb_377))⟩, ?_⟩
            refine XG_run (fuel' := 3) ⟨(Blk.below hk_3 (bt (bt hB_373 hb_375) hb_377)), (Blk.below hk_367 (bt (bt hb_371 hb_375) hb_377))⟩ [30, 31, 32, 33, 34, 35, 36, 37] [(132, .eq (.bool false)), (137, .load (.slice A_130 o.attrs.length c_131)), (139, .load (.slice A o.attrs.length i0))] [.bool false, .bool false, .bool false, .pointer (some ⟨w_145.heap.size, 0, none⟩), .pointer (some ⟨w_145.heap.size, 0, none⟩), .slice A_130 o.attrs.length c_131, .pointer (some ⟨w.heap.size, 6, none⟩), .slice A o.attrs.length i0] #[true, true, true, true, true, true, true, true, true, true, true, true, true, true, true, true, true, true, true, true, true, true, true, true, true, true, true, true, true, true, true, true, true, true, true, true, true, true, false, false, false] [(1, .pointer (some ⟨w.heap.size, 0, none⟩)), (3, .slice A_15 1 c_16), (6, .iface 56 (.agg #[.slice A_136 o.attrs.length c_137, .string o.text, .iface 137 (.agg #[])])), (8, .int .i64 (len4 o)), (11, .pointer (some ⟨w_145.heap.size, 0, none⟩)), (134, .bool false), (137, .slice A_130 o.attrs.length c_131), (139, .slice A o.attrs.length i0)] (fun w_ => [Value.bool ((0 : Int) != o.vk) = Value.bool false, LoadsAs Tryd.prog 31 (⟨w_145.heap.size, 0, none⟩) (.slice A_130 o.attrs.length c_131) w_, LoadsAs Tryd.prog 31 (⟨w.heap.size, 6, none⟩) (.slice A o.attrs.length i0) w_]) (fun _ _ _ _ h => h) (fun w_ => by kernel_rfl) rfl (fun w_ hC_ => ⟨congrArg Value.bool (bneF ((by have h_ := plainOk_kind (refuse_val c_48 hk_49); omega))), loads1 rfl (Blk.cell hC_.2 0 _ rfl), loads1 rfl (Blk.cell hC_.1 6 _ rfl), trivial⟩) ?_
            refine XG_mid (fuel' := 2) 38 #[true, true, true, true, true, true, true, true, true, true, true, true, true, true, true, true, true, true, true, true, true, true, true, true, true, true, true, true, true, true, true, true, true, true, true, true, true, true, true, false, false] _ rfl (by kernel_rfl) (by kernel_rfl) rfl ?_
            have hB_378 : Below w_33.heap.size w_33 w_376 := (bt (bt (bt (bg (bt (bt (bt hb_46 hb_144) hb_146) hb_361) hg_366 ((bt (bt hb_46 hb_144) hb_146)).size) hb_371) hb_375) hb_377)
            have hB_379 : Below w.heap.size w w_376 := (bt (bt (bt (bg (bt (bt (bt (bt hB_47 hb_46) hb_144) hb_146) hb_361) hg_366 ((bt (bt (bt hB_47 hb_46) hb_144) hb_146)).size) hb_371) hb_375) hb_377)
            refine XL_call 65 rfl rfl rfl ent65 [.slice A_130 o.attrs.length c_131, .slice A o.attrs.length i0] (by kernel_rfl) (sattrs_any _ _ _ _ o.attrs o.attrs _ (Kd.R_C (Kd.R_below hR_134 hB_378)) (Kd.C_below hA hB_379)) ?_
            rintro e w_380 ⟨rfl, hb_381⟩; refine ⟨_, rfl, ?_⟩
            rw [show decide (o.attrs = o.attrs) = true from decide_eq_true rfl]
            refine XL_nil ?_
            have hB_382 : Below w_1.heap.size w_1 w_380 := (bt (bt (bt hB_373 hb_375) hb_377) hb_381)
            have hB_383 : Below w_365.heap.size w_365 w_380 := (bt (bt (bt hb_371 hb_375) hb_377) hb_381)
            refine ⟨⟨(Blk.below hk_3 hB_382), (Blk.below hk_367 hB_383)⟩, ?_⟩
            refine XG_run (fuel' := 0) ⟨(Blk.below hk_3 hB_382), (Blk.below hk_367 hB_383)⟩ [39, 40] [] [.bool false, .bool false] #[true, true, true, true, true, true, true, true, true, true, true, true, true, true, true, true, true, true, true, true, true, true, true, true, true, true, true, true, true, true, true, true, true, true, true, true, true, true, true, true, true] [(1, .pointer (some ⟨w.heap.size, 0, none⟩)), (3, .slice A_15 1 c_16), (6, .iface 56 (.agg #[.slice A_136 o.attrs.length c_137, .string o.text, .iface 137 (.agg #[])])), (8, .int .i64 (len4 o)), (11, .pointer (some ⟨w_145.heap.size, 0, none⟩)), (142, .bool false)] (fun w_ => []) (fun _ _ _ _ h => h) (fun w_ => by kernel_rfl) rfl (fun w_ hC_ => trivial) ?_
            refine XG_done (by kernel_rfl) ?_
            refine X_cond false rfl ?_
            refine X_skip ?_
            refine X_seq ?_
            refine X_region ?_
            refine XL_run 5 [(145, .load (.slice A_130 o.attrs.length c_131))] [(1, .pointer (some ⟨w.heap.size, 0, none⟩)), (3, .slice A_15 1 c_16), (6, .iface 56 (.agg #[.slice A_136 o.attrs.length c_137, .string o.text, .iface 137 (.agg #[])])), (8, .int .i64 (len4 o)), (11, .pointer (some ⟨w_145.heap.size, 0, none⟩)), (146, .int .i64 (o.attrs.length : Int)), (147, .int .i64 0)] w_380 [LoadsAs Tryd.prog 31 (⟨w_145.heap.size, 0, none⟩) (.slice A_130 o.attrs.length c_131) w_380] (by kernel_rfl) ⟨loads1 rfl (Blk.cell (Blk.below hk_367 hB_383) 0 _ rfl), trivial⟩ ?_
            refine XL_nil ?_
            refine X_block ?_
            have hne_384 := rne_new (RX.Kd.R_lt hR_134) (Nat.le_trans (Nat.le_trans hb_46.size hb_144.size) hb_146.size)
            have hne_385 : ∀ k, A_130.map (·.block) = some k → k ≠ w.heap.size := fun k_ hk_ e_ => by have h_ := RX.Kd.R_ge hR_134 k_ hk_; have h2_ := Blk.lt hk_3; have h3_ := ((bt (bt hb_7 hb_9) hb_20)).size; omega
            have hB_386 : Below w_45.heap.size w_45 w_380 := (bt (bt (bt (bt (bg (bt (bt hb_144 hb_146) hb_361) hg_366 ((bt hb_144 hb_146)).size) hb_371) hb_375) hb_377) hb_381)
            have hB_387 : Below w_19.heap.size w_19 w_380 := (bt (bt (bt (bt (bg (bt (bt (bt (bt hb_34 hb_46) hb_144) hb_146) hb_361) hg_366 ((bt (bt (bt hb_34 hb_46) hb_144) hb_146)).size) hb_371) hb_375) hb_377) hb_381)
            refine X_loop (ι := Nat × List At) (fun ⟨i, zs⟩ => [(1, .pointer (some ⟨w.heap.size, 0, none⟩)), (3, .slice A_15 1 c_16), (6, .iface 56 (.agg #[.slice A_136 o.attrs.length c_137, .string o.text, .iface 137 (.agg #[])])), (8, .int .i64 (len4 o)), (11, .pointer (some ⟨w_145.heap.size, 0, none⟩)), (146, .int .i64 (o.attrs.length : Int)), (147, .int .i64 (i : Int))]) (fun ⟨i, zs⟩ wl => i ≤ o.attrs.length ∧ kAttr.R 79 wl w_19.heap.size (OkFrom w_19.heap.size) (.slice A_130 o.attrs.length c_131) zs ∧ kAttr.R 79 wl w_33.heap.size (OkFrom w_33.heap.size) (.slice A_136 o.attrs.length c_137) o.attrs ∧ RX.Blk wl w.heap.size 33 #[.int .i64 o.kind, .string o.text, .int .i64 o.vk, .int .i64 o.vn, .string o.vt, .int .i64 o.count, .slice A o.attrs.length i0] ∧ RX.Blk wl w_145.heap.size 56 #[.slice A_130 o.attrs.length c_131, .string o.text, .iface 137 (.agg #[])] ∧ w_19.heap.size ≤ wl.heap.size ∧ w_33.heap.size ≤ wl.heap.size ∧ Below w.heap.size w wl ∧ Below w_19.heap.size w_19 wl) (fun ⟨i, zs⟩ => o.attrs.length - i) (0, o.attrs) ⟨by omega, (Kd.R_below hR_134 (bt hB_378 hb_381)), (Kd.R_below hR_140 hB_386), (Blk.below hk_3 hB_382), (Blk.below hk_367 hB_383), (hB_387).size, ((bt hB_378 hb_381)).size, (bt hB_379 hb_381), hB_387⟩ (by kernel_rfl) ?_
            rintro ⟨i, zs⟩ wl ⟨hi, hra, hrb, hk1, hk2, hle_A_130, hle_A_136, HB, HB2⟩
            refine X_seq ?_
            refine X_region ?_
            by_cases c_388 : (i : Int) < (o.attrs.length : Int)
            · refine XL_run 1 [(148, .eq (.bool true))] [(1, .pointer (some ⟨w.heap.size, 0, none⟩)), (3, .slice A_15 1 c_16), (6, .iface 56 (.agg #[.slice A_136 o.attrs.length c_137, .string o.text, .iface 137 (.agg #[])])), (8, .int .i64 (len4 o)), (11, .pointer (some ⟨w_145.heap.size, 0, none⟩)), (146, .int .i64 (o.attrs.length : Int)), (147, .int .i64 (i : Int)), (148, .bool true)] wl [Value.bool (decide ((i : Int) < (o.attrs.length : Int))) = Value.bool true] (by kernel_rfl) ⟨congrArg Value.bool (decide_eq_true (c_388)), trivial⟩ ?_
              refine XL_nil ?_
              refine X_seq ?_
              refine X_cond true rfl ?_
              refine X_skip ?_
              refine X_seq ?_
              refine X_block ?_
              refine X_seq ?_
              refine X_region ?_
              refine XL_run 2 [] [(1, .pointer (some ⟨w.heap.size, 0, none⟩)), (3, .slice A_15 1 c_16), (6, .iface 56 (.agg #[.slice A_136 o.attrs.length c_137, .string o.text, .iface 137 (.agg #[])])), (8, .int .i64 (len4 o)), (11, .pointer (some ⟨w_145.heap.size, 0, none⟩)), (12, .int .i64 (i : Int)), (146, .int .i64 (o.attrs.length : Int)), (147, .int .i64 (i : Int))] wl [] (by kernel_rfl) trivial ?_
              refine XL_nil ?_
              refine X_region ?_
              refine XL_run 5 [(152, .load (.slice A_130 o.attrs.length c_131))] [(1, .pointer (some ⟨w.heap.size, 0, none⟩)), (3, .slice A_15 1 c_16), (6, .iface 56 (.agg #[.slice A_136 o.attrs.length c_137, .string o.text, .iface 137 (.agg #[])])), (8, .int .i64 (len4 o)), (11, .pointer (some ⟨w_145.heap.size, 0, none⟩)), (146, .int .i64 (o.attrs.length : Int)), (147, .int .i64 (i : Int)), (152, .slice A_130 o.attrs.length c_131), (153, .int .i64 (i : Int)), (154, .agg #[.string (⟨#[115, 112, 111, 105, 108, 116]⟩ : ByteArray), .int .i64 0, .int .i64 0, .string ByteArray.empty])] wl [LoadsAs Tryd.prog 31 (⟨w_145.heap.size, 0, none⟩) (.slice A_130 o.attrs.length c_131) wl] (by kernel_rfl) ⟨loads1 rfl (Blk.cell hk2 0 _ rfl), trivial⟩ ?_
              obtain ⟨ad_389, ha_390, hc_391⟩ := Kd.atAttr (Kd.R_C hra) (i := (i : Int)) (by omega) (by omega)
              replace hc_391 : CellsAt wl (ad_389.add ((i : Int).toNat * 4)) [.string ((zs.getD i at0).1), .int .i64 ((zs.getD i at0).2.1), .int .i64 ((zs.getD i at0).2.2.1), .string ((zs.getD i at0).2.2.2)] := hc_391
              refine XL_run 1 [(155, .idx ad_389)] [(1, .pointer (some ⟨w.heap.size, 0, none⟩)), (3, .slice A_15 1 c_16), (6, .iface 56 (.agg #[.slice A_136 o.attrs.length c_137, .string o.text, .iface 137 (.agg #[])])), (8, .int .i64 (len4 o)), (11, .pointer (some ⟨w_145.heap.size, 0, none⟩)), (146, .int .i64 (o.attrs.length : Int)), (147, .int .i64 (i : Int)), (154, .agg #[.string (⟨#[115, 112, 111, 105, 108, 116]⟩ : ByteArray), .int .i64 0, .int .i64 0, .string ByteArray.empty]), (155, .pointer (some (ad_389.add ((i : Int).toNat * 4))))] wl [A_130 = some ad_389, (0 : Int) ≤ (i : Int), (i : Int) < (o.attrs.length : Int)] (by kernel_rfl) ⟨ha_390, (by omega), (by omega), trivial⟩ ?_
              refine XL_rowset kAttr rfl rfl rfl w_19.heap.size 79 (ad := ad_389) (i := (i : Int)) (v := .agg #[.string (⟨#[115, 112, 111, 105, 108, 116]⟩ : ByteArray), .int .i64 0, .int .i64 0, .string ByteArray.empty]) zs ((⟨#[115, 112, 111, 105, 108, 116]⟩ : ByteArray), 0, 0, ByteArray.empty) (by kernel_rfl) ha_390 hra (by omega) (by omega) [.string (⟨#[115, 112, 111, 105, 108, 116]⟩ : ByteArray), .int .i64 0, .int .i64 0, .string ByteArray.empty] ⟨by kernel_rfl, by kernel_rfl⟩ (by kernel_rfl) (kAttr_M _ _ _ _) ?_
              intro w_392 hr_393 hg_394 hl_395
              have hr_396 := RX.Kd.R_flat rfl hrb hg_394 hne_141
              have hk_397 := Blk.ne hk1 hg_394 hne_385
              have hk_398 := Blk.ne hk2 hg_394 hne_384
              refine XL_nil ?_
              refine X_region ?_
              refine XL_run 2 [(156, .eq (.int .i64 ((i : Int) + 1)))] [(1, .pointer (some ⟨w.heap.size, 0, none⟩)), (3, .slice A_15 1 c_16), (6, .iface 56 (.agg #[.slice A_136 o.attrs.length c_137, .string o.text, .iface 137 (.agg #[])])), (8, .int .i64 (len4 o)), (11, .pointer (some ⟨w_145.heap.size, 0, none⟩)), (146, .int .i64 (o.attrs.length : Int)), (147, .int .i64 ((i : Int) + 1))] w_392 [Value.int .i64 (IntKind.i64.wrap ((i : Int) + 1)) = Value.int .i64 ((i : Int) + 1)] (by kernel_rfl) ⟨wr_i64 (by omega) (by omega), trivial⟩ ?_
              refine XL_nil ?_
              have hB_399 : Below w.heap.size w w_392 := (bgo HB hg_394 hl_395 ((bt (bt (bt hb_2 hb_7) hb_9) hb_20)).size)
              refine ⟨(i + 1, (zs.set (i : Int).toNat ((⟨#[115, 112, 111, 105, 108, 116]⟩ : ByteArray), 0, 0, ByteArray.empty))), by kernel_rfl, ?_, ?_⟩
              · exact ⟨by omega, hr_393, hr_396, hk_397, hk_398, ((bgo HB2 hg_394 hl_395 (Nat.le_refl _))).size, (Nat.le_trans hle_A_136 hg_394.size), hB_399, (bgo HB2 hg_394 hl_395 (Nat.le_refl _))⟩
              · (try dsimp only); omega
            · refine XL_run 1 [(148, .eq (.bool false))] [(1, .pointer (some ⟨w.heap.size, 0, none⟩)), (3, .slice A_15 1 c_16), (6, .iface 56 (.agg #[.slice A_136 o.attrs.length c_137, .string o.text, .iface 137 (.agg #[])])), (8, .int .i64 (len4 o)), (11, .pointer (some ⟨w_145.heap.size, 0, none⟩)), (146, .int .i64 (o.attrs.length : Int)), (147, .int .i64 (i : Int)), (148, .bool false)] wl [Value.bool (decide ((i : Int) < (o.attrs.length : Int))) = Value.bool false] (by kernel_rfl) ⟨congrArg Value.bool (decide_eq_false (c_388)), trivial⟩ ?_
              refine XL_nil ?_
              refine X_seq ?_
              refine X_cond false rfl ?_
              refine X_exit ?_
              refine X_seq ?_
              refine X_region ?_
              refine XL_run 1 [] [(1, .pointer (some ⟨w.heap.size, 0, none⟩)), (6, .iface 56 (.agg #[.slice A_136 o.attrs.length c_137, .string o.text, .iface 137 (.agg #[])])), (8, .int .i64 (len4 o)), (157, .slice A_15 1 c_16)] wl [] (by kernel_rfl) trivial ?_
              refine XL_call 57 rfl rfl rfl ent57 [.slice A_15 1 c_16] (by kernel_rfl) (spoil_any A_15 c_16 [o] w_8 w_19 _ hR_18 HB2 (hb_20).size (Nat.le_of_ble_eq_true rfl)) ?_
              rintro e w_400 ⟨rfl, hS_401⟩; refine ⟨_, rfl, ?_⟩
              have hr_402 := Kd.R_spoilt hrb hS_401 (hb_34).size
              have hr_403 := Kd.R_spoilt hra hS_401 (Nat.le_refl _)
              have hk_404 := Spoilt.blkLo hS_401 hk1 (Nat.lt_of_lt_of_le (Blk.lt hk_3) ((bt hb_7 hb_9)).size)
              have hk_405 := Spoilt.blk hS_401 hk2 ((bt (bt (bt hb_34 hb_46) hb_144) hb_146)).size
              refine XL_nil ?_
              refine X_seq ?_
              refine X_region ?_
              refine XL_run 7 [] [(1, .pointer (some ⟨w.heap.size, 0, none⟩)), (6, .iface 56 (.agg #[.slice A_136 o.attrs.length c_137, .string o.text, .iface 137 (.agg #[])])), (8, .int .i64 (len4 o)), (14, .iface 56 (.agg #[.slice A_136 o.attrs.length c_137, .string o.text, .iface 137 (.agg #[])])), (15, .bool true)] w_400 [] (by kernel_rfl) trivial ?_
              refine XL_nil ?_
              refine X_seq ?_
              refine X_gen (S := fun w_ => RX.Blk w_ w.heap.size 33 #[.int .i64 o.kind, .string o.text, .int .i64 o.vk, .int .i64 o.vn, .string o.vt, .int .i64 o.count, .slice A o.attrs.length i0]) [] 21 #[false, false, false, false, false, false, false, false, false, false, false, false, false, false, false, false, false, false, false, false, false] (by kernel_rfl) (by kernel_rfl) (by kernel_rfl) (fun wd_406 hb_407 hh_408 => ?_)
              refine XG_run (fuel' := 17) (Blk.below hk_404 hb_407) [0, 1, 2, 4] [] [.bool true, .bool true, .iface 56 (.agg #[.slice A_136 o.attrs.length c_137, .string o.text, .iface 137 (.agg #[])]), .int .i64 (len4 o)] #[true, true, true, false, true, false, false, false, false, false, false, false, false, false, false, false, false, false, false, false, false] [(1, .pointer (some ⟨w.heap.size, 0, none⟩)), (6, .iface 56 (.agg #[.slice A_136 o.attrs.length c_137, .string o.text, .iface 137 (.agg #[])])), (14, .iface 56 (.agg #[.slice A_136 o.attrs.length c_137, .string o.text, .iface 137 (.agg #[])])), (165, .bool true), (166, .iface 56 (.agg #[.slice A_136 o.attrs.length c_137, .string o.text, .iface 137 (.agg #[])])), (168, .int .i64 (len4 o))] (fun w_ => []) (fun _ _ _ _ h => h) (fun w_ => by kernel_rfl) rfl (fun w_ hC_ => trivial) ?_
              refine XG_mid (fuel' := 16) 3 #[true, true, true, true, true, false, false, false, false, false, false, false, false, false, false, false, false, false, false, false, false] _ rfl (by kernel_rfl) (by kernel_rfl) rfl ?_
              refine XL_inv 167 #[.agg #[.slice A_136 o.attrs.length c_137, .string o.text, .iface 137 (.agg #[])]] rfl rfl (by kernel_rfl) (by kernel_rfl) (embedLen_any _ _ _ _ _ _) ?_
              rintro e w_409 ⟨rfl, hb_410⟩; refine ⟨_, rfl, ?_⟩
              refine XL_nil ?_
              refine ⟨(Blk.below hk_404 (bt hb_407 hb_410)), ?_⟩
              refine XG_run (fuel' := 11) (Blk.below hk_404 (bt hb_407 hb_410)) [5, 6, 7, 8, 10] [(169, .eq (.bool true)), (174, .load (.agg #[.int .i64 o.kind, .string o.text, .int .i64 o.vk, .int .i64 o.vn, .string o.vt, .int .i64 o.count, .slice A o.attrs.length i0]))] [.bool true, .bool true, .bool true, .iface 56 (.agg #[.slice A_136 o.attrs.length c_137, .string o.text, .iface 137 (.agg #[])]), .agg #[.int .i64 o.kind, .string o.text, .int .i64 o.vk, .int .i64 o.vn, .string o.vt, .int .i64 o.count, .slice A o.attrs.length i0]] #[true, true, true, true, true, true, true, true, true, false, true, false, false, false, false, false, false, false, false, false, false] [(1, .pointer (some ⟨w.heap.size, 0, none⟩)), (14, .iface 56 (.agg #[.slice A_136 o.attrs.length c_137, .string o.text, .iface 137 (.agg #[])])), (171, .bool true), (172, .iface 56 (.agg #[.slice A_136 o.attrs.length c_137, .string o.text, .iface 137 (.agg #[])])), (174, .agg #[.int .i64 o.kind, .string o.text, .int .i64 o.vk, .int .i64 o.vn, .string o.vt, .int .i64 o.count, .slice A o.attrs.length i0])] (fun w_ => [Value.bool ((1 : Int) == (len4 o)) = Value.bool true, LoadsAs Tryd.prog 33 (⟨w.heap.size, 0, none⟩) (.agg #[.int .i64 o.kind, .string o.text, .int .i64 o.vk, .int .i64 o.vn, .string o.vt, .int .i64 o.count, .slice A o.attrs.length i0]) w_]) (fun _ _ _ _ h => h) (fun w_ => by kernel_rfl) rfl (fun w_ hC_ => ⟨congrArg Value.bool (beq_iff_eq.2 ((len4_2 hk_49).symm)), loadsB rfl rfl hC_ 0 ⟨by kernel_rfl, by kernel_rfl⟩, trivial⟩) ?_
              refine XG_mid (fuel' := 10) 9 #[true, true, true, true, true, true, true, true, true, true, true, false, false, false, false, false, false, false, false, false, false] _ rfl (by kernel_rfl) (by kernel_rfl) rfl ?_
              refine XL_inv 168 #[.agg #[.slice A_136 o.attrs.length c_137, .string o.text, .iface 137 (.agg #[])]] rfl rfl (by kernel_rfl) (by kernel_rfl) (by have h_ := embedOp_any o A_136 c_137 w_409 (Kd.R_C (Kd.R_below hr_402 (bt hb_407 hb_410))) (by omega) (refuse_val c_48 hk_49); rw [valV_0 (v := (o.vk, o.vn, o.vt)) c_147 c_218 c_289] at h_; exact h_) ?_
              rintro e w_413 ⟨A_411, c_412, rfl, hl_415, hr_416, hb_414⟩; refine ⟨_, rfl, ?_⟩
              refine XL_nil ?_
              refine ⟨(Blk.below hk_404 (bt (bt hb_407 hb_410) hb_414)), ?_⟩
              refine XG_mid (fuel' := 9) 11 #[true, true, true, true, true, true, true, true, true, true, true, true, false, false, false, false, false, false, false, false, false] _ rfl (by kernel_rfl) (by kernel_rfl) rfl ?_
              have hB_417 : Below w.heap.size w w_413 := (bt (bt (bt (bsp HB hS_401 ((bt (bt hb_2 hb_7) hb_9)).size) hb_407) hb_410) hb_414)
              refine XL_call 60 rfl rfl rfl ent60 [.agg #[.int .i64 ((⟨2, o.text, o.vk, o.vn, o.vt, 0, o.attrs⟩ : OpA).kind), .string ((⟨2, o.text, o.vk, o.vn, o.vt, 0, o.attrs⟩ : OpA).text), .int .i64 ((⟨2, o.text, o.vk, o.vn, o.vt, 0, o.attrs⟩ : OpA).vk), .int .i64 ((⟨2, o.text, o.vk, o.vn, o.vt, 0, o.attrs⟩ : OpA).vn), .string ((⟨2, o.text, o.vk, o.vn, o.vt, 0, o.attrs⟩ : OpA).vt), .int .i64 ((⟨2, o.text, o.vk, o.vn, o.vt, 0, o.attrs⟩ : OpA).count), .slice A_411 ((⟨2, o.text, o.vk, o.vn, o.vt, 0, o.attrs⟩ : OpA).attrs.length) c_412], .agg #[.int .i64 o.kind, .string o.text, .int .i64 o.vk, .int .i64 o.vn, .string o.vt, .int .i64 o.count, .slice A o.attrs.length i0]] (by kernel_rfl) (r4same_any (⟨2, o.text, o.vk, o.vn, o.vt, 0, o.attrs⟩ : OpA) o _ _ _ _ _ (Kd.R_C hr_416) (Kd.C_below hA hB_417)) ?_
              rintro e w_418 ⟨rfl, hb_419⟩; refine ⟨_, rfl, ?_⟩
              rw [show opEqP (⟨2, o.text, o.vk, o.vn, o.vt, 0, o.attrs⟩ : OpA) o = true from (opEqP_iff _ _).2 (refuse_emb c_48 hk_49).symm]
              refine XL_nil ?_
              have hB_420 : Below w_400.heap.size w_400 w_418 := (bt (bt (bt hb_407 hb_410) hb_414) hb_419)
              refine ⟨(Blk.below hk_404 hB_420), ?_⟩
              refine XG_run (fuel' := 4) (Blk.below hk_404 hB_420) [12, 13, 14, 16, 17] [(181, .load (.slice A o.attrs.length i0))] [.bool true, .bool true, .iface 56 (.agg #[.slice A_136 o.attrs.length c_137, .string o.text, .iface 137 (.agg #[])]), .pointer (some ⟨w.heap.size, 6, none⟩), .slice A o.attrs.length i0] #[true, true, true, true, true, true, true, true, true, true, true, true, true, true, true, false, true, true, false, false, false] [(177, .bool true), (178, .iface 56 (.agg #[.slice A_136 o.attrs.length c_137, .string o.text, .iface 137 (.agg #[])])), (181, .slice A o.attrs.length i0)] (fun w_ => [LoadsAs Tryd.prog 31 (⟨w.heap.size, 6, none⟩) (.slice A o.attrs.length i0) w_]) (fun _ _ _ _ h => h) (fun w_ => by kernel_rfl) rfl (fun w_ hC_ => ⟨loads1 rfl (Blk.cell hC_ 6 _ rfl), trivial⟩) ?_
              refine XG_mid (fuel' := 3) 15 #[true, true, true, true, true, true, true, true, true, true, true, true, true, true, true, true, true, true, false, false, false] _ rfl (by kernel_rfl) (by kernel_rfl) rfl ?_
              refine XL_inv 97 #[.agg #[.slice A_136 o.attrs.length c_137]] rfl rfl (by kernel_rfl) (by kernel_rfl) (attributes_any _ _ o.attrs _ (Kd.R_C (Kd.R_below hr_402 hB_420)) (by omega)) ?_
              rintro e w_423 ⟨A_421, c_422, rfl, hl_425, hr_426, hb_424⟩; refine ⟨_, rfl, ?_⟩
              refine XL_nil ?_
              refine ⟨(Blk.below hk_404 (bt hB_420 hb_424)), ?_⟩
              refine XG_mid (fuel' := 2) 18 #[true, true, true, true, true, true, true, true, true, true, true, true, true, true, true, true, true, true, true, false, false] _ rfl (by kernel_rfl) (by kernel_rfl) rfl ?_
              refine XL_call 65 rfl rfl rfl ent65 [.slice A_421 o.attrs.length c_422, .slice A o.attrs.length i0] (by kernel_rfl) (sattrs_any _ _ _ _ o.attrs o.attrs _ (Kd.R_C hr_426) (Kd.C_below hA (bt (bt hB_417 hb_419) hb_424))) ?_
              rintro e w_427 ⟨rfl, hb_428⟩; refine ⟨_, rfl, ?_⟩
              rw [show decide (o.attrs = o.attrs) = true from decide_eq_true rfl]
              refine XL_nil ?_
              refine ⟨(Blk.below hk_404 (bt (bt hB_420 hb_424) hb_428)), ?_⟩
              refine XG_run (fuel' := 0) (Blk.below hk_404 (bt (bt hB_420 hb_424) hb_428)) [19, 20] [] [.bool true, .bool true] #[true, true, true, true, true, true, true, true, true, true, true, true, true, true, true, true, true, true, true, true, true] [(2, .bool true)] (fun w_ => []) (fun _ _ _ _ h => h) (fun w_ => by kernel_rfl) rfl (fun w_ hC_ => trivial) ?_
              refine XG_done (by kernel_rfl) ?_
              refine X_ret ?_
              refine RX.ret_ok (P := Tryd.prog) (fn := Tryd.f14) (N := 184) (R := R_) [.bool true] (by kernel_rfl) (hR_ _ _ ?_)
              have hB_429 : Below w.heap.size w w_427 := (bt (bt (bt hB_417 hb_419) hb_424) hb_428)
              exact ⟨rfl, hB_429⟩
  · have hv_430 := hN_32 c_48
    subst hv_430
    have hv_431 := hN_44 c_48
    subst hv_431
    have hB_432 : Below w_1.heap.size w_1 w_45 := (bt (bt (bt (bt hb_7 hb_9) hb_20) hb_34) hb_46)
    refine XL_run 1 [(35, .load (.agg #[.int .i64 o.kind, .string o.text, .int .i64 o.vk, .int .i64 o.vn, .string o.vt, .int .i64 o.count, .slice A o.attrs.length i0]))] [(1, .pointer (some ⟨w.heap.size, 0, none⟩)), (3, .slice A_15 1 c_16), (4, .nilIface), (5, errV es (refuseP o)), (6, .nilIface), (35, .agg #[.int .i64 o.kind, .string o.text, .int .i64 o.vk, .int .i64 o.vn, .string o.vt, .int .i64 o.count, .slice A o.attrs.length i0])] w_45 [LoadsAs Tryd.prog 33 (⟨w.heap.size, 0, none⟩) (.agg #[.int .i64 o.kind, .string o.text, .int .i64 o.vk, .int .i64 o.vn, .string o.vt, .int .i64 o.count, .slice A o.attrs.length i0]) w_45] (by kernel_rfl) ⟨loadsB rfl rfl (Blk.below hk_3 hB_432) 0 ⟨by kernel_rfl, by kernel_rfl⟩, trivial⟩ ?_
    refine XL_call 46 rfl rfl rfl ent46 [.agg #[.int .i64 o.kind, .string o.text, .int .i64 o.vk, .int .i64 o.vn, .string o.vt, .int .i64 o.count, .slice A o.attrs.length i0]] (by kernel_rfl) (r4refuse_any o _ _ _ (Kd.C_below hA (bt hB_47 hb_46)) hz (hT.below (bt hB_47 hb_46))) ?_
    rintro e w_433 ⟨rfl, hb_434⟩; refine ⟨_, rfl, ?_⟩
    refine XL_run 1 [(37, .eq (.bool true))] [(1, .pointer (some ⟨w.heap.size, 0, none⟩)), (3, .slice A_15 1 c_16), (4, .nilIface), (5, errV es (refuseP o)), (6, .nilIface), (37, .bool true)] w_433 [Value.bool (((refuseP o) : Int) != 0) = Value.bool true] (by kernel_rfl) ⟨congrArg Value.bool (bneT ((by omega))), trivial⟩ ?_
    refine XL_nil ?_
    refine X_cond true rfl ?_
    refine X_seq ?_
    refine X_region ?_
    refine XL_run 1 [] [(4, .nilIface), (38, errV es (refuseP o))] w_433 [] (by kernel_rfl) trivial ?_
    rw [errV_pos es (refuseP o) (Nat.pos_of_ne_zero c_48)]
    refine XL_run 6 [] [(2, .bool true)] w_433 [] (by kernel_rfl) trivial ?_
    refine XL_nil ?_
    refine X_ret ?_
    refine RX.ret_ok (P := Tryd.prog) (fn := Tryd.f14) (N := 184) (R := R_) [.bool true] (by kernel_rfl) (hR_ _ _ ?_)
    exact ⟨rfl, (bt (bt hB_47 hb_46) hb_434)⟩
end Go.Proofs.YtekfdfafhfhfbaaDoor
