/- ContentAsks returns true. Conditions: sizes, the tables of utf8, the errors' variables. -/
import Derived.Test.YtekfdfafhfhfbaaDoorP4
import Derived.Test.YtekfdfafhfhfbaaDoorP3b
import Derived.Test.YtekfdfafhfhfbaaDoorSp
import Derived.Test.YtekfdfafhfhfbaaDoorSpare2
import Derived.Test.YtekfdfafhfhfbaaDoorLim
import Derived.Test.YtekfdfafhfhfbaaDoorNum
import Derived.Test.YtekfdfafhfhfbaaDoorAn3
set_option linter.unusedVariables false
set_option linter.unusedSimpArgs false
set_option maxRecDepth 100000
namespace Go.Proofs.YtekfdfafhfhfbaaDoor
open Go Go.RowKit Go.Proofs.YtekfdfafhfhfbaaDoorW.PrintWords RX
theorem ent9 : Ent Tryd.prog 9 := ent_of Tryd.func9 (by kernel_rfl) rfl
theorem cells_attrs (o : OpA) (j : Nat) (hj : j < (cellsO o).length) : ((cellsO o).getD j cell0).attrs.length ≤ o.attrs.length := by
  rw [List.getD_eq_getElem?_getD, List.getElem?_eq_getElem hj, Option.getD_some]
  have hm : (cellsO o)[j] ∈ cellsO o := List.getElem_mem hj
  generalize (cellsO o)[j] = c at hm
  unfold cellsO at hm
  split at hm
  · unfold cellsP at hm
    split at hm
    · rw [List.mem_singleton] at hm
      subst hm
      exact Nat.le_refl _
    · obtain ⟨r, _, rfl⟩ := List.mem_map.1 hm
      exact Nat.le_refl _
  · cases hm
set_option maxHeartbeats 4000000 in
theorem casks_any (o : OpA) (A : Option Addr) (i0 : Nat) (w : World) (hA : kAttr.C w A o.attrs.length o.attrs) (hAc : o.attrs.length ≤ i0) (hz : opSz o) (hT : Tabs w) (es : List Addr) (hE : Errs w es) :
    Calls Tryd.prog 9 #[.agg #[.int .i64 o.kind, .string o.text, .int .i64 o.vk, .int .i64 o.vn, .string o.vt, .int .i64 o.count, .slice A o.attrs.length i0]] w fun e w' => e = .returned (.bool true) ∧ Below w.heap.size w w' := by
  have hC : ErrsC w es := hE.on rfl
  have hz1 := hz.1
  have hz3 := hz.2.2.1
  have hscl := U.sc_le o.text
  refine RX.enter Tryd.func9 rfl 168 rfl [(0, .agg #[.int .i64 o.kind, .string o.text, .int .i64 o.vk, .int .i64 o.vn, .string o.vt, .int .i64 o.count, .slice A o.attrs.length i0])] rfl (by kernel_rfl) (fun R_ hR_ => ?_)
  refine X_seq ?_
  refine X_region ?_
  refine XL_run 1 [] [(1, .pointer (some ⟨w.heap.size, 0, none⟩))] (w.alloc (.cells #[.int .i64 o.kind, .string o.text, .int .i64 o.vk, .int .i64 o.vn, .string o.vt, .int .i64 o.count, .slice A o.attrs.length i0] 33)) [] (by kernel_rfl) trivial ?_
  obtain ⟨w_1, hw_5, hb_2, hk_3, hz_4⟩ := new_world w #[.int .i64 o.kind, .string o.text, .int .i64 o.vk, .int .i64 o.vn, .string o.vt, .int .i64 o.count, .slice A o.attrs.length i0] 33
  rw [hw_5]
  refine XL_run 1 [] [(1, .pointer (some ⟨w.heap.size, 0, none⟩))] w_1 [] (by kernel_rfl) trivial ?_
  refine XL_nil ?_
  refine X_seq ?_
  refine X_seq ?_
  refine X_region ?_
  refine XL_call 45 rfl rfl rfl ent45 [] (by kernel_rfl) (lives_any _ (hT.below hb_2) es (hC.below hb_2)) ?_
  rintro e w_6 ⟨rfl, hb_7⟩; refine ⟨_, rfl, ?_⟩
  refine XL_run 1 [] [(1, .pointer (some ⟨w.heap.size, 0, none⟩)), (19, .bool false)] w_6 [] (by kernel_rfl) trivial ?_
  refine XL_nil ?_
  refine X_cond false rfl ?_
  refine X_skip ?_
  refine X_seq ?_
  refine X_region ?_
  refine XL_run 1 [(20, .load (.agg #[.int .i64 o.kind, .string o.text, .int .i64 o.vk, .int .i64 o.vn, .string o.vt, .int .i64 o.count, .slice A o.attrs.length i0]))] [(1, .pointer (some ⟨w.heap.size, 0, none⟩)), (20, .agg #[.int .i64 o.kind, .string o.text, .int .i64 o.vk, .int .i64 o.vn, .string o.vt, .int .i64 o.count, .slice A o.attrs.length i0])] w_6 [LoadsAs Tryd.prog 33 (⟨w.heap.size, 0, none⟩) (.agg #[.int .i64 o.kind, .string o.text, .int .i64 o.vk, .int .i64 o.vn, .string o.vt, .int .i64 o.count, .slice A o.attrs.length i0]) w_6] (by kernel_rfl) ⟨loadsB rfl rfl (Blk.below hk_3 hb_7) 0 ⟨by kernel_rfl, by kernel_rfl⟩, trivial⟩ ?_
  refine XL_call 46 rfl rfl rfl ent46 [.agg #[.int .i64 o.kind, .string o.text, .int .i64 o.vk, .int .i64 o.vn, .string o.vt, .int .i64 o.count, .slice A o.attrs.length i0]] (by kernel_rfl) (r4refuse_any o _ _ _ (Kd.C_below hA (bt hb_2 hb_7)) hz (hT.below (bt hb_2 hb_7))) ?_
  rintro e w_8 ⟨rfl, hb_9⟩; refine ⟨_, rfl, ?_⟩
  refine XL_run 1 [] [(1, .pointer (some ⟨w.heap.size, 0, none⟩)), (3, .int .i64 ((refuseP o) : Int))] w_8 [] (by kernel_rfl) trivial ?_
  refine XL_nil ?_
  refine X_seq ?_
  refine X_region ?_
  refine XL_run 2 [(22, .load (.agg #[.int .i64 o.kind, .string o.text, .int .i64 o.vk, .int .i64 o.vn, .string o.vt, .int .i64 o.count, .slice A o.attrs.length i0]))] [(1, .pointer (some ⟨w.heap.size, 0, none⟩)), (3, .int .i64 ((refuseP o) : Int)), (23, .slice (some ⟨w_8.heap.size, 0, none⟩) 1 1)] (w_8.alloc (.cells #[.int .i64 o.kind, .string o.text, .int .i64 o.vk, .int .i64 o.vn, .string o.vt, .int .i64 o.count, .slice A o.attrs.length i0] 33)) [LoadsAs Tryd.prog 33 (⟨w.heap.size, 0, none⟩) (.agg #[.int .i64 o.kind, .string o.text, .int .i64 o.vk, .int .i64 o.vn, .string o.vt, .int .i64 o.count, .slice A o.attrs.length i0]) w_8] (by kernel_rfl) ⟨loadsB rfl rfl (Blk.below hk_3 (bt hb_7 hb_9)) 0 ⟨by kernel_rfl, by kernel_rfl⟩, trivial⟩ ?_
  obtain ⟨w_10, hw_14, hb_11, hk_12, hz_13⟩ := new_world w_8 #[.int .i64 o.kind, .string o.text, .int .i64 o.vk, .int .i64 o.vn, .string o.vt, .int .i64 o.count, .slice A o.attrs.length i0] 33
  rw [hw_14]
  have hR_15 := Kd.R_litB (kRaw 7) (W := w_8) (e := 33) (cs := #[.int .i64 o.kind, .string o.text, .int .i64 o.vk, .int .i64 o.vn, .string o.vt, .int .i64 o.count, .slice A o.attrs.length i0]) [[.int .i64 o.kind, .string o.text, .int .i64 o.vk, .int .i64 o.vn, .string o.vt, .int .i64 o.count, .slice A o.attrs.length i0]] hk_12 (reps_raw [[.int .i64 o.kind, .string o.text, .int .i64 o.vk, .int .i64 o.vn, .string o.vt, .int .i64 o.count, .slice A o.attrs.length i0]] (by kernel_rfl)) (Nat.le_of_ble_eq_true (by kernel_rfl))
  have hC_16 : kOp.C w_10 (some ⟨w_8.heap.size, 0, none⟩) 1 [o] := C_lit1 (Kd.R_C hR_15) (kOp_K_of (x := o) hAc (Kd.C_below hA (bt (bt (bt hb_2 hb_7) hb_9) hb_11)))
  refine XL_call 47 rfl rfl rfl ent47 [.slice (some ⟨w_8.heap.size, 0, none⟩) 1 1] (by kernel_rfl) (spCopy_any _ _ [o] _ hC_16 (Nat.le_of_ble_eq_true rfl) (fun i_ hi_ => by obtain rfl : i_ = 0 := (by simp only [List.length_cons, List.length_nil] at hi_; omega); exact hz)) ?_
  rintro e w_21 ⟨A_17, c_18, rfl, hc_19, hR_20, hb_22⟩; refine ⟨_, rfl, ?_⟩
  have hS_23 := Kd.R_C hR_20
  have hC_24 : kOp.C w_21 A_17 1 [o] := kOpS_C (kOpS_init hS_23)
  refine XL_run 1 [] [(1, .pointer (some ⟨w.heap.size, 0, none⟩)), (3, .int .i64 ((refuseP o) : Int)), (4, .slice A_17 1 c_18)] w_21 [] (by kernel_rfl) trivial ?_
  refine XL_nil ?_
  refine X_seq ?_
  refine X_region ?_
  refine XL_run 1 [] [(1, .pointer (some ⟨w.heap.size, 0, none⟩)), (3, .int .i64 ((refuseP o) : Int)), (4, .slice A_17 1 c_18), (26, .slice A_17 1 c_18)] w_21 [] (by kernel_rfl) trivial ?_
  obtain ⟨ad_25, B_28, c_29, ha_26, hc_27, hl_30, hC_31⟩ := Kd.atOp hC_24 (i := (0 : Int)) (by decide) (by decide)
  replace hc_27 : CellsAt w_21 (ad_25.add ((0 : Int).toNat * 7)) [.int .i64 o.kind, .string o.text, .int .i64 o.vk, .int .i64 o.vn, .string o.vt, .int .i64 o.count, .slice B_28 o.attrs.length c_29] := hc_27
  replace hl_30 : o.attrs.length ≤ c_29 := hl_30
  replace hC_31 : kAttr.C w_21 B_28 o.attrs.length o.attrs := hC_31
  refine XL_run 2 [(27, .idx ad_25), (28, .load (.agg #[.int .i64 o.kind, .string o.text, .int .i64 o.vk, .int .i64 o.vn, .string o.vt, .int .i64 o.count, .slice B_28 o.attrs.length c_29]))] [(1, .pointer (some ⟨w.heap.size, 0, none⟩)), (3, .int .i64 ((refuseP o) : Int)), (4, .slice A_17 1 c_18), (28, .agg #[.int .i64 o.kind, .string o.text, .int .i64 o.vk, .int .i64 o.vn, .string o.vt, .int .i64 o.count, .slice B_28 o.attrs.length c_29])] w_21 [A_17 = some ad_25, (0 : Int) ≤ 0, 0 < (1 : Int), LoadsAs Tryd.prog 33 (ad_25.add ((0 : Int).toNat * 7)) (.agg #[.int .i64 o.kind, .string o.text, .int .i64 o.vk, .int .i64 o.vn, .string o.vt, .int .i64 o.count, .slice B_28 o.attrs.length c_29]) w_21] (by kernel_rfl) ⟨ha_26, (by omega), (by omega), loadsE rfl rfl hc_27 0 ⟨by kernel_rfl, by kernel_rfl⟩, trivial⟩ ?_
  have hB_32 : Below w.heap.size w w_21 := (bt (bt (bt (bt hb_2 hb_7) hb_9) hb_11) hb_22)
  refine XL_call 48 rfl rfl rfl ent48 [.agg #[.int .i64 o.kind, .string o.text, .int .i64 o.vk, .int .i64 o.vn, .string o.vt, .int .i64 o.count, .slice B_28 o.attrs.length c_29]] (by kernel_rfl) (clen_any o _ _ _ hC_31 hz (hT.below hB_32) es (hC.below hB_32)) ?_
  rintro e w_33 ⟨rfl, hb_34⟩; refine ⟨_, rfl, ?_⟩
  refine XL_run 5 [] [(1, .pointer (some ⟨w.heap.size, 0, none⟩)), (3, .int .i64 ((refuseP o) : Int)), (4, .slice A_17 1 c_18), (5, .int .i64 (lenO o)), (6, errV es (refuseP o))] w_33 [] (by kernel_rfl) trivial ?_
  refine XL_nil ?_
  refine X_seq ?_
  refine X_region ?_
  refine XL_run 1 [] [(1, .pointer (some ⟨w.heap.size, 0, none⟩)), (3, .int .i64 ((refuseP o) : Int)), (4, .slice A_17 1 c_18), (5, .int .i64 (lenO o)), (6, errV es (refuseP o)), (33, .slice A_17 1 c_18)] w_33 [] (by kernel_rfl) trivial ?_
  obtain ⟨ad_35, B_38, c_39, ha_36, hc_37, hl_40, hC_41⟩ := Kd.atOp (Kd.C_below hC_24 hb_34) (i := (0 : Int)) (by decide) (by decide)
  replace hc_37 : CellsAt w_33 (ad_35.add ((0 : Int).toNat * 7)) [.int .i64 o.kind, .string o.text, .int .i64 o.vk, .int .i64 o.vn, .string o.vt, .int .i64 o.count, .slice B_38 o.attrs.length c_39] := hc_37
  replace hl_40 : o.attrs.length ≤ c_39 := hl_40
  replace hC_41 : kAttr.C w_33 B_38 o.attrs.length o.attrs := hC_41
  refine XL_run 2 [(34, .idx ad_35), (35, .load (.agg #[.int .i64 o.kind, .string o.text, .int .i64 o.vk, .int .i64 o.vn, .string o.vt, .int .i64 o.count, .slice B_38 o.attrs.length c_39]))] [(1, .pointer (some ⟨w.heap.size, 0, none⟩)), (3, .int .i64 ((refuseP o) : Int)), (4, .slice A_17 1 c_18), (5, .int .i64 (lenO o)), (6, errV es (refuseP o)), (35, .agg #[.int .i64 o.kind, .string o.text, .int .i64 o.vk, .int .i64 o.vn, .string o.vt, .int .i64 o.count, .slice B_38 o.attrs.length c_39])] w_33 [A_17 = some ad_35, (0 : Int) ≤ 0, 0 < (1 : Int), LoadsAs Tryd.prog 33 (ad_35.add ((0 : Int).toNat * 7)) (.agg #[.int .i64 o.kind, .string o.text, .int .i64 o.vk, .int .i64 o.vn, .string o.vt, .int .i64 o.count, .slice B_38 o.attrs.length c_39]) w_33] (by kernel_rfl) ⟨ha_36, (by omega), (by omega), loadsE rfl rfl hc_37 0 ⟨by kernel_rfl, by kernel_rfl⟩, trivial⟩ ?_
  refine XL_call 49 rfl rfl rfl ent49 [.agg #[.int .i64 o.kind, .string o.text, .int .i64 o.vk, .int .i64 o.vn, .string o.vt, .int .i64 o.count, .slice B_38 o.attrs.length c_39]] (by kernel_rfl) (ccells_any o _ _ _ hC_41 hz (hT.below (bt hB_32 hb_34)) es (hC.below (bt hB_32 hb_34))) ?_
  rintro e w_45 ⟨A_42, c_43, rfl, hr_44, hb_46⟩; refine ⟨_, rfl, ?_⟩
  refine XL_run 5 [] [(1, .pointer (some ⟨w.heap.size, 0, none⟩)), (3, .int .i64 ((refuseP o) : Int)), (4, .slice A_17 1 c_18), (5, .int .i64 (lenO o)), (6, errV es (refuseP o)), (7, .slice A_42 ((cellsO o).length) c_43), (8, errV es (refuseP o))] w_45 [] (by kernel_rfl) trivial ?_
  refine XL_nil ?_
  refine X_seq ?_
  refine X_region ?_
  refine XL_run 1 [] [(1, .pointer (some ⟨w.heap.size, 0, none⟩)), (3, .int .i64 ((refuseP o) : Int)), (4, .slice A_17 1 c_18), (5, .int .i64 (lenO o)), (6, errV es (refuseP o)), (7, .slice A_42 ((cellsO o).length) c_43), (8, errV es (refuseP o)), (40, .slice A_17 1 c_18)] w_45 [] (by kernel_rfl) trivial ?_
  obtain ⟨ad_47, B_50, c_51, ha_48, hc_49, hl_52, hC_53⟩ := Kd.atOp (Kd.C_below hC_24 (bt hb_34 hb_46)) (i := (0 : Int)) (by decide) (by decide)
  replace hc_49 : CellsAt w_45 (ad_47.add ((0 : Int).toNat * 7)) [.int .i64 o.kind, .string o.text, .int .i64 o.vk, .int .i64 o.vn, .string o.vt, .int .i64 o.count, .slice B_50 o.attrs.length c_51] := hc_49
  replace hl_52 : o.attrs.length ≤ c_51 := hl_52
  replace hC_53 : kAttr.C w_45 B_50 o.attrs.length o.attrs := hC_53
  refine XL_run 2 [(41, .idx ad_47), (42, .load (.agg #[.int .i64 o.kind, .string o.text, .int .i64 o.vk, .int .i64 o.vn, .string o.vt, .int .i64 o.count, .slice B_50 o.attrs.length c_51]))] [(1, .pointer (some ⟨w.heap.size, 0, none⟩)), (3, .int .i64 ((refuseP o) : Int)), (4, .slice A_17 1 c_18), (5, .int .i64 (lenO o)), (6, errV es (refuseP o)), (7, .slice A_42 ((cellsO o).length) c_43), (8, errV es (refuseP o)), (42, .agg #[.int .i64 o.kind, .string o.text, .int .i64 o.vk, .int .i64 o.vn, .string o.vt, .int .i64 o.count, .slice B_50 o.attrs.length c_51])] w_45 [A_17 = some ad_47, (0 : Int) ≤ 0, 0 < (1 : Int), LoadsAs Tryd.prog 33 (ad_47.add ((0 : Int).toNat * 7)) (.agg #[.int .i64 o.kind, .string o.text, .int .i64 o.vk, .int .i64 o.vn, .string o.vt, .int .i64 o.count, .slice B_50 o.attrs.length c_51]) w_45] (by kernel_rfl) ⟨ha_48, (by omega), (by omega), loadsE rfl rfl hc_49 0 ⟨by kernel_rfl, by kernel_rfl⟩, trivial⟩ ?_
  refine XL_call 49 rfl rfl rfl ent49 [.agg #[.int .i64 o.kind, .string o.text, .int .i64 o.vk, .int .i64 o.vn, .string o.vt, .int .i64 o.count, .slice B_50 o.attrs.length c_51]] (by kernel_rfl) (ccells_any o _ _ _ hC_53 hz (hT.below (bt (bt hB_32 hb_34) hb_46)) es (hC.below (bt (bt hB_32 hb_34) hb_46))) ?_
  rintro e w_57 ⟨A_54, c_55, rfl, hr_56, hb_58⟩; refine ⟨_, rfl, ?_⟩
  refine XL_run 5 [] [(1, .pointer (some ⟨w.heap.size, 0, none⟩)), (3, .int .i64 ((refuseP o) : Int)), (4, .slice A_17 1 c_18), (5, .int .i64 (lenO o)), (6, errV es (refuseP o)), (7, .slice A_42 ((cellsO o).length) c_43), (8, errV es (refuseP o)), (9, .slice A_54 ((cellsO o).length) c_55)] w_57 [] (by kernel_rfl) trivial ?_
  refine XL_nil ?_
  refine X_seq ?_
  refine X_region ?_
  refine XL_run 1 [] [(1, .pointer (some ⟨w.heap.size, 0, none⟩)), (3, .int .i64 ((refuseP o) : Int)), (4, .slice A_17 1 c_18), (5, .int .i64 (lenO o)), (6, errV es (refuseP o)), (7, .slice A_42 ((cellsO o).length) c_43), (8, errV es (refuseP o)), (9, .slice A_54 ((cellsO o).length) c_55), (47, .slice A_17 1 c_18)] w_57 [] (by kernel_rfl) trivial ?_
  obtain ⟨ad_59, B_62, c_63, ha_60, hc_61, hl_64, hC_65⟩ := Kd.atOp (Kd.C_below hC_24 (bt (bt hb_34 hb_46) hb_58)) (i := (0 : Int)) (by decide) (by decide)
  replace hc_61 : CellsAt w_57 (ad_59.add ((0 : Int).toNat * 7)) [.int .i64 o.kind, .string o.text, .int .i64 o.vk, .int .i64 o.vn, .string o.vt, .int .i64 o.count, .slice B_62 o.attrs.length c_63] := hc_61
  replace hl_64 : o.attrs.length ≤ c_63 := hl_64
  replace hC_65 : kAttr.C w_57 B_62 o.attrs.length o.attrs := hC_65
  refine XL_run 2 [(48, .idx ad_59), (49, .load (.agg #[.int .i64 o.kind, .string o.text, .int .i64 o.vk, .int .i64 o.vn, .string o.vt, .int .i64 o.count, .slice B_62 o.attrs.length c_63]))] [(1, .pointer (some ⟨w.heap.size, 0, none⟩)), (3, .int .i64 ((refuseP o) : Int)), (4, .slice A_17 1 c_18), (5, .int .i64 (lenO o)), (6, errV es (refuseP o)), (7, .slice A_42 ((cellsO o).length) c_43), (8, errV es (refuseP o)), (9, .slice A_54 ((cellsO o).length) c_55), (49, .agg #[.int .i64 o.kind, .string o.text, .int .i64 o.vk, .int .i64 o.vn, .string o.vt, .int .i64 o.count, .slice B_62 o.attrs.length c_63])] w_57 [A_17 = some ad_59, (0 : Int) ≤ 0, 0 < (1 : Int), LoadsAs Tryd.prog 33 (ad_59.add ((0 : Int).toNat * 7)) (.agg #[.int .i64 o.kind, .string o.text, .int .i64 o.vk, .int .i64 o.vn, .string o.vt, .int .i64 o.count, .slice B_62 o.attrs.length c_63]) w_57] (by kernel_rfl) ⟨ha_60, (by omega), (by omega), loadsE rfl rfl hc_61 0 ⟨by kernel_rfl, by kernel_rfl⟩, trivial⟩ ?_
  refine XL_call 50 rfl rfl rfl ent50 [.agg #[.int .i64 o.kind, .string o.text, .int .i64 o.vk, .int .i64 o.vn, .string o.vt, .int .i64 o.count, .slice B_62 o.attrs.length c_63]] (by kernel_rfl) (cnl_any o _ _ _ hC_65 hz (hT.below (bt (bt (bt hB_32 hb_34) hb_46) hb_58)) es (hC.below (bt (bt (bt hB_32 hb_34) hb_46) hb_58))) ?_
  rintro e w_66 ⟨rfl, hb_67⟩; refine ⟨_, rfl, ?_⟩
  refine XL_run 5 [] [(1, .pointer (some ⟨w.heap.size, 0, none⟩)), (3, .int .i64 ((refuseP o) : Int)), (4, .slice A_17 1 c_18), (5, .int .i64 (lenO o)), (6, errV es (refuseP o)), (7, .slice A_42 ((cellsO o).length) c_43), (8, errV es (refuseP o)), (9, .slice A_54 ((cellsO o).length) c_55), (11, .int .i64 (nlO o)), (12, errV es (refuseP o))] w_66 [] (by kernel_rfl) trivial ?_
  refine XL_nil ?_
  refine X_seq ?_
  refine X_region ?_
  refine XL_run 1 [] [(1, .pointer (some ⟨w.heap.size, 0, none⟩)), (3, .int .i64 ((refuseP o) : Int)), (4, .slice A_17 1 c_18), (5, .int .i64 (lenO o)), (6, errV es (refuseP o)), (7, .slice A_42 ((cellsO o).length) c_43), (8, errV es (refuseP o)), (9, .slice A_54 ((cellsO o).length) c_55), (11, .int .i64 (nlO o)), (12, errV es (refuseP o)), (54, .slice A_17 1 c_18)] w_66 [] (by kernel_rfl) trivial ?_
  obtain ⟨ad_68, B_71, c_72, ha_69, hc_70, hl_73, hC_74⟩ := Kd.atOp (Kd.C_below hC_24 (bt (bt (bt hb_34 hb_46) hb_58) hb_67)) (i := (0 : Int)) (by decide) (by decide)
  replace hc_70 : CellsAt w_66 (ad_68.add ((0 : Int).toNat * 7)) [.int .i64 o.kind, .string o.text, .int .i64 o.vk, .int .i64 o.vn, .string o.vt, .int .i64 o.count, .slice B_71 o.attrs.length c_72] := hc_70
  replace hl_73 : o.attrs.length ≤ c_72 := hl_73
  replace hC_74 : kAttr.C w_66 B_71 o.attrs.length o.attrs := hC_74
  refine XL_run 2 [(55, .idx ad_68), (56, .load (.agg #[.int .i64 o.kind, .string o.text, .int .i64 o.vk, .int .i64 o.vn, .string o.vt, .int .i64 o.count, .slice B_71 o.attrs.length c_72]))] [(1, .pointer (some ⟨w.heap.size, 0, none⟩)), (3, .int .i64 ((refuseP o) : Int)), (4, .slice A_17 1 c_18), (5, .int .i64 (lenO o)), (6, errV es (refuseP o)), (7, .slice A_42 ((cellsO o).length) c_43), (8, errV es (refuseP o)), (9, .slice A_54 ((cellsO o).length) c_55), (11, .int .i64 (nlO o)), (12, errV es (refuseP o)), (56, .agg #[.int .i64 o.kind, .string o.text, .int .i64 o.vk, .int .i64 o.vn, .string o.vt, .int .i64 o.count, .slice B_71 o.attrs.length c_72])] w_66 [A_17 = some ad_68, (0 : Int) ≤ 0, 0 < (1 : Int), LoadsAs Tryd.prog 33 (ad_68.add ((0 : Int).toNat * 7)) (.agg #[.int .i64 o.kind, .string o.text, .int .i64 o.vk, .int .i64 o.vn, .string o.vt, .int .i64 o.count, .slice B_71 o.attrs.length c_72]) w_66] (by kernel_rfl) ⟨ha_69, (by omega), (by omega), loadsE rfl rfl hc_70 0 ⟨by kernel_rfl, by kernel_rfl⟩, trivial⟩ ?_
  have hB_80 : Below w.heap.size w w_66 := (bt (bt (bt (bt hB_32 hb_34) hb_46) hb_58) hb_67)
  refine XL_call 51 rfl rfl rfl ent51 [.agg #[.int .i64 o.kind, .string o.text, .int .i64 o.vk, .int .i64 o.vn, .string o.vt, .int .i64 o.count, .slice B_71 o.attrs.length c_72]] (by kernel_rfl) (cof_any o _ _ _ hC_74 hz (hT.below hB_80) es (hC.i.below hB_80)) ?_
  rintro e w_78 ⟨v_75, rfl, hM_76, hN_77, hb_79⟩; refine ⟨_, rfl, ?_⟩
  refine XL_run 5 [] [(1, .pointer (some ⟨w.heap.size, 0, none⟩)), (3, .int .i64 ((refuseP o) : Int)), (4, .slice A_17 1 c_18), (5, .int .i64 (lenO o)), (6, errV es (refuseP o)), (7, .slice A_42 ((cellsO o).length) c_43), (8, errV es (refuseP o)), (9, .slice A_54 ((cellsO o).length) c_55), (11, .int .i64 (nlO o)), (12, errV es (refuseP o)), (13, v_75), (14, errV es (refuseP o))] w_78 [] (by kernel_rfl) trivial ?_
  refine XL_nil ?_
  refine X_seq ?_
  refine X_seq ?_
  refine X_region ?_
  by_cases c_81 : refuseP o = 0
  · obtain ⟨t_83, u_84, hv_82⟩ := kPiece_iface (kPiece.K_of_M (hM_76 c_81))
    subst hv_82
    refine XL_run 1 [] [(1, .pointer (some ⟨w.heap.size, 0, none⟩)), (3, .int .i64 ((refuseP o) : Int)), (4, .slice A_17 1 c_18), (5, .int .i64 (lenO o)), (7, .slice A_42 ((cellsO o).length) c_43), (8, errV es (refuseP o)), (9, .slice A_54 ((cellsO o).length) c_55), (11, .int .i64 (nlO o)), (12, errV es (refuseP o)), (13, .iface t_83 (u_84)), (14, errV es (refuseP o)), (60, errV es (refuseP o))] w_78 [] (by kernel_rfl) trivial ?_
    refine XL_call 17 rfl rfl rfl ent17 [errV es (refuseP o)] (by kernel_rfl) (num_any es (refuseP o) (refuseP_le _) _ (hE.below (bt hB_80 hb_79))) ?_
    rintro e w_85 ⟨rfl, hb_86⟩; refine ⟨_, rfl, ?_⟩
    refine XL_run 4 [(63, .eq (.bool false))] [(1, .pointer (some ⟨w.heap.size, 0, none⟩)), (3, .int .i64 ((refuseP o) : Int)), (4, .slice A_17 1 c_18), (5, .int .i64 (lenO o)), (7, .slice A_42 ((cellsO o).length) c_43), (9, .slice A_54 ((cellsO o).length) c_55), (11, .int .i64 (nlO o)), (12, errV es (refuseP o)), (13, .iface t_83 (u_84)), (14, errV es (refuseP o)), (64, .bool false), (65, errV es (refuseP o))] w_85 [Value.bool (((refuseP o) : Int) != ((refuseP o) : Int)) = Value.bool false] (by kernel_rfl) ⟨congrArg Value.bool (bneF rfl), trivial⟩ ?_
    refine XL_call 17 rfl rfl rfl ent17 [errV es (refuseP o)] (by kernel_rfl) (num_any es (refuseP o) (refuseP_le _) _ (hE.below (bt (bt hB_80 hb_79) hb_86))) ?_
    rintro e w_87 ⟨rfl, hb_88⟩; refine ⟨_, rfl, ?_⟩
    refine XL_run 5 [(68, .eq (.bool false))] [(1, .pointer (some ⟨w.heap.size, 0, none⟩)), (3, .int .i64 ((refuseP o) : Int)), (4, .slice A_17 1 c_18), (5, .int .i64 (lenO o)), (7, .slice A_42 ((cellsO o).length) c_43), (9, .slice A_54 ((cellsO o).length) c_55), (11, .int .i64 (nlO o)), (13, .iface t_83 (u_84)), (14, errV es (refuseP o)), (70, .bool false), (71, errV es (refuseP o))] w_87 [Value.bool (((refuseP o) : Int) != ((refuseP o) : Int)) = Value.bool false] (by kernel_rfl) ⟨congrArg Value.bool (bneF rfl), trivial⟩ ?_
    refine XL_call 17 rfl rfl rfl ent17 [errV es (refuseP o)] (by kernel_rfl) (num_any es (refuseP o) (refuseP_le _) _ (hE.below (bt (bt (bt hB_80 hb_79) hb_86) hb_88))) ?_
    rintro e w_89 ⟨rfl, hb_90⟩; refine ⟨_, rfl, ?_⟩
    refine XL_run 5 [(74, .eq (.bool false))] [(1, .pointer (some ⟨w.heap.size, 0, none⟩)), (3, .int .i64 ((refuseP o) : Int)), (4, .slice A_17 1 c_18), (5, .int .i64 (lenO o)), (7, .slice A_42 ((cellsO o).length) c_43), (9, .slice A_54 ((cellsO o).length) c_55), (11, .int .i64 (nlO o)), (13, .iface t_83 (u_84)), (76, .bool false), (77, errV es (refuseP o))] w_89 [Value.bool (((refuseP o) : Int) != ((refuseP o) : Int)) = Value.bool false] (by kernel_rfl) ⟨congrArg Value.bool (bneF rfl), trivial⟩ ?_
    have hB_91 : Below w.heap.size w w_89 := (bt (bt (bt (bt hB_80 hb_79) hb_86) hb_88) hb_90)
    refine XL_call 17 rfl rfl rfl ent17 [errV es (refuseP o)] (by kernel_rfl) (num_any es (refuseP o) (refuseP_le _) _ (hE.below hB_91)) ?_
    rintro e w_92 ⟨rfl, hb_93⟩; refine ⟨_, rfl, ?_⟩
    have hB_94 : Below w_1.heap.size w_1 w_92 := (bt (bt (bt (bt (bt (bt (bt (bt (bt (bt (bt (bt hb_7 hb_9) hb_11) hb_22) hb_34) hb_46) hb_58) hb_67) hb_79) hb_86) hb_88) hb_90) hb_93)
    refine XL_run 7 [(80, .eq (.bool false)), (84, .load (.agg #[.int .i64 o.kind, .string o.text, .int .i64 o.vk, .int .i64 o.vn, .string o.vt, .int .i64 o.count, .slice A o.attrs.length i0]))] [(1, .pointer (some ⟨w.heap.size, 0, none⟩)), (3, .int .i64 ((refuseP o) : Int)), (4, .slice A_17 1 c_18), (5, .int .i64 (lenO o)), (7, .slice A_42 ((cellsO o).length) c_43), (9, .slice A_54 ((cellsO o).length) c_55), (11, .int .i64 (nlO o)), (13, .iface t_83 (u_84)), (82, .bool false), (83, .slice A_17 1 c_18), (85, .slice (some ⟨w_92.heap.size, 0, none⟩) 1 1)] (w_92.alloc (.cells #[.int .i64 o.kind, .string o.text, .int .i64 o.vk, .int .i64 o.vn, .string o.vt, .int .i64 o.count, .slice A o.attrs.length i0] 33)) [Value.bool (((refuseP o) : Int) != ((refuseP o) : Int)) = Value.bool false, LoadsAs Tryd.prog 33 (⟨w.heap.size, 0, none⟩) (.agg #[.int .i64 o.kind, .string o.text, .int .i64 o.vk, .int .i64 o.vn, .string o.vt, .int .i64 o.count, .slice A o.attrs.length i0]) w_92] (by kernel_rfl) ⟨congrArg Value.bool (bneF rfl), loadsB rfl rfl (Blk.below hk_3 hB_94) 0 ⟨by kernel_rfl, by kernel_rfl⟩, trivial⟩ ?_
    obtain ⟨w_95, hw_99, hb_96, hk_97, hz_98⟩ := new_world w_92 #[.int .i64 o.kind, .string o.text, .int .i64 o.vk, .int .i64 o.vn, .string o.vt, .int .i64 o.count, .slice A o.attrs.length i0] 33
    rw [hw_99]
    have hR_100 := Kd.R_litB (kRaw 7) (W := w_92) (e := 33) (cs := #[.int .i64 o.kind, .string o.text, .int .i64 o.vk, .int .i64 o.vn, .string o.vt, .int .i64 o.count, .slice A o.attrs.length i0]) [[.int .i64 o.kind, .string o.text, .int .i64 o.vk, .int .i64 o.vn, .string o.vt, .int .i64 o.count, .slice A o.attrs.length i0]] hk_97 (reps_raw [[.int .i64 o.kind, .string o.text, .int .i64 o.vk, .int .i64 o.vn, .string o.vt, .int .i64 o.count, .slice A o.attrs.length i0]] (by kernel_rfl)) (Nat.le_of_ble_eq_true (by kernel_rfl))
    have hC_101 : kOp.C w_95 (some ⟨w_92.heap.size, 0, none⟩) 1 [o] := C_lit1 (Kd.R_C hR_100) (kOp_K_of (x := o) hAc (Kd.C_below hA (bt (bt hB_91 hb_93) hb_96)))
    have hB_102 : Below w_21.heap.size w_21 w_95 := (bt (bt (bt (bt (bt (bt (bt (bt (bt hb_34 hb_46) hb_58) hb_67) hb_79) hb_86) hb_88) hb_90) hb_93) hb_96)
    refine XL_call 52 rfl rfl rfl ent52 [.slice A_17 1 c_18, .slice (some ⟨w_92.heap.size, 0, none⟩) 1 1] (by kernel_rfl) (spKept_any _ _ _ _ [o] _ (Kd.C_below hS_23 hB_102) hc_19 hC_101 (Nat.le_of_ble_eq_true rfl) (fun i_ hi_ => by obtain rfl : i_ = 0 := (by simp only [List.length_cons, List.length_nil] at hi_; omega); exact hz)) ?_
    rintro e w_103 ⟨rfl, hb_104⟩; refine ⟨_, rfl, ?_⟩
    refine XL_run 9 [(93, .eq (.bool false))] [(1, .pointer (some ⟨w.heap.size, 0, none⟩)), (3, .int .i64 ((refuseP o) : Int)), (4, .slice A_17 1 c_18), (5, .int .i64 (lenO o)), (7, .slice A_42 ((cellsO o).length) c_43), (9, .slice A_54 ((cellsO o).length) c_55), (11, .int .i64 (nlO o)), (95, .bool false)] w_103 [Value.bool (((refuseP o) : Int) != 0) = Value.bool false] (by kernel_rfl) ⟨congrArg Value.bool (bneF ((by omega))), trivial⟩ ?_
    refine XL_nil ?_
    refine X_cond false rfl ?_
    refine X_skip ?_
    refine X_seq ?_
    refine X_seq ?_
    refine X_region ?_
    refine XL_run 2 [(97, .eq (.bool false))] [(1, .pointer (some ⟨w.heap.size, 0, none⟩)), (4, .slice A_17 1 c_18), (5, .int .i64 (lenO o)), (7, .slice A_42 ((cellsO o).length) c_43), (9, .slice A_54 ((cellsO o).length) c_55), (11, .int .i64 (nlO o)), (97, .bool false)] w_103 [Value.bool (((refuseP o) : Int) != 0) = Value.bool false] (by kernel_rfl) ⟨congrArg Value.bool (bneF ((by omega))), trivial⟩ ?_
    refine XL_nil ?_
    refine X_cond false rfl ?_
    refine X_skip ?_
    refine X_seq ?_
    refine X_region ?_
    refine XL_run 1 [(109, .load (.agg #[.int .i64 o.kind, .string o.text, .int .i64 o.vk, .int .i64 o.vn, .string o.vt, .int .i64 o.count, .slice A o.attrs.length i0]))] [(1, .pointer (some ⟨w.heap.size, 0, none⟩)), (4, .slice A_17 1 c_18), (5, .int .i64 (lenO o)), (7, .slice A_42 ((cellsO o).length) c_43), (9, .slice A_54 ((cellsO o).length) c_55), (11, .int .i64 (nlO o)), (109, .agg #[.int .i64 o.kind, .string o.text, .int .i64 o.vk, .int .i64 o.vn, .string o.vt, .int .i64 o.count, .slice A o.attrs.length i0])] w_103 [LoadsAs Tryd.prog 33 (⟨w.heap.size, 0, none⟩) (.agg #[.int .i64 o.kind, .string o.text, .int .i64 o.vk, .int .i64 o.vn, .string o.vt, .int .i64 o.count, .slice A o.attrs.length i0]) w_103] (by kernel_rfl) ⟨loadsB rfl rfl (Blk.below hk_3 (bt (bt hB_94 hb_96) hb_104)) 0 ⟨by kernel_rfl, by kernel_rfl⟩, trivial⟩ ?_
    refine XL_call 53 rfl rfl rfl ent53 [.agg #[.int .i64 o.kind, .string o.text, .int .i64 o.vk, .int .i64 o.vn, .string o.vt, .int .i64 o.count, .slice A o.attrs.length i0]] (by kernel_rfl) (r4cells_any o _ _ _ (Kd.C_below hA (bt (bt (bt hB_91 hb_93) hb_96) hb_104)) hz) ?_
    rintro e w_108 ⟨A_105, c_106, rfl, hr_107, hb_109⟩; refine ⟨_, rfl, ?_⟩
    refine XL_run 1 [] [(1, .pointer (some ⟨w.heap.size, 0, none⟩)), (4, .slice A_17 1 c_18), (5, .int .i64 (lenO o)), (7, .slice A_42 ((cellsO o).length) c_43), (9, .slice A_54 ((cellsO o).length) c_55), (11, .int .i64 (nlO o)), (15, .slice A_105 ((cellsP o).length) c_106)] w_108 [] (by kernel_rfl) trivial ?_
    refine XL_nil ?_
    refine X_seq ?_
    refine X_seq ?_
    refine X_region ?_
    refine XL_run 2 [(112, .load (.agg #[.int .i64 o.kind, .string o.text, .int .i64 o.vk, .int .i64 o.vn, .string o.vt, .int .i64 o.count, .slice A o.attrs.length i0]))] [(1, .pointer (some ⟨w.heap.size, 0, none⟩)), (4, .slice A_17 1 c_18), (7, .slice A_42 ((cellsO o).length) c_43), (9, .slice A_54 ((cellsO o).length) c_55), (11, .int .i64 (nlO o)), (15, .slice A_105 ((cellsP o).length) c_106), (111, .int .i64 (lenO o)), (112, .agg #[.int .i64 o.kind, .string o.text, .int .i64 o.vk, .int .i64 o.vn, .string o.vt, .int .i64 o.count, .slice A o.attrs.length i0])] w_108 [LoadsAs Tryd.prog 33 (⟨w.heap.size, 0, none⟩) (.agg #[.int .i64 o.kind, .string o.text, .int .i64 o.vk, .int .i64 o.vn, .string o.vt, .int .i64 o.count, .slice A o.attrs.length i0]) w_108] (by kernel_rfl) ⟨loadsB rfl rfl (Blk.below hk_3 (bt (bt (bt hB_94 hb_96) hb_104) hb_109)) 0 ⟨by kernel_rfl, by kernel_rfl⟩, trivial⟩ ?_
    have hB_110 : Below w.heap.size w w_108 := (bt (bt (bt (bt hB_91 hb_93) hb_96) hb_104) hb_109)
    refine XL_call 54 rfl rfl rfl ent54 [.agg #[.int .i64 o.kind, .string o.text, .int .i64 o.vk, .int .i64 o.vn, .string o.vt, .int .i64 o.count, .slice A o.attrs.length i0]] (by kernel_rfl) (r4len_any o _ _ _ (Kd.C_below hA hB_110) hz) ?_
    rintro e w_111 ⟨rfl, hb_112⟩; refine ⟨_, rfl, ?_⟩
    refine XL_run 4 [(114, .eq (.bool false))] [(1, .pointer (some ⟨w.heap.size, 0, none⟩)), (4, .slice A_17 1 c_18), (7, .slice A_42 ((cellsO o).length) c_43), (9, .slice A_54 ((cellsO o).length) c_55), (11, .int .i64 (nlO o)), (15, .slice A_105 ((cellsP o).length) c_106), (115, .bool false), (116, .slice A_42 ((cellsO o).length) c_43), (117, .slice A_105 ((cellsP o).length) c_106)] w_111 [Value.bool (lenO o != (len4 o)) = Value.bool false] (by kernel_rfl) ⟨congrArg Value.bool (bneF ((lenO_ok c_81))), trivial⟩ ?_
    have hB_113 : Below w_45.heap.size w_45 w_111 := (bt (bt (bt (bt (bt (bt (bt (bt (bt (bt hb_58 hb_67) hb_79) hb_86) hb_88) hb_90) hb_93) hb_96) hb_104) hb_109) hb_112)
    refine XL_call 55 rfl rfl rfl ent55 [.slice A_42 ((cellsO o).length) c_43, .slice A_105 ((cellsP o).length) c_106] (by kernel_rfl) (sameCells_any _ _ _ _ (cellsO o) (cellsP o) _ (Kd.R_C (Kd.R_below hr_44 hB_113)) (Kd.R_C (Kd.R_below hr_107 hb_112))) ?_
    rintro e w_114 ⟨rfl, hb_115⟩; refine ⟨_, rfl, ?_⟩
    rw [show cellsEqP (cellsO o) (cellsP o) = true from (cellsEqP_iff _ _).2 (cellsO_ok c_81)]
    have hB_116 : Below w_1.heap.size w_1 w_114 := (bt (bt (bt (bt (bt hB_94 hb_96) hb_104) hb_109) hb_112) hb_115)
    refine XL_run 5 [(123, .load (.agg #[.int .i64 o.kind, .string o.text, .int .i64 o.vk, .int .i64 o.vn, .string o.vt, .int .i64 o.count, .slice A o.attrs.length i0]))] [(4, .slice A_17 1 c_18), (7, .slice A_42 ((cellsO o).length) c_43), (9, .slice A_54 ((cellsO o).length) c_55), (15, .slice A_105 ((cellsP o).length) c_106), (121, .bool false), (122, .int .i64 (nlO o)), (123, .agg #[.int .i64 o.kind, .string o.text, .int .i64 o.vk, .int .i64 o.vn, .string o.vt, .int .i64 o.count, .slice A o.attrs.length i0])] w_114 [LoadsAs Tryd.prog 33 (⟨w.heap.size, 0, none⟩) (.agg #[.int .i64 o.kind, .string o.text, .int .i64 o.vk, .int .i64 o.vn, .string o.vt, .int .i64 o.count, .slice A o.attrs.length i0]) w_114] (by kernel_rfl) ⟨loadsB rfl rfl (Blk.below hk_3 hB_116) 0 ⟨by kernel_rfl, by kernel_rfl⟩, trivial⟩ ?_
    refine XL_call 56 rfl rfl rfl ent56 [.agg #[.int .i64 o.kind, .string o.text, .int .i64 o.vk, .int .i64 o.vn, .string o.vt, .int .i64 o.count, .slice A o.attrs.length i0]] (by kernel_rfl) (r4nl_any o _ _ _ (Kd.C_below hA (bt (bt hB_110 hb_112) hb_115)) hz) ?_
    rintro e w_117 ⟨rfl, hb_118⟩; refine ⟨_, rfl, ?_⟩
    refine XL_run 2 [(125, .eq (.bool false))] [(4, .slice A_17 1 c_18), (7, .slice A_42 ((cellsO o).length) c_43), (9, .slice A_54 ((cellsO o).length) c_55), (15, .slice A_105 ((cellsP o).length) c_106), (126, .bool false)] w_117 [Value.bool (nlO o != (nlC (cellsP o) : Int)) = Value.bool false] (by kernel_rfl) ⟨congrArg Value.bool (bneF ((nl_ok c_81))), trivial⟩ ?_
    refine XL_nil ?_
    refine X_cond false rfl ?_
    refine X_skip ?_
    refine X_seq ?_
    refine X_seq ?_
    refine X_region ?_
    refine XL_run 3 [] [(4, .slice A_17 1 c_18), (7, .slice A_42 ((cellsO o).length) c_43), (9, .slice A_54 ((cellsO o).length) c_55), (15, .slice A_105 ((cellsP o).length) c_106), (128, .int .i64 ((cellsO o).length : Int)), (129, .int .i64 0)] w_117 [] (by kernel_rfl) trivial ?_
    refine XL_nil ?_
    refine X_block ?_
    have hB_119 : Below w_33.heap.size w_33 w_117 := (bt (bt (bt (bt (bt (bt (bt (bt (bt (bt (bt (bt (bt hb_46 hb_58) hb_67) hb_79) hb_86) hb_88) hb_90) hb_93) hb_96) hb_104) hb_109) hb_112) hb_115) hb_118)
    have hlow : w_33.heap.size ≤ w_117.heap.size := (hB_119).size
    have hcl : (cellsO o).length ≤ 50000001 := (by rw [cellsO_ok c_81]; rcases refuse_kind c_81 with h_ | h_; (· rw [cellsP_1 h_, List.length_map]; omega); (· rw [cellsP_2 h_]; exact Nat.le_of_ble_eq_true rfl))
    refine X_loop (ι := Nat) (fun i => [(4, .slice A_17 1 c_18), (7, .slice A_42 ((cellsO o).length) c_43), (9, .slice A_54 ((cellsO o).length) c_55), (15, .slice A_105 ((cellsP o).length) c_106), (128, .int .i64 ((cellsO o).length : Int)), (129, .int .i64 (i : Int))]) (fun i wl => i ≤ (cellsO o).length ∧ Shape 5 98 79 w_33.heap.size w_45.heap.size wl A_42 (cellsO o).length c_43 i ∧ Spoilt w_33.heap.size w_45.heap.size w_117 wl) (fun i => (cellsO o).length - i) 0 ⟨by omega, (Shape.below (bt (bt hB_113 hb_115) hb_118) (shape_cells hr_44 (fun j_ hj_ => Nat.le_trans (cells_attrs o j_ hj_) (by omega)))), Spoilt.refl _ _ _⟩ (by kernel_rfl) ?_
    rintro i wl ⟨hi, hSh1, hS1⟩
    refine X_seq ?_
    refine X_region ?_
    by_cases c_120 : (i : Int) < ((cellsO o).length : Int)
    · refine XL_run 1 [(130, .eq (.bool true))] [(4, .slice A_17 1 c_18), (7, .slice A_42 ((cellsO o).length) c_43), (9, .slice A_54 ((cellsO o).length) c_55), (15, .slice A_105 ((cellsP o).length) c_106), (128, .int .i64 ((cellsO o).length : Int)), (129, .int .i64 (i : Int)), (130, .bool true)] wl [Value.bool (decide ((i : Int) < ((cellsO o).length : Int))) = Value.bool true] (by kernel_rfl) ⟨congrArg Value.bool (decide_eq_true (c_120)), trivial⟩ ?_
      refine XL_nil ?_
      refine X_seq ?_
      refine X_cond true rfl ?_
      refine X_skip ?_
      refine X_seq ?_
      refine X_block ?_
      refine X_seq ?_
      refine X_region ?_
      refine XL_run 2 [] [(4, .slice A_17 1 c_18), (7, .slice A_42 ((cellsO o).length) c_43), (9, .slice A_54 ((cellsO o).length) c_55), (15, .slice A_105 ((cellsP o).length) c_106), (16, .int .i64 (i : Int)), (128, .int .i64 ((cellsO o).length : Int)), (129, .int .i64 (i : Int))] wl [] (by kernel_rfl) trivial ?_
      refine XL_nil ?_
      refine X_seq ?_
      refine X_seq ?_
      refine X_region ?_
      refine XL_run 2 [] [(4, .slice A_17 1 c_18), (7, .slice A_42 ((cellsO o).length) c_43), (9, .slice A_54 ((cellsO o).length) c_55), (15, .slice A_105 ((cellsP o).length) c_106), (16, .int .i64 (i : Int)), (128, .int .i64 ((cellsO o).length : Int)), (129, .int .i64 (i : Int)), (132, .slice A_42 ((cellsO o).length) c_43), (133, .int .i64 (i : Int))] wl [] (by kernel_rfl) trivial ?_
      obtain ⟨ad_131, pre_124, B_125, m_126, c_127, ha_132, hc_133, hp_128, hL_129, hL_129b⟩ := (hSh1).r i (Nat.le_refl _) (by omega)
      obtain ⟨a_134, a_135, a_136, a_137, a_138, rfl⟩ := five hp_128
      replace hc_133 : CellsAt wl (ad_131.add (i * 6)) [a_134, a_135, a_136, a_137, a_138, .slice B_125 m_126 c_127] := hc_133
      have hSh_130 := Shape.next hSh1
      have hL_129m := hL_129.2.1
      have hL_129n := hL_129.1
      obtain ⟨ad_121, ha_122, hc_123⟩ : ∃ x_, A_42 = some x_ ∧ CellsAt wl (x_.add ((i : Int).toNat * 6)) [a_134, a_135, a_136, a_137, a_138, .slice B_125 m_126 c_127] := ⟨_, ha_132, hc_133⟩
      refine XL_run 5 [(134, .idx ad_121), (136, .load (.slice B_125 m_126 c_127))] [(4, .slice A_17 1 c_18), (7, .slice A_42 ((cellsO o).length) c_43), (9, .slice A_54 ((cellsO o).length) c_55), (15, .slice A_105 ((cellsP o).length) c_106), (16, .int .i64 (i : Int)), (128, .int .i64 ((cellsO o).length : Int)), (129, .int .i64 (i : Int)), (137, .int .i64 (m_126 : Int)), (138, .int .i64 0)] wl [A_42 = some ad_121, (0 : Int) ≤ (i : Int), (i : Int) < ((cellsO o).length : Int), LoadsAs Tryd.prog 31 ((ad_121.add ((i : Int).toNat * 6)).add 5) (.slice B_125 m_126 c_127) wl] (by kernel_rfl) ⟨ha_122, (by omega), (by omega), loads1 rfl (elem_cell hc_123 5 _ rfl), trivial⟩ ?_
      refine XL_nil ?_
      refine X_block ?_
      refine X_loop (ι := Nat) (fun k => [(4, .slice A_17 1 c_18), (7, .slice A_42 ((cellsO o).length) c_43), (9, .slice A_54 ((cellsO o).length) c_55), (15, .slice A_105 ((cellsP o).length) c_106), (16, .int .i64 (i : Int)), (128, .int .i64 ((cellsO o).length : Int)), (129, .int .i64 (i : Int)), (137, .int .i64 (m_126 : Int)), (138, .int .i64 (k : Int))]) (fun k wm => k ≤ m_126 ∧ Shape 5 98 79 w_33.heap.size w_45.heap.size wm A_42 (cellsO o).length c_43 (i + 1) ∧ Spoilt w_33.heap.size w_45.heap.size w_117 wm ∧ LiesC 79 4 w_33.heap.size w_45.heap.size wm B_125 m_126 c_127 ∧ CellsAt wm (ad_131.add (i * 6)) [a_134, a_135, a_136, a_137, a_138, .slice B_125 m_126 c_127]) (fun k => m_126 - k) 0 ⟨by omega, hSh_130, hS1, hL_129, hc_133⟩ (by kernel_rfl) ?_
      rintro k wm ⟨hk, hSh2, hS2, hL2, hCc2⟩
      refine X_seq ?_
      refine X_region ?_
      by_cases c_139 : (k : Int) < (m_126 : Int)
      · refine XL_run 1 [(139, .eq (.bool true))] [(4, .slice A_17 1 c_18), (7, .slice A_42 ((cellsO o).length) c_43), (9, .slice A_54 ((cellsO o).length) c_55), (15, .slice A_105 ((cellsP o).length) c_106), (16, .int .i64 (i : Int)), (128, .int .i64 ((cellsO o).length : Int)), (129, .int .i64 (i : Int)), (137, .int .i64 (m_126 : Int)), (138, .int .i64 (k : Int)), (139, .bool true)] wm [Value.bool (decide ((k : Int) < (m_126 : Int))) = Value.bool true] (by kernel_rfl) ⟨congrArg Value.bool (decide_eq_true (c_139)), trivial⟩ ?_
        refine XL_nil ?_
        refine X_seq ?_
        refine X_cond true rfl ?_
        refine X_skip ?_
        refine X_seq ?_
        refine X_block ?_
        refine X_seq ?_
        refine X_region ?_
        refine XL_run 2 [] [(4, .slice A_17 1 c_18), (7, .slice A_42 ((cellsO o).length) c_43), (9, .slice A_54 ((cellsO o).length) c_55), (15, .slice A_105 ((cellsP o).length) c_106), (16, .int .i64 (i : Int)), (17, .int .i64 (k : Int)), (128, .int .i64 ((cellsO o).length : Int)), (129, .int .i64 (i : Int)), (137, .int .i64 (m_126 : Int)), (138, .int .i64 (k : Int))] wm [] (by kernel_rfl) trivial ?_
        refine XL_nil ?_
        refine X_region ?_
        refine XL_run 2 [] [(4, .slice A_17 1 c_18), (7, .slice A_42 ((cellsO o).length) c_43), (9, .slice A_54 ((cellsO o).length) c_55), (15, .slice A_105 ((cellsP o).length) c_106), (16, .int .i64 (i : Int)), (17, .int .i64 (k : Int)), (128, .int .i64 ((cellsO o).length : Int)), (129, .int .i64 (i : Int)), (137, .int .i64 (m_126 : Int)), (138, .int .i64 (k : Int)), (141, .slice A_42 ((cellsO o).length) c_43), (142, .int .i64 (i : Int))] wm [] (by kernel_rfl) trivial ?_
        obtain ⟨ad_140, ha_141, hc_142⟩ : ∃ x_, A_42 = some x_ ∧ CellsAt wm (x_.add ((i : Int).toNat * 6)) [a_134, a_135, a_136, a_137, a_138, .slice B_125 m_126 c_127] := ⟨_, ha_132, hCc2⟩
        refine XL_run 5 [(143, .idx ad_140), (145, .load (.slice B_125 m_126 c_127))] [(4, .slice A_17 1 c_18), (7, .slice A_42 ((cellsO o).length) c_43), (9, .slice A_54 ((cellsO o).length) c_55), (15, .slice A_105 ((cellsP o).length) c_106), (16, .int .i64 (i : Int)), (128, .int .i64 ((cellsO o).length : Int)), (129, .int .i64 (i : Int)), (137, .int .i64 (m_126 : Int)), (138, .int .i64 (k : Int)), (145, .slice B_125 m_126 c_127), (146, .int .i64 (k : Int)), (147, .agg #[.string (⟨#[115, 112, 111, 105, 108, 116]⟩ : ByteArray), .int .i64 0, .int .i64 0, .string ByteArray.empty])] wm [A_42 = some ad_140, (0 : Int) ≤ (i : Int), (i : Int) < ((cellsO o).length : Int), LoadsAs Tryd.prog 31 ((ad_140.add ((i : Int).toNat * 6)).add 5) (.slice B_125 m_126 c_127) wm] (by kernel_rfl) ⟨ha_141, (by omega), (by omega), loads1 rfl (elem_cell hc_142 5 _ rfl), trivial⟩ ?_
        obtain ⟨g_146, cs_147, ha_144, lo_148, hi_149, hk_150, hs_151⟩ := LiesC.at hL2 (by omega)
        obtain ⟨ad_143, had_152⟩ : ∃ ad_, ad_ = (⟨g_146, 0, none⟩ : Addr) := ⟨_, rfl⟩
        rw [← had_152] at ha_144
        have hc_145 : True := trivial
        refine XL_run 1 [(148, .idx ad_143)] [(4, .slice A_17 1 c_18), (7, .slice A_42 ((cellsO o).length) c_43), (9, .slice A_54 ((cellsO o).length) c_55), (15, .slice A_105 ((cellsP o).length) c_106), (16, .int .i64 (i : Int)), (128, .int .i64 ((cellsO o).length : Int)), (129, .int .i64 (i : Int)), (137, .int .i64 (m_126 : Int)), (138, .int .i64 (k : Int)), (147, .agg #[.string (⟨#[115, 112, 111, 105, 108, 116]⟩ : ByteArray), .int .i64 0, .int .i64 0, .string ByteArray.empty]), (148, .pointer (some (ad_143.add ((k : Int).toNat * 4))))] wm [B_125 = some ad_143, (0 : Int) ≤ (k : Int), (k : Int) < (m_126 : Int)] (by kernel_rfl) ⟨ha_144, (by omega), (by omega), trivial⟩ ?_
        refine XL_spoilW (v := .agg #[.string (⟨#[115, 112, 111, 105, 108, 116]⟩ : ByteArray), .int .i64 0, .int .i64 0, .string ByteArray.empty]) rfl rfl rfl (n := (k : Int).toNat * 4) had_152 (by kernel_rfl) hk_150 lo_148 hi_149 [.string (⟨#[115, 112, 111, 105, 108, 116]⟩ : ByteArray), .int .i64 0, .int .i64 0, .string ByteArray.empty] ⟨by kernel_rfl, by kernel_rfl⟩ (by kernel_rfl) (by simp only [List.length_cons, List.length_nil]; omega) (fun w_153 hw_154 => ?_)
        have hS_155 := Spoilt.wr hS2 hw_154 hlow
        have hSh_156 := Shape.wr hSh2 hw_154 (by decide)
        have hL_157 := LiesC.wrote hL2 hw_154
        have hc_158 : CellsAt w_153 (ad_131.add (i * 6)) [a_134, a_135, a_136, a_137, a_138, .slice B_125 m_126 c_127] := by obtain ⟨g_, cs_, e_, _, _, hb_, _⟩ := Shape.blk hSh2 (by omega); have h_ : ad_131 = ⟨g_, 0, none⟩ := Option.some.inj (ha_132.symm.trans e_); have h2_ := hCc2; rw [h_] at h2_ ⊢; exact cells_wr h2_ hb_ hw_154 (by decide)
        refine XL_nil ?_
        refine X_region ?_
        refine XL_run 2 [(149, .eq (.int .i64 ((k : Int) + 1)))] [(4, .slice A_17 1 c_18), (7, .slice A_42 ((cellsO o).length) c_43), (9, .slice A_54 ((cellsO o).length) c_55), (15, .slice A_105 ((cellsP o).length) c_106), (16, .int .i64 (i : Int)), (128, .int .i64 ((cellsO o).length : Int)), (129, .int .i64 (i : Int)), (137, .int .i64 (m_126 : Int)), (138, .int .i64 ((k : Int) + 1))] w_153 [Value.int .i64 (IntKind.i64.wrap ((k : Int) + 1)) = Value.int .i64 ((k : Int) + 1)] (by kernel_rfl) ⟨wr_i64 (by omega) (by omega), trivial⟩ ?_
        refine XL_nil ?_
        refine ⟨(k + 1), by kernel_rfl, ?_, ?_⟩
        · exact ⟨by omega, hSh_156, hS_155, hL_157, hc_158⟩
        · (try dsimp only); omega
      · refine XL_run 1 [(139, .eq (.bool false))] [(4, .slice A_17 1 c_18), (7, .slice A_42 ((cellsO o).length) c_43), (9, .slice A_54 ((cellsO o).length) c_55), (15, .slice A_105 ((cellsP o).length) c_106), (16, .int .i64 (i : Int)), (128, .int .i64 ((cellsO o).length : Int)), (129, .int .i64 (i : Int)), (137, .int .i64 (m_126 : Int)), (138, .int .i64 (k : Int)), (139, .bool false)] wm [Value.bool (decide ((k : Int) < (m_126 : Int))) = Value.bool false] (by kernel_rfl) ⟨congrArg Value.bool (decide_eq_false (c_139)), trivial⟩ ?_
        refine XL_nil ?_
        refine X_seq ?_
        refine X_cond false rfl ?_
        refine X_exit ?_
        refine X_region ?_
        refine XL_run 4 [] [(4, .slice A_17 1 c_18), (7, .slice A_42 ((cellsO o).length) c_43), (9, .slice A_54 ((cellsO o).length) c_55), (15, .slice A_105 ((cellsP o).length) c_106), (128, .int .i64 ((cellsO o).length : Int)), (129, .int .i64 (i : Int)), (150, .slice A_42 ((cellsO o).length) c_43), (151, .int .i64 (i : Int)), (152, .slice A_42 ((cellsO o).length) c_43), (153, .int .i64 (i : Int))] wm [] (by kernel_rfl) trivial ?_
        obtain ⟨ad_159, ha_160, hc_161⟩ : ∃ x_, A_42 = some x_ ∧ CellsAt wm (x_.add ((i : Int).toNat * 6)) [a_134, a_135, a_136, a_137, a_138, .slice B_125 m_126 c_127] := ⟨_, ha_132, hCc2⟩
        refine XL_run 5 [(154, .idx ad_159), (156, .load (.slice B_125 m_126 c_127))] [(4, .slice A_17 1 c_18), (7, .slice A_42 ((cellsO o).length) c_43), (9, .slice A_54 ((cellsO o).length) c_55), (15, .slice A_105 ((cellsP o).length) c_106), (128, .int .i64 ((cellsO o).length : Int)), (129, .int .i64 (i : Int)), (150, .slice A_42 ((cellsO o).length) c_43), (151, .int .i64 (i : Int)), (156, .slice B_125 m_126 c_127), (158, .slice (some ⟨wm.heap.size, 0, none⟩) 1 1)] (wm.alloc (.cells #[.string (⟨#[109, 111, 114, 101]⟩ : ByteArray), .int .i64 0, .int .i64 0, .string ByteArray.empty] 79)) [A_42 = some ad_159, (0 : Int) ≤ (i : Int), (i : Int) < ((cellsO o).length : Int), LoadsAs Tryd.prog 31 ((ad_159.add ((i : Int).toNat * 6)).add 5) (.slice B_125 m_126 c_127) wm] (by kernel_rfl) ⟨ha_160, (by omega), (by omega), loads1 rfl (elem_cell hc_161 5 _ rfl), trivial⟩ ?_
        obtain ⟨w_162, hw_166, hb_163, hk_164, hz_165⟩ := new_world wm #[.string (⟨#[109, 111, 114, 101]⟩ : ByteArray), .int .i64 0, .int .i64 0, .string ByteArray.empty] 79
        rw [hw_166]
        rw [← hw_166]
        refine XL_appendLies rfl rfl rfl 79 (.agg #[.string ByteArray.empty, .int .i64 0, .int .i64 0, .string ByteArray.empty]) 4 48 Tryd.underlying31 info79 rfl (by decide) [.string (⟨#[109, 111, 114, 101]⟩ : ByteArray), .int .i64 0, .int .i64 0, .string ByteArray.empty] (by kernel_rfl) (by kernel_rfl) (by kernel_rfl) hL2 (by omega) (by omega) (fun A_167 c_168 w_169 hw_170 => ?_)
        have hS_171 := Spoilt.wr hS2 hw_170 hlow
        have hSh_172 := Shape.wr hSh2 hw_170 (by decide)
        have hL_173 := LiesC.wrote hL2 hw_170
        have hc_174 : CellsAt w_169 (ad_131.add (i * 6)) [a_134, a_135, a_136, a_137, a_138, .slice B_125 m_126 c_127] := by obtain ⟨g_, cs_, e_, _, _, hb_, _⟩ := Shape.blk hSh2 (by omega); have h_ : ad_131 = ⟨g_, 0, none⟩ := Option.some.inj (ha_132.symm.trans e_); have h2_ := hCc2; rw [h_] at h2_ ⊢; exact cells_wr h2_ hb_ hw_170 (by decide)
        obtain ⟨ad_175, ha_176, hc_177⟩ : ∃ x_, A_42 = some x_ ∧ CellsAt w_169 (x_.add ((i : Int).toNat * 6)) [a_134, a_135, a_136, a_137, a_138, .slice B_125 m_126 c_127] := ⟨_, ha_132, hc_174⟩
        refine XL_run 2 [(160, .idx ad_175)] [(4, .slice A_17 1 c_18), (7, .slice A_42 ((cellsO o).length) c_43), (9, .slice A_54 ((cellsO o).length) c_55), (15, .slice A_105 ((cellsP o).length) c_106), (128, .int .i64 ((cellsO o).length : Int)), (129, .int .i64 (i : Int)), (159, .slice A_167 (m_126 + 1) c_168), (161, .pointer (some ((ad_175.add ((i : Int).toNat * 6)).add 5)))] w_169 [A_42 = some ad_175, (0 : Int) ≤ (i : Int), (i : Int) < ((cellsO o).length : Int)] (by kernel_rfl) ⟨ha_176, (by omega), (by omega), trivial⟩ ?_
        refine XL_putLast (p := 5) (v := .slice A_167 (m_126 + 1) c_168) rfl rfl rfl hSh_172 (by omega) ha_176 (by kernel_rfl) ⟨by kernel_rfl, by kernel_rfl⟩ (by kernel_rfl) (fun w_178 hw_179 hSh_180 => ?_)
        have hS_181 := Spoilt.wr hS_171 hw_179 hlow
        refine XL_nil ?_
        refine X_region ?_
        refine XL_run 2 [(162, .eq (.int .i64 ((i : Int) + 1)))] [(4, .slice A_17 1 c_18), (7, .slice A_42 ((cellsO o).length) c_43), (9, .slice A_54 ((cellsO o).length) c_55), (15, .slice A_105 ((cellsP o).length) c_106), (128, .int .i64 ((cellsO o).length : Int)), (129, .int .i64 ((i : Int) + 1))] w_178 [Value.int .i64 (IntKind.i64.wrap ((i : Int) + 1)) = Value.int .i64 ((i : Int) + 1)] (by kernel_rfl) ⟨wr_i64 (by omega) (by omega), trivial⟩ ?_
        refine XL_nil ?_
        refine ⟨(i + 1), by kernel_rfl, ?_, ?_⟩
        · exact ⟨by omega, hSh_180, hS_181⟩
        · (try dsimp only); omega
    · refine XL_run 1 [(130, .eq (.bool false))] [(4, .slice A_17 1 c_18), (7, .slice A_42 ((cellsO o).length) c_43), (9, .slice A_54 ((cellsO o).length) c_55), (15, .slice A_105 ((cellsP o).length) c_106), (128, .int .i64 ((cellsO o).length : Int)), (129, .int .i64 (i : Int)), (130, .bool false)] wl [Value.bool (decide ((i : Int) < ((cellsO o).length : Int))) = Value.bool false] (by kernel_rfl) ⟨congrArg Value.bool (decide_eq_false (c_120)), trivial⟩ ?_
      refine XL_nil ?_
      refine X_seq ?_
      refine X_cond false rfl ?_
      refine X_exit ?_
      refine X_seq ?_
      refine X_region ?_
      have hS_182 := hS1
      have hB_183 : Below w_45.heap.size w_45 w_103 := (bt (bt (bt (bt (bt (bt (bt (bt hb_58 hb_67) hb_79) hb_86) hb_88) hb_90) hb_93) hb_96) hb_104)
      have hr_184 := Kd.R_spoilt (Kd.R_below hr_107 (bt (bt hb_112 hb_115) hb_118)) hS_182 (hB_183).size
      have hB_186 : Below w_57.heap.size w_57 w_117 := (bt (bt (bt (bt (bt (bt (bt (bt (bt (bt (bt hb_67 hb_79) hb_86) hb_88) hb_90) hb_93) hb_96) hb_104) hb_109) hb_112) hb_115) hb_118)
      have hr_185 := Kd.R_spoilt (Kd.R_below hr_56 hB_186) hS_182 (Nat.le_refl _)
      have hB_187 : Below w_1.heap.size w_1 w_33 := (bt (bt (bt (bt hb_7 hb_9) hb_11) hb_22) hb_34)
      have hB_188 : Below w_1.heap.size w_1 wl := (bsp (bt hB_116 hb_118) hS_182 (hB_187).size)
      have hB_189 : Below w_10.heap.size w_10 wl := (bsp (bt (bt (bt (bt (bt (bt (bt (bt (bt (bt (bt (bt (bt (bt (bt hb_22 hb_34) hb_46) hb_58) hb_67) hb_79) hb_86) hb_88) hb_90) hb_93) hb_96) hb_104) hb_109) hb_112) hb_115) hb_118) hS_182 ((bt hb_22 hb_34)).size)
      have hB_190 : Below w_95.heap.size w_95 w_117 := (bt (bt (bt (bt hb_104 hb_109) hb_112) hb_115) hb_118)
      have hB_192 : Below w_45.heap.size w_45 w_92 := (bt (bt (bt (bt (bt (bt hb_58 hb_67) hb_79) hb_86) hb_88) hb_90) hb_93)
      have hk_191 := Spoilt.blk hS_182 (Blk.below hk_97 hB_190) (hB_192).size
      refine XL_run 1 [] [(9, .slice A_54 ((cellsO o).length) c_55), (15, .slice A_105 ((cellsP o).length) c_106), (163, .slice A_17 1 c_18)] wl [] (by kernel_rfl) trivial ?_
      have hB_195 : Below w_21.heap.size w_21 wl := (bsp (bt (bt (bt (bt (bt hB_102 hb_104) hb_109) hb_112) hb_115) hb_118) hS_182 (hb_34).size)
      refine XL_call 57 rfl rfl rfl ent57 [.slice A_17 1 c_18] (by kernel_rfl) (spoil_any A_17 c_18 [o] w_10 w_21 _ hR_20 hB_195 (hb_22).size (Nat.le_of_ble_eq_true rfl)) ?_
      rintro e w_193 ⟨rfl, hS_194⟩; refine ⟨_, rfl, ?_⟩
      have hr_196 := Kd.R_spoilt hr_184 hS_194 ((bt hB_102 hb_104)).size
      have hr_197 := Kd.R_spoilt hr_185 hS_194 ((bt hb_34 hb_46)).size
      have hB_198 : Below w_1.heap.size w_1 w_193 := (bsp hB_188 hS_194 ((bt (bt hb_7 hb_9) hb_11)).size)
      have hB_200 : Below w_21.heap.size w_21 w_92 := (bt (bt (bt (bt (bt (bt (bt (bt hb_34 hb_46) hb_58) hb_67) hb_79) hb_86) hb_88) hb_90) hb_93)
      have hk_199 := Spoilt.blk hS_194 hk_191 (hB_200).size
      refine XL_nil ?_
      refine X_seq ?_
      refine X_region ?_
      refine XL_run 2 [] [(165, .slice A_54 ((cellsO o).length) c_55), (166, .slice A_105 ((cellsP o).length) c_106)] w_193 [] (by kernel_rfl) trivial ?_
      refine XL_call 55 rfl rfl rfl ent55 [.slice A_54 ((cellsO o).length) c_55, .slice A_105 ((cellsP o).length) c_106] (by kernel_rfl) (sameCells_any _ _ _ _ (cellsO o) (cellsP o) _ (Kd.R_C hr_197) (Kd.R_C hr_196)) ?_
      rintro e w_201 ⟨rfl, hb_202⟩; refine ⟨_, rfl, ?_⟩
      rw [show cellsEqP (cellsO o) (cellsP o) = true from (cellsEqP_iff _ _).2 (cellsO_ok c_81)]
      refine XL_run 1 [] [(2, .bool true)] w_201 [] (by kernel_rfl) trivial ?_
      refine XL_nil ?_
      refine X_ret ?_
      refine RX.ret_ok (P := Tryd.prog) (fn := Tryd.f9) (N := 168) (R := R_) [.bool true] (by kernel_rfl) (hR_ _ _ ?_)
      have hB_203 : Below w.heap.size w w_201 := (bt (bsp (bsp (bt (bt (bt hB_110 hb_112) hb_115) hb_118) hS_182 ((bt hB_32 hb_34)).size) hS_194 ((bt (bt (bt hb_2 hb_7) hb_9) hb_11)).size) hb_202)
      exact ⟨rfl, hB_203⟩
  · have hv_204 := hN_77 c_81
    subst hv_204
    refine XL_run 1 [] [(1, .pointer (some ⟨w.heap.size, 0, none⟩)), (3, .int .i64 ((refuseP o) : Int)), (4, .slice A_17 1 c_18), (5, .int .i64 (lenO o)), (7, .slice A_42 ((cellsO o).length) c_43), (8, errV es (refuseP o)), (9, .slice A_54 ((cellsO o).length) c_55), (11, .int .i64 (nlO o)), (12, errV es (refuseP o)), (13, .nilIface), (14, errV es (refuseP o)), (60, errV es (refuseP o))] w_78 [] (by kernel_rfl) trivial ?_
    refine XL_call 17 rfl rfl rfl ent17 [errV es (refuseP o)] (by kernel_rfl) (num_any es (refuseP o) (refuseP_le _) _ (hE.below (bt hB_80 hb_79))) ?_
    rintro e w_205 ⟨rfl, hb_206⟩; refine ⟨_, rfl, ?_⟩
    refine XL_run 4 [(63, .eq (.bool false))] [(1, .pointer (some ⟨w.heap.size, 0, none⟩)), (3, .int .i64 ((refuseP o) : Int)), (4, .slice A_17 1 c_18), (5, .int .i64 (lenO o)), (7, .slice A_42 ((cellsO o).length) c_43), (9, .slice A_54 ((cellsO o).length) c_55), (11, .int .i64 (nlO o)), (12, errV es (refuseP o)), (13, .nilIface), (14, errV es (refuseP o)), (64, .bool false), (65, errV es (refuseP o))] w_205 [Value.bool (((refuseP o) : Int) != ((refuseP o) : Int)) = Value.bool false] (by kernel_rfl) ⟨congrArg Value.bool (bneF rfl), trivial⟩ ?_
    refine XL_call 17 rfl rfl rfl ent17 [errV es (refuseP o)] (by kernel_rfl) (num_any es (refuseP o) (refuseP_le _) _ (hE.below (bt (bt hB_80 hb_79) hb_206))) ?_
    rintro e w_207 ⟨rfl, hb_208⟩; refine ⟨_, rfl, ?_⟩
    refine XL_run 5 [(68, .eq (.bool false))] [(1, .pointer (some ⟨w.heap.size, 0, none⟩)), (3, .int .i64 ((refuseP o) : Int)), (4, .slice A_17 1 c_18), (5, .int .i64 (lenO o)), (7, .slice A_42 ((cellsO o).length) c_43), (9, .slice A_54 ((cellsO o).length) c_55), (11, .int .i64 (nlO o)), (13, .nilIface), (14, errV es (refuseP o)), (70, .bool false), (71, errV es (refuseP o))] w_207 [Value.bool (((refuseP o) : Int) != ((refuseP o) : Int)) = Value.bool false] (by kernel_rfl) ⟨congrArg Value.bool (bneF rfl), trivial⟩ ?_
    refine XL_call 17 rfl rfl rfl ent17 [errV es (refuseP o)] (by kernel_rfl) (num_any es (refuseP o) (refuseP_le _) _ (hE.below (bt (bt (bt hB_80 hb_79) hb_206) hb_208))) ?_
    rintro e w_209 ⟨rfl, hb_210⟩; refine ⟨_, rfl, ?_⟩
    refine XL_run 5 [(74, .eq (.bool false))] [(1, .pointer (some ⟨w.heap.size, 0, none⟩)), (3, .int .i64 ((refuseP o) : Int)), (4, .slice A_17 1 c_18), (5, .int .i64 (lenO o)), (7, .slice A_42 ((cellsO o).length) c_43), (9, .slice A_54 ((cellsO o).length) c_55), (11, .int .i64 (nlO o)), (13, .nilIface), (76, .bool false), (77, errV es (refuseP o))] w_209 [Value.bool (((refuseP o) : Int) != ((refuseP o) : Int)) = Value.bool false] (by kernel_rfl) ⟨congrArg Value.bool (bneF rfl), trivial⟩ ?_
    have hB_211 : Below w.heap.size w w_209 := (bt (bt (bt (bt hB_80 hb_79) hb_206) hb_208) hb_210)
    refine XL_call 17 rfl rfl rfl ent17 [errV es (refuseP o)] (by kernel_rfl) (num_any es (refuseP o) (refuseP_le _) _ (hE.below hB_211)) ?_
    rintro e w_212 ⟨rfl, hb_213⟩; refine ⟨_, rfl, ?_⟩
    have hB_214 : Below w_1.heap.size w_1 w_212 := (bt (bt (bt (bt (bt (bt (bt (bt (bt (bt (bt (bt hb_7 hb_9) hb_11) hb_22) hb_34) hb_46) hb_58) hb_67) hb_79) hb_206) hb_208) hb_210) hb_213)
    refine XL_run 7 [(80, .eq (.bool false)), (84, .load (.agg #[.int .i64 o.kind, .string o.text, .int .i64 o.vk, .int .i64 o.vn, .string o.vt, .int .i64 o.count, .slice A o.attrs.length i0]))] [(1, .pointer (some ⟨w.heap.size, 0, none⟩)), (3, .int .i64 ((refuseP o) : Int)), (4, .slice A_17 1 c_18), (5, .int .i64 (lenO o)), (7, .slice A_42 ((cellsO o).length) c_43), (9, .slice A_54 ((cellsO o).length) c_55), (11, .int .i64 (nlO o)), (13, .nilIface), (82, .bool false), (83, .slice A_17 1 c_18), (85, .slice (some ⟨w_212.heap.size, 0, none⟩) 1 1)] (w_212.alloc (.cells #[.int .i64 o.kind, .string o.text, .int .i64 o.vk, .int .i64 o.vn, .string o.vt, .int .i64 o.count, .slice A o.attrs.length i0] 33)) [Value.bool (((refuseP o) : Int) != ((refuseP o) : Int)) = Value.bool false, LoadsAs Tryd.prog 33 (⟨w.heap.size, 0, none⟩) (.agg #[.int .i64 o.kind, .string o.text, .int .i64 o.vk, .int .i64 o.vn, .string o.vt, .int .i64 o.count, .slice A o.attrs.length i0]) w_212] (by kernel_rfl) ⟨congrArg Value.bool (bneF rfl), loadsB rfl rfl (Blk.below hk_3 hB_214) 0 ⟨by kernel_rfl, by kernel_rfl⟩, trivial⟩ ?_
    obtain ⟨w_215, hw_219, hb_216, hk_217, hz_218⟩ := new_world w_212 #[.int .i64 o.kind, .string o.text, .int .i64 o.vk, .int .i64 o.vn, .string o.vt, .int .i64 o.count, .slice A o.attrs.length i0] 33
    rw [hw_219]
    have hR_220 := Kd.R_litB (kRaw 7) (W := w_212) (e := 33) (cs := #[.int .i64 o.kind, .string o.text, .int .i64 o.vk, .int .i64 o.vn, .string o.vt, .int .i64 o.count, .slice A o.attrs.length i0]) [[.int .i64 o.kind, .string o.text, .int .i64 o.vk, .int .i64 o.vn, .string o.vt, .int .i64 o.count, .slice A o.attrs.length i0]] hk_217 (reps_raw [[.int .i64 o.kind, .string o.text, .int .i64 o.vk, .int .i64 o.vn, .string o.vt, .int .i64 o.count, .slice A o.attrs.length i0]] (by kernel_rfl)) (Nat.le_of_ble_eq_true (by kernel_rfl))
    have hC_221 : kOp.C w_215 (some ⟨w_212.heap.size, 0, none⟩) 1 [o] := C_lit1 (Kd.R_C hR_220) (kOp_K_of (x := o) hAc (Kd.C_below hA (bt (bt hB_211 hb_213) hb_216)))
    have hB_222 : Below w_21.heap.size w_21 w_215 := (bt (bt (bt (bt (bt (bt (bt (bt (bt hb_34 hb_46) hb_58) hb_67) hb_79) hb_206) hb_208) hb_210) hb_213) hb_216)
    refine XL_call 52 rfl rfl rfl ent52 [.slice A_17 1 c_18, .slice (some ⟨w_212.heap.size, 0, none⟩) 1 1] (by kernel_rfl) (spKept_any _ _ _ _ [o] _ (Kd.C_below hS_23 hB_222) hc_19 hC_221 (Nat.le_of_ble_eq_true rfl) (fun i_ hi_ => by obtain rfl : i_ = 0 := (by simp only [List.length_cons, List.length_nil] at hi_; omega); exact hz)) ?_
    rintro e w_223 ⟨rfl, hb_224⟩; refine ⟨_, rfl, ?_⟩
    refine XL_run 9 [(93, .eq (.bool true))] [(1, .pointer (some ⟨w.heap.size, 0, none⟩)), (3, .int .i64 ((refuseP o) : Int)), (4, .slice A_17 1 c_18), (5, .int .i64 (lenO o)), (7, .slice A_42 ((cellsO o).length) c_43), (9, .slice A_54 ((cellsO o).length) c_55), (11, .int .i64 (nlO o)), (95, .bool false)] w_223 [Value.bool (((refuseP o) : Int) != 0) = Value.bool true] (by kernel_rfl) ⟨congrArg Value.bool (bneT ((by omega))), trivial⟩ ?_
    refine XL_nil ?_
    refine X_cond false rfl ?_
    refine X_skip ?_
    refine X_seq ?_
    refine X_seq ?_
    refine X_region ?_
    refine XL_run 2 [(97, .eq (.bool true))] [(1, .pointer (some ⟨w.heap.size, 0, none⟩)), (4, .slice A_17 1 c_18), (5, .int .i64 (lenO o)), (7, .slice A_42 ((cellsO o).length) c_43), (9, .slice A_54 ((cellsO o).length) c_55), (11, .int .i64 (nlO o)), (97, .bool true)] w_223 [Value.bool (((refuseP o) : Int) != 0) = Value.bool true] (by kernel_rfl) ⟨congrArg Value.bool (bneT ((by omega))), trivial⟩ ?_
    refine XL_nil ?_
    refine X_cond true rfl ?_
    refine X_seq ?_
    refine X_region ?_
    refine XL_run 12 [(99, .eq (.bool true)), (103, .eq (.bool true)), (107, .eq (.bool true))] [(2, .bool true)] w_223 [Value.bool (lenO o == 0) = Value.bool true, Value.bool (((cellsO o).length : Int) == 0) = Value.bool true, Value.bool (nlO o == 0) = Value.bool true] (by kernel_rfl) ⟨congrArg Value.bool (beq_iff_eq.2 ((lenO_bad c_81))), congrArg Value.bool (beq_iff_eq.2 ((by rw [cellsO_bad c_81]; rfl))), congrArg Value.bool (beq_iff_eq.2 ((nlO_bad c_81))), trivial⟩ ?_
    refine XL_nil ?_
    refine X_ret ?_
    refine RX.ret_ok (P := Tryd.prog) (fn := Tryd.f9) (N := 168) (R := R_) [.bool true] (by kernel_rfl) (hR_ _ _ ?_)
    have hB_225 : Below w.heap.size w w_223 := (bt (bt (bt hB_211 hb_213) hb_216) hb_224)
    exact ⟨rfl, hB_225⟩
end Go.Proofs.YtekfdfafhfhfbaaDoor
