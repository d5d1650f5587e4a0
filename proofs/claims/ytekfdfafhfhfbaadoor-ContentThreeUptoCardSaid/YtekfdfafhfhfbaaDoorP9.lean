/- ContentThree returns true. Conditions: sizes, the tables of utf8, the errors' variables. -/
import Derived.Test.YtekfdfafhfhfbaaDoorP4
import Derived.Test.YtekfdfafhfhfbaaDoorP2
import Derived.Test.YtekfdfafhfhfbaaDoorAn3
set_option linter.unusedVariables false
set_option linter.unusedSimpArgs false
set_option maxRecDepth 100000
namespace Go.Proofs.YtekfdfafhfhfbaaDoor
open Go Go.RowKit Go.Proofs.YtekfdfafhfhfbaaDoorW.PrintWords RX
theorem ent13 : Ent Tryd.prog 13 := ent_of Tryd.func13 (by kernel_rfl) rfl
theorem opSz_app {a b : OpA} (h : opSz a) (h1 : a.text.size + b.text.size ≤ 50000000) : opSz (mkT (a.text ++ b.text) a.attrs) := opSz_mkT h (by rw [size_app]; exact h1)
theorem app_assoc (s t u : ByteArray) : (s ++ t) ++ u = s ++ (t ++ u) := U.bl_inj (by simp only [bl_append, List.append_assoc])
set_option maxHeartbeats 2000000 in
theorem cthree_any (a b d : OpA) (A B D : Option Addr) (i0 i1 i2 : Nat) (w : World) (hA : kAttr.C w A a.attrs.length a.attrs) (hB : kAttr.C w B b.attrs.length b.attrs) (hD : kAttr.C w D d.attrs.length d.attrs) (hAc : a.attrs.length ≤ i0) (hBc : b.attrs.length ≤ i1) (hDc : d.attrs.length ≤ i2) (hza : opSz a ∧ a.text.size ≤ 1048576) (hzb : opSz b ∧ b.text.size ≤ 1048576) (hzd : opSz d ∧ d.text.size ≤ 1048576) (hT : Tabs w) (es : List Addr) (hE : ErrsC w es) :
    Calls Tryd.prog 13 #[.agg #[.int .i64 a.kind, .string a.text, .int .i64 a.vk, .int .i64 a.vn, .string a.vt, .int .i64 a.count, .slice A a.attrs.length i0], .agg #[.int .i64 b.kind, .string b.text, .int .i64 b.vk, .int .i64 b.vn, .string b.vt, .int .i64 b.count, .slice B b.attrs.length i1], .agg #[.int .i64 d.kind, .string d.text, .int .i64 d.vk, .int .i64 d.vn, .string d.vt, .int .i64 d.count, .slice D d.attrs.length i2]] w fun e w' => e = .returned (.bool true) ∧ Below w.heap.size w w' := by
  have hq1 := hza.2
  have hq2 := hzb.2
  have hq3 := hzd.2
  refine RX.enter Tryd.func13 rfl 143 rfl [(0, .agg #[.int .i64 a.kind, .string a.text, .int .i64 a.vk, .int .i64 a.vn, .string a.vt, .int .i64 a.count, .slice A a.attrs.length i0]), (1, .agg #[.int .i64 b.kind, .string b.text, .int .i64 b.vk, .int .i64 b.vn, .string b.vt, .int .i64 b.count, .slice B b.attrs.length i1]), (2, .agg #[.int .i64 d.kind, .string d.text, .int .i64 d.vk, .int .i64 d.vn, .string d.vt, .int .i64 d.count, .slice D d.attrs.length i2])] rfl (by kernel_rfl) (fun R_ hR_ => ?_)
  refine X_seq ?_
  refine X_region ?_
  refine XL_run 1 [] [(1, .agg #[.int .i64 b.kind, .string b.text, .int .i64 b.vk, .int .i64 b.vn, .string b.vt, .int .i64 b.count, .slice B b.attrs.length i1]), (2, .agg #[.int .i64 d.kind, .string d.text, .int .i64 d.vk, .int .i64 d.vn, .string d.vt, .int .i64 d.count, .slice D d.attrs.length i2]), (3, .pointer (some ⟨w.heap.size, 0, none⟩))] (w.alloc (.cells #[.int .i64 a.kind, .string a.text, .int .i64 a.vk, .int .i64 a.vn, .string a.vt, .int .i64 a.count, .slice A a.attrs.length i0] 33)) [] (by kernel_rfl) trivial ?_
  obtain ⟨w_1, hw_5, hb_2, hk_3, hz_4⟩ := new_world w #[.int .i64 a.kind, .string a.text, .int .i64 a.vk, .int .i64 a.vn, .string a.vt, .int .i64 a.count, .slice A a.attrs.length i0] 33
  rw [hw_5]
  refine XL_run 1 [] [(2, .agg #[.int .i64 d.kind, .string d.text, .int .i64 d.vk, .int .i64 d.vn, .string d.vt, .int .i64 d.count, .slice D d.attrs.length i2]), (3, .pointer (some ⟨w.heap.size, 0, none⟩)), (4, .pointer (some ⟨w_1.heap.size, 0, none⟩))] (w_1.alloc (.cells #[.int .i64 b.kind, .string b.text, .int .i64 b.vk, .int .i64 b.vn, .string b.vt, .int .i64 b.count, .slice B b.attrs.length i1] 33)) [] (by kernel_rfl) trivial ?_
  obtain ⟨w_6, hw_10, hb_7, hk_8, hz_9⟩ := new_world w_1 #[.int .i64 b.kind, .string b.text, .int .i64 b.vk, .int .i64 b.vn, .string b.vt, .int .i64 b.count, .slice B b.attrs.length i1] 33
  rw [hw_10]
  refine XL_run 1 [] [(3, .pointer (some ⟨w.heap.size, 0, none⟩)), (4, .pointer (some ⟨w_1.heap.size, 0, none⟩)), (5, .pointer (some ⟨w_6.heap.size, 0, none⟩))] (w_6.alloc (.cells #[.int .i64 d.kind, .string d.text, .int .i64 d.vk, .int .i64 d.vn, .string d.vt, .int .i64 d.count, .slice D d.attrs.length i2] 33)) [] (by kernel_rfl) trivial ?_
  obtain ⟨w_11, hw_15, hb_12, hk_13, hz_14⟩ := new_world w_6 #[.int .i64 d.kind, .string d.text, .int .i64 d.vk, .int .i64 d.vn, .string d.vt, .int .i64 d.count, .slice D d.attrs.length i2] 33
  rw [hw_15]
  refine XL_run 1 [] [(3, .pointer (some ⟨w.heap.size, 0, none⟩)), (4, .pointer (some ⟨w_1.heap.size, 0, none⟩)), (5, .pointer (some ⟨w_6.heap.size, 0, none⟩))] w_11 [] (by kernel_rfl) trivial ?_
  refine XL_nil ?_
  refine X_seq ?_
  refine X_seq ?_
  refine X_region ?_
  refine XL_call 45 rfl rfl rfl ent45 [] (by kernel_rfl) (lives_any _ (hT.below (bt (bt hb_2 hb_7) hb_12)) es (hE.below (bt (bt hb_2 hb_7) hb_12))) ?_
  rintro e w_16 ⟨rfl, hb_17⟩; refine ⟨_, rfl, ?_⟩
  refine XL_run 1 [] [(3, .pointer (some ⟨w.heap.size, 0, none⟩)), (4, .pointer (some ⟨w_1.heap.size, 0, none⟩)), (5, .pointer (some ⟨w_6.heap.size, 0, none⟩)), (26, .bool false)] w_16 [] (by kernel_rfl) trivial ?_
  refine XL_nil ?_
  refine X_cond false rfl ?_
  refine X_skip ?_
  refine X_seq ?_
  refine X_region ?_
  refine XL_run 2 [(28, .load (.agg #[.int .i64 a.kind, .string a.text, .int .i64 a.vk, .int .i64 a.vn, .string a.vt, .int .i64 a.count, .slice A a.attrs.length i0])), (29, .load (.agg #[.int .i64 b.kind, .string b.text, .int .i64 b.vk, .int .i64 b.vn, .string b.vt, .int .i64 b.count, .slice B b.attrs.length i1]))] [(3, .pointer (some ⟨w.heap.size, 0, none⟩)), (4, .pointer (some ⟨w_1.heap.size, 0, none⟩)), (5, .pointer (some ⟨w_6.heap.size, 0, none⟩)), (28, .agg #[.int .i64 a.kind, .string a.text, .int .i64 a.vk, .int .i64 a.vn, .string a.vt, .int .i64 a.count, .slice A a.attrs.length i0]), (29, .agg #[.int .i64 b.kind, .string b.text, .int .i64 b.vk, .int .i64 b.vn, .string b.vt, .int .i64 b.count, .slice B b.attrs.length i1])] w_16 [LoadsAs Tryd.prog 33 (⟨w.heap.size, 0, none⟩) (.agg #[.int .i64 a.kind, .string a.text, .int .i64 a.vk, .int .i64 a.vn, .string a.vt, .int .i64 a.count, .slice A a.attrs.length i0]) w_16, LoadsAs Tryd.prog 33 (⟨w_1.heap.size, 0, none⟩) (.agg #[.int .i64 b.kind, .string b.text, .int .i64 b.vk, .int .i64 b.vn, .string b.vt, .int .i64 b.count, .slice B b.attrs.length i1]) w_16] (by kernel_rfl) ⟨loadsB rfl rfl (Blk.below hk_3 (bt (bt hb_7 hb_12) hb_17)) 0 ⟨by kernel_rfl, by kernel_rfl⟩, loadsB rfl rfl (Blk.below hk_8 (bt hb_12 hb_17)) 0 ⟨by kernel_rfl, by kernel_rfl⟩, trivial⟩ ?_
  refine XL_call 61 rfl rfl rfl ent61 [.agg #[.int .i64 a.kind, .string a.text, .int .i64 a.vk, .int .i64 a.vn, .string a.vt, .int .i64 a.count, .slice A a.attrs.length i0], .agg #[.int .i64 b.kind, .string b.text, .int .i64 b.vk, .int .i64 b.vn, .string b.vt, .int .i64 b.count, .slice B b.attrs.length i1]] (by kernel_rfl) (cjoin_any a b _ _ _ _ _ (Kd.C_below hA (bt (bt (bt hb_2 hb_7) hb_12) hb_17)) (Kd.C_below hB (bt (bt (bt hb_2 hb_7) hb_12) hb_17)) hza.1 hzb.1 (hT.below (bt (bt (bt hb_2 hb_7) hb_12) hb_17)) es (hE.below (bt (bt (bt hb_2 hb_7) hb_12) hb_17))) ?_
  rintro e w_21 ⟨A_18, c_19, rfl, hr_20, hb_22⟩; refine ⟨_, rfl, ?_⟩
  refine XL_run 5 [] [(3, .pointer (some ⟨w.heap.size, 0, none⟩)), (4, .pointer (some ⟨w_1.heap.size, 0, none⟩)), (5, .pointer (some ⟨w_6.heap.size, 0, none⟩)), (7, .pointer (some ⟨w_21.heap.size, 0, none⟩)), (31, .agg #[.int .i64 ((joinO a b).1.kind), .string ((joinO a b).1.text), .int .i64 ((joinO a b).1.vk), .int .i64 ((joinO a b).1.vn), .string ((joinO a b).1.vt), .int .i64 ((joinO a b).1.count), .slice A_18 ((joinO a b).1.attrs.length) c_19]), (32, .bool ((joinO a b).2.1)), (33, errV es ((joinO a b).2.2))] (w_21.alloc (.cells #[.int .i64 0, .string ByteArray.empty, .int .i64 0, .int .i64 0, .string ByteArray.empty, .int .i64 0, .slice none 0 0] 33)) [] (by kernel_rfl) trivial ?_
  obtain ⟨w_23, hw_27, hb_24, hk_25, hz_26⟩ := new_world w_21 #[.int .i64 0, .string ByteArray.empty, .int .i64 0, .int .i64 0, .string ByteArray.empty, .int .i64 0, .slice none 0 0] 33
  rw [hw_27]
  refine XL_store (v := .agg #[.int .i64 ((joinO a b).1.kind), .string ((joinO a b).1.text), .int .i64 ((joinO a b).1.vk), .int .i64 ((joinO a b).1.vn), .string ((joinO a b).1.vt), .int .i64 ((joinO a b).1.count), .slice A_18 ((joinO a b).1.attrs.length) c_19]) rfl rfl rfl (by kernel_rfl) hk_25 0 [.int .i64 ((joinO a b).1.kind), .string ((joinO a b).1.text), .int .i64 ((joinO a b).1.vk), .int .i64 ((joinO a b).1.vn), .string ((joinO a b).1.vt), .int .i64 ((joinO a b).1.count), .slice A_18 ((joinO a b).1.attrs.length) c_19] #[.int .i64 ((joinO a b).1.kind), .string ((joinO a b).1.text), .int .i64 ((joinO a b).1.vk), .int .i64 ((joinO a b).1.vn), .string ((joinO a b).1.vt), .int .i64 ((joinO a b).1.count), .slice A_18 ((joinO a b).1.attrs.length) c_19] ⟨by kernel_rfl, rfl, by kernel_rfl⟩ ⟨by kernel_rfl, by kernel_rfl⟩ (Nat.le_of_ble_eq_true (by kernel_rfl)) (fun w_28 hg_29 hk_30 hz_31 => ?_)
  refine XL_run 2 [] [(3, .pointer (some ⟨w.heap.size, 0, none⟩)), (4, .pointer (some ⟨w_1.heap.size, 0, none⟩)), (5, .pointer (some ⟨w_6.heap.size, 0, none⟩)), (7, .pointer (some ⟨w_21.heap.size, 0, none⟩)), (8, .bool ((joinO a b).2.1)), (9, errV es ((joinO a b).2.2))] w_28 [] (by kernel_rfl) trivial ?_
  refine XL_nil ?_
  refine X_seq ?_
  refine X_region ?_
  have hB_32 : Below w_6.heap.size w_6 w_28 := (bg (bt (bt (bt hb_12 hb_17) hb_22) hb_24) hg_29 ((bt (bt hb_12 hb_17) hb_22)).size)
  have hB_33 : Below w_11.heap.size w_11 w_28 := (bg (bt (bt hb_17 hb_22) hb_24) hg_29 ((bt hb_17 hb_22)).size)
  refine XL_run 2 [(35, .load (.agg #[.int .i64 b.kind, .string b.text, .int .i64 b.vk, .int .i64 b.vn, .string b.vt, .int .i64 b.count, .slice B b.attrs.length i1])), (36, .load (.agg #[.int .i64 d.kind, .string d.text, .int .i64 d.vk, .int .i64 d.vn, .string d.vt, .int .i64 d.count, .slice D d.attrs.length i2]))] [(3, .pointer (some ⟨w.heap.size, 0, none⟩)), (4, .pointer (some ⟨w_1.heap.size, 0, none⟩)), (5, .pointer (some ⟨w_6.heap.size, 0, none⟩)), (7, .pointer (some ⟨w_21.heap.size, 0, none⟩)), (8, .bool ((joinO a b).2.1)), (9, errV es ((joinO a b).2.2)), (35, .agg #[.int .i64 b.kind, .string b.text, .int .i64 b.vk, .int .i64 b.vn, .string b.vt, .int .i64 b.count, .slice B b.attrs.length i1]), (36, .agg #[.int .i64 d.kind, .string d.text, .int .i64 d.vk, .int .i64 d.vn, .string d.vt, .int .i64 d.count, .slice D d.attrs.length i2])] w_28 [LoadsAs Tryd.prog 33 (⟨w_1.heap.size, 0, none⟩) (.agg #[.int .i64 b.kind, .string b.text, .int .i64 b.vk, .int .i64 b.vn, .string b.vt, .int .i64 b.count, .slice B b.attrs.length i1]) w_28, LoadsAs Tryd.prog 33 (⟨w_6.heap.size, 0, none⟩) (.agg #[.int .i64 d.kind, .string d.text, .int .i64 d.vk, .int .i64 d.vn, .string d.vt, .int .i64 d.count, .slice D d.attrs.length i2]) w_28] (by kernel_rfl) ⟨loadsB rfl rfl (Blk.below hk_8 hB_32) 0 ⟨by kernel_rfl, by kernel_rfl⟩, loadsB rfl rfl (Blk.below hk_13 hB_33) 0 ⟨by kernel_rfl, by kernel_rfl⟩, trivial⟩ ?_
  have hB_39 : Below w.heap.size w w_21 := (bt (bt (bt (bt hb_2 hb_7) hb_12) hb_17) hb_22)
  have hB_40 : Below w.heap.size w w_28 := (bg (bt (bt (bt (bt (bt hb_2 hb_7) hb_12) hb_17) hb_22) hb_24) hg_29 (hB_39).size)
  refine XL_call 61 rfl rfl rfl ent61 [.agg #[.int .i64 b.kind, .string b.text, .int .i64 b.vk, .int .i64 b.vn, .string b.vt, .int .i64 b.count, .slice B b.attrs.length i1], .agg #[.int .i64 d.kind, .string d.text, .int .i64 d.vk, .int .i64 d.vn, .string d.vt, .int .i64 d.count, .slice D d.attrs.length i2]] (by kernel_rfl) (cjoin_any b d _ _ _ _ _ (Kd.C_below hB hB_40) (Kd.C_below hD hB_40) hzb.1 hzd.1 (hT.below hB_40) es (hE.below hB_40)) ?_
  rintro e w_37 ⟨A_34, c_35, rfl, hr_36, hb_38⟩; refine ⟨_, rfl, ?_⟩
  refine XL_run 5 [] [(3, .pointer (some ⟨w.heap.size, 0, none⟩)), (4, .pointer (some ⟨w_1.heap.size, 0, none⟩)), (5, .pointer (some ⟨w_6.heap.size, 0, none⟩)), (7, .pointer (some ⟨w_21.heap.size, 0, none⟩)), (8, .bool ((joinO a b).2.1)), (9, errV es ((joinO a b).2.2)), (10, .pointer (some ⟨w_37.heap.size, 0, none⟩)), (38, .agg #[.int .i64 ((joinO b d).1.kind), .string ((joinO b d).1.text), .int .i64 ((joinO b d).1.vk), .int .i64 ((joinO b d).1.vn), .string ((joinO b d).1.vt), .int .i64 ((joinO b d).1.count), .slice A_34 ((joinO b d).1.attrs.length) c_35]), (39, .bool ((joinO b d).2.1)), (40, errV es ((joinO b d).2.2))] (w_37.alloc (.cells #[.int .i64 0, .string ByteArray.empty, .int .i64 0, .int .i64 0, .string ByteArray.empty, .int .i64 0, .slice none 0 0] 33)) [] (by kernel_rfl) trivial ?_
  obtain ⟨w_41, hw_45, hb_42, hk_43, hz_44⟩ := new_world w_37 #[.int .i64 0, .string ByteArray.empty, .int .i64 0, .int .i64 0, .string ByteArray.empty, .int .i64 0, .slice none 0 0] 33
  rw [hw_45]
  refine XL_store (v := .agg #[.int .i64 ((joinO b d).1.kind), .string ((joinO b d).1.text), .int .i64 ((joinO b d).1.vk), .int .i64 ((joinO b d).1.vn), .string ((joinO b d).1.vt), .int .i64 ((joinO b d).1.count), .slice A_34 ((joinO b d).1.attrs.length) c_35]) rfl rfl rfl (by kernel_rfl) hk_43 0 [.int .i64 ((joinO b d).1.kind), .string ((joinO b d).1.text), .int .i64 ((joinO b d).1.vk), .int .i64 ((joinO b d).1.vn), .string ((joinO b d).1.vt), .int .i64 ((joinO b d).1.count), .slice A_34 ((joinO b d).1.attrs.length) c_35] #[.int .i64 ((joinO b d).1.kind), .string ((joinO b d).1.text), .int .i64 ((joinO b d).1.vk), .int .i64 ((joinO b d).1.vn), .string ((joinO b d).1.vt), .int .i64 ((joinO b d).1.count), .slice A_34 ((joinO b d).1.attrs.length) c_35] ⟨by kernel_rfl, rfl, by kernel_rfl⟩ ⟨by kernel_rfl, by kernel_rfl⟩ (Nat.le_of_ble_eq_true (by kernel_rfl)) (fun w_46 hg_47 hk_48 hz_49 => ?_)
  have hB_50 : Below w_1.heap.size w_1 w_37 := (bt (bg (bt (bt (bt (bt hb_7 hb_12) hb_17) hb_22) hb_24) hg_29 ((bt (bt (bt hb_7 hb_12) hb_17) hb_22)).size) hb_38)
  have hB_51 : Below w_21.heap.size w_21 w_37 := (bt (bg hb_24 hg_29 (Nat.le_refl _)) hb_38)
  refine XL_run 2 [] [(3, .pointer (some ⟨w.heap.size, 0, none⟩)), (4, .pointer (some ⟨w_1.heap.size, 0, none⟩)), (5, .pointer (some ⟨w_6.heap.size, 0, none⟩)), (7, .pointer (some ⟨w_21.heap.size, 0, none⟩)), (8, .bool ((joinO a b).2.1)), (9, errV es ((joinO a b).2.2)), (10, .pointer (some ⟨w_37.heap.size, 0, none⟩)), (11, .bool ((joinO b d).2.1)), (12, errV es ((joinO b d).2.2))] w_46 [] (by kernel_rfl) trivial ?_
  refine XL_nil ?_
  refine X_seq ?_
  refine X_seq ?_
  refine X_region ?_
  refine XL_run 1 [] [(3, .pointer (some ⟨w.heap.size, 0, none⟩)), (4, .pointer (some ⟨w_1.heap.size, 0, none⟩)), (5, .pointer (some ⟨w_6.heap.size, 0, none⟩)), (7, .pointer (some ⟨w_21.heap.size, 0, none⟩)), (8, .bool ((joinO a b).2.1)), (9, errV es ((joinO a b).2.2)), (10, .pointer (some ⟨w_37.heap.size, 0, none⟩)), (11, .bool ((joinO b d).2.1)), (12, errV es ((joinO b d).2.2)), (41, errV es ((joinO a b).2.2))] w_46 [] (by kernel_rfl) trivial ?_
  by_cases c_52 : (joinO a b).2.2 = 0
  · rw [show errV es ((joinO a b).2.2) = .nilIface from by rw [c_52]; rfl]
    refine XL_run 3 [] [(3, .pointer (some ⟨w.heap.size, 0, none⟩)), (4, .pointer (some ⟨w_1.heap.size, 0, none⟩)), (5, .pointer (some ⟨w_6.heap.size, 0, none⟩)), (7, .pointer (some ⟨w_21.heap.size, 0, none⟩)), (8, .bool ((joinO a b).2.1)), (9, .nilIface), (10, .pointer (some ⟨w_37.heap.size, 0, none⟩)), (11, .bool ((joinO b d).2.1)), (12, errV es ((joinO b d).2.2)), (43, .bool false), (44, errV es ((joinO b d).2.2))] w_46 [] (by kernel_rfl) trivial ?_
    by_cases c_53 : (joinO b d).2.2 = 0
    · rw [show errV es ((joinO b d).2.2) = .nilIface from by rw [c_53]; rfl]
      refine XL_run 2 [] [(3, .pointer (some ⟨w.heap.size, 0, none⟩)), (4, .pointer (some ⟨w_1.heap.size, 0, none⟩)), (5, .pointer (some ⟨w_6.heap.size, 0, none⟩)), (7, .pointer (some ⟨w_21.heap.size, 0, none⟩)), (8, .bool ((joinO a b).2.1)), (9, .nilIface), (10, .pointer (some ⟨w_37.heap.size, 0, none⟩)), (11, .bool ((joinO b d).2.1)), (12, .nilIface), (46, .bool false)] w_46 [] (by kernel_rfl) trivial ?_
      refine XL_nil ?_
      refine X_cond false rfl ?_
      refine X_skip ?_
      refine X_seq ?_
      refine X_seq ?_
      refine X_region ?_
      refine XL_run 1 [] [(3, .pointer (some ⟨w.heap.size, 0, none⟩)), (4, .pointer (some ⟨w_1.heap.size, 0, none⟩)), (5, .pointer (some ⟨w_6.heap.size, 0, none⟩)), (7, .pointer (some ⟨w_21.heap.size, 0, none⟩)), (8, .bool ((joinO a b).2.1)), (10, .pointer (some ⟨w_37.heap.size, 0, none⟩)), (11, .bool ((joinO b d).2.1)), (60, .bool ((joinO a b).2.1))] w_46 [] (by kernel_rfl) trivial ?_
      refine XL_nil ?_
      by_cases c_54 : (joinO a b).2.1 = true
      · rw [show ((joinO a b).2.1 : Bool) = true from by simpa using c_54]
        refine X_cond true rfl ?_
        refine X_seq ?_
        refine X_region ?_
        obtain ⟨ra, rb, ka, kb, eab, hjx⟩ := join_ok c_54
        have hxe : (joinO a b).1 = (mkT (a.text ++ b.text) a.attrs) := by rw [hjx]
        have hsx : opSz (joinO a b).1 := by rw [hxe]; exact opSz_app hza.1 (by omega)
        have hrx : refuseP (joinO a b).1 = 0 := by rw [hxe]; exact join_refuse ra rb ka kb
        have hcx : cellsO (joinO a b).1 = cellsO a ++ cellsO b := by rw [cellsO_ok hrx, cellsO_ok ra, cellsO_ok rb, hxe]; exact join_cells ra rb ka kb eab
        have hsca := U.sc_le a.text
        have hscb := U.sc_le b.text
        have hla : (cellsO a).length ≤ 1048576 := by rw [cellsO_ok ra, cellsP_1 ka, List.length_map]; omega
        have hlb : (cellsO b).length ≤ 1048576 := by rw [cellsO_ok rb, cellsP_1 kb, List.length_map]; omega
        refine XL_run 1 [(62, .load (.agg #[.int .i64 a.kind, .string a.text, .int .i64 a.vk, .int .i64 a.vn, .string a.vt, .int .i64 a.count, .slice A a.attrs.length i0]))] [(3, .pointer (some ⟨w.heap.size, 0, none⟩)), (4, .pointer (some ⟨w_1.heap.size, 0, none⟩)), (5, .pointer (some ⟨w_6.heap.size, 0, none⟩)), (7, .pointer (some ⟨w_21.heap.size, 0, none⟩)), (8, .bool true), (10, .pointer (some ⟨w_37.heap.size, 0, none⟩)), (11, .bool ((joinO b d).2.1)), (62, .agg #[.int .i64 a.kind, .string a.text, .int .i64 a.vk, .int .i64 a.vn, .string a.vt, .int .i64 a.count, .slice A a.attrs.length i0])] w_46 [LoadsAs Tryd.prog 33 (⟨w.heap.size, 0, none⟩) (.agg #[.int .i64 a.kind, .string a.text, .int .i64 a.vk, .int .i64 a.vn, .string a.vt, .int .i64 a.count, .slice A a.attrs.length i0]) w_46] (by kernel_rfl) ⟨loadsB rfl rfl (Blk.below hk_3 (bg (bt hB_50 hb_42) hg_47 (hB_50).size)) 0 ⟨by kernel_rfl, by kernel_rfl⟩, trivial⟩ ?_
        have hB_60 : Below w.heap.size w w_46 := (bg (bt (bt hB_40 hb_38) hb_42) hg_47 ((bt hB_40 hb_38)).size)
        refine XL_call 49 rfl rfl rfl ent49 [.agg #[.int .i64 a.kind, .string a.text, .int .i64 a.vk, .int .i64 a.vn, .string a.vt, .int .i64 a.count, .slice A a.attrs.length i0]] (by kernel_rfl) (ccells_any a _ _ _ (Kd.C_below hA hB_60) hza.1 (hT.below hB_60) es (hE.below hB_60)) ?_
        rintro e w_58 ⟨A_55, c_56, rfl, hr_57, hb_59⟩; refine ⟨_, rfl, ?_⟩
        obtain ⟨ca, hca⟩ : ∃ x_, cellsO a = x_ := ⟨_, rfl⟩; rw [hca] at hcx hla hr_57 ⊢; rw [ra]
        refine XL_run 5 [] [(3, .pointer (some ⟨w.heap.size, 0, none⟩)), (4, .pointer (some ⟨w_1.heap.size, 0, none⟩)), (5, .pointer (some ⟨w_6.heap.size, 0, none⟩)), (7, .pointer (some ⟨w_21.heap.size, 0, none⟩)), (8, .bool true), (10, .pointer (some ⟨w_37.heap.size, 0, none⟩)), (11, .bool ((joinO b d).2.1)), (13, .slice A_55 ca.length c_56), (14, .nilIface)] w_58 [] (by kernel_rfl) trivial ?_
        refine XL_nil ?_
        refine X_seq ?_
        refine X_region ?_
        have hB_61 : Below w_6.heap.size w_6 w_58 := (bt (bg (bt (bt hB_32 hb_38) hb_42) hg_47 ((bt hB_32 hb_38)).size) hb_59)
        refine XL_run 1 [(67, .load (.agg #[.int .i64 b.kind, .string b.text, .int .i64 b.vk, .int .i64 b.vn, .string b.vt, .int .i64 b.count, .slice B b.attrs.length i1]))] [(3, .pointer (some ⟨w.heap.size, 0, none⟩)), (4, .pointer (some ⟨w_1.heap.size, 0, none⟩)), (5, .pointer (some ⟨w_6.heap.size, 0, none⟩)), (7, .pointer (some ⟨w_21.heap.size, 0, none⟩)), (8, .bool true), (10, .pointer (some ⟨w_37.heap.size, 0, none⟩)), (11, .bool ((joinO b d).2.1)), (13, .slice A_55 ca.length c_56), (14, .nilIface), (67, .agg #[.int .i64 b.kind, .string b.text, .int .i64 b.vk, .int .i64 b.vn, .string b.vt, .int .i64 b.count, .slice B b.attrs.length i1])] w_58 [LoadsAs Tryd.prog 33 (⟨w_1.heap.size, 0, none⟩) (.agg #[.int .i64 b.kind, .string b.text, .int .i64 b.vk, .int .i64 b.vn, .string b.vt, .int .i64 b.count, .slice B b.attrs.length i1]) w_58] (by kernel_rfl) ⟨loadsB rfl rfl (Blk.below hk_8 hB_61) 0 ⟨by kernel_rfl, by kernel_rfl⟩, trivial⟩ ?_
        refine XL_call 49 rfl rfl rfl ent49 [.agg #[.int .i64 b.kind, .string b.text, .int .i64 b.vk, .int .i64 b.vn, .string b.vt, .int .i64 b.count, .slice B b.attrs.length i1]] (by kernel_rfl) (ccells_any b _ _ _ (Kd.C_below hB (bt hB_60 hb_59)) hzb.1 (hT.below (bt hB_60 hb_59)) es (hE.below (bt hB_60 hb_59))) ?_
        rintro e w_65 ⟨A_62, c_63, rfl, hr_64, hb_66⟩; refine ⟨_, rfl, ?_⟩
        obtain ⟨cb, hcb⟩ : ∃ x_, cellsO b = x_ := ⟨_, rfl⟩; rw [hcb] at hcx hlb hr_64 ⊢; rw [rb]
        refine XL_run 5 [] [(3, .pointer (some ⟨w.heap.size, 0, none⟩)), (4, .pointer (some ⟨w_1.heap.size, 0, none⟩)), (5, .pointer (some ⟨w_6.heap.size, 0, none⟩)), (7, .pointer (some ⟨w_21.heap.size, 0, none⟩)), (8, .bool true), (10, .pointer (some ⟨w_37.heap.size, 0, none⟩)), (11, .bool ((joinO b d).2.1)), (13, .slice A_55 ca.length c_56), (14, .nilIface), (15, .slice A_62 cb.length c_63), (16, .nilIface)] w_65 [] (by kernel_rfl) trivial ?_
        refine XL_nil ?_
        refine X_seq ?_
        refine X_region ?_
        have hB_67 : Below w_28.heap.size w_28 w_65 := (bt (bt (bg (bt hb_38 hb_42) hg_47 (hb_38).size) hb_59) hb_66)
        refine XL_run 1 [(72, .load (.agg #[.int .i64 ((joinO a b).1.kind), .string ((joinO a b).1.text), .int .i64 ((joinO a b).1.vk), .int .i64 ((joinO a b).1.vn), .string ((joinO a b).1.vt), .int .i64 ((joinO a b).1.count), .slice A_18 ((joinO a b).1.attrs.length) c_19]))] [(3, .pointer (some ⟨w.heap.size, 0, none⟩)), (4, .pointer (some ⟨w_1.heap.size, 0, none⟩)), (5, .pointer (some ⟨w_6.heap.size, 0, none⟩)), (7, .pointer (some ⟨w_21.heap.size, 0, none⟩)), (8, .bool true), (10, .pointer (some ⟨w_37.heap.size, 0, none⟩)), (11, .bool ((joinO b d).2.1)), (13, .slice A_55 ca.length c_56), (14, .nilIface), (15, .slice A_62 cb.length c_63), (16, .nilIface), (72, .agg #[.int .i64 ((joinO a b).1.kind), .string ((joinO a b).1.text), .int .i64 ((joinO a b).1.vk), .int .i64 ((joinO a b).1.vn), .string ((joinO a b).1.vt), .int .i64 ((joinO a b).1.count), .slice A_18 ((joinO a b).1.attrs.length) c_19])] w_65 [LoadsAs Tryd.prog 33 (⟨w_21.heap.size, 0, none⟩) (.agg #[.int .i64 ((joinO a b).1.kind), .string ((joinO a b).1.text), .int .i64 ((joinO a b).1.vk), .int .i64 ((joinO a b).1.vn), .string ((joinO a b).1.vt), .int .i64 ((joinO a b).1.count), .slice A_18 ((joinO a b).1.attrs.length) c_19]) w_65] (by kernel_rfl) ⟨loadsB rfl rfl (Blk.below hk_30 hB_67) 0 ⟨by kernel_rfl, by kernel_rfl⟩, trivial⟩ ?_
        have hB_73 : Below w_21.heap.size w_21 w_65 := (bt (bt (bg (bt hB_51 hb_42) hg_47 (hB_51).size) hb_59) hb_66)
        refine XL_call 49 rfl rfl rfl ent49 [.agg #[.int .i64 ((joinO a b).1.kind), .string ((joinO a b).1.text), .int .i64 ((joinO a b).1.vk), .int .i64 ((joinO a b).1.vn), .string ((joinO a b).1.vt), .int .i64 ((joinO a b).1.count), .slice A_18 ((joinO a b).1.attrs.length) c_19]] (by kernel_rfl) (ccells_any (joinO a b).1 _ _ _ (Kd.R_C (Kd.R_below hr_20 hB_73)) hsx (hT.below (bt (bt hB_60 hb_59) hb_66)) es (hE.below (bt (bt hB_60 hb_59) hb_66))) ?_
        rintro e w_71 ⟨A_68, c_69, rfl, hr_70, hb_72⟩; refine ⟨_, rfl, ?_⟩
        rw [hcx] at hr_70 ⊢; rw [hrx]
        refine XL_run 5 [] [(3, .pointer (some ⟨w.heap.size, 0, none⟩)), (4, .pointer (some ⟨w_1.heap.size, 0, none⟩)), (5, .pointer (some ⟨w_6.heap.size, 0, none⟩)), (7, .pointer (some ⟨w_21.heap.size, 0, none⟩)), (8, .bool true), (10, .pointer (some ⟨w_37.heap.size, 0, none⟩)), (11, .bool ((joinO b d).2.1)), (13, .slice A_55 ca.length c_56), (14, .nilIface), (15, .slice A_62 cb.length c_63), (16, .nilIface), (17, .slice A_68 ((ca ++ cb).length) c_69), (18, .nilIface)] w_71 [] (by kernel_rfl) trivial ?_
        refine XL_nil ?_
        refine X_seq ?_
        refine X_region ?_
        have hB_74 : Below w_1.heap.size w_1 w_71 := (bt (bt (bt (bg (bt hB_50 hb_42) hg_47 (hB_50).size) hb_59) hb_66) hb_72)
        refine XL_run 23 [(77, .load (.int .i64 a.kind)), (78, .eq (.bool false)), (81, .load (.int .i64 b.kind)), (82, .eq (.bool false))] [(3, .pointer (some ⟨w.heap.size, 0, none⟩)), (5, .pointer (some ⟨w_6.heap.size, 0, none⟩)), (7, .pointer (some ⟨w_21.heap.size, 0, none⟩)), (8, .bool true), (10, .pointer (some ⟨w_37.heap.size, 0, none⟩)), (11, .bool ((joinO b d).2.1)), (13, .slice A_55 ca.length c_56), (15, .slice A_62 cb.length c_63), (96, .bool false), (97, .slice A_68 ((ca ++ cb).length) c_69), (98, .slice (some ⟨w_71.heap.size, 0, none⟩) 0 0)] (w_71.alloc (.cells #[] 98)) [LoadsAs Tryd.prog 3 (⟨w.heap.size, 0, none⟩) (.int .i64 a.kind) w_71, Value.bool (a.kind != 1) = Value.bool false, LoadsAs Tryd.prog 3 (⟨w_1.heap.size, 0, none⟩) (.int .i64 b.kind) w_71, Value.bool (b.kind != 1) = Value.bool false] (by kernel_rfl) ⟨loads1 rfl (Blk.cell (Blk.below hk_3 hB_74) 0 _ rfl), congrArg Value.bool (bneF (ka)), loads1 rfl (Blk.cell (Blk.below hk_8 (bt (bt hB_61 hb_66) hb_72)) 0 _ rfl), congrArg Value.bool (bneF (kb)), trivial⟩ ?_
        obtain ⟨w_75, hw_79, hb_76, hk_77, hz_78⟩ := new_world w_71 #[] 98
        rw [hw_79]
        refine XL_run 1 [] [(3, .pointer (some ⟨w.heap.size, 0, none⟩)), (5, .pointer (some ⟨w_6.heap.size, 0, none⟩)), (7, .pointer (some ⟨w_21.heap.size, 0, none⟩)), (8, .bool true), (10, .pointer (some ⟨w_37.heap.size, 0, none⟩)), (11, .bool ((joinO b d).2.1)), (15, .slice A_62 cb.length c_63), (96, .bool false), (97, .slice A_68 ((ca ++ cb).length) c_69), (98, .slice (some ⟨w_71.heap.size, 0, none⟩) 0 0), (99, .slice A_55 ca.length c_56)] w_75 [] (by kernel_rfl) trivial ?_
        have hr_80 := Kd.R_litB kCell (W := w_71) (e := 98) (cs := #[]) [] hk_77 (repsCell0) (Nat.le_of_ble_eq_true (by kernel_rfl))
        obtain ⟨vs_81, hC_82, hK_83⟩ := Kd.C_raw (d := kCell) cell0 (Kd.R_C (Kd.R_below hr_57 (bt hb_66 hb_72)))
        refine XL_appendMix (d := kCell) (W0 := w_71) (c' := c_56) (m := ca.length) cell0 rfl rfl rfl 98 (.agg #[.int .i32 0, .string ByteArray.empty, .int .i64 0, .int .i64 0, .string ByteArray.empty, .slice none 0 0]) 80 Tryd.underlying90 info98 rfl (by decide) (by omega) ([]) ca vs_81 (by kernel_rfl) (Mix.of_R hr_80) (Kd.C_below hC_82 hb_76) rfl hK_83 (hb_76).size (by (try simp only [List.length_append, List.length_nil]); omega) ?_
        intro A_84 c_85 w_86 hm_87 hg_88 hl_89
        rw [List.nil_append] at hm_87 ⊢
        have hC_90 : kCell.C w_86 A_84 ca.length ca := Mix.C (bgo hb_76 hg_88 hl_89 (Nat.le_refl _)) hm_87
        refine XL_run 1 [] [(3, .pointer (some ⟨w.heap.size, 0, none⟩)), (5, .pointer (some ⟨w_6.heap.size, 0, none⟩)), (7, .pointer (some ⟨w_21.heap.size, 0, none⟩)), (8, .bool true), (10, .pointer (some ⟨w_37.heap.size, 0, none⟩)), (11, .bool ((joinO b d).2.1)), (96, .bool false), (97, .slice A_68 ((ca ++ cb).length) c_69), (100, .slice A_84 ca.length c_85), (101, .slice A_62 cb.length c_63)] w_86 [] (by kernel_rfl) trivial ?_
        obtain ⟨vs_91, hC_92, hK_93⟩ := Kd.C_raw (d := kCell) cell0 (Kd.R_C (Kd.R_below hr_64 hb_72))
        refine XL_appendMix (d := kCell) (W0 := w_71) (c' := c_63) (m := cb.length) cell0 rfl rfl rfl 98 (.agg #[.int .i32 0, .string ByteArray.empty, .int .i64 0, .int .i64 0, .string ByteArray.empty, .slice none 0 0]) 80 Tryd.underlying90 info98 rfl (by decide) (by omega) ca cb vs_91 (by kernel_rfl) hm_87 (Kd.C_below hC_92 (bgo hb_76 hg_88 hl_89 (Nat.le_refl _))) rfl hK_93 ((bgo hb_76 hg_88 hl_89 (Nat.le_refl _))).size (by (try simp only [List.length_append, List.length_nil]); omega) ?_
        intro A_94 c_95 w_96 hm_97 hg_98 hl_99
        have hB_101 : Below w_71.heap.size w_71 w_96 := (bgo (bgo hb_76 hg_88 hl_89 (Nat.le_refl _)) hg_98 hl_99 (Nat.le_refl _))
        have hC_100 : kCell.C w_96 A_94 (ca ++ cb).length (ca ++ cb) := Mix.C hB_101 hm_97
        refine XL_call 55 rfl rfl rfl ent55 [.slice A_68 ((ca ++ cb).length) c_69, .slice A_94 ((ca ++ cb).length) c_95] (by kernel_rfl) (sameCells_any _ _ _ _ (ca ++ cb) (ca ++ cb) _ (Kd.R_C (Kd.R_below hr_70 hB_101)) hC_100) ?_
        rintro e w_102 ⟨rfl, hb_103⟩; refine ⟨_, rfl, ?_⟩
        rw [show cellsEqP (ca ++ cb) (ca ++ cb) = true from (cellsEqP_iff _ _).2 (by simp)]
        refine XL_run 2 [] [(3, .pointer (some ⟨w.heap.size, 0, none⟩)), (5, .pointer (some ⟨w_6.heap.size, 0, none⟩)), (7, .pointer (some ⟨w_21.heap.size, 0, none⟩)), (8, .bool true), (10, .pointer (some ⟨w_37.heap.size, 0, none⟩)), (11, .bool ((joinO b d).2.1)), (105, .bool false)] w_102 [] (by kernel_rfl) trivial ?_
        refine XL_nil ?_
        refine X_cond false rfl ?_
        refine X_skip ?_
        refine X_seq ?_
        refine X_seq ?_
        refine X_region ?_
        refine XL_run 4 [] [(3, .pointer (some ⟨w.heap.size, 0, none⟩)), (5, .pointer (some ⟨w_6.heap.size, 0, none⟩)), (7, .pointer (some ⟨w_21.heap.size, 0, none⟩)), (10, .pointer (some ⟨w_37.heap.size, 0, none⟩)), (108, .bool false), (109, .bool ((joinO b d).2.1))] w_102 [] (by kernel_rfl) trivial ?_
        by_cases c_104 : (joinO b d).2.1 = true
        · rw [show ((joinO b d).2.1 : Bool) = true from by simpa using c_104]
          refine XL_run 2 [] [(3, .pointer (some ⟨w.heap.size, 0, none⟩)), (5, .pointer (some ⟨w_6.heap.size, 0, none⟩)), (7, .pointer (some ⟨w_21.heap.size, 0, none⟩)), (10, .pointer (some ⟨w_37.heap.size, 0, none⟩)), (111, .bool false)] w_102 [] (by kernel_rfl) trivial ?_
          refine XL_nil ?_
          refine X_cond false rfl ?_
          refine X_skip ?_
          refine X_seq ?_
          refine X_region ?_
          obtain ⟨rb2, rd, kb2, kd, ebd, hjy⟩ := join_ok c_104
          have hye : (joinO b d).1 = (mkT (b.text ++ d.text) b.attrs) := by rw [hjy]
          have hsy : opSz (joinO b d).1 := by rw [hye]; exact opSz_app hzb.1 (by omega)
          have hry : refuseP (joinO b d).1 = 0 := by rw [hye]; exact join_refuse rb2 rd kb2 kd
          have hl3 : joinO (joinO a b).1 d = (mkT ((a.text ++ b.text) ++ d.text) a.attrs, true, 0) := by rw [join_mk hrx rd (by rw [hxe]; rfl) kd (by rw [hxe]; show a.attrs = d.attrs; rw [eab, ebd]), hxe]; rfl
          have hr3 : joinO a (joinO b d).1 = (mkT ((a.text ++ b.text) ++ d.text) a.attrs, true, 0) := by rw [join_mk ra hry ka (by rw [hye]; rfl) (by rw [hye]; exact eab), hye]; show (mkT (a.text ++ (b.text ++ d.text)) a.attrs, true, 0) = _; rw [app_assoc]
          have hB_105 : Below w_28.heap.size w_28 w_102 := (bt (bgo (bgo (bt (bt hB_67 hb_72) hb_76) hg_88 hl_89 ((bt hB_67 hb_72)).size) hg_98 hl_99 ((bt hB_67 hb_72)).size) hb_103)
          have hB_106 : Below w_11.heap.size w_11 w_71 := (bt (bt (bt (bg (bt (bt hB_33 hb_38) hb_42) hg_47 ((bt hB_33 hb_38)).size) hb_59) hb_66) hb_72)
          have hB_107 : Below w_11.heap.size w_11 w_102 := (bt (bgo (bgo (bt (bt (bt (bt (bg (bt (bt hB_33 hb_38) hb_42) hg_47 ((bt hB_33 hb_38)).size) hb_59) hb_66) hb_72) hb_76) hg_88 hl_89 (hB_106).size) hg_98 hl_99 (hB_106).size) hb_103)
          refine XL_run 2 [(113, .load (.agg #[.int .i64 ((joinO a b).1.kind), .string ((joinO a b).1.text), .int .i64 ((joinO a b).1.vk), .int .i64 ((joinO a b).1.vn), .string ((joinO a b).1.vt), .int .i64 ((joinO a b).1.count), .slice A_18 ((joinO a b).1.attrs.length) c_19])), (114, .load (.agg #[.int .i64 d.kind, .string d.text, .int .i64 d.vk, .int .i64 d.vn, .string d.vt, .int .i64 d.count, .slice D d.attrs.length i2]))] [(3, .pointer (some ⟨w.heap.size, 0, none⟩)), (10, .pointer (some ⟨w_37.heap.size, 0, none⟩)), (113, .agg #[.int .i64 ((joinO a b).1.kind), .string ((joinO a b).1.text), .int .i64 ((joinO a b).1.vk), .int .i64 ((joinO a b).1.vn), .string ((joinO a b).1.vt), .int .i64 ((joinO a b).1.count), .slice A_18 ((joinO a b).1.attrs.length) c_19]), (114, .agg #[.int .i64 d.kind, .string d.text, .int .i64 d.vk, .int .i64 d.vn, .string d.vt, .int .i64 d.count, .slice D d.attrs.length i2])] w_102 [LoadsAs Tryd.prog 33 (⟨w_21.heap.size, 0, none⟩) (.agg #[.int .i64 ((joinO a b).1.kind), .string ((joinO a b).1.text), .int .i64 ((joinO a b).1.vk), .int .i64 ((joinO a b).1.vn), .string ((joinO a b).1.vt), .int .i64 ((joinO a b).1.count), .slice A_18 ((joinO a b).1.attrs.length) c_19]) w_102, LoadsAs Tryd.prog 33 (⟨w_6.heap.size, 0, none⟩) (.agg #[.int .i64 d.kind, .string d.text, .int .i64 d.vk, .int .i64 d.vn, .string d.vt, .int .i64 d.count, .slice D d.attrs.length i2]) w_102] (by kernel_rfl) ⟨loadsB rfl rfl (Blk.below hk_30 hB_105) 0 ⟨by kernel_rfl, by kernel_rfl⟩, loadsB rfl rfl (Blk.below hk_13 hB_107) 0 ⟨by kernel_rfl, by kernel_rfl⟩, trivial⟩ ?_
          have hB_113 : Below w_21.heap.size w_21 w_102 := (bt (bgo (bgo (bt (bt hB_73 hb_72) hb_76) hg_88 hl_89 ((bt hB_73 hb_72)).size) hg_98 hl_99 ((bt hB_73 hb_72)).size) hb_103)
          have hB_114 : Below w.heap.size w w_102 := (bt (bgo (bgo (bt (bt (bt (bt hB_60 hb_59) hb_66) hb_72) hb_76) hg_88 hl_89 ((bt (bt (bt hB_60 hb_59) hb_66) hb_72)).size) hg_98 hl_99 ((bt (bt (bt hB_60 hb_59) hb_66) hb_72)).size) hb_103)
          refine XL_call 61 rfl rfl rfl ent61 [.agg #[.int .i64 ((joinO a b).1.kind), .string ((joinO a b).1.text), .int .i64 ((joinO a b).1.vk), .int .i64 ((joinO a b).1.vn), .string ((joinO a b).1.vt), .int .i64 ((joinO a b).1.count), .slice A_18 ((joinO a b).1.attrs.length) c_19], .agg #[.int .i64 d.kind, .string d.text, .int .i64 d.vk, .int .i64 d.vn, .string d.vt, .int .i64 d.count, .slice D d.attrs.length i2]] (by kernel_rfl) (cjoin_any (joinO a b).1 d _ _ _ _ _ (Kd.R_C (Kd.R_below hr_20 hB_113)) (Kd.C_below hD hB_114) hsx hzd.1 (hT.below hB_114) es (hE.below hB_114)) ?_
          rintro e w_111 ⟨A_108, c_109, rfl, hr_110, hb_112⟩; refine ⟨_, rfl, ?_⟩
          rw [hl3] at hr_110 ⊢
          refine XL_run 5 [] [(3, .pointer (some ⟨w.heap.size, 0, none⟩)), (10, .pointer (some ⟨w_37.heap.size, 0, none⟩)), (19, .pointer (some ⟨w_111.heap.size, 0, none⟩)), (116, .agg #[.int .i64 ((mkT ((a.text ++ b.text) ++ d.text) a.attrs).kind), .string ((mkT ((a.text ++ b.text) ++ d.text) a.attrs).text), .int .i64 ((mkT ((a.text ++ b.text) ++ d.text) a.attrs).vk), .int .i64 ((mkT ((a.text ++ b.text) ++ d.text) a.attrs).vn), .string ((mkT ((a.text ++ b.text) ++ d.text) a.attrs).vt), .int .i64 ((mkT ((a.text ++ b.text) ++ d.text) a.attrs).count), .slice A_108 ((mkT ((a.text ++ b.text) ++ d.text) a.attrs).attrs.length) c_109]), (117, .bool true), (118, .nilIface)] (w_111.alloc (.cells #[.int .i64 0, .string ByteArray.empty, .int .i64 0, .int .i64 0, .string ByteArray.empty, .int .i64 0, .slice none 0 0] 33)) [] (by kernel_rfl) trivial ?_
          obtain ⟨w_115, hw_119, hb_116, hk_117, hz_118⟩ := new_world w_111 #[.int .i64 0, .string ByteArray.empty, .int .i64 0, .int .i64 0, .string ByteArray.empty, .int .i64 0, .slice none 0 0] 33
          rw [hw_119]
          refine XL_store (v := .agg #[.int .i64 ((mkT ((a.text ++ b.text) ++ d.text) a.attrs).kind), .string ((mkT ((a.text ++ b.text) ++ d.text) a.attrs).text), .int .i64 ((mkT ((a.text ++ b.text) ++ d.text) a.attrs).vk), .int .i64 ((mkT ((a.text ++ b.text) ++ d.text) a.attrs).vn), .string ((mkT ((a.text ++ b.text) ++ d.text) a.attrs).vt), .int .i64 ((mkT ((a.text ++ b.text) ++ d.text) a.attrs).count), .slice A_108 ((mkT ((a.text ++ b.text) ++ d.text) a.attrs).attrs.length) c_109]) rfl rfl rfl (by kernel_rfl) hk_117 0 [.int .i64 ((mkT ((a.text ++ b.text) ++ d.text) a.attrs).kind), .string ((mkT ((a.text ++ b.text) ++ d.text) a.attrs).text), .int .i64 ((mkT ((a.text ++ b.text) ++ d.text) a.attrs).vk), .int .i64 ((mkT ((a.text ++ b.text) ++ d.text) a.attrs).vn), .string ((mkT ((a.text ++ b.text) ++ d.text) a.attrs).vt), .int .i64 ((mkT ((a.text ++ b.text) ++ d.text) a.attrs).count), .slice A_108 ((mkT ((a.text ++ b.text) ++ d.text) a.attrs).attrs.length) c_109] #[.int .i64 ((mkT ((a.text ++ b.text) ++ d.text) a.attrs).kind), .string ((mkT ((a.text ++ b.text) ++ d.text) a.attrs).text), .int .i64 ((mkT ((a.text ++ b.text) ++ d.text) a.attrs).vk), .int .i64 ((mkT ((a.text ++ b.text) ++ d.text) a.attrs).vn), .string ((mkT ((a.text ++ b.text) ++ d.text) a.attrs).vt), .int .i64 ((mkT ((a.text ++ b.text) ++ d.text) a.attrs).count), .slice A_108 ((mkT ((a.text ++ b.text) ++ d.text) a.attrs).attrs.length) c_109] ⟨by kernel_rfl, rfl, by kernel_rfl⟩ ⟨by kernel_rfl, by kernel_rfl⟩ (Nat.le_of_ble_eq_true (by kernel_rfl)) (fun w_120 hg_121 hk_122 hz_123 => ?_)
          have hB_124 : Below w_1.heap.size w_1 w_111 := (bt (bt (bgo (bgo (bt hB_74 hb_76) hg_88 hl_89 (hB_74).size) hg_98 hl_99 (hB_74).size) hb_103) hb_112)
          have hB_125 : Below w_6.heap.size w_6 w_111 := (bt (bt (bgo (bgo (bt (bt (bt hB_61 hb_66) hb_72) hb_76) hg_88 hl_89 ((bt (bt hB_61 hb_66) hb_72)).size) hg_98 hl_99 ((bt (bt hB_61 hb_66) hb_72)).size) hb_103) hb_112)
          have hB_126 : Below w_46.heap.size w_46 w_111 := (bt (bt (bgo (bgo (bt (bt (bt hb_59 hb_66) hb_72) hb_76) hg_88 hl_89 ((bt (bt hb_59 hb_66) hb_72)).size) hg_98 hl_99 ((bt (bt hb_59 hb_66) hb_72)).size) hb_103) hb_112)
          have hB_127 : Below w_65.heap.size w_65 w_111 := (bt (bt (bgo (bgo (bt hb_72 hb_76) hg_88 hl_89 (hb_72).size) hg_98 hl_99 (hb_72).size) hb_103) hb_112)
          have hB_128 : Below w_58.heap.size w_58 w_111 := (bt (bt (bgo (bgo (bt (bt hb_66 hb_72) hb_76) hg_88 hl_89 ((bt hb_66 hb_72)).size) hg_98 hl_99 ((bt hb_66 hb_72)).size) hb_103) hb_112)
          have hB_129 : Below w_37.heap.size w_37 w_71 := (bt (bt (bt (bg hb_42 hg_47 (Nat.le_refl _)) hb_59) hb_66) hb_72)
          have hB_130 : Below w_37.heap.size w_37 w_111 := (bt (bt (bgo (bgo (bt (bt (bt (bt (bg hb_42 hg_47 (Nat.le_refl _)) hb_59) hb_66) hb_72) hb_76) hg_88 hl_89 (hB_129).size) hg_98 hl_99 (hB_129).size) hb_103) hb_112)
          refine XL_run 2 [] [(3, .pointer (some ⟨w.heap.size, 0, none⟩)), (10, .pointer (some ⟨w_37.heap.size, 0, none⟩)), (19, .pointer (some ⟨w_111.heap.size, 0, none⟩)), (20, .bool true), (21, .nilIface)] w_120 [] (by kernel_rfl) trivial ?_
          refine XL_nil ?_
          refine X_seq ?_
          refine X_region ?_
          have hB_131 : Below w_1.heap.size w_1 w_120 := (bg (bt hB_124 hb_116) hg_121 (hB_124).size)
          have hB_132 : Below w_46.heap.size w_46 w_120 := (bg (bt hB_126 hb_116) hg_121 (hB_126).size)
          refine XL_run 2 [(120, .load (.agg #[.int .i64 a.kind, .string a.text, .int .i64 a.vk, .int .i64 a.vn, .string a.vt, .int .i64 a.count, .slice A a.attrs.length i0])), (121, .load (.agg #[.int .i64 ((joinO b d).1.kind), .string ((joinO b d).1.text), .int .i64 ((joinO b d).1.vk), .int .i64 ((joinO b d).1.vn), .string ((joinO b d).1.vt), .int .i64 ((joinO b d).1.count), .slice A_34 ((joinO b d).1.attrs.length) c_35]))] [(19, .pointer (some ⟨w_111.heap.size, 0, none⟩)), (20, .bool true), (21, .nilIface), (120, .agg #[.int .i64 a.kind, .string a.text, .int .i64 a.vk, .int .i64 a.vn, .string a.vt, .int .i64 a.count, .slice A a.attrs.length i0]), (121, .agg #[.int .i64 ((joinO b d).1.kind), .string ((joinO b d).1.text), .int .i64 ((joinO b d).1.vk), .int .i64 ((joinO b d).1.vn), .string ((joinO b d).1.vt), .int .i64 ((joinO b d).1.count), .slice A_34 ((joinO b d).1.attrs.length) c_35])] w_120 [LoadsAs Tryd.prog 33 (⟨w.heap.size, 0, none⟩) (.agg #[.int .i64 a.kind, .string a.text, .int .i64 a.vk, .int .i64 a.vn, .string a.vt, .int .i64 a.count, .slice A a.attrs.length i0]) w_120, LoadsAs Tryd.prog 33 (⟨w_37.heap.size, 0, none⟩) (.agg #[.int .i64 ((joinO b d).1.kind), .string ((joinO b d).1.text), .int .i64 ((joinO b d).1.vk), .int .i64 ((joinO b d).1.vn), .string ((joinO b d).1.vt), .int .i64 ((joinO b d).1.count), .slice A_34 ((joinO b d).1.attrs.length) c_35]) w_120] (by kernel_rfl) ⟨loadsB rfl rfl (Blk.below hk_3 hB_131) 0 ⟨by kernel_rfl, by kernel_rfl⟩, loadsB rfl rfl (Blk.below hk_48 hB_132) 0 ⟨by kernel_rfl, by kernel_rfl⟩, trivial⟩ ?_
          have hB_138 : Below w.heap.size w w_120 := (bg (bt (bt hB_114 hb_112) hb_116) hg_121 ((bt hB_114 hb_112)).size)
          have hB_139 : Below w_37.heap.size w_37 w_120 := (bg (bt hB_130 hb_116) hg_121 (hB_130).size)
          refine XL_call 61 rfl rfl rfl ent61 [.agg #[.int .i64 a.kind, .string a.text, .int .i64 a.vk, .int .i64 a.vn, .string a.vt, .int .i64 a.count, .slice A a.attrs.length i0], .agg #[.int .i64 ((joinO b d).1.kind), .string ((joinO b d).1.text), .int .i64 ((joinO b d).1.vk), .int .i64 ((joinO b d).1.vn), .string ((joinO b d).1.vt), .int .i64 ((joinO b d).1.count), .slice A_34 ((joinO b d).1.attrs.length) c_35]] (by kernel_rfl) (cjoin_any a (joinO b d).1 _ _ _ _ _ (Kd.C_below hA hB_138) (Kd.R_C (Kd.R_below hr_36 hB_139)) hza.1 hsy (hT.below hB_138) es (hE.below hB_138)) ?_
          rintro e w_136 ⟨A_133, c_134, rfl, hr_135, hb_137⟩; refine ⟨_, rfl, ?_⟩
          rw [hr3] at hr_135 ⊢
          refine XL_run 5 [] [(19, .pointer (some ⟨w_111.heap.size, 0, none⟩)), (20, .bool true), (21, .nilIface), (22, .pointer (some ⟨w_136.heap.size, 0, none⟩)), (123, .agg #[.int .i64 ((mkT ((a.text ++ b.text) ++ d.text) a.attrs).kind), .string ((mkT ((a.text ++ b.text) ++ d.text) a.attrs).text), .int .i64 ((mkT ((a.text ++ b.text) ++ d.text) a.attrs).vk), .int .i64 ((mkT ((a.text ++ b.text) ++ d.text) a.attrs).vn), .string ((mkT ((a.text ++ b.text) ++ d.text) a.attrs).vt), .int .i64 ((mkT ((a.text ++ b.text) ++ d.text) a.attrs).count), .slice A_133 ((mkT ((a.text ++ b.text) ++ d.text) a.attrs).attrs.length) c_134]), (124, .bool true), (125, .nilIface)] (w_136.alloc (.cells #[.int .i64 0, .string ByteArray.empty, .int .i64 0, .int .i64 0, .string ByteArray.empty, .int .i64 0, .slice none 0 0] 33)) [] (by kernel_rfl) trivial ?_
          obtain ⟨w_140, hw_144, hb_141, hk_142, hz_143⟩ := new_world w_136 #[.int .i64 0, .string ByteArray.empty, .int .i64 0, .int .i64 0, .string ByteArray.empty, .int .i64 0, .slice none 0 0] 33
          rw [hw_144]
          refine XL_store (v := .agg #[.int .i64 ((mkT ((a.text ++ b.text) ++ d.text) a.attrs).kind), .string ((mkT ((a.text ++ b.text) ++ d.text) a.attrs).text), .int .i64 ((mkT ((a.text ++ b.text) ++ d.text) a.attrs).vk), .int .i64 ((mkT ((a.text ++ b.text) ++ d.text) a.attrs).vn), .string ((mkT ((a.text ++ b.text) ++ d.text) a.attrs).vt), .int .i64 ((mkT ((a.text ++ b.text) ++ d.text) a.attrs).count), .slice A_133 ((mkT ((a.text ++ b.text) ++ d.text) a.attrs).attrs.length) c_134]) rfl rfl rfl (by kernel_rfl) hk_142 0 [.int .i64 ((mkT ((a.text ++ b.text) ++ d.text) a.attrs).kind), .string ((mkT ((a.text ++ b.text) ++ d.text) a.attrs).text), .int .i64 ((mkT ((a.text ++ b.text) ++ d.text) a.attrs).vk), .int .i64 ((mkT ((a.text ++ b.text) ++ d.text) a.attrs).vn), .string ((mkT ((a.text ++ b.text) ++ d.text) a.attrs).vt), .int .i64 ((mkT ((a.text ++ b.text) ++ d.text) a.attrs).count), .slice A_133 ((mkT ((a.text ++ b.text) ++ d.text) a.attrs).attrs.length) c_134] #[.int .i64 ((mkT ((a.text ++ b.text) ++ d.text) a.attrs).kind), .string ((mkT ((a.text ++ b.text) ++ d.text) a.attrs).text), .int .i64 ((mkT ((a.text ++ b.text) ++ d.text) a.attrs).vk), .int .i64 ((mkT ((a.text ++ b.text) ++ d.text) a.attrs).vn), .string ((mkT ((a.text ++ b.text) ++ d.text) a.attrs).vt), .int .i64 ((mkT ((a.text ++ b.text) ++ d.text) a.attrs).count), .slice A_133 ((mkT ((a.text ++ b.text) ++ d.text) a.attrs).attrs.length) c_134] ⟨by kernel_rfl, rfl, by kernel_rfl⟩ ⟨by kernel_rfl, by kernel_rfl⟩ (Nat.le_of_ble_eq_true (by kernel_rfl)) (fun w_145 hg_146 hk_147 hz_148 => ?_)
          have hB_149 : Below w_6.heap.size w_6 w_136 := (bt (bg (bt hB_125 hb_116) hg_121 (hB_125).size) hb_137)
          have hB_150 : Below w_11.heap.size w_11 w_136 := (bt (bg (bt (bt hB_107 hb_112) hb_116) hg_121 ((bt hB_107 hb_112)).size) hb_137)
          have hB_151 : Below w_28.heap.size w_28 w_136 := (bt (bg (bt (bt hB_105 hb_112) hb_116) hg_121 ((bt hB_105 hb_112)).size) hb_137)
          have hB_152 : Below w_111.heap.size w_111 w_136 := (bt (bg hb_116 hg_121 (Nat.le_refl _)) hb_137)
          have hB_153 : Below w_71.heap.size w_71 w_136 := (bt (bg (bt (bt (bt hB_101 hb_103) hb_112) hb_116) hg_121 ((bt (bt hB_101 hb_103) hb_112)).size) hb_137)
          have hB_154 : Below w_65.heap.size w_65 w_136 := (bt (bg (bt hB_127 hb_116) hg_121 (hB_127).size) hb_137)
          have hB_155 : Below w_58.heap.size w_58 w_136 := (bt (bg (bt hB_128 hb_116) hg_121 (hB_128).size) hb_137)
          have hB_156 : Below w_21.heap.size w_21 w_136 := (bt (bg (bt (bt hB_113 hb_112) hb_116) hg_121 ((bt hB_113 hb_112)).size) hb_137)
          refine XL_run 2 [] [(19, .pointer (some ⟨w_111.heap.size, 0, none⟩)), (20, .bool true), (21, .nilIface), (22, .pointer (some ⟨w_136.heap.size, 0, none⟩)), (23, .bool true), (24, .nilIface)] w_145 [] (by kernel_rfl) trivial ?_
          refine XL_nil ?_
          refine X_seq ?_
          refine X_region ?_
          have hB_157 : Below w_120.heap.size w_120 w_145 := (bg (bt hb_137 hb_141) hg_146 (hb_137).size)
          refine XL_run 15 [(139, .load (.agg #[.int .i64 ((mkT ((a.text ++ b.text) ++ d.text) a.attrs).kind), .string ((mkT ((a.text ++ b.text) ++ d.text) a.attrs).text), .int .i64 ((mkT ((a.text ++ b.text) ++ d.text) a.attrs).vk), .int .i64 ((mkT ((a.text ++ b.text) ++ d.text) a.attrs).vn), .string ((mkT ((a.text ++ b.text) ++ d.text) a.attrs).vt), .int .i64 ((mkT ((a.text ++ b.text) ++ d.text) a.attrs).count), .slice A_108 ((mkT ((a.text ++ b.text) ++ d.text) a.attrs).attrs.length) c_109])), (140, .load (.agg #[.int .i64 ((mkT ((a.text ++ b.text) ++ d.text) a.attrs).kind), .string ((mkT ((a.text ++ b.text) ++ d.text) a.attrs).text), .int .i64 ((mkT ((a.text ++ b.text) ++ d.text) a.attrs).vk), .int .i64 ((mkT ((a.text ++ b.text) ++ d.text) a.attrs).vn), .string ((mkT ((a.text ++ b.text) ++ d.text) a.attrs).vt), .int .i64 ((mkT ((a.text ++ b.text) ++ d.text) a.attrs).count), .slice A_133 ((mkT ((a.text ++ b.text) ++ d.text) a.attrs).attrs.length) c_134]))] [(138, .bool true), (139, .agg #[.int .i64 ((mkT ((a.text ++ b.text) ++ d.text) a.attrs).kind), .string ((mkT ((a.text ++ b.text) ++ d.text) a.attrs).text), .int .i64 ((mkT ((a.text ++ b.text) ++ d.text) a.attrs).vk), .int .i64 ((mkT ((a.text ++ b.text) ++ d.text) a.attrs).vn), .string ((mkT ((a.text ++ b.text) ++ d.text) a.attrs).vt), .int .i64 ((mkT ((a.text ++ b.text) ++ d.text) a.attrs).count), .slice A_108 ((mkT ((a.text ++ b.text) ++ d.text) a.attrs).attrs.length) c_109]), (140, .agg #[.int .i64 ((mkT ((a.text ++ b.text) ++ d.text) a.attrs).kind), .string ((mkT ((a.text ++ b.text) ++ d.text) a.attrs).text), .int .i64 ((mkT ((a.text ++ b.text) ++ d.text) a.attrs).vk), .int .i64 ((mkT ((a.text ++ b.text) ++ d.text) a.attrs).vn), .string ((mkT ((a.text ++ b.text) ++ d.text) a.attrs).vt), .int .i64 ((mkT ((a.text ++ b.text) ++ d.text) a.attrs).count), .slice A_133 ((mkT ((a.text ++ b.text) ++ d.text) a.attrs).attrs.length) c_134])] w_145 [LoadsAs Tryd.prog 33 (⟨w_111.heap.size, 0, none⟩) (.agg #[.int .i64 ((mkT ((a.text ++ b.text) ++ d.text) a.attrs).kind), .string ((mkT ((a.text ++ b.text) ++ d.text) a.attrs).text), .int .i64 ((mkT ((a.text ++ b.text) ++ d.text) a.attrs).vk), .int .i64 ((mkT ((a.text ++ b.text) ++ d.text) a.attrs).vn), .string ((mkT ((a.text ++ b.text) ++ d.text) a.attrs).vt), .int .i64 ((mkT ((a.text ++ b.text) ++ d.text) a.attrs).count), .slice A_108 ((mkT ((a.text ++ b.text) ++ d.text) a.attrs).attrs.length) c_109]) w_145, LoadsAs Tryd.prog 33 (⟨w_136.heap.size, 0, none⟩) (.agg #[.int .i64 ((mkT ((a.text ++ b.text) ++ d.text) a.attrs).kind), .string ((mkT ((a.text ++ b.text) ++ d.text) a.attrs).text), .int .i64 ((mkT ((a.text ++ b.text) ++ d.text) a.attrs).vk), .int .i64 ((mkT ((a.text ++ b.text) ++ d.text) a.attrs).vn), .string ((mkT ((a.text ++ b.text) ++ d.text) a.attrs).vt), .int .i64 ((mkT ((a.text ++ b.text) ++ d.text) a.attrs).count), .slice A_133 ((mkT ((a.text ++ b.text) ++ d.text) a.attrs).attrs.length) c_134]) w_145] (by kernel_rfl) ⟨loadsB rfl rfl (Blk.below hk_122 hB_157) 0 ⟨by kernel_rfl, by kernel_rfl⟩, loadsB rfl rfl hk_147 0 ⟨by kernel_rfl, by kernel_rfl⟩, trivial⟩ ?_
          have hB_158 : Below w_111.heap.size w_111 w_145 := (bg (bt hB_152 hb_141) hg_146 (hB_152).size)
          refine XL_call 63 rfl rfl rfl ent63 [.agg #[.int .i64 ((mkT ((a.text ++ b.text) ++ d.text) a.attrs).kind), .string ((mkT ((a.text ++ b.text) ++ d.text) a.attrs).text), .int .i64 ((mkT ((a.text ++ b.text) ++ d.text) a.attrs).vk), .int .i64 ((mkT ((a.text ++ b.text) ++ d.text) a.attrs).vn), .string ((mkT ((a.text ++ b.text) ++ d.text) a.attrs).vt), .int .i64 ((mkT ((a.text ++ b.text) ++ d.text) a.attrs).count), .slice A_108 ((mkT ((a.text ++ b.text) ++ d.text) a.attrs).attrs.length) c_109], .agg #[.int .i64 ((mkT ((a.text ++ b.text) ++ d.text) a.attrs).kind), .string ((mkT ((a.text ++ b.text) ++ d.text) a.attrs).text), .int .i64 ((mkT ((a.text ++ b.text) ++ d.text) a.attrs).vk), .int .i64 ((mkT ((a.text ++ b.text) ++ d.text) a.attrs).vn), .string ((mkT ((a.text ++ b.text) ++ d.text) a.attrs).vt), .int .i64 ((mkT ((a.text ++ b.text) ++ d.text) a.attrs).count), .slice A_133 ((mkT ((a.text ++ b.text) ++ d.text) a.attrs).attrs.length) c_134]] (by kernel_rfl) (csame_any (mkT ((a.text ++ b.text) ++ d.text) a.attrs) (mkT ((a.text ++ b.text) ++ d.text) a.attrs) _ _ _ _ _ (Kd.R_C (Kd.R_below hr_110 hB_158)) (Kd.R_C (Kd.R_below hr_135 (bg hb_141 hg_146 (Nat.le_refl _))))) ?_
          rintro e w_159 ⟨rfl, hb_160⟩; refine ⟨_, rfl, ?_⟩
          rw [(opEqP_iff (mkT ((a.text ++ b.text) ++ d.text) a.attrs) (mkT ((a.text ++ b.text) ++ d.text) a.attrs)).2 rfl]
          refine XL_run 2 [] [(6, .bool true)] w_159 [] (by kernel_rfl) trivial ?_
          refine XL_nil ?_
          refine X_ret ?_
          refine RX.ret_ok (P := Tryd.prog) (fn := Tryd.f13) (N := 143) (R := R_) [.bool true] (by kernel_rfl) (hR_ _ _ ?_)
          have hB_161 : Below w.heap.size w w_159 := (bt (bg (bt (bt hB_138 hb_137) hb_141) hg_146 ((bt hB_138 hb_137)).size) hb_160)
          exact ⟨rfl, hB_161⟩
        · rw [show ((joinO b d).2.1 : Bool) = false from by simpa using c_104]
          refine XL_run 2 [] [(3, .pointer (some ⟨w.heap.size, 0, none⟩)), (5, .pointer (some ⟨w_6.heap.size, 0, none⟩)), (7, .pointer (some ⟨w_21.heap.size, 0, none⟩)), (10, .pointer (some ⟨w_37.heap.size, 0, none⟩)), (111, .bool true)] w_102 [] (by kernel_rfl) trivial ?_
          refine XL_nil ?_
          refine X_cond true rfl ?_
          refine X_seq ?_
          refine X_region ?_
          refine XL_run 1 [] [(6, .bool true)] w_102 [] (by kernel_rfl) trivial ?_
          refine XL_nil ?_
          refine X_ret ?_
          refine RX.ret_ok (P := Tryd.prog) (fn := Tryd.f13) (N := 143) (R := R_) [.bool true] (by kernel_rfl) (hR_ _ _ ?_)
          have hB_162 : Below w.heap.size w w_102 := (bt (bgo (bgo (bt (bt (bt (bt hB_60 hb_59) hb_66) hb_72) hb_76) hg_88 hl_89 ((bt (bt (bt hB_60 hb_59) hb_66) hb_72)).size) hg_98 hl_99 ((bt (bt (bt hB_60 hb_59) hb_66) hb_72)).size) hb_103)
          exact ⟨rfl, hB_162⟩
      · rw [show ((joinO a b).2.1 : Bool) = false from by simpa using c_54]
        refine X_cond false rfl ?_
        refine X_skip ?_
        refine X_seq ?_
        refine X_seq ?_
        refine X_region ?_
        refine XL_run 6 [] [(3, .pointer (some ⟨w.heap.size, 0, none⟩)), (5, .pointer (some ⟨w_6.heap.size, 0, none⟩)), (7, .pointer (some ⟨w_21.heap.size, 0, none⟩)), (10, .pointer (some ⟨w_37.heap.size, 0, none⟩)), (111, .bool true)] w_46 [] (by kernel_rfl) trivial ?_
        refine XL_nil ?_
        refine X_cond true rfl ?_
        refine X_seq ?_
        refine X_region ?_
        refine XL_run 1 [] [(6, .bool true)] w_46 [] (by kernel_rfl) trivial ?_
        refine XL_nil ?_
        refine X_ret ?_
        refine RX.ret_ok (P := Tryd.prog) (fn := Tryd.f13) (N := 143) (R := R_) [.bool true] (by kernel_rfl) (hR_ _ _ ?_)
        have hB_163 : Below w.heap.size w w_46 := (bg (bt (bt hB_40 hb_38) hb_42) hg_47 ((bt hB_40 hb_38)).size)
        exact ⟨rfl, hB_163⟩
    · rw [errV_pos es ((joinO b d).2.2) (Nat.pos_of_ne_zero c_53)]
      refine XL_run 2 [] [(3, .pointer (some ⟨w.heap.size, 0, none⟩)), (4, .pointer (some ⟨w_1.heap.size, 0, none⟩)), (5, .pointer (some ⟨w_6.heap.size, 0, none⟩)), (7, .pointer (some ⟨w_21.heap.size, 0, none⟩)), (8, .bool ((joinO a b).2.1)), (9, .nilIface), (10, .pointer (some ⟨w_37.heap.size, 0, none⟩)), (11, .bool ((joinO b d).2.1)), (12, .iface 184 (.pointer (some (errAt es ((joinO b d).2.2))))), (46, .bool true)] w_46 [] (by kernel_rfl) trivial ?_
      refine XL_nil ?_
      refine X_cond true rfl ?_
      refine X_seq ?_
      refine X_region ?_
      refine XL_run 2 [] [(9, .nilIface), (11, .bool ((joinO b d).2.1)), (12, .iface 184 (.pointer (some (errAt es ((joinO b d).2.2))))), (48, .bool ((joinO a b).2.1))] w_46 [] (by kernel_rfl) trivial ?_
      by_cases c_164 : (joinO a b).2.1 = true
      · rw [show ((joinO a b).2.1 : Bool) = true from by simpa using c_164]
        refine XL_run 12 [] [(6, .bool true)] w_46 [] (by kernel_rfl) trivial ?_
        refine XL_nil ?_
        refine X_ret ?_
        refine RX.ret_ok (P := Tryd.prog) (fn := Tryd.f13) (N := 143) (R := R_) [.bool true] (by kernel_rfl) (hR_ _ _ ?_)
        have hB_165 : Below w.heap.size w w_46 := (bg (bt (bt hB_40 hb_38) hb_42) hg_47 ((bt hB_40 hb_38)).size)
        exact ⟨rfl, hB_165⟩
      · rw [show ((joinO a b).2.1 : Bool) = false from by simpa using c_164]
        refine XL_run 2 [] [(9, .nilIface), (12, .iface 184 (.pointer (some (errAt es ((joinO b d).2.2))))), (50, .bool ((joinO b d).2.1))] w_46 [] (by kernel_rfl) trivial ?_
        by_cases c_166 : (joinO b d).2.1 = true
        · exact absurd c_166 (by rw [join_err c_53]; decide)
        · rw [show ((joinO b d).2.1 : Bool) = false from by simpa using c_166]
          refine XL_run 10 [] [(6, .bool true)] w_46 [] (by kernel_rfl) trivial ?_
          refine XL_nil ?_
          refine X_ret ?_
          refine RX.ret_ok (P := Tryd.prog) (fn := Tryd.f13) (N := 143) (R := R_) [.bool true] (by kernel_rfl) (hR_ _ _ ?_)
          have hB_167 : Below w.heap.size w w_46 := (bg (bt (bt hB_40 hb_38) hb_42) hg_47 ((bt hB_40 hb_38)).size)
          exact ⟨rfl, hB_167⟩
  · rw [errV_pos es ((joinO a b).2.2) (Nat.pos_of_ne_zero c_52)]
    refine XL_run 5 [] [(3, .pointer (some ⟨w.heap.size, 0, none⟩)), (4, .pointer (some ⟨w_1.heap.size, 0, none⟩)), (5, .pointer (some ⟨w_6.heap.size, 0, none⟩)), (7, .pointer (some ⟨w_21.heap.size, 0, none⟩)), (8, .bool ((joinO a b).2.1)), (9, .iface 184 (.pointer (some (errAt es ((joinO a b).2.2))))), (10, .pointer (some ⟨w_37.heap.size, 0, none⟩)), (11, .bool ((joinO b d).2.1)), (12, errV es ((joinO b d).2.2)), (46, .bool true)] w_46 [] (by kernel_rfl) trivial ?_
    refine XL_nil ?_
    refine X_cond true rfl ?_
    refine X_seq ?_
    refine X_region ?_
    refine XL_run 2 [] [(9, .iface 184 (.pointer (some (errAt es ((joinO a b).2.2))))), (11, .bool ((joinO b d).2.1)), (12, errV es ((joinO b d).2.2)), (48, .bool ((joinO a b).2.1))] w_46 [] (by kernel_rfl) trivial ?_
    by_cases c_168 : (joinO a b).2.1 = true
    · exact absurd c_168 (by rw [join_err c_52]; decide)
    · rw [show ((joinO a b).2.1 : Bool) = false from by simpa using c_168]
      refine XL_run 2 [] [(9, .iface 184 (.pointer (some (errAt es ((joinO a b).2.2))))), (12, errV es ((joinO b d).2.2)), (50, .bool ((joinO b d).2.1))] w_46 [] (by kernel_rfl) trivial ?_
      by_cases c_169 : (joinO b d).2.1 = true
      · rw [show ((joinO b d).2.1 : Bool) = true from by simpa using c_169]
        refine XL_run 7 [] [(56, .bool false), (57, errV es ((joinO b d).2.2))] w_46 [] (by kernel_rfl) trivial ?_
        by_cases c_170 : (joinO b d).2.2 = 0
        · rw [show errV es ((joinO b d).2.2) = .nilIface from by rw [c_170]; rfl]
          refine XL_run 3 [] [(6, .bool true)] w_46 [] (by kernel_rfl) trivial ?_
          refine XL_nil ?_
          refine X_ret ?_
          refine RX.ret_ok (P := Tryd.prog) (fn := Tryd.f13) (N := 143) (R := R_) [.bool true] (by kernel_rfl) (hR_ _ _ ?_)
          have hB_171 : Below w.heap.size w w_46 := (bg (bt (bt hB_40 hb_38) hb_42) hg_47 ((bt hB_40 hb_38)).size)
          exact ⟨rfl, hB_171⟩
        · exact absurd c_169 (by rw [join_err c_170]; decide)
      · rw [show ((joinO b d).2.1 : Bool) = false from by simpa using c_169]
        refine XL_run 10 [] [(6, .bool true)] w_46 [] (by kernel_rfl) trivial ?_
        refine XL_nil ?_
        refine X_ret ?_
        refine RX.ret_ok (P := Tryd.prog) (fn := Tryd.f13) (N := 143) (R := R_) [.bool true] (by kernel_rfl) (hR_ _ _ ?_)
        have hB_172 : Below w.heap.size w w_46 := (bg (bt (bt hB_40 hb_38) hb_42) hg_47 ((bt hB_40 hb_38)).size)
        exact ⟨rfl, hB_172⟩
end Go.Proofs.YtekfdfafhfhfbaaDoor
