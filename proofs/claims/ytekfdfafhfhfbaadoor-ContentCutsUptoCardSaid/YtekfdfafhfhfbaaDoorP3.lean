/- What vellumref04.Cut answer. Conditions: sizes, the tables of utf8. -/
import Derived.Test.YtekfdfafhfhfbaaDoorP2
set_option linter.unusedVariables false
set_option linter.unusedSimpArgs false
set_option maxRecDepth 100000
namespace Go.Proofs.YtekfdfafhfhfbaaDoor
open Go Go.RowKit Go.Proofs.YtekfdfafhfhfbaaDoorW.PrintWords RX
theorem ent46 : Ent Tryd.prog 46 := ent_of Tryd.func46 (by kernel_rfl) rfl
theorem ent54 : Ent Tryd.prog 54 := ent_of Tryd.func54 (by kernel_rfl) rfl
theorem ent107 : Ent Tryd.prog 107 := ent_of Tryd.func107 (by kernel_rfl) rfl
theorem scz_vz (s : ByteArray) (r : Int) (h : r ∈ U.scz s) : U.vz r := by
  obtain ⟨n, hn, rfl⟩ := List.mem_map.1 h
  exact ⟨by omega, U.sc_ok s n hn⟩
set_option maxHeartbeats 4000000 in
theorem r4cut_any (o : OpA) (A : Option Addr) (c : Nat) (n : Int) (w : World) (hA : kAttr.C w A o.attrs.length o.attrs) (hz : opSz o) (hn0 : -9223372036854775808 ≤ n) (hn1 : n ≤ 9223372036854775807) (hT : Tabs w) : Calls Tryd.prog 59 #[.agg #[.int .i64 o.kind, .string o.text, .int .i64 o.vk, .int .i64 o.vn, .string o.vt, .int .i64 o.count, .slice A o.attrs.length c], .int .i64 n] w fun e w' =>
    ∃ A1 c1 A2 c2, e = .returned (.tuple #[.agg (opV (cutO o n).1 A1 c1).toArray, .agg (opV (cutO o n).2.1 A2 c2).toArray, .int .i64 ((cutO o n).2.2 : Int)]) ∧ kAttr.R 79 w' w.heap.size (OkFrom w.heap.size) (.slice A1 (cutO o n).1.attrs.length c1) (cutO o n).1.attrs ∧ kAttr.R 79 w' w.heap.size (OkFrom w.heap.size) (.slice A2 (cutO o n).2.1.attrs.length c2) (cutO o n).2.1.attrs ∧ Below w.heap.size w w' := by
  have hz1 := hz.1
  have hz3 := hz.2.2.1
  have hscl := U.sc_le o.text
  have hszl := scz_len o.text
  refine RX.enter Tryd.func59 rfl 49 rfl [(0, .agg #[.int .i64 o.kind, .string o.text, .int .i64 o.vk, .int .i64 o.vn, .string o.vt, .int .i64 o.count, .slice A o.attrs.length c]), (1, .int .i64 n)] rfl (by kernel_rfl) (fun R_ hR_ => ?_)
  refine X_seq ?_
  refine X_region ?_
  refine XL_run 1 [] [(1, .int .i64 n), (2, .pointer (some ⟨w.heap.size, 0, none⟩))] (w.alloc (.cells #[.int .i64 o.kind, .string o.text, .int .i64 o.vk, .int .i64 o.vn, .string o.vt, .int .i64 o.count, .slice A o.attrs.length c] 33)) [] (by kernel_rfl) trivial ?_
  obtain ⟨w_1, hw_5, hb_2, hk_3, hz_4⟩ := new_world w #[.int .i64 o.kind, .string o.text, .int .i64 o.vk, .int .i64 o.vn, .string o.vt, .int .i64 o.count, .slice A o.attrs.length c] 33
  rw [hw_5]
  refine XL_run 1 [] [(1, .int .i64 n), (2, .pointer (some ⟨w.heap.size, 0, none⟩)), (4, .pointer (some ⟨w_1.heap.size, 0, none⟩))] (w_1.alloc (.cells #[.int .i64 0, .string ByteArray.empty, .int .i64 0, .int .i64 0, .string ByteArray.empty, .int .i64 0, .slice none 0 0] 33)) [] (by kernel_rfl) trivial ?_
  obtain ⟨w_6, hw_10, hb_7, hk_8, hz_9⟩ := new_world w_1 #[.int .i64 0, .string ByteArray.empty, .int .i64 0, .int .i64 0, .string ByteArray.empty, .int .i64 0, .slice none 0 0] 33
  rw [hw_10]
  refine XL_run 1 [] [(1, .int .i64 n), (2, .pointer (some ⟨w.heap.size, 0, none⟩)), (4, .pointer (some ⟨w_1.heap.size, 0, none⟩)), (5, .pointer (some ⟨w_6.heap.size, 0, none⟩))] (w_6.alloc (.cells #[.int .i64 0, .string ByteArray.empty, .int .i64 0, .int .i64 0, .string ByteArray.empty, .int .i64 0, .slice none 0 0] 33)) [] (by kernel_rfl) trivial ?_
  obtain ⟨w_11, hw_15, hb_12, hk_13, hz_14⟩ := new_world w_6 #[.int .i64 0, .string ByteArray.empty, .int .i64 0, .int .i64 0, .string ByteArray.empty, .int .i64 0, .slice none 0 0] 33
  rw [hw_15]
  refine XL_run 1 [] [(1, .int .i64 n), (2, .pointer (some ⟨w.heap.size, 0, none⟩)), (4, .pointer (some ⟨w_1.heap.size, 0, none⟩)), (5, .pointer (some ⟨w_6.heap.size, 0, none⟩))] w_11 [] (by kernel_rfl) trivial ?_
  refine XL_nil ?_
  refine X_seq ?_
  refine X_region ?_
  refine XL_run 1 [(11, .load (.agg #[.int .i64 o.kind, .string o.text, .int .i64 o.vk, .int .i64 o.vn, .string o.vt, .int .i64 o.count, .slice A o.attrs.length c]))] [(1, .int .i64 n), (2, .pointer (some ⟨w.heap.size, 0, none⟩)), (4, .pointer (some ⟨w_1.heap.size, 0, none⟩)), (5, .pointer (some ⟨w_6.heap.size, 0, none⟩)), (11, .agg #[.int .i64 o.kind, .string o.text, .int .i64 o.vk, .int .i64 o.vn, .string o.vt, .int .i64 o.count, .slice A o.attrs.length c])] w_11 [LoadsAs Tryd.prog 33 (⟨w.heap.size, 0, none⟩) (.agg #[.int .i64 o.kind, .string o.text, .int .i64 o.vk, .int .i64 o.vn, .string o.vt, .int .i64 o.count, .slice A o.attrs.length c]) w_11] (by kernel_rfl) ⟨loadsB rfl rfl (Blk.below hk_3 (bt hb_7 hb_12)) 0 ⟨by kernel_rfl, by kernel_rfl⟩, trivial⟩ ?_
  refine XL_call 46 rfl rfl rfl ent46 [.agg #[.int .i64 o.kind, .string o.text, .int .i64 o.vk, .int .i64 o.vn, .string o.vt, .int .i64 o.count, .slice A o.attrs.length c]] (by kernel_rfl) (r4refuse_any o _ _ _ (Kd.C_below hA (bt (bt hb_2 hb_7) hb_12)) hz (hT.below (bt (bt hb_2 hb_7) hb_12))) ?_
  rintro e w_16 ⟨rfl, hb_17⟩; refine ⟨_, rfl, ?_⟩
  refine XL_run 1 [] [(1, .int .i64 n), (2, .pointer (some ⟨w.heap.size, 0, none⟩)), (4, .pointer (some ⟨w_1.heap.size, 0, none⟩)), (5, .pointer (some ⟨w_6.heap.size, 0, none⟩)), (7, .int .i64 (refuseP o : Int))] w_16 [] (by kernel_rfl) trivial ?_
  refine XL_nil ?_
  refine X_seq ?_
  refine X_seq ?_
  refine X_region ?_
  refine XL_run 1 [] [(1, .int .i64 n), (2, .pointer (some ⟨w.heap.size, 0, none⟩)), (4, .pointer (some ⟨w_1.heap.size, 0, none⟩)), (5, .pointer (some ⟨w_6.heap.size, 0, none⟩)), (7, .int .i64 (refuseP o : Int)), (13, .int .i64 (refuseP o : Int))] w_16 [] (by kernel_rfl) trivial ?_
  by_cases c_18 : (refuseP o : Int) = 0
  · refine XL_run 1 [(14, .eq (.bool false))] [(1, .int .i64 n), (2, .pointer (some ⟨w.heap.size, 0, none⟩)), (4, .pointer (some ⟨w_1.heap.size, 0, none⟩)), (5, .pointer (some ⟨w_6.heap.size, 0, none⟩)), (7, .int .i64 (refuseP o : Int)), (14, .bool false)] w_16 [Value.bool ((refuseP o : Int) != 0) = Value.bool false] (by kernel_rfl) ⟨congrArg Value.bool (bneF (c_18)), trivial⟩ ?_
    refine XL_nil ?_
    refine X_cond false rfl ?_
    refine X_skip ?_
    refine X_seq ?_
    refine X_seq ?_
    refine X_region ?_
    refine XL_run 1 [] [(1, .int .i64 n), (2, .pointer (some ⟨w.heap.size, 0, none⟩)), (4, .pointer (some ⟨w_1.heap.size, 0, none⟩)), (5, .pointer (some ⟨w_6.heap.size, 0, none⟩)), (18, .int .i64 n)] w_16 [] (by kernel_rfl) trivial ?_
    by_cases c_19 : n < 1
    · refine XL_run 7 [(19, .eq (.bool true))] [(1, .int .i64 n), (2, .pointer (some ⟨w.heap.size, 0, none⟩)), (4, .pointer (some ⟨w_1.heap.size, 0, none⟩)), (5, .pointer (some ⟨w_6.heap.size, 0, none⟩)), (25, .bool true)] w_16 [Value.bool (decide (n < 1)) = Value.bool true] (by kernel_rfl) ⟨congrArg Value.bool (decide_eq_true (c_19)), trivial⟩ ?_
      refine XL_nil ?_
      refine X_cond true rfl ?_
      refine X_seq ?_
      refine X_region ?_
      refine XL_run 2 [] [(4, .pointer (some ⟨w_1.heap.size, 0, none⟩)), (5, .pointer (some ⟨w_6.heap.size, 0, none⟩)), (26, .agg #[.int .i64 0, .string ByteArray.empty, .int .i64 0, .int .i64 0, .string ByteArray.empty, .int .i64 0, .slice none 0 0]), (27, .agg #[.int .i64 0, .string ByteArray.empty, .int .i64 0, .int .i64 0, .string ByteArray.empty, .int .i64 0, .slice none 0 0])] w_16 [] (by kernel_rfl) trivial ?_
      refine XL_store (v := .agg #[.int .i64 0, .string ByteArray.empty, .int .i64 0, .int .i64 0, .string ByteArray.empty, .int .i64 0, .slice none 0 0]) rfl rfl rfl (by kernel_rfl) (Blk.below hk_8 (bt hb_12 hb_17)) 0 [.int .i64 0, .string ByteArray.empty, .int .i64 0, .int .i64 0, .string ByteArray.empty, .int .i64 0, .slice none 0 0] #[.int .i64 0, .string ByteArray.empty, .int .i64 0, .int .i64 0, .string ByteArray.empty, .int .i64 0, .slice none 0 0] ⟨by kernel_rfl, rfl, by kernel_rfl⟩ ⟨by kernel_rfl, by kernel_rfl⟩ (Nat.le_of_ble_eq_true (by kernel_rfl)) (fun w_20 hg_21 hk_22 hz_23 => ?_)
      have hne_24 : w_6.heap.size ≠ w_1.heap.size := Nat.ne_of_gt (Nat.lt_of_lt_of_le (Blk.lt hk_8) (Nat.le_refl _))
      have hk_25 := Blk.other (Blk.below hk_13 hb_17) hg_21 hne_24
      refine XL_store (v := .agg #[.int .i64 0, .string ByteArray.empty, .int .i64 0, .int .i64 0, .string ByteArray.empty, .int .i64 0, .slice none 0 0]) rfl rfl rfl (by kernel_rfl) hk_25 0 [.int .i64 0, .string ByteArray.empty, .int .i64 0, .int .i64 0, .string ByteArray.empty, .int .i64 0, .slice none 0 0] #[.int .i64 0, .string ByteArray.empty, .int .i64 0, .int .i64 0, .string ByteArray.empty, .int .i64 0, .slice none 0 0] ⟨by kernel_rfl, rfl, by kernel_rfl⟩ ⟨by kernel_rfl, by kernel_rfl⟩ (Nat.le_of_ble_eq_true (by kernel_rfl)) (fun w_26 hg_27 hk_28 hz_29 => ?_)
      have hne_30 : w_1.heap.size ≠ w_6.heap.size := Nat.ne_of_lt (Nat.lt_of_lt_of_le (Blk.lt hk_8) (Nat.le_refl _))
      have hk_31 := Blk.other hk_22 hg_27 hne_30
      refine XL_run 1 [] [(4, .pointer (some ⟨w_1.heap.size, 0, none⟩)), (5, .pointer (some ⟨w_6.heap.size, 0, none⟩)), (6, .int .i64 12)] w_26 [] (by kernel_rfl) trivial ?_
      refine XL_nil ?_
      refine X_ret ?_
      refine RX.ret_cellCCT (P := Tryd.prog) (fn := Tryd.f59) (N := 49) (R := R_) (c := 4) (d := 5) (t := 33) (t' := 33) (p := ⟨w_1.heap.size, 0, none⟩) (p' := ⟨w_6.heap.size, 0, none⟩) (v := .agg #[.int .i64 0, .string ByteArray.empty, .int .i64 0, .int .i64 0, .string ByteArray.empty, .int .i64 0, .slice none 0 0]) (v' := .agg #[.int .i64 0, .string ByteArray.empty, .int .i64 0, .int .i64 0, .string ByteArray.empty, .int .i64 0, .slice none 0 0]) (u := .int .i64 12) rfl rfl (loadsB rfl rfl hk_31 0 ⟨by kernel_rfl, by kernel_rfl⟩) rfl (loadsB rfl rfl hk_28 0 ⟨by kernel_rfl, by kernel_rfl⟩) rfl (hR_ _ _ ?_)
      have hB_32 : Below w.heap.size w w_26 := (bg (bg (bt (bt (bt hb_2 hb_7) hb_12) hb_17) hg_21 (hb_2).size) hg_27 ((bt hb_2 hb_7)).size)
      rw [show cutO o n = (op0, op0, 12) from by unfold cutO; rw [if_neg (by omega), if_pos (by first | omega | (rcases refuse_kind (show refuseP o = 0 by omega) with h_ | h_; (· have h2_ := len4_1 h_; omega); (· omega)))]]
      exact ⟨none, 0, none, 0, rfl, Kd.R_nil _ _ _ _ _, Kd.R_nil _ _ _ _ _, hB_32⟩
    · refine XL_run 4 [(19, .eq (.bool false)), (22, .load (.agg #[.int .i64 o.kind, .string o.text, .int .i64 o.vk, .int .i64 o.vn, .string o.vt, .int .i64 o.count, .slice A o.attrs.length c]))] [(1, .int .i64 n), (2, .pointer (some ⟨w.heap.size, 0, none⟩)), (4, .pointer (some ⟨w_1.heap.size, 0, none⟩)), (5, .pointer (some ⟨w_6.heap.size, 0, none⟩)), (20, .bool false), (21, .int .i64 n), (22, .agg #[.int .i64 o.kind, .string o.text, .int .i64 o.vk, .int .i64 o.vn, .string o.vt, .int .i64 o.count, .slice A o.attrs.length c])] w_16 [Value.bool (decide (n < 1)) = Value.bool false, LoadsAs Tryd.prog 33 (⟨w.heap.size, 0, none⟩) (.agg #[.int .i64 o.kind, .string o.text, .int .i64 o.vk, .int .i64 o.vn, .string o.vt, .int .i64 o.count, .slice A o.attrs.length c]) w_16] (by kernel_rfl) ⟨congrArg Value.bool (decide_eq_false (c_19)), loadsB rfl rfl (Blk.below hk_3 (bt (bt hb_7 hb_12) hb_17)) 0 ⟨by kernel_rfl, by kernel_rfl⟩, trivial⟩ ?_
      refine XL_call 54 rfl rfl rfl ent54 [.agg #[.int .i64 o.kind, .string o.text, .int .i64 o.vk, .int .i64 o.vn, .string o.vt, .int .i64 o.count, .slice A o.attrs.length c]] (by kernel_rfl) (r4len_any o _ _ _ (Kd.C_below hA (bt (bt (bt hb_2 hb_7) hb_12) hb_17)) hz) ?_
      rintro e w_33 ⟨rfl, hb_34⟩; refine ⟨_, rfl, ?_⟩
      by_cases c_35 : n ≥ (len4 o)
      · refine XL_run 2 [(24, .eq (.bool true))] [(1, .int .i64 n), (2, .pointer (some ⟨w.heap.size, 0, none⟩)), (4, .pointer (some ⟨w_1.heap.size, 0, none⟩)), (5, .pointer (some ⟨w_6.heap.size, 0, none⟩)), (25, .bool true)] w_33 [Value.bool (decide (n ≥ (len4 o))) = Value.bool true] (by kernel_rfl) ⟨congrArg Value.bool (decide_eq_true (c_35)), trivial⟩ ?_
        refine XL_nil ?_
        refine X_cond true rfl ?_
        refine X_seq ?_
        refine X_region ?_
        refine XL_run 2 [] [(4, .pointer (some ⟨w_1.heap.size, 0, none⟩)), (5, .pointer (some ⟨w_6.heap.size, 0, none⟩)), (26, .agg #[.int .i64 0, .string ByteArray.empty, .int .i64 0, .int .i64 0, .string ByteArray.empty, .int .i64 0, .slice none 0 0]), (27, .agg #[.int .i64 0, .string ByteArray.empty, .int .i64 0, .int .i64 0, .string ByteArray.empty, .int .i64 0, .slice none 0 0])] w_33 [] (by kernel_rfl) trivial ?_
        refine XL_store (v := .agg #[.int .i64 0, .string ByteArray.empty, .int .i64 0, .int .i64 0, .string ByteArray.empty, .int .i64 0, .slice none 0 0]) rfl rfl rfl (by kernel_rfl) (Blk.below hk_8 (bt (bt hb_12 hb_17) hb_34)) 0 [.int .i64 0, .string ByteArray.empty, .int .i64 0, .int .i64 0, .string ByteArray.empty, .int .i64 0, .slice none 0 0] #[.int .i64 0, .string ByteArray.empty, .int .i64 0, .int .i64 0, .string ByteArray.empty, .int .i64 0, .slice none 0 0] ⟨by kernel_rfl, rfl, by kernel_rfl⟩ ⟨by kernel_rfl, by kernel_rfl⟩ (Nat.le_of_ble_eq_true (by kernel_rfl)) (fun w_36 hg_37 hk_38 hz_39 => ?_)
        have hne_40 : w_6.heap.size ≠ w_1.heap.size := Nat.ne_of_gt (Nat.lt_of_lt_of_le (Blk.lt hk_8) (Nat.le_refl _))
        have hk_41 := Blk.other (Blk.below hk_13 (bt hb_17 hb_34)) hg_37 hne_40
        refine XL_store (v := .agg #[.int .i64 0, .string ByteArray.empty, .int .i64 0, .int .i64 0, .string ByteArray.empty, .int .i64 0, .slice none 0 0]) rfl rfl rfl (by kernel_rfl) hk_41 0 [.int .i64 0, .string ByteArray.empty, .int .i64 0, .int .i64 0, .string ByteArray.empty, .int .i64 0, .slice none 0 0] #[.int .i64 0, .string ByteArray.empty, .int .i64 0, .int .i64 0, .string ByteArray.empty, .int .i64 0, .slice none 0 0] ⟨by kernel_rfl, rfl, by kernel_rfl⟩ ⟨by kernel_rfl, by kernel_rfl⟩ (Nat.le_of_ble_eq_true (by kernel_rfl)) (fun w_42 hg_43 hk_44 hz_45 => ?_)
        have hne_46 : w_1.heap.size ≠ w_6.heap.size := Nat.ne_of_lt (Nat.lt_of_lt_of_le (Blk.lt hk_8) (Nat.le_refl _))
        have hk_47 := Blk.other hk_38 hg_43 hne_46
        refine XL_run 1 [] [(4, .pointer (some ⟨w_1.heap.size, 0, none⟩)), (5, .pointer (some ⟨w_6.heap.size, 0, none⟩)), (6, .int .i64 12)] w_42 [] (by kernel_rfl) trivial ?_
        refine XL_nil ?_
        refine X_ret ?_
        refine RX.ret_cellCCT (P := Tryd.prog) (fn := Tryd.f59) (N := 49) (R := R_) (c := 4) (d := 5) (t := 33) (t' := 33) (p := ⟨w_1.heap.size, 0, none⟩) (p' := ⟨w_6.heap.size, 0, none⟩) (v := .agg #[.int .i64 0, .string ByteArray.empty, .int .i64 0, .int .i64 0, .string ByteArray.empty, .int .i64 0, .slice none 0 0]) (v' := .agg #[.int .i64 0, .string ByteArray.empty, .int .i64 0, .int .i64 0, .string ByteArray.empty, .int .i64 0, .slice none 0 0]) (u := .int .i64 12) rfl rfl (loadsB rfl rfl hk_47 0 ⟨by kernel_rfl, by kernel_rfl⟩) rfl (loadsB rfl rfl hk_44 0 ⟨by kernel_rfl, by kernel_rfl⟩) rfl (hR_ _ _ ?_)
        have hB_48 : Below w.heap.size w w_42 := (bg (bg (bt (bt (bt (bt hb_2 hb_7) hb_12) hb_17) hb_34) hg_37 (hb_2).size) hg_43 ((bt hb_2 hb_7)).size)
        rw [show cutO o n = (op0, op0, 12) from by unfold cutO; rw [if_neg (by omega), if_pos (by first | omega | (rcases refuse_kind (show refuseP o = 0 by omega) with h_ | h_; (· have h2_ := len4_1 h_; omega); (· omega)))]]
        exact ⟨none, 0, none, 0, rfl, Kd.R_nil _ _ _ _ _, Kd.R_nil _ _ _ _ _, hB_48⟩
      · refine XL_run 2 [(24, .eq (.bool false))] [(1, .int .i64 n), (2, .pointer (some ⟨w.heap.size, 0, none⟩)), (4, .pointer (some ⟨w_1.heap.size, 0, none⟩)), (5, .pointer (some ⟨w_6.heap.size, 0, none⟩)), (25, .bool false)] w_33 [Value.bool (decide (n ≥ (len4 o))) = Value.bool false] (by kernel_rfl) ⟨congrArg Value.bool (decide_eq_false (c_35)), trivial⟩ ?_
        refine XL_nil ?_
        refine X_cond false rfl ?_
        refine X_skip ?_
        refine X_seq ?_
        refine X_region ?_
        have hr0 : refuseP o = 0 := by omega
        have hk1 : o.kind = 1 := by rcases refuse_kind hr0 with h_ | h_; (· exact h_); (· have h2_ := len4_2 h_; omega)
        have hl1 := len4_1 hk1
        refine XL_run 2 [(29, .load (.string o.text))] [(1, .int .i64 n), (2, .pointer (some ⟨w.heap.size, 0, none⟩)), (4, .pointer (some ⟨w_1.heap.size, 0, none⟩)), (5, .pointer (some ⟨w_6.heap.size, 0, none⟩)), (29, .string o.text)] w_33 [LoadsAs Tryd.prog 9 (⟨w.heap.size, 1, none⟩) (.string o.text) w_33] (by kernel_rfl) ⟨loads1 rfl (Blk.cell (Blk.below hk_3 (bt (bt (bt hb_7 hb_12) hb_17) hb_34)) 1 _ rfl), trivial⟩ ?_
        refine XL_call 104 rfl rfl rfl ent104 [.string o.text] (by kernel_rfl) (rlist_any o.text _ (by omega)) ?_
        rintro e w_53 ⟨a_49, c_50, rfl, hl_51, hr_52, hb_54⟩; refine ⟨_, rfl, ?_⟩
        refine XL_run 1 [] [(1, .int .i64 n), (2, .pointer (some ⟨w.heap.size, 0, none⟩)), (4, .pointer (some ⟨w_1.heap.size, 0, none⟩)), (5, .pointer (some ⟨w_6.heap.size, 0, none⟩)), (8, .slice a_49 ((U.scz o.text).length) c_50)] w_53 [] (by kernel_rfl) trivial ?_
        refine XL_nil ?_
        refine X_seq ?_
        refine X_gen (S := fun w_ => RX.Blk w_ w.heap.size 33 #[.int .i64 o.kind, .string o.text, .int .i64 o.vk, .int .i64 o.vn, .string o.vt, .int .i64 o.count, .slice A o.attrs.length c]) [] 10 #[false, false, false, false, false, false, false, false, false, false] (by kernel_rfl) (by kernel_rfl) (by kernel_rfl) (fun wd_55 hb_56 hh_57 => ?_)
        have hC_58 := RX.Kd.C_take (m := n.toNat) (Kd.R_C hr_52) (by first | omega | (simp; done) | (simp; omega))
        have hB_59 : Below w_1.heap.size w_1 wd_55 := (bt (bt (bt (bt (bt hb_7 hb_12) hb_17) hb_34) hb_54) hb_56)
        refine XG_run (fuel' := 5) (Blk.below hk_3 hB_59) [0, 1, 2, 4, 5] [(33, .as (.slice a_49 n.toNat c_50)), (36, .load (.slice A o.attrs.length c))] [.slice a_49 ((U.scz o.text).length) c_50, .int .i64 n, .slice a_49 n.toNat c_50, .pointer (some ⟨w.heap.size, 6, none⟩), .slice A o.attrs.length c] #[true, true, true, false, true, true, false, false, false, false] [(1, .int .i64 n), (2, .pointer (some ⟨w.heap.size, 0, none⟩)), (4, .pointer (some ⟨w_1.heap.size, 0, none⟩)), (5, .pointer (some ⟨w_6.heap.size, 0, none⟩)), (8, .slice a_49 ((U.scz o.text).length) c_50), (33, .slice a_49 n.toNat c_50), (36, .slice A o.attrs.length c)] (fun w_ => [RunsAs Tryd.prog [(31, .slice a_49 ((U.scz o.text).length) c_50), (32, .int .i64 n)] (Go.Op.slice 150 (Go.Operand.tmp 31) none (some (Go.Operand.tmp 32)) none) 150 (.slice a_49 n.toNat c_50) w_, LoadsAs Tryd.prog 31 (⟨w.heap.size, 6, none⟩) (.slice A o.attrs.length c) w_]) (fun _ _ _ _ h => h) (fun w_ => by kernel_rfl) rfl (fun w_ hC_ => ⟨runs_slice_h (h := n) rfl rfl rfl rfl (by omega) (by have h := hl_51; (try simp only [List.length_append, List.length_cons, List.length_nil] at h); omega), loads1 rfl (Blk.cell hC_ 6 _ rfl), trivial⟩) ?_
        refine XG_two (fuel' := 4) 3 8 #[true, true, true, true, true, true, false, false, false, false] #[true, true, true, false, true, true, false, false, true, false] _ _ rfl rfl (by kernel_rfl) (by kernel_rfl) (by kernel_rfl) rfl ?_ ?_
        · refine XL_call 107 rfl rfl rfl ent107 [.slice a_49 n.toNat c_50] (by kernel_rfl) (by have h_ := refText_any a_49 c_50 (List.take n.toNat (U.scz o.text)) wd_55 (by rw [show (List.take n.toNat (U.scz o.text)).length = n.toNat from by first | (rw [List.length_take]; omega) | (rw [List.length_drop]; omega) | (rw [List.length_drop]; done)]; exact (Kd.C_below hC_58 hb_56)) (by first | (rw [List.length_take]; omega) | (rw [List.length_drop]; omega) | (rw [List.length_drop]; done)) (fun r hr => scz_vz o.text r (List.mem_of_mem_take hr)); rw [show (List.take n.toNat (U.scz o.text)).length = n.toNat from by first | (rw [List.length_take]; omega) | (rw [List.length_drop]; omega) | (rw [List.length_drop]; done)] at h_; exact h_) ?_
          rintro e w_60 ⟨rfl, hb_61⟩; refine ⟨_, rfl, ?_⟩
          refine XL_nil ?_
          refine ⟨(Blk.below hk_3 (bt hB_59 hb_61)), ?_⟩
          refine XG_two (fuel' := 3) 6 8 #[true, true, true, true, true, true, true, false, false, false] #[true, true, true, true, true, true, false, false, true, false] _ _ rfl rfl (by kernel_rfl) (by kernel_rfl) (by kernel_rfl) rfl ?_ ?_
          · have hB_62 : Below w.heap.size w w_60 := (bt (bt (bt (bt (bt (bt (bt hb_2 hb_7) hb_12) hb_17) hb_34) hb_54) hb_56) hb_61)
            refine XL_call 103 rfl rfl rfl ent103 [.slice A o.attrs.length c] (by kernel_rfl) (r4copied_any _ _ o.attrs _ (Kd.C_below hA hB_62) (by omega)) ?_
            rintro e w_65 ⟨A_63, c_64, rfl, hl_67, hr_68, hb_66⟩; refine ⟨_, rfl, ?_⟩
            refine XL_nil ?_
            refine ⟨(Blk.below hk_3 (bt (bt hB_59 hb_61) hb_66)), ?_⟩
            refine XG_run (fuel' := 2) (Blk.below hk_3 (bt (bt hB_59 hb_61) hb_66)) [7] [] [.agg #[.int .i64 1, .string (runesBytes (List.take n.toNat (U.scz o.text))), .int .i64 0, .int .i64 0, .string ByteArray.empty, .int .i64 0, .slice A_63 o.attrs.length c_64]] #[true, true, true, true, true, true, true, true, false, false] [(1, .int .i64 n), (2, .pointer (some ⟨w.heap.size, 0, none⟩)), (4, .pointer (some ⟨w_1.heap.size, 0, none⟩)), (5, .pointer (some ⟨w_6.heap.size, 0, none⟩)), (8, .slice a_49 ((U.scz o.text).length) c_50), (38, .agg #[.int .i64 1, .string (runesBytes (List.take n.toNat (U.scz o.text))), .int .i64 0, .int .i64 0, .string ByteArray.empty, .int .i64 0, .slice A_63 o.attrs.length c_64])] (fun w_ => []) (fun _ _ _ _ h => h) (fun w_ => by kernel_rfl) rfl (fun w_ hC_ => trivial) ?_
            refine XG_mid (fuel' := 1) 8 #[true, true, true, true, true, true, true, true, true, false] _ rfl (by kernel_rfl) (by kernel_rfl) rfl ?_
            refine XL_run 1 [] [(1, .int .i64 n), (2, .pointer (some ⟨w.heap.size, 0, none⟩)), (4, .pointer (some ⟨w_1.heap.size, 0, none⟩)), (5, .pointer (some ⟨w_6.heap.size, 0, none⟩)), (8, .slice a_49 ((U.scz o.text).length) c_50), (9, .pointer (some ⟨w_65.heap.size, 0, none⟩)), (38, .agg #[.int .i64 1, .string (runesBytes (List.take n.toNat (U.scz o.text))), .int .i64 0, .int .i64 0, .string ByteArray.empty, .int .i64 0, .slice A_63 o.attrs.length c_64])] (w_65.alloc (.cells #[.int .i64 0, .string ByteArray.empty, .int .i64 0, .int .i64 0, .string ByteArray.empty, .int .i64 0, .slice none 0 0] 33)) [] (by kernel_rfl) trivial ?_
            obtain ⟨w_69, hw_73, hb_70, hk_71, hz_72⟩ := new_world w_65 #[.int .i64 0, .string ByteArray.empty, .int .i64 0, .int .i64 0, .string ByteArray.empty, .int .i64 0, .slice none 0 0] 33
            rw [hw_73]
            refine XL_nil ?_
            refine ⟨(Blk.below hk_3 (bt (bt (bt hB_59 hb_61) hb_66) hb_70)), ?_⟩
            refine XG_mid (fuel' := 0) 9 #[true, true, true, true, true, true, true, true, true, true] _ rfl (by kernel_rfl) (by kernel_rfl) rfl ?_
            refine XL_store (v := .agg #[.int .i64 1, .string (runesBytes (List.take n.toNat (U.scz o.text))), .int .i64 0, .int .i64 0, .string ByteArray.empty, .int .i64 0, .slice A_63 o.attrs.length c_64]) rfl rfl rfl (by kernel_rfl) hk_71 0 [.int .i64 1, .string (runesBytes (List.take n.toNat (U.scz o.text))), .int .i64 0, .int .i64 0, .string ByteArray.empty, .int .i64 0, .slice A_63 o.attrs.length c_64] #[.int .i64 1, .string (runesBytes (List.take n.toNat (U.scz o.text))), .int .i64 0, .int .i64 0, .string ByteArray.empty, .int .i64 0, .slice A_63 o.attrs.length c_64] ⟨by kernel_rfl, rfl, by kernel_rfl⟩ ⟨by kernel_rfl, by kernel_rfl⟩ (Nat.le_of_ble_eq_true (by kernel_rfl)) (fun w_74 hg_75 hk_76 hz_77 => ?_)
            have hB_78 : Below w_6.heap.size w_6 w_65 := (bt (bt (bt (bt (bt (bt hb_12 hb_17) hb_34) hb_54) hb_56) hb_61) hb_66)
            have hB_79 : Below w_11.heap.size w_11 w_65 := (bt (bt (bt (bt (bt hb_17 hb_34) hb_54) hb_56) hb_61) hb_66)
            refine XL_nil ?_
            have hB_80 : Below w_1.heap.size w_1 w_74 := (bg (bt (bt (bt hB_59 hb_61) hb_66) hb_70) hg_75 ((bt (bt hB_59 hb_61) hb_66)).size)
            refine ⟨(Blk.below hk_3 hB_80), ?_⟩
            refine XG_done (by kernel_rfl) ?_
            refine X_seq ?_
            refine X_gen (S := fun w_ => RX.Blk w_ w.heap.size 33 #[.int .i64 o.kind, .string o.text, .int .i64 o.vk, .int .i64 o.vn, .string o.vt, .int .i64 o.count, .slice A o.attrs.length c]) [] 10 #[false, false, false, false, false, false, false, false, false, false] (by kernel_rfl) (by kernel_rfl) (by kernel_rfl) (fun wd_81 hb_82 hh_83 => ?_)
            obtain ⟨A_84, hA_85⟩ : ∃ A_, (if c_50 = n.toNat then a_49 else a_49.map (·.add (n.toNat * 1))) = A_ := ⟨_, rfl⟩
            have hC_86 : (Kd.int .i32).C w_53 A_84 (((U.scz o.text).length) - n.toNat) ((U.scz o.text).drop n.toNat) := by have h := RX.Kd.C_drop (Kd.R_C hr_52) (k := n.toNat) (cap := c_50) (by omega) (by omega); first | (rw [← hA_85]; exact h)
            refine XG_run (fuel' := 5) (Blk.below hk_3 (bt hB_80 hb_82)) [0, 1, 2, 4, 5] [(41, .as (.slice A_84 ((U.scz o.text).length - n.toNat) (c_50 - n.toNat))), (44, .load (.slice A o.attrs.length c))] [.slice a_49 ((U.scz o.text).length) c_50, .int .i64 n, .slice A_84 ((U.scz o.text).length - n.toNat) (c_50 - n.toNat), .pointer (some ⟨w.heap.size, 6, none⟩), .slice A o.attrs.length c] #[true, true, true, false, true, true, false, false, false, false] [(4, .pointer (some ⟨w_1.heap.size, 0, none⟩)), (5, .pointer (some ⟨w_6.heap.size, 0, none⟩)), (9, .pointer (some ⟨w_65.heap.size, 0, none⟩)), (41, .slice A_84 ((U.scz o.text).length - n.toNat) (c_50 - n.toNat)), (44, .slice A o.attrs.length c)] (fun w_ => [RunsAs Tryd.prog [(39, .slice a_49 ((U.scz o.text).length) c_50), (40, .int .i64 n)] (Go.Op.slice 150 (Go.Operand.tmp 39) (some (Go.Operand.tmp 40)) none none) 150 (.slice A_84 ((U.scz o.text).length - n.toNat) (c_50 - n.toNat)) w_, LoadsAs Tryd.prog 31 (⟨w.heap.size, 6, none⟩) (.slice A o.attrs.length c) w_]) (fun _ _ _ _ h => h) (fun w_ => by kernel_rfl) rfl (fun w_ hC_ => ⟨(hA_85 ▸ runs_slice_l (h := n) rfl rfl rfl rfl (by omega) (by omega) (by omega)), loads1 rfl (Blk.cell hC_ 6 _ rfl), trivial⟩) ?_
            refine XG_two (fuel' := 4) 3 8 #[true, true, true, true, true, true, false, false, false, false] #[true, true, true, false, true, true, false, false, true, false] _ _ rfl rfl (by kernel_rfl) (by kernel_rfl) (by kernel_rfl) rfl ?_ ?_
            · have hB_87 : Below w_53.heap.size w_53 wd_81 := (bt (bg (bt (bt (bt hb_56 hb_61) hb_66) hb_70) hg_75 ((bt (bt hb_56 hb_61) hb_66)).size) hb_82)
              refine XL_call 107 rfl rfl rfl ent107 [.slice A_84 ((U.scz o.text).length - n.toNat) (c_50 - n.toNat)] (by kernel_rfl) (by have h_ := refText_any A_84 (c_50 - n.toNat) ((U.scz o.text).drop n.toNat) wd_81 (by rw [show ((U.scz o.text).drop n.toNat).length = ((U.scz o.text).length - n.toNat) from by first | (rw [List.length_take]; omega) | (rw [List.length_drop]; omega) | (rw [List.length_drop]; done)]; exact (Kd.C_below hC_86 hB_87)) (by first | (rw [List.length_take]; omega) | (rw [List.length_drop]; omega) | (rw [List.length_drop]; done)) (fun r hr => scz_vz o.text r (List.mem_of_mem_drop hr)); rw [show ((U.scz o.text).drop n.toNat).length = ((U.scz o.text).length - n.toNat) from by first | (rw [List.length_take]; omega) | (rw [List.length_drop]; omega) | (rw [List.length_drop]; done)] at h_; exact h_) ?_
              rintro e w_88 ⟨rfl, hb_89⟩; refine ⟨_, rfl, ?_⟩
              refine XL_nil ?_
              refine ⟨(Blk.below hk_3 (bt (bt hB_80 hb_82) hb_89)), ?_⟩
              refine XG_two (fuel' := 3) 6 8 #[true, true, true, true, true, true, true, false, false, false] #[true, true, true, true, true, true, false, false, true, false] _ _ rfl rfl (by kernel_rfl) (by kernel_rfl) (by kernel_rfl) rfl ?_ ?_
              · have hB_90 : Below w.heap.size w w_88 := (bt (bt (bg (bt (bt hB_62 hb_66) hb_70) hg_75 ((bt hB_62 hb_66)).size) hb_82) hb_89)
                refine XL_call 103 rfl rfl rfl ent103 [.slice A o.attrs.length c] (by kernel_rfl) (r4copied_any _ _ o.attrs _ (Kd.C_below hA hB_90) (by omega)) ?_
                rintro e w_93 ⟨A_91, c_92, rfl, hl_95, hr_96, hb_94⟩; refine ⟨_, rfl, ?_⟩
                refine XL_nil ?_
                refine ⟨(Blk.below hk_3 (bt (bt (bt hB_80 hb_82) hb_89) hb_94)), ?_⟩
                refine XG_run (fuel' := 2) (Blk.below hk_3 (bt (bt (bt hB_80 hb_82) hb_89) hb_94)) [7] [] [.agg #[.int .i64 1, .string (runesBytes ((U.scz o.text).drop n.toNat)), .int .i64 0, .int .i64 0, .string ByteArray.empty, .int .i64 0, .slice A_91 o.attrs.length c_92]] #[true, true, true, true, true, true, true, true, false, false] [(4, .pointer (some ⟨w_1.heap.size, 0, none⟩)), (5, .pointer (some ⟨w_6.heap.size, 0, none⟩)), (9, .pointer (some ⟨w_65.heap.size, 0, none⟩)), (46, .agg #[.int .i64 1, .string (runesBytes ((U.scz o.text).drop n.toNat)), .int .i64 0, .int .i64 0, .string ByteArray.empty, .int .i64 0, .slice A_91 o.attrs.length c_92])] (fun w_ => []) (fun _ _ _ _ h => h) (fun w_ => by kernel_rfl) rfl (fun w_ hC_ => trivial) ?_
                refine XG_mid (fuel' := 1) 8 #[true, true, true, true, true, true, true, true, true, false] _ rfl (by kernel_rfl) (by kernel_rfl) rfl ?_
                refine XL_run 1 [] [(4, .pointer (some ⟨w_1.heap.size, 0, none⟩)), (5, .pointer (some ⟨w_6.heap.size, 0, none⟩)), (9, .pointer (some ⟨w_65.heap.size, 0, none⟩)), (10, .pointer (some ⟨w_93.heap.size, 0, none⟩)), (46, .agg #[.int .i64 1, .string (runesBytes ((U.scz o.text).drop n.toNat)), .int .i64 0, .int .i64 0, .string ByteArray.empty, .int .i64 0, .slice A_91 o.attrs.length c_92])] (w_93.alloc (.cells #[.int .i64 0, .string ByteArray.empty, .int .i64 0, .int .i64 0, .string ByteArray.empty, .int .i64 0, .slice none 0 0] 33)) [] (by kernel_rfl) trivial ?_
                obtain ⟨w_97, hw_101, hb_98, hk_99, hz_100⟩ := new_world w_93 #[.int .i64 0, .string ByteArray.empty, .int .i64 0, .int .i64 0, .string ByteArray.empty, .int .i64 0, .slice none 0 0] 33
                rw [hw_101]
                refine XL_nil ?_
                have hB_102 : Below w_1.heap.size w_1 w_97 := (bt (bt (bt (bt hB_80 hb_82) hb_89) hb_94) hb_98)
                refine ⟨(Blk.below hk_3 hB_102), ?_⟩
                refine XG_mid (fuel' := 0) 9 #[true, true, true, true, true, true, true, true, true, true] _ rfl (by kernel_rfl) (by kernel_rfl) rfl ?_
                refine XL_store (v := .agg #[.int .i64 1, .string (runesBytes ((U.scz o.text).drop n.toNat)), .int .i64 0, .int .i64 0, .string ByteArray.empty, .int .i64 0, .slice A_91 o.attrs.length c_92]) rfl rfl rfl (by kernel_rfl) hk_99 0 [.int .i64 1, .string (runesBytes ((U.scz o.text).drop n.toNat)), .int .i64 0, .int .i64 0, .string ByteArray.empty, .int .i64 0, .slice A_91 o.attrs.length c_92] #[.int .i64 1, .string (runesBytes ((U.scz o.text).drop n.toNat)), .int .i64 0, .int .i64 0, .string ByteArray.empty, .int .i64 0, .slice A_91 o.attrs.length c_92] ⟨by kernel_rfl, rfl, by kernel_rfl⟩ ⟨by kernel_rfl, by kernel_rfl⟩ (Nat.le_of_ble_eq_true (by kernel_rfl)) (fun w_103 hg_104 hk_105 hz_106 => ?_)
                have hB_107 : Below w_6.heap.size w_6 w_93 := (bt (bt (bt (bg (bt hB_78 hb_70) hg_75 (hB_78).size) hb_82) hb_89) hb_94)
                have hB_108 : Below w_11.heap.size w_11 w_93 := (bt (bt (bt (bg (bt hB_79 hb_70) hg_75 (hB_79).size) hb_82) hb_89) hb_94)
                have hB_109 : Below w_65.heap.size w_65 w_93 := (bt (bt (bt (bg hb_70 hg_75 (Nat.le_refl _)) hb_82) hb_89) hb_94)
                refine XL_nil ?_
                have hB_110 : Below w_1.heap.size w_1 w_103 := (bg hB_102 hg_104 ((bt (bt (bt hB_80 hb_82) hb_89) hb_94)).size)
                refine ⟨(Blk.below hk_3 hB_110), ?_⟩
                refine XG_done (by kernel_rfl) ?_
                refine X_seq ?_
                refine X_gen (S := fun w_ => RX.Blk w_ w_65.heap.size 33 #[.int .i64 1, .string (runesBytes (List.take n.toNat (U.scz o.text))), .int .i64 0, .int .i64 0, .string ByteArray.empty, .int .i64 0, .slice A_63 o.attrs.length c_64] ∧ RX.Blk w_ w_93.heap.size 33 #[.int .i64 1, .string (runesBytes ((U.scz o.text).drop n.toNat)), .int .i64 0, .int .i64 0, .string ByteArray.empty, .int .i64 0, .slice A_91 o.attrs.length c_92]) [] 5 #[false, false, false, false, false] (by kernel_rfl) (by kernel_rfl) (by kernel_rfl) (fun wd_111 hb_112 hh_113 => ?_)
                have hB_114 : Below w_74.heap.size w_74 wd_111 := (bt (bg (bt (bt (bt hb_82 hb_89) hb_94) hb_98) hg_104 ((bt (bt hb_82 hb_89) hb_94)).size) hb_112)
                refine XG_run (fuel' := 3) ⟨(Blk.below hk_76 hB_114), (Blk.below hk_105 hb_112)⟩ [0, 1] [(47, .load (.agg #[.int .i64 1, .string (runesBytes (List.take n.toNat (U.scz o.text))), .int .i64 0, .int .i64 0, .string ByteArray.empty, .int .i64 0, .slice A_63 o.attrs.length c_64])), (48, .load (.agg #[.int .i64 1, .string (runesBytes ((U.scz o.text).drop n.toNat)), .int .i64 0, .int .i64 0, .string ByteArray.empty, .int .i64 0, .slice A_91 o.attrs.length c_92]))] [.agg #[.int .i64 1, .string (runesBytes (List.take n.toNat (U.scz o.text))), .int .i64 0, .int .i64 0, .string ByteArray.empty, .int .i64 0, .slice A_63 o.attrs.length c_64], .agg #[.int .i64 1, .string (runesBytes ((U.scz o.text).drop n.toNat)), .int .i64 0, .int .i64 0, .string ByteArray.empty, .int .i64 0, .slice A_91 o.attrs.length c_92]] #[true, true, false, false, false] [(4, .pointer (some ⟨w_1.heap.size, 0, none⟩)), (5, .pointer (some ⟨w_6.heap.size, 0, none⟩)), (47, .agg #[.int .i64 1, .string (runesBytes (List.take n.toNat (U.scz o.text))), .int .i64 0, .int .i64 0, .string ByteArray.empty, .int .i64 0, .slice A_63 o.attrs.length c_64]), (48, .agg #[.int .i64 1, .string (runesBytes ((U.scz o.text).drop n.toNat)), .int .i64 0, .int .i64 0, .string ByteArray.empty, .int .i64 0, .slice A_91 o.attrs.length c_92])] (fun w_ => [LoadsAs Tryd.prog 33 (⟨w_65.heap.size, 0, none⟩) (.agg #[.int .i64 1, .string (runesBytes (List.take n.toNat (U.scz o.text))), .int .i64 0, .int .i64 0, .string ByteArray.empty, .int .i64 0, .slice A_63 o.attrs.length c_64]) w_, LoadsAs Tryd.prog 33 (⟨w_93.heap.size, 0, none⟩) (.agg #[.int .i64 1, .string (runesBytes ((U.scz o.text).drop n.toNat)), .int .i64 0, .int .i64 0, .string ByteArray.empty, .int .i64 0, .slice A_91 o.attrs.length c_92]) w_]) (fun _ _ _ _ h => h) (fun w_ => by kernel_rfl) rfl (fun w_ hC_ => ⟨loadsB rfl rfl hC_.1 0 ⟨by kernel_rfl, by kernel_rfl⟩, loadsB rfl rfl hC_.2 0 ⟨by kernel_rfl, by kernel_rfl⟩, trivial⟩) ?_
                refine XG_mid (fuel' := 2) 2 #[true, true, true, false, false] _ rfl (by kernel_rfl) (by kernel_rfl) rfl ?_
                have hB_119 : Below w_6.heap.size w_6 wd_111 := (bt (bg (bt hB_107 hb_98) hg_104 (hB_107).size) hb_112)
                refine XL_store (v := .agg #[.int .i64 1, .string (runesBytes (List.take n.toNat (U.scz o.text))), .int .i64 0, .int .i64 0, .string ByteArray.empty, .int .i64 0, .slice A_63 o.attrs.length c_64]) rfl rfl rfl (by kernel_rfl) (Blk.below hk_8 hB_119) 0 [.int .i64 1, .string (runesBytes (List.take n.toNat (U.scz o.text))), .int .i64 0, .int .i64 0, .string ByteArray.empty, .int .i64 0, .slice A_63 o.attrs.length c_64] #[.int .i64 1, .string (runesBytes (List.take n.toNat (U.scz o.text))), .int .i64 0, .int .i64 0, .string ByteArray.empty, .int .i64 0, .slice A_63 o.attrs.length c_64] ⟨by kernel_rfl, rfl, by kernel_rfl⟩ ⟨by kernel_rfl, by kernel_rfl⟩ (Nat.le_of_ble_eq_true (by kernel_rfl)) (fun w_115 hg_116 hk_117 hz_118 => ?_)
                have hne_120 : w_6.heap.size ≠ w_1.heap.size := Nat.ne_of_gt (Nat.lt_of_lt_of_le (Blk.lt hk_8) (Nat.le_refl _))
                have hB_121 : Below w_11.heap.size w_11 wd_111 := (bt (bg (bt hB_108 hb_98) hg_104 (hB_108).size) hb_112)
                have hk_122 := Blk.other (Blk.below hk_13 hB_121) hg_116 hne_120
                have hne_123 : w_65.heap.size ≠ w_1.heap.size := Nat.ne_of_gt (Nat.lt_of_lt_of_le (Blk.lt hk_8) (hB_78).size)
                have hk_124 := Blk.other (Blk.below hk_76 hB_114) hg_116 hne_123
                have hne_125 : w_93.heap.size ≠ w_1.heap.size := Nat.ne_of_gt (Nat.lt_of_lt_of_le (Blk.lt hk_8) (hB_107).size)
                have hk_126 := Blk.other (Blk.below hk_105 hb_112) hg_116 hne_125
                have hB_127 : Below w_6.heap.size w_6 w_88 := (bt (bt (bg (bt hB_78 hb_70) hg_75 (hB_78).size) hb_82) hb_89)
                have hB_129 : Below w_93.heap.size w_93 wd_111 := (bt (bg hb_98 hg_104 (Nat.le_refl _)) hb_112)
                have hr_128 := RX.Kd.R_past (Kd.R_below hr_96 hB_129) hg_116 (Nat.lt_of_lt_of_le (Blk.lt hk_8) (hB_127).size)
                have hB_130 : Below w_6.heap.size w_6 w_60 := (bt (bt (bt (bt (bt hb_12 hb_17) hb_34) hb_54) hb_56) hb_61)
                have hB_132 : Below w_65.heap.size w_65 wd_111 := (bt (bg (bt hB_109 hb_98) hg_104 (hB_109).size) hb_112)
                have hr_131 := RX.Kd.R_past (Kd.R_below hr_68 hB_132) hg_116 (Nat.lt_of_lt_of_le (Blk.lt hk_8) (hB_130).size)
                have hB_134 : Below w_53.heap.size w_53 wd_111 := (bt (bg (bt (bt (bt hB_87 hb_89) hb_94) hb_98) hg_104 ((bt (bt hB_87 hb_89) hb_94)).size) hb_112)
                have hr_133 := RX.Kd.R_past (Kd.R_below hr_52 hB_134) hg_116 (Nat.lt_of_lt_of_le (Blk.lt hk_8) ((bt (bt hb_12 hb_17) hb_34)).size)
                refine XL_nil ?_
                refine ⟨⟨hk_124, hk_126⟩, ?_⟩
                refine XG_mid (fuel' := 1) 3 #[true, true, true, true, false] _ rfl (by kernel_rfl) (by kernel_rfl) rfl ?_
                refine XL_store (v := .agg #[.int .i64 1, .string (runesBytes ((U.scz o.text).drop n.toNat)), .int .i64 0, .int .i64 0, .string ByteArray.empty, .int .i64 0, .slice A_91 o.attrs.length c_92]) rfl rfl rfl (by kernel_rfl) hk_122 0 [.int .i64 1, .string (runesBytes ((U.scz o.text).drop n.toNat)), .int .i64 0, .int .i64 0, .string ByteArray.empty, .int .i64 0, .slice A_91 o.attrs.length c_92] #[.int .i64 1, .string (runesBytes ((U.scz o.text).drop n.toNat)), .int .i64 0, .int .i64 0, .string ByteArray.empty, .int .i64 0, .slice A_91 o.attrs.length c_92] ⟨by kernel_rfl, rfl, by kernel_rfl⟩ ⟨by kernel_rfl, by kernel_rfl⟩ (Nat.le_of_ble_eq_true (by kernel_rfl)) (fun w_135 hg_136 hk_137 hz_138 => ?_)
                have hne_139 : w_1.heap.size ≠ w_6.heap.size := Nat.ne_of_lt (Nat.lt_of_lt_of_le (Blk.lt hk_8) (Nat.le_refl _))
                have hk_140 := Blk.other hk_117 hg_136 hne_139
                have hne_141 : w_65.heap.size ≠ w_6.heap.size := Nat.ne_of_gt (Nat.lt_of_lt_of_le (Blk.lt hk_13) (hB_79).size)
                have hk_142 := Blk.other hk_124 hg_136 hne_141
                have hne_143 : w_93.heap.size ≠ w_6.heap.size := Nat.ne_of_gt (Nat.lt_of_lt_of_le (Blk.lt hk_13) (hB_108).size)
                have hk_144 := Blk.other hk_126 hg_136 hne_143
                have hB_145 : Below w_11.heap.size w_11 w_88 := (bt (bt (bg (bt hB_79 hb_70) hg_75 (hB_79).size) hb_82) hb_89)
                have hr_146 := RX.Kd.R_past hr_128 hg_136 (Nat.lt_of_lt_of_le (Blk.lt hk_13) (hB_145).size)
                have hB_147 : Below w_11.heap.size w_11 w_60 := (bt (bt (bt (bt hb_17 hb_34) hb_54) hb_56) hb_61)
                have hr_148 := RX.Kd.R_past hr_131 hg_136 (Nat.lt_of_lt_of_le (Blk.lt hk_13) (hB_147).size)
                have hr_149 := RX.Kd.R_past hr_133 hg_136 (Nat.lt_of_lt_of_le (Blk.lt hk_13) ((bt hb_17 hb_34)).size)
                refine XL_nil ?_
                refine ⟨⟨hk_142, hk_144⟩, ?_⟩
                refine XG_run (fuel' := 0) ⟨hk_142, hk_144⟩ [4] [] [.int .i64 0] #[true, true, true, true, true] [(4, .pointer (some ⟨w_1.heap.size, 0, none⟩)), (5, .pointer (some ⟨w_6.heap.size, 0, none⟩)), (6, .int .i64 0)] (fun w_ => []) (fun _ _ _ _ h => h) (fun w_ => by kernel_rfl) rfl (fun w_ hC_ => trivial) ?_
                refine XG_done (by kernel_rfl) ?_
                refine X_ret ?_
                refine RX.ret_cellCCT (P := Tryd.prog) (fn := Tryd.f59) (N := 49) (R := R_) (c := 4) (d := 5) (t := 33) (t' := 33) (p := ⟨w_1.heap.size, 0, none⟩) (p' := ⟨w_6.heap.size, 0, none⟩) (v := .agg #[.int .i64 1, .string (runesBytes (List.take n.toNat (U.scz o.text))), .int .i64 0, .int .i64 0, .string ByteArray.empty, .int .i64 0, .slice A_63 o.attrs.length c_64]) (v' := .agg #[.int .i64 1, .string (runesBytes ((U.scz o.text).drop n.toNat)), .int .i64 0, .int .i64 0, .string ByteArray.empty, .int .i64 0, .slice A_91 o.attrs.length c_92]) (u := .int .i64 0) rfl rfl (loadsB rfl rfl hk_140 0 ⟨by kernel_rfl, by kernel_rfl⟩) rfl (loadsB rfl rfl hk_137 0 ⟨by kernel_rfl, by kernel_rfl⟩) rfl (hR_ _ _ ?_)
                have hB_150 : Below w.heap.size w w_135 := (bg (bg (bt (bg (bt (bt hB_90 hb_94) hb_98) hg_104 ((bt hB_90 hb_94)).size) hb_112) hg_116 (hb_2).size) hg_136 ((bt hb_2 hb_7)).size)
                have hr0 : refuseP o = 0 := by omega
                have hk1 : o.kind = 1 := by rcases refuse_kind hr0 with h_ | h_; (· exact h_); (· have h2_ := len4_2 h_; omega)
                have hl1 := len4_1 hk1
                have hct := cut_text (refuse_utf hr0).1 (q := n) (by omega) (by omega)
                rw [← hct.1, ← hct.2]
                rw [show cutO o n = (mkT (U.cutP o.text n).1 o.attrs, mkT (U.cutP o.text n).2.1 o.attrs, 0) from by unfold cutO; rw [if_neg (by omega), if_neg (by omega)]]
                exact ⟨_, _, _, _, rfl, Kd.R_low hr_148 (hB_62).size, Kd.R_low hr_146 (hB_90).size, hB_150⟩
              · refine XL_run 1 [] [(4, .pointer (some ⟨w_1.heap.size, 0, none⟩)), (5, .pointer (some ⟨w_6.heap.size, 0, none⟩)), (9, .pointer (some ⟨w_65.heap.size, 0, none⟩)), (10, .pointer (some ⟨w_88.heap.size, 0, none⟩)), (42, .string (runesBytes ((U.scz o.text).drop n.toNat))), (44, .slice A o.attrs.length c)] (w_88.alloc (.cells #[.int .i64 0, .string ByteArray.empty, .int .i64 0, .int .i64 0, .string ByteArray.empty, .int .i64 0, .slice none 0 0] 33)) [] (by kernel_rfl) trivial ?_
                obtain ⟨w_151, hw_155, hb_152, hk_153, hz_154⟩ := new_world w_88 #[.int .i64 0, .string ByteArray.empty, .int .i64 0, .int .i64 0, .string ByteArray.empty, .int .i64 0, .slice none 0 0] 33
                rw [hw_155]
                refine XL_nil ?_
                refine ⟨(Blk.below hk_3 (bt (bt (bt hB_80 hb_82) hb_89) hb_152)), ?_⟩
                refine XG_mid (fuel' := 2) 6 #[true, true, true, true, true, true, true, false, true, false] _ rfl (by kernel_rfl) (by kernel_rfl) rfl ?_
                have hB_156 : Below w.heap.size w w_151 := (bt (bt (bt (bg (bt (bt hB_62 hb_66) hb_70) hg_75 ((bt hB_62 hb_66)).size) hb_82) hb_89) hb_152)
                refine XL_call 103 rfl rfl rfl ent103 [.slice A o.attrs.length c] (by kernel_rfl) (r4copied_any _ _ o.attrs _ (Kd.C_below hA hB_156) (by omega)) ?_
                rintro e w_159 ⟨A_157, c_158, rfl, hl_161, hr_162, hb_160⟩; refine ⟨_, rfl, ?_⟩
                refine XL_nil ?_
                have hB_163 : Below w_1.heap.size w_1 w_159 := (bt (bt (bt (bt hB_80 hb_82) hb_89) hb_152) hb_160)
                refine ⟨(Blk.below hk_3 hB_163), ?_⟩
                refine XG_run (fuel' := 1) (Blk.below hk_3 hB_163) [7] [] [.agg #[.int .i64 1, .string (runesBytes ((U.scz o.text).drop n.toNat)), .int .i64 0, .int .i64 0, .string ByteArray.empty, .int .i64 0, .slice A_157 o.attrs.length c_158]] #[true, true, true, true, true, true, true, true, true, false] [(4, .pointer (some ⟨w_1.heap.size, 0, none⟩)), (5, .pointer (some ⟨w_6.heap.size, 0, none⟩)), (9, .pointer (some ⟨w_65.heap.size, 0, none⟩)), (10, .pointer (some ⟨w_88.heap.size, 0, none⟩)), (46, .agg #[.int .i64 1, .string (runesBytes ((U.scz o.text).drop n.toNat)), .int .i64 0, .int .i64 0, .string ByteArray.empty, .int .i64 0, .slice A_157 o.attrs.length c_158])] (fun w_ => []) (fun _ _ _ _ h => h) (fun w_ => by kernel_rfl) rfl (fun w_ hC_ => trivial) ?_
                refine XG_mid (fuel' := 0) 9 #[true, true, true, true, true, true, true, true, true, true] _ rfl (by kernel_rfl) (by kernel_rfl) rfl ?_
                refine XL_store (v := .agg #[.int .i64 1, .string (runesBytes ((U.scz o.text).drop n.toNat)), .int .i64 0, .int .i64 0, .string ByteArray.empty, .int .i64 0, .slice A_157 o.attrs.length c_158]) rfl rfl rfl (by kernel_rfl) (Blk.below hk_153 hb_160) 0 [.int .i64 1, .string (runesBytes ((U.scz o.text).drop n.toNat)), .int .i64 0, .int .i64 0, .string ByteArray.empty, .int .i64 0, .slice A_157 o.attrs.length c_158] #[.int .i64 1, .string (runesBytes ((U.scz o.text).drop n.toNat)), .int .i64 0, .int .i64 0, .string ByteArray.empty, .int .i64 0, .slice A_157 o.attrs.length c_158] ⟨by kernel_rfl, rfl, by kernel_rfl⟩ ⟨by kernel_rfl, by kernel_rfl⟩ (Nat.le_of_ble_eq_true (by kernel_rfl)) (fun w_164 hg_165 hk_166 hz_167 => ?_)
                have hB_168 : Below w_6.heap.size w_6 w_88 := (bt (bt (bg (bt hB_78 hb_70) hg_75 (hB_78).size) hb_82) hb_89)
                have hB_169 : Below w_11.heap.size w_11 w_88 := (bt (bt (bg (bt hB_79 hb_70) hg_75 (hB_79).size) hb_82) hb_89)
                have hr_170 := RX.Kd.R_past hr_162 hg_165 (Nat.lt_of_lt_of_le (Blk.lt hk_153) (Nat.le_refl _))
                have hB_171 : Below w_65.heap.size w_65 w_88 := (bt (bt (bg hb_70 hg_75 (Nat.le_refl _)) hb_82) hb_89)
                refine XL_nil ?_
                have hB_172 : Below w_1.heap.size w_1 w_164 := (bg hB_163 hg_165 ((bt (bt hB_80 hb_82) hb_89)).size)
                refine ⟨(Blk.below hk_3 hB_172), ?_⟩
                refine XG_done (by kernel_rfl) ?_
                refine X_seq ?_
                refine X_gen (S := fun w_ => RX.Blk w_ w_65.heap.size 33 #[.int .i64 1, .string (runesBytes (List.take n.toNat (U.scz o.text))), .int .i64 0, .int .i64 0, .string ByteArray.empty, .int .i64 0, .slice A_63 o.attrs.length c_64] ∧ RX.Blk w_ w_88.heap.size 33 #[.int .i64 1, .string (runesBytes ((U.scz o.text).drop n.toNat)), .int .i64 0, .int .i64 0, .string ByteArray.empty, .int .i64 0, .slice A_157 o.attrs.length c_158]) [] 5 #[false, false, false, false, false] (by kernel_rfl) (by kernel_rfl) (by kernel_rfl) (fun wd_173 hb_174 hh_175 => ?_)
                have hB_176 : Below w_74.heap.size w_74 wd_173 := (bt (bg (bt (bt (bt hb_82 hb_89) hb_152) hb_160) hg_165 ((bt hb_82 hb_89)).size) hb_174)
                refine XG_run (fuel' := 3) ⟨(Blk.below hk_76 hB_176), (Blk.below hk_166 hb_174)⟩ [0, 1] [(47, .load (.agg #[.int .i64 1, .string (runesBytes (List.take n.toNat (U.scz o.text))), .int .i64 0, .int .i64 0, .string ByteArray.empty, .int .i64 0, .slice A_63 o.attrs.length c_64])), (48, .load (.agg #[.int .i64 1, .string (runesBytes ((U.scz o.text).drop n.toNat)), .int .i64 0, .int .i64 0, .string ByteArray.empty, .int .i64 0, .slice A_157 o.attrs.length c_158]))] [.agg #[.int .i64 1, .string (runesBytes (List.take n.toNat (U.scz o.text))), .int .i64 0, .int .i64 0, .string ByteArray.empty, .int .i64 0, .slice A_63 o.attrs.length c_64], .agg #[.int .i64 1, .string (runesBytes ((U.scz o.text).drop n.toNat)), .int .i64 0, .int .i64 0, .string ByteArray.empty, .int .i64 0, .slice A_157 o.attrs.length c_158]] #[true, true, false, false, false] [(4, .pointer (some ⟨w_1.heap.size, 0, none⟩)), (5, .pointer (some ⟨w_6.heap.size, 0, none⟩)), (47, .agg #[.int .i64 1, .string (runesBytes (List.take n.toNat (U.scz o.text))), .int .i64 0, .int .i64 0, .string ByteArray.empty, .int .i64 0, .slice A_63 o.attrs.length c_64]), (48, .agg #[.int .i64 1, .string (runesBytes ((U.scz o.text).drop n.toNat)), .int .i64 0, .int .i64 0, .string ByteArray.empty, .int .i64 0, .slice A_157 o.attrs.length c_158])] (fun w_ => [LoadsAs Tryd.prog 33 (⟨w_65.heap.size, 0, none⟩) (.agg #[.int .i64 1, .string (runesBytes (List.take n.toNat (U.scz o.text))), .int .i64 0, .int .i64 0, .string ByteArray.empty, .int .i64 0, .slice A_63 o.attrs.length c_64]) w_, LoadsAs Tryd.prog 33 (⟨w_88.heap.size, 0, none⟩) (.agg #[.int .i64 1, .string (runesBytes ((U.scz o.text).drop n.toNat)), .int .i64 0, .int .i64 0, .string ByteArray.empty, .int .i64 0, .slice A_157 o.attrs.length c_158]) w_]) (fun _ _ _ _ h => h) (fun w_ => by kernel_rfl) rfl (fun w_ hC_ => ⟨loadsB rfl rfl hC_.1 0 ⟨by kernel_rfl, by kernel_rfl⟩, loadsB rfl rfl hC_.2 0 ⟨by kernel_rfl, by kernel_rfl⟩, trivial⟩) ?_
                refine XG_mid (fuel' := 2) 2 #[true, true, true, false, false] _ rfl (by kernel_rfl) (by kernel_rfl) rfl ?_
                have hB_181 : Below w_6.heap.size w_6 wd_173 := (bt (bg (bt (bt hB_168 hb_152) hb_160) hg_165 (hB_168).size) hb_174)
                refine XL_store (v := .agg #[.int .i64 1, .string (runesBytes (List.take n.toNat (U.scz o.text))), .int .i64 0, .int .i64 0, .string ByteArray.empty, .int .i64 0, .slice A_63 o.attrs.length c_64]) rfl rfl rfl (by kernel_rfl) (Blk.below hk_8 hB_181) 0 [.int .i64 1, .string (runesBytes (List.take n.toNat (U.scz o.text))), .int .i64 0, .int .i64 0, .string ByteArray.empty, .int .i64 0, .slice A_63 o.attrs.length c_64] #[.int .i64 1, .string (runesBytes (List.take n.toNat (U.scz o.text))), .int .i64 0, .int .i64 0, .string ByteArray.empty, .int .i64 0, .slice A_63 o.attrs.length c_64] ⟨by kernel_rfl, rfl, by kernel_rfl⟩ ⟨by kernel_rfl, by kernel_rfl⟩ (Nat.le_of_ble_eq_true (by kernel_rfl)) (fun w_177 hg_178 hk_179 hz_180 => ?_)
                have hne_182 : w_6.heap.size ≠ w_1.heap.size := Nat.ne_of_gt (Nat.lt_of_lt_of_le (Blk.lt hk_8) (Nat.le_refl _))
                have hB_183 : Below w_11.heap.size w_11 wd_173 := (bt (bg (bt (bt hB_169 hb_152) hb_160) hg_165 (hB_169).size) hb_174)
                have hk_184 := Blk.other (Blk.below hk_13 hB_183) hg_178 hne_182
                have hne_185 : w_65.heap.size ≠ w_1.heap.size := Nat.ne_of_gt (Nat.lt_of_lt_of_le (Blk.lt hk_8) (hB_78).size)
                have hk_186 := Blk.other (Blk.below hk_76 hB_176) hg_178 hne_185
                have hne_187 : w_88.heap.size ≠ w_1.heap.size := Nat.ne_of_gt (Nat.lt_of_lt_of_le (Blk.lt hk_8) (hB_168).size)
                have hk_188 := Blk.other (Blk.below hk_166 hb_174) hg_178 hne_187
                have hr_189 := RX.Kd.R_past (Kd.R_below hr_170 hb_174) hg_178 (Nat.lt_of_lt_of_le (Blk.lt hk_8) ((bt hB_168 hb_152)).size)
                have hB_190 : Below w_6.heap.size w_6 w_60 := (bt (bt (bt (bt (bt hb_12 hb_17) hb_34) hb_54) hb_56) hb_61)
                have hB_192 : Below w_65.heap.size w_65 wd_173 := (bt (bg (bt (bt hB_171 hb_152) hb_160) hg_165 (hB_171).size) hb_174)
                have hr_191 := RX.Kd.R_past (Kd.R_below hr_68 hB_192) hg_178 (Nat.lt_of_lt_of_le (Blk.lt hk_8) (hB_190).size)
                have hB_194 : Below w_53.heap.size w_53 wd_173 := (bt (bg (bt (bt (bt hB_87 hb_89) hb_152) hb_160) hg_165 ((bt hB_87 hb_89)).size) hb_174)
                have hr_193 := RX.Kd.R_past (Kd.R_below hr_52 hB_194) hg_178 (Nat.lt_of_lt_of_le (Blk.lt hk_8) ((bt (bt hb_12 hb_17) hb_34)).size)
                refine XL_nil ?_
                refine ⟨⟨hk_186, hk_188⟩, ?_⟩
                refine XG_mid (fuel' := 1) 3 #[true, true, true, true, false] _ rfl (by kernel_rfl) (by kernel_rfl) rfl ?_
                refine XL_store (v := .agg #[.int .i64 1, .string (runesBytes ((U.scz o.text).drop n.toNat)), .int .i64 0, .int .i64 0, .string ByteArray.empty, .int .i64 0, .slice A_157 o.attrs.length c_158]) rfl rfl rfl (by kernel_rfl) hk_184 0 [.int .i64 1, .string (runesBytes ((U.scz o.text).drop n.toNat)), .int .i64 0, .int .i64 0, .string ByteArray.empty, .int .i64 0, .slice A_157 o.attrs.length c_158] #[.int .i64 1, .string (runesBytes ((U.scz o.text).drop n.toNat)), .int .i64 0, .int .i64 0, .string ByteArray.empty, .int .i64 0, .slice A_157 o.attrs.length c_158] ⟨by kernel_rfl, rfl, by kernel_rfl⟩ ⟨by kernel_rfl, by kernel_rfl⟩ (Nat.le_of_ble_eq_true (by kernel_rfl)) (fun w_195 hg_196 hk_197 hz_198 => ?_)
                have hne_199 : w_1.heap.size ≠ w_6.heap.size := Nat.ne_of_lt (Nat.lt_of_lt_of_le (Blk.lt hk_8) (Nat.le_refl _))
                have hk_200 := Blk.other hk_179 hg_196 hne_199
                have hne_201 : w_65.heap.size ≠ w_6.heap.size := Nat.ne_of_gt (Nat.lt_of_lt_of_le (Blk.lt hk_13) (hB_79).size)
                have hk_202 := Blk.other hk_186 hg_196 hne_201
                have hne_203 : w_88.heap.size ≠ w_6.heap.size := Nat.ne_of_gt (Nat.lt_of_lt_of_le (Blk.lt hk_13) (hB_169).size)
                have hk_204 := Blk.other hk_188 hg_196 hne_203
                have hr_205 := RX.Kd.R_past hr_189 hg_196 (Nat.lt_of_lt_of_le (Blk.lt hk_13) ((bt hB_169 hb_152)).size)
                have hB_206 : Below w_11.heap.size w_11 w_60 := (bt (bt (bt (bt hb_17 hb_34) hb_54) hb_56) hb_61)
                have hr_207 := RX.Kd.R_past hr_191 hg_196 (Nat.lt_of_lt_of_le (Blk.lt hk_13) (hB_206).size)
                have hr_208 := RX.Kd.R_past hr_193 hg_196 (Nat.lt_of_lt_of_le (Blk.lt hk_13) ((bt hb_17 hb_34)).size)
                refine XL_nil ?_
                refine ⟨⟨hk_202, hk_204⟩, ?_⟩
                refine XG_run (fuel' := 0) ⟨hk_202, hk_204⟩ [4] [] [.int .i64 0] #[true, true, true, true, true] [(4, .pointer (some ⟨w_1.heap.size, 0, none⟩)), (5, .pointer (some ⟨w_6.heap.size, 0, none⟩)), (6, .int .i64 0)] (fun w_ => []) (fun _ _ _ _ h => h) (fun w_ => by kernel_rfl) rfl (fun w_ hC_ => trivial) ?_
                refine XG_done (by kernel_rfl) ?_
                refine X_ret ?_
                refine RX.ret_cellCCT (P := Tryd.prog) (fn := Tryd.f59) (N := 49) (R := R_) (c := 4) (d := 5) (t := 33) (t' := 33) (p := ⟨w_1.heap.size, 0, none⟩) (p' := ⟨w_6.heap.size, 0, none⟩) (v := .agg #[.int .i64 1, .string (runesBytes (List.take n.toNat (U.scz o.text))), .int .i64 0, .int .i64 0, .string ByteArray.empty, .int .i64 0, .slice A_63 o.attrs.length c_64]) (v' := .agg #[.int .i64 1, .string (runesBytes ((U.scz o.text).drop n.toNat)), .int .i64 0, .int .i64 0, .string ByteArray.empty, .int .i64 0, .slice A_157 o.attrs.length c_158]) (u := .int .i64 0) rfl rfl (loadsB rfl rfl hk_200 0 ⟨by kernel_rfl, by kernel_rfl⟩) rfl (loadsB rfl rfl hk_197 0 ⟨by kernel_rfl, by kernel_rfl⟩) rfl (hR_ _ _ ?_)
                have hB_209 : Below w.heap.size w w_88 := (bt (bt (bg (bt (bt hB_62 hb_66) hb_70) hg_75 ((bt hB_62 hb_66)).size) hb_82) hb_89)
                have hB_210 : Below w.heap.size w w_195 := (bg (bg (bt (bg (bt hB_156 hb_160) hg_165 (hB_209).size) hb_174) hg_178 (hb_2).size) hg_196 ((bt hb_2 hb_7)).size)
                have hr0 : refuseP o = 0 := by omega
                have hk1 : o.kind = 1 := by rcases refuse_kind hr0 with h_ | h_; (· exact h_); (· have h2_ := len4_2 h_; omega)
                have hl1 := len4_1 hk1
                have hct := cut_text (refuse_utf hr0).1 (q := n) (by omega) (by omega)
                rw [← hct.1, ← hct.2]
                rw [show cutO o n = (mkT (U.cutP o.text n).1 o.attrs, mkT (U.cutP o.text n).2.1 o.attrs, 0) from by unfold cutO; rw [if_neg (by omega), if_neg (by omega)]]
                exact ⟨_, _, _, _, rfl, Kd.R_low hr_207 (hB_62).size, Kd.R_low hr_205 (hB_156).size, hB_210⟩
            · refine XL_run 1 [] [(4, .pointer (some ⟨w_1.heap.size, 0, none⟩)), (5, .pointer (some ⟨w_6.heap.size, 0, none⟩)), (9, .pointer (some ⟨w_65.heap.size, 0, none⟩)), (10, .pointer (some ⟨wd_81.heap.size, 0, none⟩)), (41, .slice A_84 ((U.scz o.text).length - n.toNat) (c_50 - n.toNat)), (44, .slice A o.attrs.length c)] (wd_81.alloc (.cells #[.int .i64 0, .string ByteArray.empty, .int .i64 0, .int .i64 0, .string ByteArray.empty, .int .i64 0, .slice none 0 0] 33)) [] (by kernel_rfl) trivial ?_
              obtain ⟨w_211, hw_215, hb_212, hk_213, hz_214⟩ := new_world wd_81 #[.int .i64 0, .string ByteArray.empty, .int .i64 0, .int .i64 0, .string ByteArray.empty, .int .i64 0, .slice none 0 0] 33
              rw [hw_215]
              refine XL_nil ?_
              refine ⟨(Blk.below hk_3 (bt (bt hB_80 hb_82) hb_212)), ?_⟩
              refine XG_mid (fuel' := 3) 3 #[true, true, true, true, true, true, false, false, true, false] _ rfl (by kernel_rfl) (by kernel_rfl) rfl ?_
              have hB_216 : Below w_53.heap.size w_53 w_211 := (bt (bt (bg (bt (bt (bt hb_56 hb_61) hb_66) hb_70) hg_75 ((bt (bt hb_56 hb_61) hb_66)).size) hb_82) hb_212)
              refine XL_call 107 rfl rfl rfl ent107 [.slice A_84 ((U.scz o.text).length - n.toNat) (c_50 - n.toNat)] (by kernel_rfl) (by have h_ := refText_any A_84 (c_50 - n.toNat) ((U.scz o.text).drop n.toNat) w_211 (by rw [show ((U.scz o.text).drop n.toNat).length = ((U.scz o.text).length - n.toNat) from by first | (rw [List.length_take]; omega) | (rw [List.length_drop]; omega) | (rw [List.length_drop]; done)]; exact (Kd.C_below hC_86 hB_216)) (by first | (rw [List.length_take]; omega) | (rw [List.length_drop]; omega) | (rw [List.length_drop]; done)) (fun r hr => scz_vz o.text r (List.mem_of_mem_drop hr)); rw [show ((U.scz o.text).drop n.toNat).length = ((U.scz o.text).length - n.toNat) from by first | (rw [List.length_take]; omega) | (rw [List.length_drop]; omega) | (rw [List.length_drop]; done)] at h_; exact h_) ?_
              rintro e w_217 ⟨rfl, hb_218⟩; refine ⟨_, rfl, ?_⟩
              refine XL_nil ?_
              refine ⟨(Blk.below hk_3 (bt (bt (bt hB_80 hb_82) hb_212) hb_218)), ?_⟩
              refine XG_mid (fuel' := 2) 6 #[true, true, true, true, true, true, true, false, true, false] _ rfl (by kernel_rfl) (by kernel_rfl) rfl ?_
              have hB_219 : Below w.heap.size w w_217 := (bt (bt (bt (bg (bt (bt hB_62 hb_66) hb_70) hg_75 ((bt hB_62 hb_66)).size) hb_82) hb_212) hb_218)
              refine XL_call 103 rfl rfl rfl ent103 [.slice A o.attrs.length c] (by kernel_rfl) (r4copied_any _ _ o.attrs _ (Kd.C_below hA hB_219) (by omega)) ?_
              rintro e w_222 ⟨A_220, c_221, rfl, hl_224, hr_225, hb_223⟩; refine ⟨_, rfl, ?_⟩
              refine XL_nil ?_
              have hB_226 : Below w_1.heap.size w_1 w_222 := (bt (bt (bt (bt hB_80 hb_82) hb_212) hb_218) hb_223)
              refine ⟨(Blk.below hk_3 hB_226), ?_⟩
              refine XG_run (fuel' := 1) (Blk.below hk_3 hB_226) [7] [] [.agg #[.int .i64 1, .string (runesBytes ((U.scz o.text).drop n.toNat)), .int .i64 0, .int .i64 0, .string ByteArray.empty, .int .i64 0, .slice A_220 o.attrs.length c_221]] #[true, true, true, true, true, true, true, true, true, false] [(4, .pointer (some ⟨w_1.heap.size, 0, none⟩)), (5, .pointer (some ⟨w_6.heap.size, 0, none⟩)), (9, .pointer (some ⟨w_65.heap.size, 0, none⟩)), (10, .pointer (some ⟨wd_81.heap.size, 0, none⟩)), (46, .agg #[.int .i64 1, .string (runesBytes ((U.scz o.text).drop n.toNat)), .int .i64 0, .int .i64 0, .string ByteArray.empty, .int .i64 0, .slice A_220 o.attrs.length c_221])] (fun w_ => []) (fun _ _ _ _ h => h) (fun w_ => by kernel_rfl) rfl (fun w_ hC_ => trivial) ?_
              refine XG_mid (fuel' := 0) 9 #[true, true, true, true, true, true, true, true, true, true] _ rfl (by kernel_rfl) (by kernel_rfl) rfl ?_
              refine XL_store (v := .agg #[.int .i64 1, .string (runesBytes ((U.scz o.text).drop n.toNat)), .int .i64 0, .int .i64 0, .string ByteArray.empty, .int .i64 0, .slice A_220 o.attrs.length c_221]) rfl rfl rfl (by kernel_rfl) (Blk.below hk_213 (bt hb_218 hb_223)) 0 [.int .i64 1, .string (runesBytes ((U.scz o.text).drop n.toNat)), .int .i64 0, .int .i64 0, .string ByteArray.empty, .int .i64 0, .slice A_220 o.attrs.length c_221] #[.int .i64 1, .string (runesBytes ((U.scz o.text).drop n.toNat)), .int .i64 0, .int .i64 0, .string ByteArray.empty, .int .i64 0, .slice A_220 o.attrs.length c_221] ⟨by kernel_rfl, rfl, by kernel_rfl⟩ ⟨by kernel_rfl, by kernel_rfl⟩ (Nat.le_of_ble_eq_true (by kernel_rfl)) (fun w_227 hg_228 hk_229 hz_230 => ?_)
              have hB_231 : Below w_6.heap.size w_6 wd_81 := (bt (bg (bt hB_78 hb_70) hg_75 (hB_78).size) hb_82)
              have hB_232 : Below w_11.heap.size w_11 wd_81 := (bt (bg (bt hB_79 hb_70) hg_75 (hB_79).size) hb_82)
              have hr_233 := RX.Kd.R_past hr_225 hg_228 (Nat.lt_of_lt_of_le (Blk.lt hk_213) (hb_218).size)
              have hB_234 : Below w_65.heap.size w_65 wd_81 := (bt (bg hb_70 hg_75 (Nat.le_refl _)) hb_82)
              have hB_235 : Below w_53.heap.size w_53 wd_81 := (bt (bg (bt (bt (bt hb_56 hb_61) hb_66) hb_70) hg_75 ((bt (bt hb_56 hb_61) hb_66)).size) hb_82)
              refine XL_nil ?_
              have hB_236 : Below w_1.heap.size w_1 w_227 := (bg hB_226 hg_228 ((bt hB_80 hb_82)).size)
              refine ⟨(Blk.below hk_3 hB_236), ?_⟩
              refine XG_done (by kernel_rfl) ?_
              refine X_seq ?_
              refine X_gen (S := fun w_ => RX.Blk w_ w_65.heap.size 33 #[.int .i64 1, .string (runesBytes (List.take n.toNat (U.scz o.text))), .int .i64 0, .int .i64 0, .string ByteArray.empty, .int .i64 0, .slice A_63 o.attrs.length c_64] ∧ RX.Blk w_ wd_81.heap.size 33 #[.int .i64 1, .string (runesBytes ((U.scz o.text).drop n.toNat)), .int .i64 0, .int .i64 0, .string ByteArray.empty, .int .i64 0, .slice A_220 o.attrs.length c_221]) [] 5 #[false, false, false, false, false] (by kernel_rfl) (by kernel_rfl) (by kernel_rfl) (fun wd_237 hb_238 hh_239 => ?_)
              have hB_240 : Below w_74.heap.size w_74 wd_237 := (bt (bg (bt (bt (bt hb_82 hb_212) hb_218) hb_223) hg_228 (hb_82).size) hb_238)
              refine XG_run (fuel' := 3) ⟨(Blk.below hk_76 hB_240), (Blk.below hk_229 hb_238)⟩ [0, 1] [(47, .load (.agg #[.int .i64 1, .string (runesBytes (List.take n.toNat (U.scz o.text))), .int .i64 0, .int .i64 0, .string ByteArray.empty, .int .i64 0, .slice A_63 o.attrs.length c_64])), (48, .load (.agg #[.int .i64 1, .string (runesBytes ((U.scz o.text).drop n.toNat)), .int .i64 0, .int .i64 0, .string ByteArray.empty, .int .i64 0, .slice A_220 o.attrs.length c_221]))] [.agg #[.int .i64 1, .string (runesBytes (List.take n.toNat (U.scz o.text))), .int .i64 0, .int .i64 0, .string ByteArray.empty, .int .i64 0, .slice A_63 o.attrs.length c_64], .agg #[.int .i64 1, .string (runesBytes ((U.scz o.text).drop n.toNat)), .int .i64 0, .int .i64 0, .string ByteArray.empty, .int .i64 0, .slice A_220 o.attrs.length c_221]] #[true, true, false, false, false] [(4, .pointer (some ⟨w_1.heap.size, 0, none⟩)), (5, .pointer (some ⟨w_6.heap.size, 0, none⟩)), (47, .agg #[.int .i64 1, .string (runesBytes (List.take n.toNat (U.scz o.text))), .int .i64 0, .int .i64 0, .string ByteArray.empty, .int .i64 0, .slice A_63 o.attrs.length c_64]), (48, .agg #[.int .i64 1, .string (runesBytes ((U.scz o.text).drop n.toNat)), .int .i64 0, .int .i64 0, .string ByteArray.empty, .int .i64 0, .slice A_220 o.attrs.length c_221])] (fun w_ => [LoadsAs Tryd.prog 33 (⟨w_65.heap.size, 0, none⟩) (.agg #[.int .i64 1, .string (runesBytes (List.take n.toNat (U.scz o.text))), .int .i64 0, .int .i64 0, .string ByteArray.empty, .int .i64 0, .slice A_63 o.attrs.length c_64]) w_, LoadsAs Tryd.prog 33 (⟨wd_81.heap.size, 0, none⟩) (.agg #[.int .i64 1, .string (runesBytes ((U.scz o.text).drop n.toNat)), .int .i64 0, .int .i64 0, .string ByteArray.empty, .int .i64 0, .slice A_220 o.attrs.length c_221]) w_]) (fun _ _ _ _ h => h) (fun w_ => by kernel_rfl) rfl (fun w_ hC_ => ⟨loadsB rfl rfl hC_.1 0 ⟨by kernel_rfl, by kernel_rfl⟩, loadsB rfl rfl hC_.2 0 ⟨by kernel_rfl, by kernel_rfl⟩, trivial⟩) ?_
              refine XG_mid (fuel' := 2) 2 #[true, true, true, false, false] _ rfl (by kernel_rfl) (by kernel_rfl) rfl ?_
              have hB_245 : Below w_6.heap.size w_6 wd_237 := (bt (bg (bt (bt (bt hB_231 hb_212) hb_218) hb_223) hg_228 (hB_231).size) hb_238)
              refine XL_store (v := .agg #[.int .i64 1, .string (runesBytes (List.take n.toNat (U.scz o.text))), .int .i64 0, .int .i64 0, .string ByteArray.empty, .int .i64 0, .slice A_63 o.attrs.length c_64]) rfl rfl rfl (by kernel_rfl) (Blk.below hk_8 hB_245) 0 [.int .i64 1, .string (runesBytes (List.take n.toNat (U.scz o.text))), .int .i64 0, .int .i64 0, .string ByteArray.empty, .int .i64 0, .slice A_63 o.attrs.length c_64] #[.int .i64 1, .string (runesBytes (List.take n.toNat (U.scz o.text))), .int .i64 0, .int .i64 0, .string ByteArray.empty, .int .i64 0, .slice A_63 o.attrs.length c_64] ⟨by kernel_rfl, rfl, by kernel_rfl⟩ ⟨by kernel_rfl, by kernel_rfl⟩ (Nat.le_of_ble_eq_true (by kernel_rfl)) (fun w_241 hg_242 hk_243 hz_244 => ?_)
              have hne_246 : w_6.heap.size ≠ w_1.heap.size := Nat.ne_of_gt (Nat.lt_of_lt_of_le (Blk.lt hk_8) (Nat.le_refl _))
              have hB_247 : Below w_11.heap.size w_11 wd_237 := (bt (bg (bt (bt (bt hB_232 hb_212) hb_218) hb_223) hg_228 (hB_232).size) hb_238)
              have hk_248 := Blk.other (Blk.below hk_13 hB_247) hg_242 hne_246
              have hne_249 : w_65.heap.size ≠ w_1.heap.size := Nat.ne_of_gt (Nat.lt_of_lt_of_le (Blk.lt hk_8) (hB_78).size)
              have hk_250 := Blk.other (Blk.below hk_76 hB_240) hg_242 hne_249
              have hne_251 : wd_81.heap.size ≠ w_1.heap.size := Nat.ne_of_gt (Nat.lt_of_lt_of_le (Blk.lt hk_8) (hB_231).size)
              have hk_252 := Blk.other (Blk.below hk_229 hb_238) hg_242 hne_251
              have hr_253 := RX.Kd.R_past (Kd.R_below hr_233 hb_238) hg_242 (Nat.lt_of_lt_of_le (Blk.lt hk_8) ((bt (bt hB_231 hb_212) hb_218)).size)
              have hB_254 : Below w_6.heap.size w_6 w_60 := (bt (bt (bt (bt (bt hb_12 hb_17) hb_34) hb_54) hb_56) hb_61)
              have hB_256 : Below w_65.heap.size w_65 wd_237 := (bt (bg (bt (bt (bt hB_234 hb_212) hb_218) hb_223) hg_228 (hB_234).size) hb_238)
              have hr_255 := RX.Kd.R_past (Kd.R_below hr_68 hB_256) hg_242 (Nat.lt_of_lt_of_le (Blk.lt hk_8) (hB_254).size)
              have hB_258 : Below w_53.heap.size w_53 wd_237 := (bt (bg (bt (bt hB_216 hb_218) hb_223) hg_228 (hB_235).size) hb_238)
              have hr_257 := RX.Kd.R_past (Kd.R_below hr_52 hB_258) hg_242 (Nat.lt_of_lt_of_le (Blk.lt hk_8) ((bt (bt hb_12 hb_17) hb_34)).size)
              refine XL_nil ?_
              refine ⟨⟨hk_250, hk_252⟩, ?_⟩
              refine XG_mid (fuel' := 1) 3 #[true, true, true, true, false] _ rfl (by kernel_rfl) (by kernel_rfl) rfl ?_
              refine XL_store (v := .agg #[.int .i64 1, .string (runesBytes ((U.scz o.text).drop n.toNat)), .int .i64 0, .int .i64 0, .string ByteArray.empty, .int .i64 0, .slice A_220 o.attrs.length c_221]) rfl rfl rfl (by kernel_rfl) hk_248 0 [.int .i64 1, .string (runesBytes ((U.scz o.text).drop n.toNat)), .int .i64 0, .int .i64 0, .string ByteArray.empty, .int .i64 0, .slice A_220 o.attrs.length c_221] #[.int .i64 1, .string (runesBytes ((U.scz o.text).drop n.toNat)), .int .i64 0, .int .i64 0, .string ByteArray.empty, .int .i64 0, .slice A_220 o.attrs.length c_221] ⟨by kernel_rfl, rfl, by kernel_rfl⟩ ⟨by kernel_rfl, by kernel_rfl⟩ (Nat.le_of_ble_eq_true (by kernel_rfl)) (fun w_259 hg_260 hk_261 hz_262 => ?_)
              have hne_263 : w_1.heap.size ≠ w_6.heap.size := Nat.ne_of_lt (Nat.lt_of_lt_of_le (Blk.lt hk_8) (Nat.le_refl _))
              have hk_264 := Blk.other hk_243 hg_260 hne_263
              have hne_265 : w_65.heap.size ≠ w_6.heap.size := Nat.ne_of_gt (Nat.lt_of_lt_of_le (Blk.lt hk_13) (hB_79).size)
              have hk_266 := Blk.other hk_250 hg_260 hne_265
              have hne_267 : wd_81.heap.size ≠ w_6.heap.size := Nat.ne_of_gt (Nat.lt_of_lt_of_le (Blk.lt hk_13) (hB_232).size)
              have hk_268 := Blk.other hk_252 hg_260 hne_267
              have hr_269 := RX.Kd.R_past hr_253 hg_260 (Nat.lt_of_lt_of_le (Blk.lt hk_13) ((bt (bt hB_232 hb_212) hb_218)).size)
              have hB_270 : Below w_11.heap.size w_11 w_60 := (bt (bt (bt (bt hb_17 hb_34) hb_54) hb_56) hb_61)
              have hr_271 := RX.Kd.R_past hr_255 hg_260 (Nat.lt_of_lt_of_le (Blk.lt hk_13) (hB_270).size)
              have hr_272 := RX.Kd.R_past hr_257 hg_260 (Nat.lt_of_lt_of_le (Blk.lt hk_13) ((bt hb_17 hb_34)).size)
              refine XL_nil ?_
              refine ⟨⟨hk_266, hk_268⟩, ?_⟩
              refine XG_run (fuel' := 0) ⟨hk_266, hk_268⟩ [4] [] [.int .i64 0] #[true, true, true, true, true] [(4, .pointer (some ⟨w_1.heap.size, 0, none⟩)), (5, .pointer (some ⟨w_6.heap.size, 0, none⟩)), (6, .int .i64 0)] (fun w_ => []) (fun _ _ _ _ h => h) (fun w_ => by kernel_rfl) rfl (fun w_ hC_ => trivial) ?_
              refine XG_done (by kernel_rfl) ?_
              refine X_ret ?_
              refine RX.ret_cellCCT (P := Tryd.prog) (fn := Tryd.f59) (N := 49) (R := R_) (c := 4) (d := 5) (t := 33) (t' := 33) (p := ⟨w_1.heap.size, 0, none⟩) (p' := ⟨w_6.heap.size, 0, none⟩) (v := .agg #[.int .i64 1, .string (runesBytes (List.take n.toNat (U.scz o.text))), .int .i64 0, .int .i64 0, .string ByteArray.empty, .int .i64 0, .slice A_63 o.attrs.length c_64]) (v' := .agg #[.int .i64 1, .string (runesBytes ((U.scz o.text).drop n.toNat)), .int .i64 0, .int .i64 0, .string ByteArray.empty, .int .i64 0, .slice A_220 o.attrs.length c_221]) (u := .int .i64 0) rfl rfl (loadsB rfl rfl hk_264 0 ⟨by kernel_rfl, by kernel_rfl⟩) rfl (loadsB rfl rfl hk_261 0 ⟨by kernel_rfl, by kernel_rfl⟩) rfl (hR_ _ _ ?_)
              have hB_273 : Below w.heap.size w wd_81 := (bt (bg (bt (bt hB_62 hb_66) hb_70) hg_75 ((bt hB_62 hb_66)).size) hb_82)
              have hB_274 : Below w.heap.size w w_259 := (bg (bg (bt (bg (bt hB_219 hb_223) hg_228 (hB_273).size) hb_238) hg_242 (hb_2).size) hg_260 ((bt hb_2 hb_7)).size)
              have hr0 : refuseP o = 0 := by omega
              have hk1 : o.kind = 1 := by rcases refuse_kind hr0 with h_ | h_; (· exact h_); (· have h2_ := len4_2 h_; omega)
              have hl1 := len4_1 hk1
              have hct := cut_text (refuse_utf hr0).1 (q := n) (by omega) (by omega)
              rw [← hct.1, ← hct.2]
              rw [show cutO o n = (mkT (U.cutP o.text n).1 o.attrs, mkT (U.cutP o.text n).2.1 o.attrs, 0) from by unfold cutO; rw [if_neg (by omega), if_neg (by omega)]]
              exact ⟨_, _, _, _, rfl, Kd.R_low hr_271 (hB_62).size, Kd.R_low hr_269 (hB_219).size, hB_274⟩
          · refine XL_run 1 [] [(1, .int .i64 n), (2, .pointer (some ⟨w.heap.size, 0, none⟩)), (4, .pointer (some ⟨w_1.heap.size, 0, none⟩)), (5, .pointer (some ⟨w_6.heap.size, 0, none⟩)), (8, .slice a_49 ((U.scz o.text).length) c_50), (9, .pointer (some ⟨w_60.heap.size, 0, none⟩)), (34, .string (runesBytes (List.take n.toNat (U.scz o.text)))), (36, .slice A o.attrs.length c)] (w_60.alloc (.cells #[.int .i64 0, .string ByteArray.empty, .int .i64 0, .int .i64 0, .string ByteArray.empty, .int .i64 0, .slice none 0 0] 33)) [] (by kernel_rfl) trivial ?_
            obtain ⟨w_275, hw_279, hb_276, hk_277, hz_278⟩ := new_world w_60 #[.int .i64 0, .string ByteArray.empty, .int .i64 0, .int .i64 0, .string ByteArray.empty, .int .i64 0, .slice none 0 0] 33
            rw [hw_279]
            refine XL_nil ?_
            refine ⟨(Blk.below hk_3 (bt (bt hB_59 hb_61) hb_276)), ?_⟩
            refine XG_mid (fuel' := 2) 6 #[true, true, true, true, true, true, true, false, true, false] _ rfl (by kernel_rfl) (by kernel_rfl) rfl ?_
            have hB_280 : Below w.heap.size w w_275 := (bt (bt (bt (bt (bt (bt (bt (bt hb_2 hb_7) hb_12) hb_17) hb_34) hb_54) hb_56) hb_61) hb_276)
            refine XL_call 103 rfl rfl rfl ent103 [.slice A o.attrs.length c] (by kernel_rfl) (r4copied_any _ _ o.attrs _ (Kd.C_below hA hB_280) (by omega)) ?_
            rintro e w_283 ⟨A_281, c_282, rfl, hl_285, hr_286, hb_284⟩; refine ⟨_, rfl, ?_⟩
            refine XL_nil ?_
            refine ⟨(Blk.below hk_3 (bt (bt (bt hB_59 hb_61) hb_276) hb_284)), ?_⟩
            refine XG_run (fuel' := 1) (Blk.below hk_3 (bt (bt (bt hB_59 hb_61) hb_276) hb_284)) [7] [] [.agg #[.int .i64 1, .string (runesBytes (List.take n.toNat (U.scz o.text))), .int .i64 0, .int .i64 0, .string ByteArray.empty, .int .i64 0, .slice A_281 o.attrs.length c_282]] #[true, true, true, true, true, true, true, true, true, false] [(1, .int .i64 n), (2, .pointer (some ⟨w.heap.size, 0, none⟩)), (4, .pointer (some ⟨w_1.heap.size, 0, none⟩)), (5, .pointer (some ⟨w_6.heap.size, 0, none⟩)), (8, .slice a_49 ((U.scz o.text).length) c_50), (9, .pointer (some ⟨w_60.heap.size, 0, none⟩)), (38, .agg #[.int .i64 1, .string (runesBytes (List.take n.toNat (U.scz o.text))), .int .i64 0, .int .i64 0, .string ByteArray.empty, .int .i64 0, .slice A_281 o.attrs.length c_282])] (fun w_ => []) (fun _ _ _ _ h => h) (fun w_ => by kernel_rfl) rfl (fun w_ hC_ => trivial) ?_
            refine XG_mid (fuel' := 0) 9 #[true, true, true, true, true, true, true, true, true, true] _ rfl (by kernel_rfl) (by kernel_rfl) rfl ?_
            refine XL_store (v := .agg #[.int .i64 1, .string (runesBytes (List.take n.toNat (U.scz o.text))), .int .i64 0, .int .i64 0, .string ByteArray.empty, .int .i64 0, .slice A_281 o.attrs.length c_282]) rfl rfl rfl (by kernel_rfl) (Blk.below hk_277 hb_284) 0 [.int .i64 1, .string (runesBytes (List.take n.toNat (U.scz o.text))), .int .i64 0, .int .i64 0, .string ByteArray.empty, .int .i64 0, .slice A_281 o.attrs.length c_282] #[.int .i64 1, .string (runesBytes (List.take n.toNat (U.scz o.text))), .int .i64 0, .int .i64 0, .string ByteArray.empty, .int .i64 0, .slice A_281 o.attrs.length c_282] ⟨by kernel_rfl, rfl, by kernel_rfl⟩ ⟨by kernel_rfl, by kernel_rfl⟩ (Nat.le_of_ble_eq_true (by kernel_rfl)) (fun w_287 hg_288 hk_289 hz_290 => ?_)
            have hB_291 : Below w_6.heap.size w_6 w_60 := (bt (bt (bt (bt (bt hb_12 hb_17) hb_34) hb_54) hb_56) hb_61)
            have hB_292 : Below w_11.heap.size w_11 w_60 := (bt (bt (bt (bt hb_17 hb_34) hb_54) hb_56) hb_61)
            have hr_293 := RX.Kd.R_past hr_286 hg_288 (Nat.lt_of_lt_of_le (Blk.lt hk_277) (Nat.le_refl _))
            refine XL_nil ?_
            have hB_294 : Below w_1.heap.size w_1 w_287 := (bg (bt (bt (bt hB_59 hb_61) hb_276) hb_284) hg_288 ((bt hB_59 hb_61)).size)
            refine ⟨(Blk.below hk_3 hB_294), ?_⟩
            refine XG_done (by kernel_rfl) ?_
            refine X_seq ?_
            refine X_gen (S := fun w_ => RX.Blk w_ w.heap.size 33 #[.int .i64 o.kind, .string o.text, .int .i64 o.vk, .int .i64 o.vn, .string o.vt, .int .i64 o.count, .slice A o.attrs.length c]) [] 10 #[false, false, false, false, false, false, false, false, false, false] (by kernel_rfl) (by kernel_rfl) (by kernel_rfl) (fun wd_295 hb_296 hh_297 => ?_)
            obtain ⟨A_298, hA_299⟩ : ∃ A_, (if c_50 = n.toNat then a_49 else a_49.map (·.add (n.toNat * 1))) = A_ := ⟨_, rfl⟩
            have hC_300 : (Kd.int .i32).C w_53 A_298 (((U.scz o.text).length) - n.toNat) ((U.scz o.text).drop n.toNat) := by have h := RX.Kd.C_drop (Kd.R_C hr_52) (k := n.toNat) (cap := c_50) (by omega) (by omega); first | (rw [← hA_299]; exact h)
            refine XG_run (fuel' := 5) (Blk.below hk_3 (bt hB_294 hb_296)) [0, 1, 2, 4, 5] [(41, .as (.slice A_298 ((U.scz o.text).length - n.toNat) (c_50 - n.toNat))), (44, .load (.slice A o.attrs.length c))] [.slice a_49 ((U.scz o.text).length) c_50, .int .i64 n, .slice A_298 ((U.scz o.text).length - n.toNat) (c_50 - n.toNat), .pointer (some ⟨w.heap.size, 6, none⟩), .slice A o.attrs.length c] #[true, true, true, false, true, true, false, false, false, false] [(4, .pointer (some ⟨w_1.heap.size, 0, none⟩)), (5, .pointer (some ⟨w_6.heap.size, 0, none⟩)), (9, .pointer (some ⟨w_60.heap.size, 0, none⟩)), (41, .slice A_298 ((U.scz o.text).length - n.toNat) (c_50 - n.toNat)), (44, .slice A o.attrs.length c)] (fun w_ => [RunsAs Tryd.prog [(39, .slice a_49 ((U.scz o.text).length) c_50), (40, .int .i64 n)] (Go.Op.slice 150 (Go.Operand.tmp 39) (some (Go.Operand.tmp 40)) none none) 150 (.slice A_298 ((U.scz o.text).length - n.toNat) (c_50 - n.toNat)) w_, LoadsAs Tryd.prog 31 (⟨w.heap.size, 6, none⟩) (.slice A o.attrs.length c) w_]) (fun _ _ _ _ h => h) (fun w_ => by kernel_rfl) rfl (fun w_ hC_ => ⟨(hA_299 ▸ runs_slice_l (h := n) rfl rfl rfl rfl (by omega) (by omega) (by omega)), loads1 rfl (Blk.cell hC_ 6 _ rfl), trivial⟩) ?_
            refine XG_two (fuel' := 4) 3 8 #[true, true, true, true, true, true, false, false, false, false] #[true, true, true, false, true, true, false, false, true, false] _ _ rfl rfl (by kernel_rfl) (by kernel_rfl) (by kernel_rfl) rfl ?_ ?_
            · have hB_301 : Below w_53.heap.size w_53 wd_295 := (bt (bg (bt (bt (bt hb_56 hb_61) hb_276) hb_284) hg_288 ((bt hb_56 hb_61)).size) hb_296)
              refine XL_call 107 rfl rfl rfl ent107 [.slice A_298 ((U.scz o.text).length - n.toNat) (c_50 - n.toNat)] (by kernel_rfl) (by have h_ := refText_any A_298 (c_50 - n.toNat) ((U.scz o.text).drop n.toNat) wd_295 (by rw [show ((U.scz o.text).drop n.toNat).length = ((U.scz o.text).length - n.toNat) from by first | (rw [List.length_take]; omega) | (rw [List.length_drop]; omega) | (rw [List.length_drop]; done)]; exact (Kd.C_below hC_300 hB_301)) (by first | (rw [List.length_take]; omega) | (rw [List.length_drop]; omega) | (rw [List.length_drop]; done)) (fun r hr => scz_vz o.text r (List.mem_of_mem_drop hr)); rw [show ((U.scz o.text).drop n.toNat).length = ((U.scz o.text).length - n.toNat) from by first | (rw [List.length_take]; omega) | (rw [List.length_drop]; omega) | (rw [List.length_drop]; done)] at h_; exact h_) ?_
              rintro e w_302 ⟨rfl, hb_303⟩; refine ⟨_, rfl, ?_⟩
              refine XL_nil ?_
              refine ⟨(Blk.below hk_3 (bt (bt hB_294 hb_296) hb_303)), ?_⟩
              refine XG_two (fuel' := 3) 6 8 #[true, true, true, true, true, true, true, false, false, false] #[true, true, true, true, true, true, false, false, true, false] _ _ rfl rfl (by kernel_rfl) (by kernel_rfl) (by kernel_rfl) rfl ?_ ?_
              · have hB_304 : Below w.heap.size w w_60 := (bt (bt (bt (bt (bt (bt (bt hb_2 hb_7) hb_12) hb_17) hb_34) hb_54) hb_56) hb_61)
                have hB_305 : Below w.heap.size w w_302 := (bt (bt (bg (bt hB_280 hb_284) hg_288 (hB_304).size) hb_296) hb_303)
                refine XL_call 103 rfl rfl rfl ent103 [.slice A o.attrs.length c] (by kernel_rfl) (r4copied_any _ _ o.attrs _ (Kd.C_below hA hB_305) (by omega)) ?_
                rintro e w_308 ⟨A_306, c_307, rfl, hl_310, hr_311, hb_309⟩; refine ⟨_, rfl, ?_⟩
                refine XL_nil ?_
                have hB_312 : Below w_1.heap.size w_1 w_308 := (bt (bt (bt hB_294 hb_296) hb_303) hb_309)
                refine ⟨(Blk.below hk_3 hB_312), ?_⟩
                refine XG_run (fuel' := 2) (Blk.below hk_3 hB_312) [7] [] [.agg #[.int .i64 1, .string (runesBytes ((U.scz o.text).drop n.toNat)), .int .i64 0, .int .i64 0, .string ByteArray.empty, .int .i64 0, .slice A_306 o.attrs.length c_307]] #[true, true, true, true, true, true, true, true, false, false] [(4, .pointer (some ⟨w_1.heap.size, 0, none⟩)), (5, .pointer (some ⟨w_6.heap.size, 0, none⟩)), (9, .pointer (some ⟨w_60.heap.size, 0, none⟩)), (46, .agg #[.int .i64 1, .string (runesBytes ((U.scz o.text).drop n.toNat)), .int .i64 0, .int .i64 0, .string ByteArray.empty, .int .i64 0, .slice A_306 o.attrs.length c_307])] (fun w_ => []) (fun _ _ _ _ h => h) (fun w_ => by kernel_rfl) rfl (fun w_ hC_ => trivial) ?_
                refine XG_mid (fuel' := 1) 8 #[true, true, true, true, true, true, true, true, true, false] _ rfl (by kernel_rfl) (by kernel_rfl) rfl ?_
                refine XL_run 1 [] [(4, .pointer (some ⟨w_1.heap.size, 0, none⟩)), (5, .pointer (some ⟨w_6.heap.size, 0, none⟩)), (9, .pointer (some ⟨w_60.heap.size, 0, none⟩)), (10, .pointer (some ⟨w_308.heap.size, 0, none⟩)), (46, .agg #[.int .i64 1, .string (runesBytes ((U.scz o.text).drop n.toNat)), .int .i64 0, .int .i64 0, .string ByteArray.empty, .int .i64 0, .slice A_306 o.attrs.length c_307])] (w_308.alloc (.cells #[.int .i64 0, .string ByteArray.empty, .int .i64 0, .int .i64 0, .string ByteArray.empty, .int .i64 0, .slice none 0 0] 33)) [] (by kernel_rfl) trivial ?_
                obtain ⟨w_313, hw_317, hb_314, hk_315, hz_316⟩ := new_world w_308 #[.int .i64 0, .string ByteArray.empty, .int .i64 0, .int .i64 0, .string ByteArray.empty, .int .i64 0, .slice none 0 0] 33
                rw [hw_317]
                refine XL_nil ?_
                refine ⟨(Blk.below hk_3 (bt hB_312 hb_314)), ?_⟩
                refine XG_mid (fuel' := 0) 9 #[true, true, true, true, true, true, true, true, true, true] _ rfl (by kernel_rfl) (by kernel_rfl) rfl ?_
                refine XL_store (v := .agg #[.int .i64 1, .string (runesBytes ((U.scz o.text).drop n.toNat)), .int .i64 0, .int .i64 0, .string ByteArray.empty, .int .i64 0, .slice A_306 o.attrs.length c_307]) rfl rfl rfl (by kernel_rfl) hk_315 0 [.int .i64 1, .string (runesBytes ((U.scz o.text).drop n.toNat)), .int .i64 0, .int .i64 0, .string ByteArray.empty, .int .i64 0, .slice A_306 o.attrs.length c_307] #[.int .i64 1, .string (runesBytes ((U.scz o.text).drop n.toNat)), .int .i64 0, .int .i64 0, .string ByteArray.empty, .int .i64 0, .slice A_306 o.attrs.length c_307] ⟨by kernel_rfl, rfl, by kernel_rfl⟩ ⟨by kernel_rfl, by kernel_rfl⟩ (Nat.le_of_ble_eq_true (by kernel_rfl)) (fun w_318 hg_319 hk_320 hz_321 => ?_)
                have hB_322 : Below w_6.heap.size w_6 w_308 := (bt (bt (bt (bg (bt (bt hB_291 hb_276) hb_284) hg_288 (hB_291).size) hb_296) hb_303) hb_309)
                have hB_323 : Below w_11.heap.size w_11 w_308 := (bt (bt (bt (bg (bt (bt hB_292 hb_276) hb_284) hg_288 (hB_292).size) hb_296) hb_303) hb_309)
                refine XL_nil ?_
                have hB_324 : Below w_1.heap.size w_1 w_318 := (bg (bt hB_312 hb_314) hg_319 (hB_312).size)
                refine ⟨(Blk.below hk_3 hB_324), ?_⟩
                refine XG_done (by kernel_rfl) ?_
                refine X_seq ?_
                refine X_gen (S := fun w_ => RX.Blk w_ w_60.heap.size 33 #[.int .i64 1, .string (runesBytes (List.take n.toNat (U.scz o.text))), .int .i64 0, .int .i64 0, .string ByteArray.empty, .int .i64 0, .slice A_281 o.attrs.length c_282] ∧ RX.Blk w_ w_308.heap.size 33 #[.int .i64 1, .string (runesBytes ((U.scz o.text).drop n.toNat)), .int .i64 0, .int .i64 0, .string ByteArray.empty, .int .i64 0, .slice A_306 o.attrs.length c_307]) [] 5 #[false, false, false, false, false] (by kernel_rfl) (by kernel_rfl) (by kernel_rfl) (fun wd_325 hb_326 hh_327 => ?_)
                have hB_328 : Below w_287.heap.size w_287 wd_325 := (bt (bg (bt (bt (bt hb_296 hb_303) hb_309) hb_314) hg_319 ((bt (bt hb_296 hb_303) hb_309)).size) hb_326)
                refine XG_run (fuel' := 3) ⟨(Blk.below hk_289 hB_328), (Blk.below hk_320 hb_326)⟩ [0, 1] [(47, .load (.agg #[.int .i64 1, .string (runesBytes (List.take n.toNat (U.scz o.text))), .int .i64 0, .int .i64 0, .string ByteArray.empty, .int .i64 0, .slice A_281 o.attrs.length c_282])), (48, .load (.agg #[.int .i64 1, .string (runesBytes ((U.scz o.text).drop n.toNat)), .int .i64 0, .int .i64 0, .string ByteArray.empty, .int .i64 0, .slice A_306 o.attrs.length c_307]))] [.agg #[.int .i64 1, .string (runesBytes (List.take n.toNat (U.scz o.text))), .int .i64 0, .int .i64 0, .string ByteArray.empty, .int .i64 0, .slice A_281 o.attrs.length c_282], .agg #[.int .i64 1, .string (runesBytes ((U.scz o.text).drop n.toNat)), .int .i64 0, .int .i64 0, .string ByteArray.empty, .int .i64 0, .slice A_306 o.attrs.length c_307]] #[true, true, false, false, false] [(4, .pointer (some ⟨w_1.heap.size, 0, none⟩)), (5, .pointer (some ⟨w_6.heap.size, 0, none⟩)), (47, .agg #[.int .i64 1, .string (runesBytes (List.take n.toNat (U.scz o.text))), .int .i64 0, .int .i64 0, .string ByteArray.empty, .int .i64 0, .slice A_281 o.attrs.length c_282]), (48, .agg #[.int .i64 1, .string (runesBytes ((U.scz o.text).drop n.toNat)), .int .i64 0, .int .i64 0, .string ByteArray.empty, .int .i64 0, .slice A_306 o.attrs.length c_307])] (fun w_ => [LoadsAs Tryd.prog 33 (⟨w_60.heap.size, 0, none⟩) (.agg #[.int .i64 1, .string (runesBytes (List.take n.toNat (U.scz o.text))), .int .i64 0, .int .i64 0, .string ByteArray.empty, .int .i64 0, .slice A_281 o.attrs.length c_282]) w_, LoadsAs Tryd.prog 33 (⟨w_308.heap.size, 0, none⟩) (.agg #[.int .i64 1, .string (runesBytes ((U.scz o.text).drop n.toNat)), .int .i64 0, .int .i64 0, .string ByteArray.empty, .int .i64 0, .slice A_306 o.attrs.length c_307]) w_]) (fun _ _ _ _ h => h) (fun w_ => by kernel_rfl) rfl (fun w_ hC_ => ⟨loadsB rfl rfl hC_.1 0 ⟨by kernel_rfl, by kernel_rfl⟩, loadsB rfl rfl hC_.2 0 ⟨by kernel_rfl, by kernel_rfl⟩, trivial⟩) ?_
                refine XG_mid (fuel' := 2) 2 #[true, true, true, false, false] _ rfl (by kernel_rfl) (by kernel_rfl) rfl ?_
                have hB_333 : Below w_6.heap.size w_6 wd_325 := (bt (bg (bt hB_322 hb_314) hg_319 (hB_322).size) hb_326)
                refine XL_store (v := .agg #[.int .i64 1, .string (runesBytes (List.take n.toNat (U.scz o.text))), .int .i64 0, .int .i64 0, .string ByteArray.empty, .int .i64 0, .slice A_281 o.attrs.length c_282]) rfl rfl rfl (by kernel_rfl) (Blk.below hk_8 hB_333) 0 [.int .i64 1, .string (runesBytes (List.take n.toNat (U.scz o.text))), .int .i64 0, .int .i64 0, .string ByteArray.empty, .int .i64 0, .slice A_281 o.attrs.length c_282] #[.int .i64 1, .string (runesBytes (List.take n.toNat (U.scz o.text))), .int .i64 0, .int .i64 0, .string ByteArray.empty, .int .i64 0, .slice A_281 o.attrs.length c_282] ⟨by kernel_rfl, rfl, by kernel_rfl⟩ ⟨by kernel_rfl, by kernel_rfl⟩ (Nat.le_of_ble_eq_true (by kernel_rfl)) (fun w_329 hg_330 hk_331 hz_332 => ?_)
                have hne_334 : w_6.heap.size ≠ w_1.heap.size := Nat.ne_of_gt (Nat.lt_of_lt_of_le (Blk.lt hk_8) (Nat.le_refl _))
                have hB_335 : Below w_11.heap.size w_11 wd_325 := (bt (bg (bt hB_323 hb_314) hg_319 (hB_323).size) hb_326)
                have hk_336 := Blk.other (Blk.below hk_13 hB_335) hg_330 hne_334
                have hne_337 : w_60.heap.size ≠ w_1.heap.size := Nat.ne_of_gt (Nat.lt_of_lt_of_le (Blk.lt hk_8) (hB_291).size)
                have hk_338 := Blk.other (Blk.below hk_289 hB_328) hg_330 hne_337
                have hne_339 : w_308.heap.size ≠ w_1.heap.size := Nat.ne_of_gt (Nat.lt_of_lt_of_le (Blk.lt hk_8) (hB_322).size)
                have hk_340 := Blk.other (Blk.below hk_320 hb_326) hg_330 hne_339
                have hB_341 : Below w_6.heap.size w_6 w_302 := (bt (bt (bg (bt (bt hB_291 hb_276) hb_284) hg_288 (hB_291).size) hb_296) hb_303)
                have hB_343 : Below w_308.heap.size w_308 wd_325 := (bt (bg hb_314 hg_319 (Nat.le_refl _)) hb_326)
                have hr_342 := RX.Kd.R_past (Kd.R_below hr_311 hB_343) hg_330 (Nat.lt_of_lt_of_le (Blk.lt hk_8) (hB_341).size)
                have hr_344 := RX.Kd.R_past (Kd.R_below hr_293 hB_328) hg_330 (Nat.lt_of_lt_of_le (Blk.lt hk_8) ((bt hB_291 hb_276)).size)
                have hB_346 : Below w_53.heap.size w_53 wd_325 := (bt (bg (bt (bt (bt hB_301 hb_303) hb_309) hb_314) hg_319 ((bt (bt hB_301 hb_303) hb_309)).size) hb_326)
                have hr_345 := RX.Kd.R_past (Kd.R_below hr_52 hB_346) hg_330 (Nat.lt_of_lt_of_le (Blk.lt hk_8) ((bt (bt hb_12 hb_17) hb_34)).size)
                refine XL_nil ?_
                refine ⟨⟨hk_338, hk_340⟩, ?_⟩
                refine XG_mid (fuel' := 1) 3 #[true, true, true, true, false] _ rfl (by kernel_rfl) (by kernel_rfl) rfl ?_
                refine XL_store (v := .agg #[.int .i64 1, .string (runesBytes ((U.scz o.text).drop n.toNat)), .int .i64 0, .int .i64 0, .string ByteArray.empty, .int .i64 0, .slice A_306 o.attrs.length c_307]) rfl rfl rfl (by kernel_rfl) hk_336 0 [.int .i64 1, .string (runesBytes ((U.scz o.text).drop n.toNat)), .int .i64 0, .int .i64 0, .string ByteArray.empty, .int .i64 0, .slice A_306 o.attrs.length c_307] #[.int .i64 1, .string (runesBytes ((U.scz o.text).drop n.toNat)), .int .i64 0, .int .i64 0, .string ByteArray.empty, .int .i64 0, .slice A_306 o.attrs.length c_307] ⟨by kernel_rfl, rfl, by kernel_rfl⟩ ⟨by kernel_rfl, by kernel_rfl⟩ (Nat.le_of_ble_eq_true (by kernel_rfl)) (fun w_347 hg_348 hk_349 hz_350 => ?_)
                have hne_351 : w_1.heap.size ≠ w_6.heap.size := Nat.ne_of_lt (Nat.lt_of_lt_of_le (Blk.lt hk_8) (Nat.le_refl _))
                have hk_352 := Blk.other hk_331 hg_348 hne_351
                have hne_353 : w_60.heap.size ≠ w_6.heap.size := Nat.ne_of_gt (Nat.lt_of_lt_of_le (Blk.lt hk_13) (hB_292).size)
                have hk_354 := Blk.other hk_338 hg_348 hne_353
                have hne_355 : w_308.heap.size ≠ w_6.heap.size := Nat.ne_of_gt (Nat.lt_of_lt_of_le (Blk.lt hk_13) (hB_323).size)
                have hk_356 := Blk.other hk_340 hg_348 hne_355
                have hB_357 : Below w_11.heap.size w_11 w_302 := (bt (bt (bg (bt (bt hB_292 hb_276) hb_284) hg_288 (hB_292).size) hb_296) hb_303)
                have hr_358 := RX.Kd.R_past hr_342 hg_348 (Nat.lt_of_lt_of_le (Blk.lt hk_13) (hB_357).size)
                have hr_359 := RX.Kd.R_past hr_344 hg_348 (Nat.lt_of_lt_of_le (Blk.lt hk_13) ((bt hB_292 hb_276)).size)
                have hr_360 := RX.Kd.R_past hr_345 hg_348 (Nat.lt_of_lt_of_le (Blk.lt hk_13) ((bt hb_17 hb_34)).size)
                refine XL_nil ?_
                refine ⟨⟨hk_354, hk_356⟩, ?_⟩
                refine XG_run (fuel' := 0) ⟨hk_354, hk_356⟩ [4] [] [.int .i64 0] #[true, true, true, true, true] [(4, .pointer (some ⟨w_1.heap.size, 0, none⟩)), (5, .pointer (some ⟨w_6.heap.size, 0, none⟩)), (6, .int .i64 0)] (fun w_ => []) (fun _ _ _ _ h => h) (fun w_ => by kernel_rfl) rfl (fun w_ hC_ => trivial) ?_
                refine XG_done (by kernel_rfl) ?_
                refine X_ret ?_
                refine RX.ret_cellCCT (P := Tryd.prog) (fn := Tryd.f59) (N := 49) (R := R_) (c := 4) (d := 5) (t := 33) (t' := 33) (p := ⟨w_1.heap.size, 0, none⟩) (p' := ⟨w_6.heap.size, 0, none⟩) (v := .agg #[.int .i64 1, .string (runesBytes (List.take n.toNat (U.scz o.text))), .int .i64 0, .int .i64 0, .string ByteArray.empty, .int .i64 0, .slice A_281 o.attrs.length c_282]) (v' := .agg #[.int .i64 1, .string (runesBytes ((U.scz o.text).drop n.toNat)), .int .i64 0, .int .i64 0, .string ByteArray.empty, .int .i64 0, .slice A_306 o.attrs.length c_307]) (u := .int .i64 0) rfl rfl (loadsB rfl rfl hk_352 0 ⟨by kernel_rfl, by kernel_rfl⟩) rfl (loadsB rfl rfl hk_349 0 ⟨by kernel_rfl, by kernel_rfl⟩) rfl (hR_ _ _ ?_)
                have hB_361 : Below w.heap.size w w_347 := (bg (bg (bt (bg (bt (bt hB_305 hb_309) hb_314) hg_319 ((bt hB_305 hb_309)).size) hb_326) hg_330 (hb_2).size) hg_348 ((bt hb_2 hb_7)).size)
                have hr0 : refuseP o = 0 := by omega
                have hk1 : o.kind = 1 := by rcases refuse_kind hr0 with h_ | h_; (· exact h_); (· have h2_ := len4_2 h_; omega)
                have hl1 := len4_1 hk1
                have hct := cut_text (refuse_utf hr0).1 (q := n) (by omega) (by omega)
                rw [← hct.1, ← hct.2]
                rw [show cutO o n = (mkT (U.cutP o.text n).1 o.attrs, mkT (U.cutP o.text n).2.1 o.attrs, 0) from by unfold cutO; rw [if_neg (by omega), if_neg (by omega)]]
                exact ⟨_, _, _, _, rfl, Kd.R_low hr_359 (hB_280).size, Kd.R_low hr_358 (hB_305).size, hB_361⟩
              · refine XL_run 1 [] [(4, .pointer (some ⟨w_1.heap.size, 0, none⟩)), (5, .pointer (some ⟨w_6.heap.size, 0, none⟩)), (9, .pointer (some ⟨w_60.heap.size, 0, none⟩)), (10, .pointer (some ⟨w_302.heap.size, 0, none⟩)), (42, .string (runesBytes ((U.scz o.text).drop n.toNat))), (44, .slice A o.attrs.length c)] (w_302.alloc (.cells #[.int .i64 0, .string ByteArray.empty, .int .i64 0, .int .i64 0, .string ByteArray.empty, .int .i64 0, .slice none 0 0] 33)) [] (by kernel_rfl) trivial ?_
                obtain ⟨w_362, hw_366, hb_363, hk_364, hz_365⟩ := new_world w_302 #[.int .i64 0, .string ByteArray.empty, .int .i64 0, .int .i64 0, .string ByteArray.empty, .int .i64 0, .slice none 0 0] 33
                rw [hw_366]
                refine XL_nil ?_
                have hB_367 : Below w_1.heap.size w_1 w_362 := (bt (bt (bt hB_294 hb_296) hb_303) hb_363)
                refine ⟨(Blk.below hk_3 hB_367), ?_⟩
                refine XG_mid (fuel' := 2) 6 #[true, true, true, true, true, true, true, false, true, false] _ rfl (by kernel_rfl) (by kernel_rfl) rfl ?_
                have hB_368 : Below w.heap.size w w_60 := (bt (bt (bt (bt (bt (bt (bt hb_2 hb_7) hb_12) hb_17) hb_34) hb_54) hb_56) hb_61)
                have hB_369 : Below w.heap.size w w_362 := (bt (bt (bt (bg (bt hB_280 hb_284) hg_288 (hB_368).size) hb_296) hb_303) hb_363)
                refine XL_call 103 rfl rfl rfl ent103 [.slice A o.attrs.length c] (by kernel_rfl) (r4copied_any _ _ o.attrs _ (Kd.C_below hA hB_369) (by omega)) ?_
                rintro e w_372 ⟨A_370, c_371, rfl, hl_374, hr_375, hb_373⟩; refine ⟨_, rfl, ?_⟩
                refine XL_nil ?_
                refine ⟨(Blk.below hk_3 (bt hB_367 hb_373)), ?_⟩
                refine XG_run (fuel' := 1) (Blk.below hk_3 (bt hB_367 hb_373)) [7] [] [.agg #[.int .i64 1, .string (runesBytes ((U.scz o.text).drop n.toNat)), .int .i64 0, .int .i64 0, .string ByteArray.empty, .int .i64 0, .slice A_370 o.attrs.length c_371]] #[true, true, true, true, true, true, true, true, true, false] [(4, .pointer (some ⟨w_1.heap.size, 0, none⟩)), (5, .pointer (some ⟨w_6.heap.size, 0, none⟩)), (9, .pointer (some ⟨w_60.heap.size, 0, none⟩)), (10, .pointer (some ⟨w_302.heap.size, 0, none⟩)), (46, .agg #[.int .i64 1, .string (runesBytes ((U.scz o.text).drop n.toNat)), .int .i64 0, .int .i64 0, .string ByteArray.empty, .int .i64 0, .slice A_370 o.attrs.length c_371])] (fun w_ => []) (fun _ _ _ _ h => h) (fun w_ => by kernel_rfl) rfl (fun w_ hC_ => trivial) ?_
                refine XG_mid (fuel' := 0) 9 #[true, true, true, true, true, true, true, true, true, true] _ rfl (by kernel_rfl) (by kernel_rfl) rfl ?_
                refine XL_store (v := .agg #[.int .i64 1, .string (runesBytes ((U.scz o.text).drop n.toNat)), .int .i64 0, .int .i64 0, .string ByteArray.empty, .int .i64 0, .slice A_370 o.attrs.length c_371]) rfl rfl rfl (by kernel_rfl) (Blk.below hk_364 hb_373) 0 [.int .i64 1, .string (runesBytes ((U.scz o.text).drop n.toNat)), .int .i64 0, .int .i64 0, .string ByteArray.empty, .int .i64 0, .slice A_370 o.attrs.length c_371] #[.int .i64 1, .string (runesBytes ((U.scz o.text).drop n.toNat)), .int .i64 0, .int .i64 0, .string ByteArray.empty, .int .i64 0, .slice A_370 o.attrs.length c_371] ⟨by kernel_rfl, rfl, by kernel_rfl⟩ ⟨by kernel_rfl, by kernel_rfl⟩ (Nat.le_of_ble_eq_true (by kernel_rfl)) (fun w_376 hg_377 hk_378 hz_379 => ?_)
                have hB_380 : Below w_6.heap.size w_6 w_302 := (bt (bt (bg (bt (bt hB_291 hb_276) hb_284) hg_288 (hB_291).size) hb_296) hb_303)
                have hB_381 : Below w_11.heap.size w_11 w_302 := (bt (bt (bg (bt (bt hB_292 hb_276) hb_284) hg_288 (hB_292).size) hb_296) hb_303)
                have hr_382 := RX.Kd.R_past hr_375 hg_377 (Nat.lt_of_lt_of_le (Blk.lt hk_364) (Nat.le_refl _))
                refine XL_nil ?_
                have hB_383 : Below w_1.heap.size w_1 w_376 := (bg (bt hB_367 hb_373) hg_377 ((bt (bt hB_294 hb_296) hb_303)).size)
                refine ⟨(Blk.below hk_3 hB_383), ?_⟩
                refine XG_done (by kernel_rfl) ?_
                refine X_seq ?_
                refine X_gen (S := fun w_ => RX.Blk w_ w_60.heap.size 33 #[.int .i64 1, .string (runesBytes (List.take n.toNat (U.scz o.text))), .int .i64 0, .int .i64 0, .string ByteArray.empty, .int .i64 0, .slice A_281 o.attrs.length c_282] ∧ RX.Blk w_ w_302.heap.size 33 #[.int .i64 1, .string (runesBytes ((U.scz o.text).drop n.toNat)), .int .i64 0, .int .i64 0, .string ByteArray.empty, .int .i64 0, .slice A_370 o.attrs.length c_371]) [] 5 #[false, false, false, false, false] (by kernel_rfl) (by kernel_rfl) (by kernel_rfl) (fun wd_384 hb_385 hh_386 => ?_)
                have hB_387 : Below w_287.heap.size w_287 wd_384 := (bt (bg (bt (bt (bt hb_296 hb_303) hb_363) hb_373) hg_377 ((bt hb_296 hb_303)).size) hb_385)
                refine XG_run (fuel' := 3) ⟨(Blk.below hk_289 hB_387), (Blk.below hk_378 hb_385)⟩ [0, 1] [(47, .load (.agg #[.int .i64 1, .string (runesBytes (List.take n.toNat (U.scz o.text))), .int .i64 0, .int .i64 0, .string ByteArray.empty, .int .i64 0, .slice A_281 o.attrs.length c_282])), (48, .load (.agg #[.int .i64 1, .string (runesBytes ((U.scz o.text).drop n.toNat)), .int .i64 0, .int .i64 0, .string ByteArray.empty, .int .i64 0, .slice A_370 o.attrs.length c_371]))] [.agg #[.int .i64 1, .string (runesBytes (List.take n.toNat (U.scz o.text))), .int .i64 0, .int .i64 0, .string ByteArray.empty, .int .i64 0, .slice A_281 o.attrs.length c_282], .agg #[.int .i64 1, .string (runesBytes ((U.scz o.text).drop n.toNat)), .int .i64 0, .int .i64 0, .string ByteArray.empty, .int .i64 0, .slice A_370 o.attrs.length c_371]] #[true, true, false, false, false] [(4, .pointer (some ⟨w_1.heap.size, 0, none⟩)), (5, .pointer (some ⟨w_6.heap.size, 0, none⟩)), (47, .agg #[.int .i64 1, .string (runesBytes (List.take n.toNat (U.scz o.text))), .int .i64 0, .int .i64 0, .string ByteArray.empty, .int .i64 0, .slice A_281 o.attrs.length c_282]), (48, .agg #[.int .i64 1, .string (runesBytes ((U.scz o.text).drop n.toNat)), .int .i64 0, .int .i64 0, .string ByteArray.empty, .int .i64 0, .slice A_370 o.attrs.length c_371])] (fun w_ => [LoadsAs Tryd.prog 33 (⟨w_60.heap.size, 0, none⟩) (.agg #[.int .i64 1, .string (runesBytes (List.take n.toNat (U.scz o.text))), .int .i64 0, .int .i64 0, .string ByteArray.empty, .int .i64 0, .slice A_281 o.attrs.length c_282]) w_, LoadsAs Tryd.prog 33 (⟨w_302.heap.size, 0, none⟩) (.agg #[.int .i64 1, .string (runesBytes ((U.scz o.text).drop n.toNat)), .int .i64 0, .int .i64 0, .string ByteArray.empty, .int .i64 0, .slice A_370 o.attrs.length c_371]) w_]) (fun _ _ _ _ h => h) (fun w_ => by kernel_rfl) rfl (fun w_ hC_ => ⟨loadsB rfl rfl hC_.1 0 ⟨by kernel_rfl, by kernel_rfl⟩, loadsB rfl rfl hC_.2 0 ⟨by kernel_rfl, by kernel_rfl⟩, trivial⟩) ?_
                refine XG_mid (fuel' := 2) 2 #[true, true, true, false, false] _ rfl (by kernel_rfl) (by kernel_rfl) rfl ?_
                have hB_392 : Below w_6.heap.size w_6 wd_384 := (bt (bg (bt (bt hB_380 hb_363) hb_373) hg_377 (hB_380).size) hb_385)
                refine XL_store (v := .agg #[.int .i64 1, .string (runesBytes (List.take n.toNat (U.scz o.text))), .int .i64 0, .int .i64 0, .string ByteArray.empty, .int .i64 0, .slice A_281 o.attrs.length c_282]) rfl rfl rfl (by kernel_rfl) (Blk.below hk_8 hB_392) 0 [.int .i64 1, .string (runesBytes (List.take n.toNat (U.scz o.text))), .int .i64 0, .int .i64 0, .string ByteArray.empty, .int .i64 0, .slice A_281 o.attrs.length c_282] #[.int .i64 1, .string (runesBytes (List.take n.toNat (U.scz o.text))), .int .i64 0, .int .i64 0, .string ByteArray.empty, .int .i64 0, .slice A_281 o.attrs.length c_282] ⟨by kernel_rfl, rfl, by kernel_rfl⟩ ⟨by kernel_rfl, by kernel_rfl⟩ (Nat.le_of_ble_eq_true (by kernel_rfl)) (fun w_388 hg_389 hk_390 hz_391 => ?_)
                have hne_393 : w_6.heap.size ≠ w_1.heap.size := Nat.ne_of_gt (Nat.lt_of_lt_of_le (Blk.lt hk_8) (Nat.le_refl _))
                have hB_394 : Below w_11.heap.size w_11 wd_384 := (bt (bg (bt (bt hB_381 hb_363) hb_373) hg_377 (hB_381).size) hb_385)
                have hk_395 := Blk.other (Blk.below hk_13 hB_394) hg_389 hne_393
                have hne_396 : w_60.heap.size ≠ w_1.heap.size := Nat.ne_of_gt (Nat.lt_of_lt_of_le (Blk.lt hk_8) (hB_291).size)
                have hk_397 := Blk.other (Blk.below hk_289 hB_387) hg_389 hne_396
                have hne_398 : w_302.heap.size ≠ w_1.heap.size := Nat.ne_of_gt (Nat.lt_of_lt_of_le (Blk.lt hk_8) (hB_380).size)
                have hk_399 := Blk.other (Blk.below hk_378 hb_385) hg_389 hne_398
                have hr_400 := RX.Kd.R_past (Kd.R_below hr_382 hb_385) hg_389 (Nat.lt_of_lt_of_le (Blk.lt hk_8) ((bt hB_380 hb_363)).size)
                have hr_401 := RX.Kd.R_past (Kd.R_below hr_293 hB_387) hg_389 (Nat.lt_of_lt_of_le (Blk.lt hk_8) ((bt hB_291 hb_276)).size)
                have hB_403 : Below w_53.heap.size w_53 wd_384 := (bt (bg (bt (bt (bt hB_301 hb_303) hb_363) hb_373) hg_377 ((bt hB_301 hb_303)).size) hb_385)
                have hr_402 := RX.Kd.R_past (Kd.R_below hr_52 hB_403) hg_389 (Nat.lt_of_lt_of_le (Blk.lt hk_8) ((bt (bt hb_12 hb_17) hb_34)).size)
                refine XL_nil ?_
                refine ⟨⟨hk_397, hk_399⟩, ?_⟩
                refine XG_mid (fuel' := 1) 3 #[true, true, true, true, false] _ rfl (by kernel_rfl) (by kernel_rfl) rfl ?_
                refine XL_store (v := .agg #[.int .i64 1, .string (runesBytes ((U.scz o.text).drop n.toNat)), .int .i64 0, .int .i64 0, .string ByteArray.empty, .int .i64 0, .slice A_370 o.attrs.length c_371]) rfl rfl rfl (by kernel_rfl) hk_395 0 [.int .i64 1, .string (runesBytes ((U.scz o.text).drop n.toNat)), .int .i64 0, .int .i64 0, .string ByteArray.empty, .int .i64 0, .slice A_370 o.attrs.length c_371] #[.int .i64 1, .string (runesBytes ((U.scz o.text).drop n.toNat)), .int .i64 0, .int .i64 0, .string ByteArray.empty, .int .i64 0, .slice A_370 o.attrs.length c_371] ⟨by kernel_rfl, rfl, by kernel_rfl⟩ ⟨by kernel_rfl, by kernel_rfl⟩ (Nat.le_of_ble_eq_true (by kernel_rfl)) (fun w_404 hg_405 hk_406 hz_407 => ?_)
                have hne_408 : w_1.heap.size ≠ w_6.heap.size := Nat.ne_of_lt (Nat.lt_of_lt_of_le (Blk.lt hk_8) (Nat.le_refl _))
                have hk_409 := Blk.other hk_390 hg_405 hne_408
                have hne_410 : w_60.heap.size ≠ w_6.heap.size := Nat.ne_of_gt (Nat.lt_of_lt_of_le (Blk.lt hk_13) (hB_292).size)
                have hk_411 := Blk.other hk_397 hg_405 hne_410
                have hne_412 : w_302.heap.size ≠ w_6.heap.size := Nat.ne_of_gt (Nat.lt_of_lt_of_le (Blk.lt hk_13) (hB_381).size)
                have hk_413 := Blk.other hk_399 hg_405 hne_412
                have hr_414 := RX.Kd.R_past hr_400 hg_405 (Nat.lt_of_lt_of_le (Blk.lt hk_13) ((bt hB_381 hb_363)).size)
                have hr_415 := RX.Kd.R_past hr_401 hg_405 (Nat.lt_of_lt_of_le (Blk.lt hk_13) ((bt hB_292 hb_276)).size)
                have hr_416 := RX.Kd.R_past hr_402 hg_405 (Nat.lt_of_lt_of_le (Blk.lt hk_13) ((bt hb_17 hb_34)).size)
                refine XL_nil ?_
                refine ⟨⟨hk_411, hk_413⟩, ?_⟩
                refine XG_run (fuel' := 0) ⟨hk_411, hk_413⟩ [4] [] [.int .i64 0] #[true, true, true, true, true] [(4, .pointer (some ⟨w_1.heap.size, 0, none⟩)), (5, .pointer (some ⟨w_6.heap.size, 0, none⟩)), (6, .int .i64 0)] (fun w_ => []) (fun _ _ _ _ h => h) (fun w_ => by kernel_rfl) rfl (fun w_ hC_ => trivial) ?_
                refine XG_done (by kernel_rfl) ?_
                refine X_ret ?_
                refine RX.ret_cellCCT (P := Tryd.prog) (fn := Tryd.f59) (N := 49) (R := R_) (c := 4) (d := 5) (t := 33) (t' := 33) (p := ⟨w_1.heap.size, 0, none⟩) (p' := ⟨w_6.heap.size, 0, none⟩) (v := .agg #[.int .i64 1, .string (runesBytes (List.take n.toNat (U.scz o.text))), .int .i64 0, .int .i64 0, .string ByteArray.empty, .int .i64 0, .slice A_281 o.attrs.length c_282]) (v' := .agg #[.int .i64 1, .string (runesBytes ((U.scz o.text).drop n.toNat)), .int .i64 0, .int .i64 0, .string ByteArray.empty, .int .i64 0, .slice A_370 o.attrs.length c_371]) (u := .int .i64 0) rfl rfl (loadsB rfl rfl hk_409 0 ⟨by kernel_rfl, by kernel_rfl⟩) rfl (loadsB rfl rfl hk_406 0 ⟨by kernel_rfl, by kernel_rfl⟩) rfl (hR_ _ _ ?_)
                have hB_417 : Below w.heap.size w w_302 := (bt (bt (bg (bt hB_280 hb_284) hg_288 (hB_368).size) hb_296) hb_303)
                have hB_418 : Below w.heap.size w w_404 := (bg (bg (bt (bg (bt hB_369 hb_373) hg_377 (hB_417).size) hb_385) hg_389 (hb_2).size) hg_405 ((bt hb_2 hb_7)).size)
                have hr0 : refuseP o = 0 := by omega
                have hk1 : o.kind = 1 := by rcases refuse_kind hr0 with h_ | h_; (· exact h_); (· have h2_ := len4_2 h_; omega)
                have hl1 := len4_1 hk1
                have hct := cut_text (refuse_utf hr0).1 (q := n) (by omega) (by omega)
                rw [← hct.1, ← hct.2]
                rw [show cutO o n = (mkT (U.cutP o.text n).1 o.attrs, mkT (U.cutP o.text n).2.1 o.attrs, 0) from by unfold cutO; rw [if_neg (by omega), if_neg (by omega)]]
                exact ⟨_, _, _, _, rfl, Kd.R_low hr_415 (hB_280).size, Kd.R_low hr_414 (hB_369).size, hB_418⟩
            · refine XL_run 1 [] [(4, .pointer (some ⟨w_1.heap.size, 0, none⟩)), (5, .pointer (some ⟨w_6.heap.size, 0, none⟩)), (9, .pointer (some ⟨w_60.heap.size, 0, none⟩)), (10, .pointer (some ⟨wd_295.heap.size, 0, none⟩)), (41, .slice A_298 ((U.scz o.text).length - n.toNat) (c_50 - n.toNat)), (44, .slice A o.attrs.length c)] (wd_295.alloc (.cells #[.int .i64 0, .string ByteArray.empty, .int .i64 0, .int .i64 0, .string ByteArray.empty, .int .i64 0, .slice none 0 0] 33)) [] (by kernel_rfl) trivial ?_
              obtain ⟨w_419, hw_423, hb_420, hk_421, hz_422⟩ := new_world wd_295 #[.int .i64 0, .string ByteArray.empty, .int .i64 0, .int .i64 0, .string ByteArray.empty, .int .i64 0, .slice none 0 0] 33
              rw [hw_423]
              refine XL_nil ?_
              refine ⟨(Blk.below hk_3 (bt (bt hB_294 hb_296) hb_420)), ?_⟩
              refine XG_mid (fuel' := 3) 3 #[true, true, true, true, true, true, false, false, true, false] _ rfl (by kernel_rfl) (by kernel_rfl) rfl ?_
              have hB_424 : Below w_53.heap.size w_53 w_419 := (bt (bt (bg (bt (bt (bt hb_56 hb_61) hb_276) hb_284) hg_288 ((bt hb_56 hb_61)).size) hb_296) hb_420)
              refine XL_call 107 rfl rfl rfl ent107 [.slice A_298 ((U.scz o.text).length - n.toNat) (c_50 - n.toNat)] (by kernel_rfl) (by have h_ := refText_any A_298 (c_50 - n.toNat) ((U.scz o.text).drop n.toNat) w_419 (by rw [show ((U.scz o.text).drop n.toNat).length = ((U.scz o.text).length - n.toNat) from by first | (rw [List.length_take]; omega) | (rw [List.length_drop]; omega) | (rw [List.length_drop]; done)]; exact (Kd.C_below hC_300 hB_424)) (by first | (rw [List.length_take]; omega) | (rw [List.length_drop]; omega) | (rw [List.length_drop]; done)) (fun r hr => scz_vz o.text r (List.mem_of_mem_drop hr)); rw [show ((U.scz o.text).drop n.toNat).length = ((U.scz o.text).length - n.toNat) from by first | (rw [List.length_take]; omega) | (rw [List.length_drop]; omega) | (rw [List.length_drop]; done)] at h_; exact h_) ?_
              rintro e w_425 ⟨rfl, hb_426⟩; refine ⟨_, rfl, ?_⟩
              refine XL_nil ?_
              have hB_427 : Below w_1.heap.size w_1 w_425 := (bt (bt (bt hB_294 hb_296) hb_420) hb_426)
              refine ⟨(Blk.below hk_3 hB_427), ?_⟩
              refine XG_mid (fuel' := 2) 6 #[true, true, true, true, true, true, true, false, true, false] _ rfl (by kernel_rfl) (by kernel_rfl) rfl ?_
              have hB_428 : Below w.heap.size w w_60 := (bt (bt (bt (bt (bt (bt (bt hb_2 hb_7) hb_12) hb_17) hb_34) hb_54) hb_56) hb_61)
              have hB_429 : Below w.heap.size w w_425 := (bt (bt (bt (bg (bt hB_280 hb_284) hg_288 (hB_428).size) hb_296) hb_420) hb_426)
              refine XL_call 103 rfl rfl rfl ent103 [.slice A o.attrs.length c] (by kernel_rfl) (r4copied_any _ _ o.attrs _ (Kd.C_below hA hB_429) (by omega)) ?_
              rintro e w_432 ⟨A_430, c_431, rfl, hl_434, hr_435, hb_433⟩; refine ⟨_, rfl, ?_⟩
              refine XL_nil ?_
              refine ⟨(Blk.below hk_3 (bt hB_427 hb_433)), ?_⟩
              refine XG_run (fuel' := 1) (Blk.below hk_3 (bt hB_427 hb_433)) [7] [] [.agg #[.int .i64 1, .string (runesBytes ((U.scz o.text).drop n.toNat)), .int .i64 0, .int .i64 0, .string ByteArray.empty, .int .i64 0, .slice A_430 o.attrs.length c_431]] #[true, true, true, true, true, true, true, true, true, false] [(4, .pointer (some ⟨w_1.heap.size, 0, none⟩)), (5, .pointer (some ⟨w_6.heap.size, 0, none⟩)), (9, .pointer (some ⟨w_60.heap.size, 0, none⟩)), (10, .pointer (some ⟨wd_295.heap.size, 0, none⟩)), (46, .agg #[.int .i64 1, .string (runesBytes ((U.scz o.text).drop n.toNat)), .int .i64 0, .int .i64 0, .string ByteArray.empty, .int .i64 0, .slice A_430 o.attrs.length c_431])] (fun w_ => []) (fun _ _ _ _ h => h) (fun w_ => by kernel_rfl) rfl (fun w_ hC_ => trivial) ?_
              refine XG_mid (fuel' := 0) 9 #[true, true, true, true, true, true, true, true, true, true] _ rfl (by kernel_rfl) (by kernel_rfl) rfl ?_
              refine XL_store (v := .agg #[.int .i64 1, .string (runesBytes ((U.scz o.text).drop n.toNat)), .int .i64 0, .int .i64 0, .string ByteArray.empty, .int .i64 0, .slice A_430 o.attrs.length c_431]) rfl rfl rfl (by kernel_rfl) (Blk.below hk_421 (bt hb_426 hb_433)) 0 [.int .i64 1, .string (runesBytes ((U.scz o.text).drop n.toNat)), .int .i64 0, .int .i64 0, .string ByteArray.empty, .int .i64 0, .slice A_430 o.attrs.length c_431] #[.int .i64 1, .string (runesBytes ((U.scz o.text).drop n.toNat)), .int .i64 0, .int .i64 0, .string ByteArray.empty, .int .i64 0, .slice A_430 o.attrs.length c_431] ⟨by kernel_rfl, rfl, by kernel_rfl⟩ ⟨by kernel_rfl, by kernel_rfl⟩ (Nat.le_of_ble_eq_true (by kernel_rfl)) (fun w_436 hg_437 hk_438 hz_439 => ?_)
              have hB_440 : Below w_6.heap.size w_6 wd_295 := (bt (bg (bt (bt hB_291 hb_276) hb_284) hg_288 (hB_291).size) hb_296)
              have hB_441 : Below w_11.heap.size w_11 wd_295 := (bt (bg (bt (bt hB_292 hb_276) hb_284) hg_288 (hB_292).size) hb_296)
              have hr_442 := RX.Kd.R_past hr_435 hg_437 (Nat.lt_of_lt_of_le (Blk.lt hk_421) (hb_426).size)
              have hB_443 : Below w_53.heap.size w_53 wd_295 := (bt (bg (bt (bt (bt hb_56 hb_61) hb_276) hb_284) hg_288 ((bt hb_56 hb_61)).size) hb_296)
              refine XL_nil ?_
              have hB_444 : Below w_1.heap.size w_1 w_436 := (bg (bt hB_427 hb_433) hg_437 ((bt hB_294 hb_296)).size)
              refine ⟨(Blk.below hk_3 hB_444), ?_⟩
              refine XG_done (by kernel_rfl) ?_
              refine X_seq ?_
              refine X_gen (S := fun w_ => RX.Blk w_ w_60.heap.size 33 #[.int .i64 1, .string (runesBytes (List.take n.toNat (U.scz o.text))), .int .i64 0, .int .i64 0, .string ByteArray.empty, .int .i64 0, .slice A_281 o.attrs.length c_282] ∧ RX.Blk w_ wd_295.heap.size 33 #[.int .i64 1, .string (runesBytes ((U.scz o.text).drop n.toNat)), .int .i64 0, .int .i64 0, .string ByteArray.empty, .int .i64 0, .slice A_430 o.attrs.length c_431]) [] 5 #[false, false, false, false, false] (by kernel_rfl) (by kernel_rfl) (by kernel_rfl) (fun wd_445 hb_446 hh_447 => ?_)
              have hB_448 : Below w_287.heap.size w_287 wd_445 := (bt (bg (bt (bt (bt hb_296 hb_420) hb_426) hb_433) hg_437 (hb_296).size) hb_446)
              refine XG_run (fuel' := 3) ⟨(Blk.below hk_289 hB_448), (Blk.below hk_438 hb_446)⟩ [0, 1] [(47, .load (.agg #[.int .i64 1, .string (runesBytes (List.take n.toNat (U.scz o.text))), .int .i64 0, .int .i64 0, .string ByteArray.empty, .int .i64 0, .slice A_281 o.attrs.length c_282])), (48, .load (.agg #[.int .i64 1, .string (runesBytes ((U.scz o.text).drop n.toNat)), .int .i64 0, .int .i64 0, .string ByteArray.empty, .int .i64 0, .slice A_430 o.attrs.length c_431]))] [.agg #[.int .i64 1, .string (runesBytes (List.take n.toNat (U.scz o.text))), .int .i64 0, .int .i64 0, .string ByteArray.empty, .int .i64 0, .slice A_281 o.attrs.length c_282], .agg #[.int .i64 1, .string (runesBytes ((U.scz o.text).drop n.toNat)), .int .i64 0, .int .i64 0, .string ByteArray.empty, .int .i64 0, .slice A_430 o.attrs.length c_431]] #[true, true, false, false, false] [(4, .pointer (some ⟨w_1.heap.size, 0, none⟩)), (5, .pointer (some ⟨w_6.heap.size, 0, none⟩)), (47, .agg #[.int .i64 1, .string (runesBytes (List.take n.toNat (U.scz o.text))), .int .i64 0, .int .i64 0, .string ByteArray.empty, .int .i64 0, .slice A_281 o.attrs.length c_282]), (48, .agg #[.int .i64 1, .string (runesBytes ((U.scz o.text).drop n.toNat)), .int .i64 0, .int .i64 0, .string ByteArray.empty, .int .i64 0, .slice A_430 o.attrs.length c_431])] (fun w_ => [LoadsAs Tryd.prog 33 (⟨w_60.heap.size, 0, none⟩) (.agg #[.int .i64 1, .string (runesBytes (List.take n.toNat (U.scz o.text))), .int .i64 0, .int .i64 0, .string ByteArray.empty, .int .i64 0, .slice A_281 o.attrs.length c_282]) w_, LoadsAs Tryd.prog 33 (⟨wd_295.heap.size, 0, none⟩) (.agg #[.int .i64 1, .string (runesBytes ((U.scz o.text).drop n.toNat)), .int .i64 0, .int .i64 0, .string ByteArray.empty, .int .i64 0, .slice A_430 o.attrs.length c_431]) w_]) (fun _ _ _ _ h => h) (fun w_ => by kernel_rfl) rfl (fun w_ hC_ => ⟨loadsB rfl rfl hC_.1 0 ⟨by kernel_rfl, by kernel_rfl⟩, loadsB rfl rfl hC_.2 0 ⟨by kernel_rfl, by kernel_rfl⟩, trivial⟩) ?_
              refine XG_mid (fuel' := 2) 2 #[true, true, true, false, false] _ rfl (by kernel_rfl) (by kernel_rfl) rfl ?_
              have hB_453 : Below w_6.heap.size w_6 wd_445 := (bt (bg (bt (bt (bt hB_440 hb_420) hb_426) hb_433) hg_437 (hB_440).size) hb_446)
              refine XL_store (v := .agg #[.int .i64 1, .string (runesBytes (List.take n.toNat (U.scz o.text))), .int .i64 0, .int .i64 0, .string ByteArray.empty, .int .i64 0, .slice A_281 o.attrs.length c_282]) rfl rfl rfl (by kernel_rfl) (Blk.below hk_8 hB_453) 0 [.int .i64 1, .string (runesBytes (List.take n.toNat (U.scz o.text))), .int .i64 0, .int .i64 0, .string ByteArray.empty, .int .i64 0, .slice A_281 o.attrs.length c_282] #[.int .i64 1, .string (runesBytes (List.take n.toNat (U.scz o.text))), .int .i64 0, .int .i64 0, .string ByteArray.empty, .int .i64 0, .slice A_281 o.attrs.length c_282] ⟨by kernel_rfl, rfl, by kernel_rfl⟩ ⟨by kernel_rfl, by kernel_rfl⟩ (Nat.le_of_ble_eq_true (by kernel_rfl)) (fun w_449 hg_450 hk_451 hz_452 => ?_)
              have hne_454 : w_6.heap.size ≠ w_1.heap.size := Nat.ne_of_gt (Nat.lt_of_lt_of_le (Blk.lt hk_8) (Nat.le_refl _))
              have hB_455 : Below w_11.heap.size w_11 wd_445 := (bt (bg (bt (bt (bt hB_441 hb_420) hb_426) hb_433) hg_437 (hB_441).size) hb_446)
              have hk_456 := Blk.other (Blk.below hk_13 hB_455) hg_450 hne_454
              have hne_457 : w_60.heap.size ≠ w_1.heap.size := Nat.ne_of_gt (Nat.lt_of_lt_of_le (Blk.lt hk_8) (hB_291).size)
              have hk_458 := Blk.other (Blk.below hk_289 hB_448) hg_450 hne_457
              have hne_459 : wd_295.heap.size ≠ w_1.heap.size := Nat.ne_of_gt (Nat.lt_of_lt_of_le (Blk.lt hk_8) (hB_440).size)
              have hk_460 := Blk.other (Blk.below hk_438 hb_446) hg_450 hne_459
              have hr_461 := RX.Kd.R_past (Kd.R_below hr_442 hb_446) hg_450 (Nat.lt_of_lt_of_le (Blk.lt hk_8) ((bt (bt hB_440 hb_420) hb_426)).size)
              have hr_462 := RX.Kd.R_past (Kd.R_below hr_293 hB_448) hg_450 (Nat.lt_of_lt_of_le (Blk.lt hk_8) ((bt hB_291 hb_276)).size)
              have hB_464 : Below w_53.heap.size w_53 wd_445 := (bt (bg (bt (bt hB_424 hb_426) hb_433) hg_437 (hB_443).size) hb_446)
              have hr_463 := RX.Kd.R_past (Kd.R_below hr_52 hB_464) hg_450 (Nat.lt_of_lt_of_le (Blk.lt hk_8) ((bt (bt hb_12 hb_17) hb_34)).size)
              refine XL_nil ?_
              refine ⟨⟨hk_458, hk_460⟩, ?_⟩
              refine XG_mid (fuel' := 1) 3 #[true, true, true, true, false] _ rfl (by kernel_rfl) (by kernel_rfl) rfl ?_
              refine XL_store (v := .agg #[.int .i64 1, .string (runesBytes ((U.scz o.text).drop n.toNat)), .int .i64 0, .int .i64 0, .string ByteArray.empty, .int .i64 0, .slice A_430 o.attrs.length c_431]) rfl rfl rfl (by kernel_rfl) hk_456 0 [.int .i64 1, .string (runesBytes ((U.scz o.text).drop n.toNat)), .int .i64 0, .int .i64 0, .string ByteArray.empty, .int .i64 0, .slice A_430 o.attrs.length c_431] #[.int .i64 1, .string (runesBytes ((U.scz o.text).drop n.toNat)), .int .i64 0, .int .i64 0, .string ByteArray.empty, .int .i64 0, .slice A_430 o.attrs.length c_431] ⟨by kernel_rfl, rfl, by kernel_rfl⟩ ⟨by kernel_rfl, by kernel_rfl⟩ (Nat.le_of_ble_eq_true (by kernel_rfl)) (fun w_465 hg_466 hk_467 hz_468 => ?_)
              have hne_469 : w_1.heap.size ≠ w_6.heap.size := Nat.ne_of_lt (Nat.lt_of_lt_of_le (Blk.lt hk_8) (Nat.le_refl _))
              have hk_470 := Blk.other hk_451 hg_466 hne_469
              have hne_471 : w_60.heap.size ≠ w_6.heap.size := Nat.ne_of_gt (Nat.lt_of_lt_of_le (Blk.lt hk_13) (hB_292).size)
              have hk_472 := Blk.other hk_458 hg_466 hne_471
              have hne_473 : wd_295.heap.size ≠ w_6.heap.size := Nat.ne_of_gt (Nat.lt_of_lt_of_le (Blk.lt hk_13) (hB_441).size)
              have hk_474 := Blk.other hk_460 hg_466 hne_473
              have hr_475 := RX.Kd.R_past hr_461 hg_466 (Nat.lt_of_lt_of_le (Blk.lt hk_13) ((bt (bt hB_441 hb_420) hb_426)).size)
              have hr_476 := RX.Kd.R_past hr_462 hg_466 (Nat.lt_of_lt_of_le (Blk.lt hk_13) ((bt hB_292 hb_276)).size)
              have hr_477 := RX.Kd.R_past hr_463 hg_466 (Nat.lt_of_lt_of_le (Blk.lt hk_13) ((bt hb_17 hb_34)).size)
              refine XL_nil ?_
              refine ⟨⟨hk_472, hk_474⟩, ?_⟩
              refine XG_run (fuel' := 0) ⟨hk_472, hk_474⟩ [4] [] [.int .i64 0] #[true, true, true, true, true] [(4, .pointer (some ⟨w_1.heap.size, 0, none⟩)), (5, .pointer (some ⟨w_6.heap.size, 0, none⟩)), (6, .int .i64 0)] (fun w_ => []) (fun _ _ _ _ h => h) (fun w_ => by kernel_rfl) rfl (fun w_ hC_ => trivial) ?_
              refine XG_done (by kernel_rfl) ?_
              refine X_ret ?_
              refine RX.ret_cellCCT (P := Tryd.prog) (fn := Tryd.f59) (N := 49) (R := R_) (c := 4) (d := 5) (t := 33) (t' := 33) (p := ⟨w_1.heap.size, 0, none⟩) (p' := ⟨w_6.heap.size, 0, none⟩) (v := .agg #[.int .i64 1, .string (runesBytes (List.take n.toNat (U.scz o.text))), .int .i64 0, .int .i64 0, .string ByteArray.empty, .int .i64 0, .slice A_281 o.attrs.length c_282]) (v' := .agg #[.int .i64 1, .string (runesBytes ((U.scz o.text).drop n.toNat)), .int .i64 0, .int .i64 0, .string ByteArray.empty, .int .i64 0, .slice A_430 o.attrs.length c_431]) (u := .int .i64 0) rfl rfl (loadsB rfl rfl hk_470 0 ⟨by kernel_rfl, by kernel_rfl⟩) rfl (loadsB rfl rfl hk_467 0 ⟨by kernel_rfl, by kernel_rfl⟩) rfl (hR_ _ _ ?_)
              have hB_478 : Below w.heap.size w wd_295 := (bt (bg (bt hB_280 hb_284) hg_288 (hB_428).size) hb_296)
              have hB_479 : Below w.heap.size w w_465 := (bg (bg (bt (bg (bt hB_429 hb_433) hg_437 (hB_478).size) hb_446) hg_450 (hb_2).size) hg_466 ((bt hb_2 hb_7)).size)
              have hr0 : refuseP o = 0 := by omega
              have hk1 : o.kind = 1 := by rcases refuse_kind hr0 with h_ | h_; (· exact h_); (· have h2_ := len4_2 h_; omega)
              have hl1 := len4_1 hk1
              have hct := cut_text (refuse_utf hr0).1 (q := n) (by omega) (by omega)
              rw [← hct.1, ← hct.2]
              rw [show cutO o n = (mkT (U.cutP o.text n).1 o.attrs, mkT (U.cutP o.text n).2.1 o.attrs, 0) from by unfold cutO; rw [if_neg (by omega), if_neg (by omega)]]
              exact ⟨_, _, _, _, rfl, Kd.R_low hr_476 (hB_280).size, Kd.R_low hr_475 (hB_429).size, hB_479⟩
        · refine XL_run 1 [] [(1, .int .i64 n), (2, .pointer (some ⟨w.heap.size, 0, none⟩)), (4, .pointer (some ⟨w_1.heap.size, 0, none⟩)), (5, .pointer (some ⟨w_6.heap.size, 0, none⟩)), (8, .slice a_49 ((U.scz o.text).length) c_50), (9, .pointer (some ⟨wd_55.heap.size, 0, none⟩)), (33, .slice a_49 n.toNat c_50), (36, .slice A o.attrs.length c)] (wd_55.alloc (.cells #[.int .i64 0, .string ByteArray.empty, .int .i64 0, .int .i64 0, .string ByteArray.empty, .int .i64 0, .slice none 0 0] 33)) [] (by kernel_rfl) trivial ?_
          obtain ⟨w_480, hw_484, hb_481, hk_482, hz_483⟩ := new_world wd_55 #[.int .i64 0, .string ByteArray.empty, .int .i64 0, .int .i64 0, .string ByteArray.empty, .int .i64 0, .slice none 0 0] 33
          rw [hw_484]
          refine XL_nil ?_
          refine ⟨(Blk.below hk_3 (bt hB_59 hb_481)), ?_⟩
          refine XG_mid (fuel' := 3) 3 #[true, true, true, true, true, true, false, false, true, false] _ rfl (by kernel_rfl) (by kernel_rfl) rfl ?_
          refine XL_call 107 rfl rfl rfl ent107 [.slice a_49 n.toNat c_50] (by kernel_rfl) (by have h_ := refText_any a_49 c_50 (List.take n.toNat (U.scz o.text)) w_480 (by rw [show (List.take n.toNat (U.scz o.text)).length = n.toNat from by first | (rw [List.length_take]; omega) | (rw [List.length_drop]; omega) | (rw [List.length_drop]; done)]; exact (Kd.C_below hC_58 (bt hb_56 hb_481))) (by first | (rw [List.length_take]; omega) | (rw [List.length_drop]; omega) | (rw [List.length_drop]; done)) (fun r hr => scz_vz o.text r (List.mem_of_mem_take hr)); rw [show (List.take n.toNat (U.scz o.text)).length = n.toNat from by first | (rw [List.length_take]; omega) | (rw [List.length_drop]; omega) | (rw [List.length_drop]; done)] at h_; exact h_) ?_
          rintro e w_485 ⟨rfl, hb_486⟩; refine ⟨_, rfl, ?_⟩
          refine XL_nil ?_
          refine ⟨(Blk.below hk_3 (bt (bt hB_59 hb_481) hb_486)), ?_⟩
          refine XG_mid (fuel' := 2) 6 #[true, true, true, true, true, true, true, false, true, false] _ rfl (by kernel_rfl) (by kernel_rfl) rfl ?_
          have hB_487 : Below w.heap.size w w_485 := (bt (bt (bt (bt (bt (bt (bt (bt hb_2 hb_7) hb_12) hb_17) hb_34) hb_54) hb_56) hb_481) hb_486)
          refine XL_call 103 rfl rfl rfl ent103 [.slice A o.attrs.length c] (by kernel_rfl) (r4copied_any _ _ o.attrs _ (Kd.C_below hA hB_487) (by omega)) ?_
          rintro e w_490 ⟨A_488, c_489, rfl, hl_492, hr_493, hb_491⟩; refine ⟨_, rfl, ?_⟩
          refine XL_nil ?_
          have hB_494 : Below w_1.heap.size w_1 w_490 := (bt (bt (bt hB_59 hb_481) hb_486) hb_491)
          refine ⟨(Blk.below hk_3 hB_494), ?_⟩
          refine XG_run (fuel' := 1) (Blk.below hk_3 hB_494) [7] [] [.agg #[.int .i64 1, .string (runesBytes (List.take n.toNat (U.scz o.text))), .int .i64 0, .int .i64 0, .string ByteArray.empty, .int .i64 0, .slice A_488 o.attrs.length c_489]] #[true, true, true, true, true, true, true, true, true, false] [(1, .int .i64 n), (2, .pointer (some ⟨w.heap.size, 0, none⟩)), (4, .pointer (some ⟨w_1.heap.size, 0, none⟩)), (5, .pointer (some ⟨w_6.heap.size, 0, none⟩)), (8, .slice a_49 ((U.scz o.text).length) c_50), (9, .pointer (some ⟨wd_55.heap.size, 0, none⟩)), (38, .agg #[.int .i64 1, .string (runesBytes (List.take n.toNat (U.scz o.text))), .int .i64 0, .int .i64 0, .string ByteArray.empty, .int .i64 0, .slice A_488 o.attrs.length c_489])] (fun w_ => []) (fun _ _ _ _ h => h) (fun w_ => by kernel_rfl) rfl (fun w_ hC_ => trivial) ?_
          refine XG_mid (fuel' := 0) 9 #[true, true, true, true, true, true, true, true, true, true] _ rfl (by kernel_rfl) (by kernel_rfl) rfl ?_
          refine XL_store (v := .agg #[.int .i64 1, .string (runesBytes (List.take n.toNat (U.scz o.text))), .int .i64 0, .int .i64 0, .string ByteArray.empty, .int .i64 0, .slice A_488 o.attrs.length c_489]) rfl rfl rfl (by kernel_rfl) (Blk.below hk_482 (bt hb_486 hb_491)) 0 [.int .i64 1, .string (runesBytes (List.take n.toNat (U.scz o.text))), .int .i64 0, .int .i64 0, .string ByteArray.empty, .int .i64 0, .slice A_488 o.attrs.length c_489] #[.int .i64 1, .string (runesBytes (List.take n.toNat (U.scz o.text))), .int .i64 0, .int .i64 0, .string ByteArray.empty, .int .i64 0, .slice A_488 o.attrs.length c_489] ⟨by kernel_rfl, rfl, by kernel_rfl⟩ ⟨by kernel_rfl, by kernel_rfl⟩ (Nat.le_of_ble_eq_true (by kernel_rfl)) (fun w_495 hg_496 hk_497 hz_498 => ?_)
          have hB_499 : Below w_6.heap.size w_6 wd_55 := (bt (bt (bt (bt hb_12 hb_17) hb_34) hb_54) hb_56)
          have hr_500 := RX.Kd.R_past hr_493 hg_496 (Nat.lt_of_lt_of_le (Blk.lt hk_482) (hb_486).size)
          refine XL_nil ?_
          refine ⟨(Blk.below hk_3 (bg hB_494 hg_496 (hB_59).size)), ?_⟩
          refine XG_done (by kernel_rfl) ?_
          refine X_seq ?_
          refine X_gen (S := fun w_ => RX.Blk w_ w.heap.size 33 #[.int .i64 o.kind, .string o.text, .int .i64 o.vk, .int .i64 o.vn, .string o.vt, .int .i64 o.count, .slice A o.attrs.length c]) [] 10 #[false, false, false, false, false, false, false, false, false, false] (by kernel_rfl) (by kernel_rfl) (by kernel_rfl) (fun wd_501 hb_502 hh_503 => ?_)
          obtain ⟨A_504, hA_505⟩ : ∃ A_, (if c_50 = n.toNat then a_49 else a_49.map (·.add (n.toNat * 1))) = A_ := ⟨_, rfl⟩
          have hC_506 : (Kd.int .i32).C w_53 A_504 (((U.scz o.text).length) - n.toNat) ((U.scz o.text).drop n.toNat) := by have h := RX.Kd.C_drop (Kd.R_C hr_52) (k := n.toNat) (cap := c_50) (by omega) (by omega); first | (rw [← hA_505]; exact h)
          have hB_507 : Below w_1.heap.size w_1 wd_501 := (bt (bg hB_494 hg_496 (hB_59).size) hb_502)
          refine XG_run (fuel' := 5) (Blk.below hk_3 hB_507) [0, 1, 2, 4, 5] [(41, .as (.slice A_504 ((U.scz o.text).length - n.toNat) (c_50 - n.toNat))), (44, .load (.slice A o.attrs.length c))] [.slice a_49 ((U.scz o.text).length) c_50, .int .i64 n, .slice A_504 ((U.scz o.text).length - n.toNat) (c_50 - n.toNat), .pointer (some ⟨w.heap.size, 6, none⟩), .slice A o.attrs.length c] #[true, true, true, false, true, true, false, false, false, false] [(4, .pointer (some ⟨w_1.heap.size, 0, none⟩)), (5, .pointer (some ⟨w_6.heap.size, 0, none⟩)), (9, .pointer (some ⟨wd_55.heap.size, 0, none⟩)), (41, .slice A_504 ((U.scz o.text).length - n.toNat) (c_50 - n.toNat)), (44, .slice A o.attrs.length c)] (fun w_ => [RunsAs Tryd.prog [(39, .slice a_49 ((U.scz o.text).length) c_50), (40, .int .i64 n)] (Go.Op.slice 150 (Go.Operand.tmp 39) (some (Go.Operand.tmp 40)) none none) 150 (.slice A_504 ((U.scz o.text).length - n.toNat) (c_50 - n.toNat)) w_, LoadsAs Tryd.prog 31 (⟨w.heap.size, 6, none⟩) (.slice A o.attrs.length c) w_]) (fun _ _ _ _ h => h) (fun w_ => by kernel_rfl) rfl (fun w_ hC_ => ⟨(hA_505 ▸ runs_slice_l (h := n) rfl rfl rfl rfl (by omega) (by omega) (by omega)), loads1 rfl (Blk.cell hC_ 6 _ rfl), trivial⟩) ?_
          refine XG_two (fuel' := 4) 3 8 #[true, true, true, true, true, true, false, false, false, false] #[true, true, true, false, true, true, false, false, true, false] _ _ rfl rfl (by kernel_rfl) (by kernel_rfl) (by kernel_rfl) rfl ?_ ?_
          · have hB_508 : Below w_53.heap.size w_53 wd_501 := (bt (bg (bt (bt (bt hb_56 hb_481) hb_486) hb_491) hg_496 (hb_56).size) hb_502)
            refine XL_call 107 rfl rfl rfl ent107 [.slice A_504 ((U.scz o.text).length - n.toNat) (c_50 - n.toNat)] (by kernel_rfl) (by have h_ := refText_any A_504 (c_50 - n.toNat) ((U.scz o.text).drop n.toNat) wd_501 (by rw [show ((U.scz o.text).drop n.toNat).length = ((U.scz o.text).length - n.toNat) from by first | (rw [List.length_take]; omega) | (rw [List.length_drop]; omega) | (rw [List.length_drop]; done)]; exact (Kd.C_below hC_506 hB_508)) (by first | (rw [List.length_take]; omega) | (rw [List.length_drop]; omega) | (rw [List.length_drop]; done)) (fun r hr => scz_vz o.text r (List.mem_of_mem_drop hr)); rw [show ((U.scz o.text).drop n.toNat).length = ((U.scz o.text).length - n.toNat) from by first | (rw [List.length_take]; omega) | (rw [List.length_drop]; omega) | (rw [List.length_drop]; done)] at h_; exact h_) ?_
            rintro e w_509 ⟨rfl, hb_510⟩; refine ⟨_, rfl, ?_⟩
            refine XL_nil ?_
            refine ⟨(Blk.below hk_3 (bt hB_507 hb_510)), ?_⟩
            refine XG_two (fuel' := 3) 6 8 #[true, true, true, true, true, true, true, false, false, false] #[true, true, true, true, true, true, false, false, true, false] _ _ rfl rfl (by kernel_rfl) (by kernel_rfl) (by kernel_rfl) rfl ?_ ?_
            · have hB_511 : Below w.heap.size w wd_55 := (bt (bt (bt (bt (bt (bt hb_2 hb_7) hb_12) hb_17) hb_34) hb_54) hb_56)
              have hB_512 : Below w.heap.size w w_509 := (bt (bt (bg (bt hB_487 hb_491) hg_496 (hB_511).size) hb_502) hb_510)
              refine XL_call 103 rfl rfl rfl ent103 [.slice A o.attrs.length c] (by kernel_rfl) (r4copied_any _ _ o.attrs _ (Kd.C_below hA hB_512) (by omega)) ?_
              rintro e w_515 ⟨A_513, c_514, rfl, hl_517, hr_518, hb_516⟩; refine ⟨_, rfl, ?_⟩
              refine XL_nil ?_
              refine ⟨(Blk.below hk_3 (bt (bt hB_507 hb_510) hb_516)), ?_⟩
              refine XG_run (fuel' := 2) (Blk.below hk_3 (bt (bt hB_507 hb_510) hb_516)) [7] [] [.agg #[.int .i64 1, .string (runesBytes ((U.scz o.text).drop n.toNat)), .int .i64 0, .int .i64 0, .string ByteArray.empty, .int .i64 0, .slice A_513 o.attrs.length c_514]] #[true, true, true, true, true, true, true, true, false, false] [(4, .pointer (some ⟨w_1.heap.size, 0, none⟩)), (5, .pointer (some ⟨w_6.heap.size, 0, none⟩)), (9, .pointer (some ⟨wd_55.heap.size, 0, none⟩)), (46, .agg #[.int .i64 1, .string (runesBytes ((U.scz o.text).drop n.toNat)), .int .i64 0, .int .i64 0, .string ByteArray.empty, .int .i64 0, .slice A_513 o.attrs.length c_514])] (fun w_ => []) (fun _ _ _ _ h => h) (fun w_ => by kernel_rfl) rfl (fun w_ hC_ => trivial) ?_
              refine XG_mid (fuel' := 1) 8 #[true, true, true, true, true, true, true, true, true, false] _ rfl (by kernel_rfl) (by kernel_rfl) rfl ?_
              refine XL_run 1 [] [(4, .pointer (some ⟨w_1.heap.size, 0, none⟩)), (5, .pointer (some ⟨w_6.heap.size, 0, none⟩)), (9, .pointer (some ⟨wd_55.heap.size, 0, none⟩)), (10, .pointer (some ⟨w_515.heap.size, 0, none⟩)), (46, .agg #[.int .i64 1, .string (runesBytes ((U.scz o.text).drop n.toNat)), .int .i64 0, .int .i64 0, .string ByteArray.empty, .int .i64 0, .slice A_513 o.attrs.length c_514])] (w_515.alloc (.cells #[.int .i64 0, .string ByteArray.empty, .int .i64 0, .int .i64 0, .string ByteArray.empty, .int .i64 0, .slice none 0 0] 33)) [] (by kernel_rfl) trivial ?_
              obtain ⟨w_519, hw_523, hb_520, hk_521, hz_522⟩ := new_world w_515 #[.int .i64 0, .string ByteArray.empty, .int .i64 0, .int .i64 0, .string ByteArray.empty, .int .i64 0, .slice none 0 0] 33
              rw [hw_523]
              refine XL_nil ?_
              have hB_524 : Below w_1.heap.size w_1 w_519 := (bt (bt (bt hB_507 hb_510) hb_516) hb_520)
              refine ⟨(Blk.below hk_3 hB_524), ?_⟩
              refine XG_mid (fuel' := 0) 9 #[true, true, true, true, true, true, true, true, true, true] _ rfl (by kernel_rfl) (by kernel_rfl) rfl ?_
              refine XL_store (v := .agg #[.int .i64 1, .string (runesBytes ((U.scz o.text).drop n.toNat)), .int .i64 0, .int .i64 0, .string ByteArray.empty, .int .i64 0, .slice A_513 o.attrs.length c_514]) rfl rfl rfl (by kernel_rfl) hk_521 0 [.int .i64 1, .string (runesBytes ((U.scz o.text).drop n.toNat)), .int .i64 0, .int .i64 0, .string ByteArray.empty, .int .i64 0, .slice A_513 o.attrs.length c_514] #[.int .i64 1, .string (runesBytes ((U.scz o.text).drop n.toNat)), .int .i64 0, .int .i64 0, .string ByteArray.empty, .int .i64 0, .slice A_513 o.attrs.length c_514] ⟨by kernel_rfl, rfl, by kernel_rfl⟩ ⟨by kernel_rfl, by kernel_rfl⟩ (Nat.le_of_ble_eq_true (by kernel_rfl)) (fun w_525 hg_526 hk_527 hz_528 => ?_)
              have hB_529 : Below w_6.heap.size w_6 w_515 := (bt (bt (bt (bg (bt (bt (bt hB_499 hb_481) hb_486) hb_491) hg_496 (hB_499).size) hb_502) hb_510) hb_516)
              have hB_530 : Below w_11.heap.size w_11 w_515 := (bt (bt (bt (bg (bt (bt (bt (bt (bt (bt hb_17 hb_34) hb_54) hb_56) hb_481) hb_486) hb_491) hg_496 ((bt (bt (bt hb_17 hb_34) hb_54) hb_56)).size) hb_502) hb_510) hb_516)
              refine XL_nil ?_
              have hB_531 : Below w_1.heap.size w_1 w_525 := (bg hB_524 hg_526 ((bt (bt hB_507 hb_510) hb_516)).size)
              refine ⟨(Blk.below hk_3 hB_531), ?_⟩
              refine XG_done (by kernel_rfl) ?_
              refine X_seq ?_
              refine X_gen (S := fun w_ => RX.Blk w_ wd_55.heap.size 33 #[.int .i64 1, .string (runesBytes (List.take n.toNat (U.scz o.text))), .int .i64 0, .int .i64 0, .string ByteArray.empty, .int .i64 0, .slice A_488 o.attrs.length c_489] ∧ RX.Blk w_ w_515.heap.size 33 #[.int .i64 1, .string (runesBytes ((U.scz o.text).drop n.toNat)), .int .i64 0, .int .i64 0, .string ByteArray.empty, .int .i64 0, .slice A_513 o.attrs.length c_514]) [] 5 #[false, false, false, false, false] (by kernel_rfl) (by kernel_rfl) (by kernel_rfl) (fun wd_532 hb_533 hh_534 => ?_)
              have hB_535 : Below w_495.heap.size w_495 wd_532 := (bt (bg (bt (bt (bt hb_502 hb_510) hb_516) hb_520) hg_526 ((bt (bt hb_502 hb_510) hb_516)).size) hb_533)
              refine XG_run (fuel' := 3) ⟨(Blk.below hk_497 hB_535), (Blk.below hk_527 hb_533)⟩ [0, 1] [(47, .load (.agg #[.int .i64 1, .string (runesBytes (List.take n.toNat (U.scz o.text))), .int .i64 0, .int .i64 0, .string ByteArray.empty, .int .i64 0, .slice A_488 o.attrs.length c_489])), (48, .load (.agg #[.int .i64 1, .string (runesBytes ((U.scz o.text).drop n.toNat)), .int .i64 0, .int .i64 0, .string ByteArray.empty, .int .i64 0, .slice A_513 o.attrs.length c_514]))] [.agg #[.int .i64 1, .string (runesBytes (List.take n.toNat (U.scz o.text))), .int .i64 0, .int .i64 0, .string ByteArray.empty, .int .i64 0, .slice A_488 o.attrs.length c_489], .agg #[.int .i64 1, .string (runesBytes ((U.scz o.text).drop n.toNat)), .int .i64 0, .int .i64 0, .string ByteArray.empty, .int .i64 0, .slice A_513 o.attrs.length c_514]] #[true, true, false, false, false] [(4, .pointer (some ⟨w_1.heap.size, 0, none⟩)), (5, .pointer (some ⟨w_6.heap.size, 0, none⟩)), (47, .agg #[.int .i64 1, .string (runesBytes (List.take n.toNat (U.scz o.text))), .int .i64 0, .int .i64 0, .string ByteArray.empty, .int .i64 0, .slice A_488 o.attrs.length c_489]), (48, .agg #[.int .i64 1, .string (runesBytes ((U.scz o.text).drop n.toNat)), .int .i64 0, .int .i64 0, .string ByteArray.empty, .int .i64 0, .slice A_513 o.attrs.length c_514])] (fun w_ => [LoadsAs Tryd.prog 33 (⟨wd_55.heap.size, 0, none⟩) (.agg #[.int .i64 1, .string (runesBytes (List.take n.toNat (U.scz o.text))), .int .i64 0, .int .i64 0, .string ByteArray.empty, .int .i64 0, .slice A_488 o.attrs.length c_489]) w_, LoadsAs Tryd.prog 33 (⟨w_515.heap.size, 0, none⟩) (.agg #[.int .i64 1, .string (runesBytes ((U.scz o.text).drop n.toNat)), .int .i64 0, .int .i64 0, .string ByteArray.empty, .int .i64 0, .slice A_513 o.attrs.length c_514]) w_]) (fun _ _ _ _ h => h) (fun w_ => by kernel_rfl) rfl (fun w_ hC_ => ⟨loadsB rfl rfl hC_.1 0 ⟨by kernel_rfl, by kernel_rfl⟩, loadsB rfl rfl hC_.2 0 ⟨by kernel_rfl, by kernel_rfl⟩, trivial⟩) ?_
              refine XG_mid (fuel' := 2) 2 #[true, true, true, false, false] _ rfl (by kernel_rfl) (by kernel_rfl) rfl ?_
              have hB_540 : Below w_6.heap.size w_6 wd_532 := (bt (bg (bt hB_529 hb_520) hg_526 (hB_529).size) hb_533)
              refine XL_store (v := .agg #[.int .i64 1, .string (runesBytes (List.take n.toNat (U.scz o.text))), .int .i64 0, .int .i64 0, .string ByteArray.empty, .int .i64 0, .slice A_488 o.attrs.length c_489]) rfl rfl rfl (by kernel_rfl) (Blk.below hk_8 hB_540) 0 [.int .i64 1, .string (runesBytes (List.take n.toNat (U.scz o.text))), .int .i64 0, .int .i64 0, .string ByteArray.empty, .int .i64 0, .slice A_488 o.attrs.length c_489] #[.int .i64 1, .string (runesBytes (List.take n.toNat (U.scz o.text))), .int .i64 0, .int .i64 0, .string ByteArray.empty, .int .i64 0, .slice A_488 o.attrs.length c_489] ⟨by kernel_rfl, rfl, by kernel_rfl⟩ ⟨by kernel_rfl, by kernel_rfl⟩ (Nat.le_of_ble_eq_true (by kernel_rfl)) (fun w_536 hg_537 hk_538 hz_539 => ?_)
              have hne_541 : w_6.heap.size ≠ w_1.heap.size := Nat.ne_of_gt (Nat.lt_of_lt_of_le (Blk.lt hk_8) (Nat.le_refl _))
              have hB_542 : Below w_11.heap.size w_11 wd_532 := (bt (bg (bt hB_530 hb_520) hg_526 (hB_530).size) hb_533)
              have hk_543 := Blk.other (Blk.below hk_13 hB_542) hg_537 hne_541
              have hne_544 : wd_55.heap.size ≠ w_1.heap.size := Nat.ne_of_gt (Nat.lt_of_lt_of_le (Blk.lt hk_8) (hB_499).size)
              have hk_545 := Blk.other (Blk.below hk_497 hB_535) hg_537 hne_544
              have hne_546 : w_515.heap.size ≠ w_1.heap.size := Nat.ne_of_gt (Nat.lt_of_lt_of_le (Blk.lt hk_8) (hB_529).size)
              have hk_547 := Blk.other (Blk.below hk_527 hb_533) hg_537 hne_546
              have hB_548 : Below w_6.heap.size w_6 w_509 := (bt (bt (bg (bt (bt (bt hB_499 hb_481) hb_486) hb_491) hg_496 (hB_499).size) hb_502) hb_510)
              have hB_550 : Below w_515.heap.size w_515 wd_532 := (bt (bg hb_520 hg_526 (Nat.le_refl _)) hb_533)
              have hr_549 := RX.Kd.R_past (Kd.R_below hr_518 hB_550) hg_537 (Nat.lt_of_lt_of_le (Blk.lt hk_8) (hB_548).size)
              have hr_551 := RX.Kd.R_past (Kd.R_below hr_500 hB_535) hg_537 (Nat.lt_of_lt_of_le (Blk.lt hk_8) ((bt (bt hB_499 hb_481) hb_486)).size)
              have hB_553 : Below w_53.heap.size w_53 wd_532 := (bt (bg (bt (bt (bt hB_508 hb_510) hb_516) hb_520) hg_526 ((bt (bt hB_508 hb_510) hb_516)).size) hb_533)
              have hr_552 := RX.Kd.R_past (Kd.R_below hr_52 hB_553) hg_537 (Nat.lt_of_lt_of_le (Blk.lt hk_8) ((bt (bt hb_12 hb_17) hb_34)).size)
              refine XL_nil ?_
              refine ⟨⟨hk_545, hk_547⟩, ?_⟩
              refine XG_mid (fuel' := 1) 3 #[true, true, true, true, false] _ rfl (by kernel_rfl) (by kernel_rfl) rfl ?_
              refine XL_store (v := .agg #[.int .i64 1, .string (runesBytes ((U.scz o.text).drop n.toNat)), .int .i64 0, .int .i64 0, .string ByteArray.empty, .int .i64 0, .slice A_513 o.attrs.length c_514]) rfl rfl rfl (by kernel_rfl) hk_543 0 [.int .i64 1, .string (runesBytes ((U.scz o.text).drop n.toNat)), .int .i64 0, .int .i64 0, .string ByteArray.empty, .int .i64 0, .slice A_513 o.attrs.length c_514] #[.int .i64 1, .string (runesBytes ((U.scz o.text).drop n.toNat)), .int .i64 0, .int .i64 0, .string ByteArray.empty, .int .i64 0, .slice A_513 o.attrs.length c_514] ⟨by kernel_rfl, rfl, by kernel_rfl⟩ ⟨by kernel_rfl, by kernel_rfl⟩ (Nat.le_of_ble_eq_true (by kernel_rfl)) (fun w_554 hg_555 hk_556 hz_557 => ?_)
              have hne_558 : w_1.heap.size ≠ w_6.heap.size := Nat.ne_of_lt (Nat.lt_of_lt_of_le (Blk.lt hk_8) (Nat.le_refl _))
              have hk_559 := Blk.other hk_538 hg_555 hne_558
              have hne_560 : wd_55.heap.size ≠ w_6.heap.size := Nat.ne_of_gt (Nat.lt_of_lt_of_le (Blk.lt hk_13) ((bt (bt (bt hb_17 hb_34) hb_54) hb_56)).size)
              have hk_561 := Blk.other hk_545 hg_555 hne_560
              have hne_562 : w_515.heap.size ≠ w_6.heap.size := Nat.ne_of_gt (Nat.lt_of_lt_of_le (Blk.lt hk_13) (hB_530).size)
              have hk_563 := Blk.other hk_547 hg_555 hne_562
              have hB_564 : Below w_11.heap.size w_11 w_509 := (bt (bt (bg (bt (bt (bt (bt (bt (bt hb_17 hb_34) hb_54) hb_56) hb_481) hb_486) hb_491) hg_496 ((bt (bt (bt hb_17 hb_34) hb_54) hb_56)).size) hb_502) hb_510)
              have hr_565 := RX.Kd.R_past hr_549 hg_555 (Nat.lt_of_lt_of_le (Blk.lt hk_13) (hB_564).size)
              have hB_566 : Below w_11.heap.size w_11 w_485 := (bt (bt (bt (bt (bt hb_17 hb_34) hb_54) hb_56) hb_481) hb_486)
              have hr_567 := RX.Kd.R_past hr_551 hg_555 (Nat.lt_of_lt_of_le (Blk.lt hk_13) (hB_566).size)
              have hr_568 := RX.Kd.R_past hr_552 hg_555 (Nat.lt_of_lt_of_le (Blk.lt hk_13) ((bt hb_17 hb_34)).size)
              refine XL_nil ?_
              refine ⟨⟨hk_561, hk_563⟩, ?_⟩
              refine XG_run (fuel' := 0) ⟨hk_561, hk_563⟩ [4] [] [.int .i64 0] #[true, true, true, true, true] [(4, .pointer (some ⟨w_1.heap.size, 0, none⟩)), (5, .pointer (some ⟨w_6.heap.size, 0, none⟩)), (6, .int .i64 0)] (fun w_ => []) (fun _ _ _ _ h => h) (fun w_ => by kernel_rfl) rfl (fun w_ hC_ => trivial) ?_
              refine XG_done (by kernel_rfl) ?_
              refine X_ret ?_
              refine RX.ret_cellCCT (P := Tryd.prog) (fn := Tryd.f59) (N := 49) (R := R_) (c := 4) (d := 5) (t := 33) (t' := 33) (p := ⟨w_1.heap.size, 0, none⟩) (p' := ⟨w_6.heap.size, 0, none⟩) (v := .agg #[.int .i64 1, .string (runesBytes (List.take n.toNat (U.scz o.text))), .int .i64 0, .int .i64 0, .string ByteArray.empty, .int .i64 0, .slice A_488 o.attrs.length c_489]) (v' := .agg #[.int .i64 1, .string (runesBytes ((U.scz o.text).drop n.toNat)), .int .i64 0, .int .i64 0, .string ByteArray.empty, .int .i64 0, .slice A_513 o.attrs.length c_514]) (u := .int .i64 0) rfl rfl (loadsB rfl rfl hk_559 0 ⟨by kernel_rfl, by kernel_rfl⟩) rfl (loadsB rfl rfl hk_556 0 ⟨by kernel_rfl, by kernel_rfl⟩) rfl (hR_ _ _ ?_)
              have hB_569 : Below w.heap.size w w_554 := (bg (bg (bt (bg (bt (bt hB_512 hb_516) hb_520) hg_526 ((bt hB_512 hb_516)).size) hb_533) hg_537 (hb_2).size) hg_555 ((bt hb_2 hb_7)).size)
              have hr0 : refuseP o = 0 := by omega
              have hk1 : o.kind = 1 := by rcases refuse_kind hr0 with h_ | h_; (· exact h_); (· have h2_ := len4_2 h_; omega)
              have hl1 := len4_1 hk1
              have hct := cut_text (refuse_utf hr0).1 (q := n) (by omega) (by omega)
              rw [← hct.1, ← hct.2]
              rw [show cutO o n = (mkT (U.cutP o.text n).1 o.attrs, mkT (U.cutP o.text n).2.1 o.attrs, 0) from by unfold cutO; rw [if_neg (by omega), if_neg (by omega)]]
              exact ⟨_, _, _, _, rfl, Kd.R_low hr_567 (hB_487).size, Kd.R_low hr_565 (hB_512).size, hB_569⟩
            · refine XL_run 1 [] [(4, .pointer (some ⟨w_1.heap.size, 0, none⟩)), (5, .pointer (some ⟨w_6.heap.size, 0, none⟩)), (9, .pointer (some ⟨wd_55.heap.size, 0, none⟩)), (10, .pointer (some ⟨w_509.heap.size, 0, none⟩)), (42, .string (runesBytes ((U.scz o.text).drop n.toNat))), (44, .slice A o.attrs.length c)] (w_509.alloc (.cells #[.int .i64 0, .string ByteArray.empty, .int .i64 0, .int .i64 0, .string ByteArray.empty, .int .i64 0, .slice none 0 0] 33)) [] (by kernel_rfl) trivial ?_
              obtain ⟨w_570, hw_574, hb_571, hk_572, hz_573⟩ := new_world w_509 #[.int .i64 0, .string ByteArray.empty, .int .i64 0, .int .i64 0, .string ByteArray.empty, .int .i64 0, .slice none 0 0] 33
              rw [hw_574]
              refine XL_nil ?_
              refine ⟨(Blk.below hk_3 (bt (bt hB_507 hb_510) hb_571)), ?_⟩
              refine XG_mid (fuel' := 2) 6 #[true, true, true, true, true, true, true, false, true, false] _ rfl (by kernel_rfl) (by kernel_rfl) rfl ?_
              have hB_575 : Below w.heap.size w wd_55 := (bt (bt (bt (bt (bt (bt hb_2 hb_7) hb_12) hb_17) hb_34) hb_54) hb_56)
              have hB_576 : Below w.heap.size w w_570 := (bt (bt (bt (bg (bt hB_487 hb_491) hg_496 (hB_575).size) hb_502) hb_510) hb_571)
              refine XL_call 103 rfl rfl rfl ent103 [.slice A o.attrs.length c] (by kernel_rfl) (r4copied_any _ _ o.attrs _ (Kd.C_below hA hB_576) (by omega)) ?_
              rintro e w_579 ⟨A_577, c_578, rfl, hl_581, hr_582, hb_580⟩; refine ⟨_, rfl, ?_⟩
              refine XL_nil ?_
              have hB_583 : Below w_1.heap.size w_1 w_579 := (bt (bt (bt hB_507 hb_510) hb_571) hb_580)
              refine ⟨(Blk.below hk_3 hB_583), ?_⟩
              refine XG_run (fuel' := 1) (Blk.below hk_3 hB_583) [7] [] [.agg #[.int .i64 1, .string (runesBytes ((U.scz o.text).drop n.toNat)), .int .i64 0, .int .i64 0, .string ByteArray.empty, .int .i64 0, .slice A_577 o.attrs.length c_578]] #[true, true, true, true, true, true, true, true, true, false] [(4, .pointer (some ⟨w_1.heap.size, 0, none⟩)), (5, .pointer (some ⟨w_6.heap.size, 0, none⟩)), (9, .pointer (some ⟨wd_55.heap.size, 0, none⟩)), (10, .pointer (some ⟨w_509.heap.size, 0, none⟩)), (46, .agg #[.int .i64 1, .string (runesBytes ((U.scz o.text).drop n.toNat)), .int .i64 0, .int .i64 0, .string ByteArray.empty, .int .i64 0, .slice A_577 o.attrs.length c_578])] (fun w_ => []) (fun _ _ _ _ h => h) (fun w_ => by kernel_rfl) rfl (fun w_ hC_ => trivial) ?_
              refine XG_mid (fuel' := 0) 9 #[true, true, true, true, true, true, true, true, true, true] _ rfl (by kernel_rfl) (by kernel_rfl) rfl ?_
              refine XL_store (v := .agg #[.int .i64 1, .string (runesBytes ((U.scz o.text).drop n.toNat)), .int .i64 0, .int .i64 0, .string ByteArray.empty, .int .i64 0, .slice A_577 o.attrs.length c_578]) rfl rfl rfl (by kernel_rfl) (Blk.below hk_572 hb_580) 0 [.int .i64 1, .string (runesBytes ((U.scz o.text).drop n.toNat)), .int .i64 0, .int .i64 0, .string ByteArray.empty, .int .i64 0, .slice A_577 o.attrs.length c_578] #[.int .i64 1, .string (runesBytes ((U.scz o.text).drop n.toNat)), .int .i64 0, .int .i64 0, .string ByteArray.empty, .int .i64 0, .slice A_577 o.attrs.length c_578] ⟨by kernel_rfl, rfl, by kernel_rfl⟩ ⟨by kernel_rfl, by kernel_rfl⟩ (Nat.le_of_ble_eq_true (by kernel_rfl)) (fun w_584 hg_585 hk_586 hz_587 => ?_)
              have hB_588 : Below w_6.heap.size w_6 w_509 := (bt (bt (bg (bt (bt (bt hB_499 hb_481) hb_486) hb_491) hg_496 (hB_499).size) hb_502) hb_510)
              have hB_589 : Below w_11.heap.size w_11 w_509 := (bt (bt (bg (bt (bt (bt (bt (bt (bt hb_17 hb_34) hb_54) hb_56) hb_481) hb_486) hb_491) hg_496 ((bt (bt (bt hb_17 hb_34) hb_54) hb_56)).size) hb_502) hb_510)
              have hr_590 := RX.Kd.R_past hr_582 hg_585 (Nat.lt_of_lt_of_le (Blk.lt hk_572) (Nat.le_refl _))
              refine XL_nil ?_
              have hB_591 : Below w_1.heap.size w_1 w_584 := (bg hB_583 hg_585 ((bt hB_507 hb_510)).size)
              refine ⟨(Blk.below hk_3 hB_591), ?_⟩
              refine XG_done (by kernel_rfl) ?_
              refine X_seq ?_
              refine X_gen (S := fun w_ => RX.Blk w_ wd_55.heap.size 33 #[.int .i64 1, .string (runesBytes (List.take n.toNat (U.scz o.text))), .int .i64 0, .int .i64 0, .string ByteArray.empty, .int .i64 0, .slice A_488 o.attrs.length c_489] ∧ RX.Blk w_ w_509.heap.size 33 #[.int .i64 1, .string (runesBytes ((U.scz o.text).drop n.toNat)), .int .i64 0, .int .i64 0, .string ByteArray.empty, .int .i64 0, .slice A_577 o.attrs.length c_578]) [] 5 #[false, false, false, false, false] (by kernel_rfl) (by kernel_rfl) (by kernel_rfl) (fun wd_592 hb_593 hh_594 => ?_)
              have hB_595 : Below w_495.heap.size w_495 wd_592 := (bt (bg (bt (bt (bt hb_502 hb_510) hb_571) hb_580) hg_585 ((bt hb_502 hb_510)).size) hb_593)
              refine XG_run (fuel' := 3) ⟨(Blk.below hk_497 hB_595), (Blk.below hk_586 hb_593)⟩ [0, 1] [(47, .load (.agg #[.int .i64 1, .string (runesBytes (List.take n.toNat (U.scz o.text))), .int .i64 0, .int .i64 0, .string ByteArray.empty, .int .i64 0, .slice A_488 o.attrs.length c_489])), (48, .load (.agg #[.int .i64 1, .string (runesBytes ((U.scz o.text).drop n.toNat)), .int .i64 0, .int .i64 0, .string ByteArray.empty, .int .i64 0, .slice A_577 o.attrs.length c_578]))] [.agg #[.int .i64 1, .string (runesBytes (List.take n.toNat (U.scz o.text))), .int .i64 0, .int .i64 0, .string ByteArray.empty, .int .i64 0, .slice A_488 o.attrs.length c_489], .agg #[.int .i64 1, .string (runesBytes ((U.scz o.text).drop n.toNat)), .int .i64 0, .int .i64 0, .string ByteArray.empty, .int .i64 0, .slice A_577 o.attrs.length c_578]] #[true, true, false, false, false] [(4, .pointer (some ⟨w_1.heap.size, 0, none⟩)), (5, .pointer (some ⟨w_6.heap.size, 0, none⟩)), (47, .agg #[.int .i64 1, .string (runesBytes (List.take n.toNat (U.scz o.text))), .int .i64 0, .int .i64 0, .string ByteArray.empty, .int .i64 0, .slice A_488 o.attrs.length c_489]), (48, .agg #[.int .i64 1, .string (runesBytes ((U.scz o.text).drop n.toNat)), .int .i64 0, .int .i64 0, .string ByteArray.empty, .int .i64 0, .slice A_577 o.attrs.length c_578])] (fun w_ => [LoadsAs Tryd.prog 33 (⟨wd_55.heap.size, 0, none⟩) (.agg #[.int .i64 1, .string (runesBytes (List.take n.toNat (U.scz o.text))), .int .i64 0, .int .i64 0, .string ByteArray.empty, .int .i64 0, .slice A_488 o.attrs.length c_489]) w_, LoadsAs Tryd.prog 33 (⟨w_509.heap.size, 0, none⟩) (.agg #[.int .i64 1, .string (runesBytes ((U.scz o.text).drop n.toNat)), .int .i64 0, .int .i64 0, .string ByteArray.empty, .int .i64 0, .slice A_577 o.attrs.length c_578]) w_]) (fun _ _ _ _ h => h) (fun w_ => by kernel_rfl) rfl (fun w_ hC_ => ⟨loadsB rfl rfl hC_.1 0 ⟨by kernel_rfl, by kernel_rfl⟩, loadsB rfl rfl hC_.2 0 ⟨by kernel_rfl, by kernel_rfl⟩, trivial⟩) ?_
              refine XG_mid (fuel' := 2) 2 #[true, true, true, false, false] _ rfl (by kernel_rfl) (by kernel_rfl) rfl ?_
              have hB_600 : Below w_6.heap.size w_6 wd_592 := (bt (bg (bt (bt hB_588 hb_571) hb_580) hg_585 (hB_588).size) hb_593)
              refine XL_store (v := .agg #[.int .i64 1, .string (runesBytes (List.take n.toNat (U.scz o.text))), .int .i64 0, .int .i64 0, .string ByteArray.empty, .int .i64 0, .slice A_488 o.attrs.length c_489]) rfl rfl rfl (by kernel_rfl) (Blk.below hk_8 hB_600) 0 [.int .i64 1, .string (runesBytes (List.take n.toNat (U.scz o.text))), .int .i64 0, .int .i64 0, .string ByteArray.empty, .int .i64 0, .slice A_488 o.attrs.length c_489] #[.int .i64 1, .string (runesBytes (List.take n.toNat (U.scz o.text))), .int .i64 0, .int .i64 0, .string ByteArray.empty, .int .i64 0, .slice A_488 o.attrs.length c_489] ⟨by kernel_rfl, rfl, by kernel_rfl⟩ ⟨by kernel_rfl, by kernel_rfl⟩ (Nat.le_of_ble_eq_true (by kernel_rfl)) (fun w_596 hg_597 hk_598 hz_599 => ?_)
              have hne_601 : w_6.heap.size ≠ w_1.heap.size := Nat.ne_of_gt (Nat.lt_of_lt_of_le (Blk.lt hk_8) (Nat.le_refl _))
              have hB_602 : Below w_11.heap.size w_11 wd_592 := (bt (bg (bt (bt hB_589 hb_571) hb_580) hg_585 (hB_589).size) hb_593)
              have hk_603 := Blk.other (Blk.below hk_13 hB_602) hg_597 hne_601
              have hne_604 : wd_55.heap.size ≠ w_1.heap.size := Nat.ne_of_gt (Nat.lt_of_lt_of_le (Blk.lt hk_8) (hB_499).size)
              have hk_605 := Blk.other (Blk.below hk_497 hB_595) hg_597 hne_604
              have hne_606 : w_509.heap.size ≠ w_1.heap.size := Nat.ne_of_gt (Nat.lt_of_lt_of_le (Blk.lt hk_8) (hB_588).size)
              have hk_607 := Blk.other (Blk.below hk_586 hb_593) hg_597 hne_606
              have hr_608 := RX.Kd.R_past (Kd.R_below hr_590 hb_593) hg_597 (Nat.lt_of_lt_of_le (Blk.lt hk_8) ((bt hB_588 hb_571)).size)
              have hr_609 := RX.Kd.R_past (Kd.R_below hr_500 hB_595) hg_597 (Nat.lt_of_lt_of_le (Blk.lt hk_8) ((bt (bt hB_499 hb_481) hb_486)).size)
              have hB_611 : Below w_53.heap.size w_53 wd_592 := (bt (bg (bt (bt (bt hB_508 hb_510) hb_571) hb_580) hg_585 ((bt hB_508 hb_510)).size) hb_593)
              have hr_610 := RX.Kd.R_past (Kd.R_below hr_52 hB_611) hg_597 (Nat.lt_of_lt_of_le (Blk.lt hk_8) ((bt (bt hb_12 hb_17) hb_34)).size)
              refine XL_nil ?_
              refine ⟨⟨hk_605, hk_607⟩, ?_⟩
              refine XG_mid (fuel' := 1) 3 #[true, true, true, true, false] _ rfl (by kernel_rfl) (by kernel_rfl) rfl ?_
              refine XL_store (v := .agg #[.int .i64 1, .string (runesBytes ((U.scz o.text).drop n.toNat)), .int .i64 0, .int .i64 0, .string ByteArray.empty, .int .i64 0, .slice A_577 o.attrs.length c_578]) rfl rfl rfl (by kernel_rfl) hk_603 0 [.int .i64 1, .string (runesBytes ((U.scz o.text).drop n.toNat)), .int .i64 0, .int .i64 0, .string ByteArray.empty, .int .i64 0, .slice A_577 o.attrs.length c_578] #[.int .i64 1, .string (runesBytes ((U.scz o.text).drop n.toNat)), .int .i64 0, .int .i64 0, .string ByteArray.empty, .int .i64 0, .slice A_577 o.attrs.length c_578] ⟨by kernel_rfl, rfl, by kernel_rfl⟩ ⟨by kernel_rfl, by kernel_rfl⟩ (Nat.le_of_ble_eq_true (by kernel_rfl)) (fun w_612 hg_613 hk_614 hz_615 => ?_)
              have hne_616 : w_1.heap.size ≠ w_6.heap.size := Nat.ne_of_lt (Nat.lt_of_lt_of_le (Blk.lt hk_8) (Nat.le_refl _))
              have hk_617 := Blk.other hk_598 hg_613 hne_616
              have hne_618 : wd_55.heap.size ≠ w_6.heap.size := Nat.ne_of_gt (Nat.lt_of_lt_of_le (Blk.lt hk_13) ((bt (bt (bt hb_17 hb_34) hb_54) hb_56)).size)
              have hk_619 := Blk.other hk_605 hg_613 hne_618
              have hne_620 : w_509.heap.size ≠ w_6.heap.size := Nat.ne_of_gt (Nat.lt_of_lt_of_le (Blk.lt hk_13) (hB_589).size)
              have hk_621 := Blk.other hk_607 hg_613 hne_620
              have hr_622 := RX.Kd.R_past hr_608 hg_613 (Nat.lt_of_lt_of_le (Blk.lt hk_13) ((bt hB_589 hb_571)).size)
              have hB_623 : Below w_11.heap.size w_11 w_485 := (bt (bt (bt (bt (bt hb_17 hb_34) hb_54) hb_56) hb_481) hb_486)
              have hr_624 := RX.Kd.R_past hr_609 hg_613 (Nat.lt_of_lt_of_le (Blk.lt hk_13) (hB_623).size)
              have hr_625 := RX.Kd.R_past hr_610 hg_613 (Nat.lt_of_lt_of_le (Blk.lt hk_13) ((bt hb_17 hb_34)).size)
              refine XL_nil ?_
              refine ⟨⟨hk_619, hk_621⟩, ?_⟩
              refine XG_run (fuel' := 0) ⟨hk_619, hk_621⟩ [4] [] [.int .i64 0] #[true, true, true, true, true] [(4, .pointer (some ⟨w_1.heap.size, 0, none⟩)), (5, .pointer (some ⟨w_6.heap.size, 0, none⟩)), (6, .int .i64 0)] (fun w_ => []) (fun _ _ _ _ h => h) (fun w_ => by kernel_rfl) rfl (fun w_ hC_ => trivial) ?_
              refine XG_done (by kernel_rfl) ?_
              refine X_ret ?_
              refine RX.ret_cellCCT (P := Tryd.prog) (fn := Tryd.f59) (N := 49) (R := R_) (c := 4) (d := 5) (t := 33) (t' := 33) (p := ⟨w_1.heap.size, 0, none⟩) (p' := ⟨w_6.heap.size, 0, none⟩) (v := .agg #[.int .i64 1, .string (runesBytes (List.take n.toNat (U.scz o.text))), .int .i64 0, .int .i64 0, .string ByteArray.empty, .int .i64 0, .slice A_488 o.attrs.length c_489]) (v' := .agg #[.int .i64 1, .string (runesBytes ((U.scz o.text).drop n.toNat)), .int .i64 0, .int .i64 0, .string ByteArray.empty, .int .i64 0, .slice A_577 o.attrs.length c_578]) (u := .int .i64 0) rfl rfl (loadsB rfl rfl hk_617 0 ⟨by kernel_rfl, by kernel_rfl⟩) rfl (loadsB rfl rfl hk_614 0 ⟨by kernel_rfl, by kernel_rfl⟩) rfl (hR_ _ _ ?_)
              have hB_626 : Below w.heap.size w w_509 := (bt (bt (bg (bt hB_487 hb_491) hg_496 (hB_575).size) hb_502) hb_510)
              have hB_627 : Below w.heap.size w w_612 := (bg (bg (bt (bg (bt hB_576 hb_580) hg_585 (hB_626).size) hb_593) hg_597 (hb_2).size) hg_613 ((bt hb_2 hb_7)).size)
              have hr0 : refuseP o = 0 := by omega
              have hk1 : o.kind = 1 := by rcases refuse_kind hr0 with h_ | h_; (· exact h_); (· have h2_ := len4_2 h_; omega)
              have hl1 := len4_1 hk1
              have hct := cut_text (refuse_utf hr0).1 (q := n) (by omega) (by omega)
              rw [← hct.1, ← hct.2]
              rw [show cutO o n = (mkT (U.cutP o.text n).1 o.attrs, mkT (U.cutP o.text n).2.1 o.attrs, 0) from by unfold cutO; rw [if_neg (by omega), if_neg (by omega)]]
              exact ⟨_, _, _, _, rfl, Kd.R_low hr_624 (hB_487).size, Kd.R_low hr_622 (hB_576).size, hB_627⟩
          · refine XL_run 1 [] [(4, .pointer (some ⟨w_1.heap.size, 0, none⟩)), (5, .pointer (some ⟨w_6.heap.size, 0, none⟩)), (9, .pointer (some ⟨wd_55.heap.size, 0, none⟩)), (10, .pointer (some ⟨wd_501.heap.size, 0, none⟩)), (41, .slice A_504 ((U.scz o.text).length - n.toNat) (c_50 - n.toNat)), (44, .slice A o.attrs.length c)] (wd_501.alloc (.cells #[.int .i64 0, .string ByteArray.empty, .int .i64 0, .int .i64 0, .string ByteArray.empty, .int .i64 0, .slice none 0 0] 33)) [] (by kernel_rfl) trivial ?_
            obtain ⟨w_628, hw_632, hb_629, hk_630, hz_631⟩ := new_world wd_501 #[.int .i64 0, .string ByteArray.empty, .int .i64 0, .int .i64 0, .string ByteArray.empty, .int .i64 0, .slice none 0 0] 33
            rw [hw_632]
            refine XL_nil ?_
            refine ⟨(Blk.below hk_3 (bt hB_507 hb_629)), ?_⟩
            refine XG_mid (fuel' := 3) 3 #[true, true, true, true, true, true, false, false, true, false] _ rfl (by kernel_rfl) (by kernel_rfl) rfl ?_
            have hB_633 : Below w_53.heap.size w_53 w_628 := (bt (bt (bg (bt (bt (bt hb_56 hb_481) hb_486) hb_491) hg_496 (hb_56).size) hb_502) hb_629)
            refine XL_call 107 rfl rfl rfl ent107 [.slice A_504 ((U.scz o.text).length - n.toNat) (c_50 - n.toNat)] (by kernel_rfl) (by have h_ := refText_any A_504 (c_50 - n.toNat) ((U.scz o.text).drop n.toNat) w_628 (by rw [show ((U.scz o.text).drop n.toNat).length = ((U.scz o.text).length - n.toNat) from by first | (rw [List.length_take]; omega) | (rw [List.length_drop]; omega) | (rw [List.length_drop]; done)]; exact (Kd.C_below hC_506 hB_633)) (by first | (rw [List.length_take]; omega) | (rw [List.length_drop]; omega) | (rw [List.length_drop]; done)) (fun r hr => scz_vz o.text r (List.mem_of_mem_drop hr)); rw [show ((U.scz o.text).drop n.toNat).length = ((U.scz o.text).length - n.toNat) from by first | (rw [List.length_take]; omega) | (rw [List.length_drop]; omega) | (rw [List.length_drop]; done)] at h_; exact h_) ?_
            rintro e w_634 ⟨rfl, hb_635⟩; refine ⟨_, rfl, ?_⟩
            refine XL_nil ?_
            refine ⟨(Blk.below hk_3 (bt (bt hB_507 hb_629) hb_635)), ?_⟩
            refine XG_mid (fuel' := 2) 6 #[true, true, true, true, true, true, true, false, true, false] _ rfl (by kernel_rfl) (by kernel_rfl) rfl ?_
            have hB_636 : Below w.heap.size w wd_55 := (bt (bt (bt (bt (bt (bt hb_2 hb_7) hb_12) hb_17) hb_34) hb_54) hb_56)
            have hB_637 : Below w.heap.size w w_634 := (bt (bt (bt (bg (bt hB_487 hb_491) hg_496 (hB_636).size) hb_502) hb_629) hb_635)
            refine XL_call 103 rfl rfl rfl ent103 [.slice A o.attrs.length c] (by kernel_rfl) (r4copied_any _ _ o.attrs _ (Kd.C_below hA hB_637) (by omega)) ?_
            rintro e w_640 ⟨A_638, c_639, rfl, hl_642, hr_643, hb_641⟩; refine ⟨_, rfl, ?_⟩
            refine XL_nil ?_
            have hB_644 : Below w_1.heap.size w_1 w_640 := (bt (bt (bt hB_507 hb_629) hb_635) hb_641)
            refine ⟨(Blk.below hk_3 hB_644), ?_⟩
            refine XG_run (fuel' := 1) (Blk.below hk_3 hB_644) [7] [] [.agg #[.int .i64 1, .string (runesBytes ((U.scz o.text).drop n.toNat)), .int .i64 0, .int .i64 0, .string ByteArray.empty, .int .i64 0, .slice A_638 o.attrs.length c_639]] #[true, true, true, true, true, true, true, true, true, false] [(4, .pointer (some ⟨w_1.heap.size, 0, none⟩)), (5, .pointer (some ⟨w_6.heap.size, 0, none⟩)), (9, .pointer (some ⟨wd_55.heap.size, 0, none⟩)), (10, .pointer (some ⟨wd_501.heap.size, 0, none⟩)), (46, .agg #[.int .i64 1, .string (runesBytes ((U.scz o.text).drop n.toNat)), .int .i64 0, .int .i64 0, .string ByteArray.empty, .int .i64 0, .slice A_638 o.attrs.length c_639])] (fun w_ => []) (fun _ _ _ _ h => h) (fun w_ => by kernel_rfl) rfl (fun w_ hC_ => trivial) ?_
            refine XG_mid (fuel' := 0) 9 #[true, true, true, true, true, true, true, true, true, true] _ rfl (by kernel_rfl) (by kernel_rfl) rfl ?_
            refine XL_store (v := .agg #[.int .i64 1, .string (runesBytes ((U.scz o.text).drop n.toNat)), .int .i64 0, .int .i64 0, .string ByteArray.empty, .int .i64 0, .slice A_638 o.attrs.length c_639]) rfl rfl rfl (by kernel_rfl) (Blk.below hk_630 (bt hb_635 hb_641)) 0 [.int .i64 1, .string (runesBytes ((U.scz o.text).drop n.toNat)), .int .i64 0, .int .i64 0, .string ByteArray.empty, .int .i64 0, .slice A_638 o.attrs.length c_639] #[.int .i64 1, .string (runesBytes ((U.scz o.text).drop n.toNat)), .int .i64 0, .int .i64 0, .string ByteArray.empty, .int .i64 0, .slice A_638 o.attrs.length c_639] ⟨by kernel_rfl, rfl, by kernel_rfl⟩ ⟨by kernel_rfl, by kernel_rfl⟩ (Nat.le_of_ble_eq_true (by kernel_rfl)) (fun w_645 hg_646 hk_647 hz_648 => ?_)
            have hB_649 : Below w_6.heap.size w_6 wd_501 := (bt (bg (bt (bt (bt hB_499 hb_481) hb_486) hb_491) hg_496 (hB_499).size) hb_502)
            have hB_650 : Below w_11.heap.size w_11 wd_501 := (bt (bg (bt (bt (bt (bt (bt (bt hb_17 hb_34) hb_54) hb_56) hb_481) hb_486) hb_491) hg_496 ((bt (bt (bt hb_17 hb_34) hb_54) hb_56)).size) hb_502)
            have hr_651 := RX.Kd.R_past hr_643 hg_646 (Nat.lt_of_lt_of_le (Blk.lt hk_630) (hb_635).size)
            have hB_652 : Below w_53.heap.size w_53 wd_501 := (bt (bg (bt (bt (bt hb_56 hb_481) hb_486) hb_491) hg_496 (hb_56).size) hb_502)
            refine XL_nil ?_
            refine ⟨(Blk.below hk_3 (bg hB_644 hg_646 (hB_507).size)), ?_⟩
            refine XG_done (by kernel_rfl) ?_
            refine X_seq ?_
            refine X_gen (S := fun w_ => RX.Blk w_ wd_55.heap.size 33 #[.int .i64 1, .string (runesBytes (List.take n.toNat (U.scz o.text))), .int .i64 0, .int .i64 0, .string ByteArray.empty, .int .i64 0, .slice A_488 o.attrs.length c_489] ∧ RX.Blk w_ wd_501.heap.size 33 #[.int .i64 1, .string (runesBytes ((U.scz o.text).drop n.toNat)), .int .i64 0, .int .i64 0, .string ByteArray.empty, .int .i64 0, .slice A_638 o.attrs.length c_639]) [] 5 #[false, false, false, false, false] (by kernel_rfl) (by kernel_rfl) (by kernel_rfl) (fun wd_653 hb_654 hh_655 => ?_)
            have hB_656 : Below w_495.heap.size w_495 wd_653 := (bt (bg (bt (bt (bt hb_502 hb_629) hb_635) hb_641) hg_646 (hb_502).size) hb_654)
            refine XG_run (fuel' := 3) ⟨(Blk.below hk_497 hB_656), (Blk.below hk_647 hb_654)⟩ [0, 1] [(47, .load (.agg #[.int .i64 1, .string (runesBytes (List.take n.toNat (U.scz o.text))), .int .i64 0, .int .i64 0, .string ByteArray.empty, .int .i64 0, .slice A_488 o.attrs.length c_489])), (48, .load (.agg #[.int .i64 1, .string (runesBytes ((U.scz o.text).drop n.toNat)), .int .i64 0, .int .i64 0, .string ByteArray.empty, .int .i64 0, .slice A_638 o.attrs.length c_639]))] [.agg #[.int .i64 1, .string (runesBytes (List.take n.toNat (U.scz o.text))), .int .i64 0, .int .i64 0, .string ByteArray.empty, .int .i64 0, .slice A_488 o.attrs.length c_489], .agg #[.int .i64 1, .string (runesBytes ((U.scz o.text).drop n.toNat)), .int .i64 0, .int .i64 0, .string ByteArray.empty, .int .i64 0, .slice A_638 o.attrs.length c_639]] #[true, true, false, false, false] [(4, .pointer (some ⟨w_1.heap.size, 0, none⟩)), (5, .pointer (some ⟨w_6.heap.size, 0, none⟩)), (47, .agg #[.int .i64 1, .string (runesBytes (List.take n.toNat (U.scz o.text))), .int .i64 0, .int .i64 0, .string ByteArray.empty, .int .i64 0, .slice A_488 o.attrs.length c_489]), (48, .agg #[.int .i64 1, .string (runesBytes ((U.scz o.text).drop n.toNat)), .int .i64 0, .int .i64 0, .string ByteArray.empty, .int .i64 0, .slice A_638 o.attrs.length c_639])] (fun w_ => [LoadsAs Tryd.prog 33 (⟨wd_55.heap.size, 0, none⟩) (.agg #[.int .i64 1, .string (runesBytes (List.take n.toNat (U.scz o.text))), .int .i64 0, .int .i64 0, .string ByteArray.empty, .int .i64 0, .slice A_488 o.attrs.length c_489]) w_, LoadsAs Tryd.prog 33 (⟨wd_501.heap.size, 0, none⟩) (.agg #[.int .i64 1, .string (runesBytes ((U.scz o.text).drop n.toNat)), .int .i64 0, .int .i64 0, .string ByteArray.empty, .int .i64 0, .slice A_638 o.attrs.length c_639]) w_]) (fun _ _ _ _ h => h) (fun w_ => by kernel_rfl) rfl (fun w_ hC_ => ⟨loadsB rfl rfl hC_.1 0 ⟨by kernel_rfl, by kernel_rfl⟩, loadsB rfl rfl hC_.2 0 ⟨by kernel_rfl, by kernel_rfl⟩, trivial⟩) ?_
            refine XG_mid (fuel' := 2) 2 #[true, true, true, false, false] _ rfl (by kernel_rfl) (by kernel_rfl) rfl ?_
            have hB_661 : Below w_6.heap.size w_6 wd_653 := (bt (bg (bt (bt (bt hB_649 hb_629) hb_635) hb_641) hg_646 (hB_649).size) hb_654)
            refine XL_store (v := .agg #[.int .i64 1, .string (runesBytes (List.take n.toNat (U.scz o.text))), .int .i64 0, .int .i64 0, .string ByteArray.empty, .int .i64 0, .slice A_488 o.attrs.length c_489]) rfl rfl rfl (by kernel_rfl) (Blk.below hk_8 hB_661) 0 [.int .i64 1, .string (runesBytes (List.take n.toNat (U.scz o.text))), .int .i64 0, .int .i64 0, .string ByteArray.empty, .int .i64 0, .slice A_488 o.attrs.length c_489] #[.int .i64 1, .string (runesBytes (List.take n.toNat (U.scz o.text))), .int .i64 0, .int .i64 0, .string ByteArray.empty, .int .i64 0, .slice A_488 o.attrs.length c_489] ⟨by kernel_rfl, rfl, by kernel_rfl⟩ ⟨by kernel_rfl, by kernel_rfl⟩ (Nat.le_of_ble_eq_true (by kernel_rfl)) (fun w_657 hg_658 hk_659 hz_660 => ?_)
            have hne_662 : w_6.heap.size ≠ w_1.heap.size := Nat.ne_of_gt (Nat.lt_of_lt_of_le (Blk.lt hk_8) (Nat.le_refl _))
            have hB_663 : Below w_11.heap.size w_11 wd_653 := (bt (bg (bt (bt (bt hB_650 hb_629) hb_635) hb_641) hg_646 (hB_650).size) hb_654)
            have hk_664 := Blk.other (Blk.below hk_13 hB_663) hg_658 hne_662
            have hne_665 : wd_55.heap.size ≠ w_1.heap.size := Nat.ne_of_gt (Nat.lt_of_lt_of_le (Blk.lt hk_8) (hB_499).size)
            have hk_666 := Blk.other (Blk.below hk_497 hB_656) hg_658 hne_665
            have hne_667 : wd_501.heap.size ≠ w_1.heap.size := Nat.ne_of_gt (Nat.lt_of_lt_of_le (Blk.lt hk_8) (hB_649).size)
            have hk_668 := Blk.other (Blk.below hk_647 hb_654) hg_658 hne_667
            have hr_669 := RX.Kd.R_past (Kd.R_below hr_651 hb_654) hg_658 (Nat.lt_of_lt_of_le (Blk.lt hk_8) ((bt (bt hB_649 hb_629) hb_635)).size)
            have hr_670 := RX.Kd.R_past (Kd.R_below hr_500 hB_656) hg_658 (Nat.lt_of_lt_of_le (Blk.lt hk_8) ((bt (bt hB_499 hb_481) hb_486)).size)
            have hB_672 : Below w_53.heap.size w_53 wd_653 := (bt (bg (bt (bt hB_633 hb_635) hb_641) hg_646 (hB_652).size) hb_654)
            have hr_671 := RX.Kd.R_past (Kd.R_below hr_52 hB_672) hg_658 (Nat.lt_of_lt_of_le (Blk.lt hk_8) ((bt (bt hb_12 hb_17) hb_34)).size)
            refine XL_nil ?_
            refine ⟨⟨hk_666, hk_668⟩, ?_⟩
            refine XG_mid (fuel' := 1) 3 #[true, true, true, true, false] _ rfl (by kernel_rfl) (by kernel_rfl) rfl ?_
            refine XL_store (v := .agg #[.int .i64 1, .string (runesBytes ((U.scz o.text).drop n.toNat)), .int .i64 0, .int .i64 0, .string ByteArray.empty, .int .i64 0, .slice A_638 o.attrs.length c_639]) rfl rfl rfl (by kernel_rfl) hk_664 0 [.int .i64 1, .string (runesBytes ((U.scz o.text).drop n.toNat)), .int .i64 0, .int .i64 0, .string ByteArray.empty, .int .i64 0, .slice A_638 o.attrs.length c_639] #[.int .i64 1, .string (runesBytes ((U.scz o.text).drop n.toNat)), .int .i64 0, .int .i64 0, .string ByteArray.empty, .int .i64 0, .slice A_638 o.attrs.length c_639] ⟨by kernel_rfl, rfl, by kernel_rfl⟩ ⟨by kernel_rfl, by kernel_rfl⟩ (Nat.le_of_ble_eq_true (by kernel_rfl)) (fun w_673 hg_674 hk_675 hz_676 => ?_)
            have hne_677 : w_1.heap.size ≠ w_6.heap.size := Nat.ne_of_lt (Nat.lt_of_lt_of_le (Blk.lt hk_8) (Nat.le_refl _))
            have hk_678 := Blk.other hk_659 hg_674 hne_677
            have hne_679 : wd_55.heap.size ≠ w_6.heap.size := Nat.ne_of_gt (Nat.lt_of_lt_of_le (Blk.lt hk_13) ((bt (bt (bt hb_17 hb_34) hb_54) hb_56)).size)
            have hk_680 := Blk.other hk_666 hg_674 hne_679
            have hne_681 : wd_501.heap.size ≠ w_6.heap.size := Nat.ne_of_gt (Nat.lt_of_lt_of_le (Blk.lt hk_13) (hB_650).size)
            have hk_682 := Blk.other hk_668 hg_674 hne_681
            have hr_683 := RX.Kd.R_past hr_669 hg_674 (Nat.lt_of_lt_of_le (Blk.lt hk_13) ((bt (bt hB_650 hb_629) hb_635)).size)
            have hB_684 : Below w_11.heap.size w_11 w_485 := (bt (bt (bt (bt (bt hb_17 hb_34) hb_54) hb_56) hb_481) hb_486)
            have hr_685 := RX.Kd.R_past hr_670 hg_674 (Nat.lt_of_lt_of_le (Blk.lt hk_13) (hB_684).size)
            have hr_686 := RX.Kd.R_past hr_671 hg_674 (Nat.lt_of_lt_of_le (Blk.lt hk_13) ((bt hb_17 hb_34)).size)
            refine XL_nil ?_
            refine ⟨⟨hk_680, hk_682⟩, ?_⟩
            refine XG_run (fuel' := 0) ⟨hk_680, hk_682⟩ [4] [] [.int .i64 0] #[true, true, true, true, true] [(4, .pointer (some ⟨w_1.heap.size, 0, none⟩)), (5, .pointer (some ⟨w_6.heap.size, 0, none⟩)), (6, .int .i64 0)] (fun w_ => []) (fun _ _ _ _ h => h) (fun w_ => by kernel_rfl) rfl (fun w_ hC_ => trivial) ?_
            refine XG_done (by kernel_rfl) ?_
            refine X_ret ?_
            refine RX.ret_cellCCT (P := Tryd.prog) (fn := Tryd.f59) (N := 49) (R := R_) (c := 4) (d := 5) (t := 33) (t' := 33) (p := ⟨w_1.heap.size, 0, none⟩) (p' := ⟨w_6.heap.size, 0, none⟩) (v := .agg #[.int .i64 1, .string (runesBytes (List.take n.toNat (U.scz o.text))), .int .i64 0, .int .i64 0, .string ByteArray.empty, .int .i64 0, .slice A_488 o.attrs.length c_489]) (v' := .agg #[.int .i64 1, .string (runesBytes ((U.scz o.text).drop n.toNat)), .int .i64 0, .int .i64 0, .string ByteArray.empty, .int .i64 0, .slice A_638 o.attrs.length c_639]) (u := .int .i64 0) rfl rfl (loadsB rfl rfl hk_678 0 ⟨by kernel_rfl, by kernel_rfl⟩) rfl (loadsB rfl rfl hk_675 0 ⟨by kernel_rfl, by kernel_rfl⟩) rfl (hR_ _ _ ?_)
            have hB_687 : Below w.heap.size w wd_501 := (bt (bg (bt hB_487 hb_491) hg_496 (hB_636).size) hb_502)
            have hB_688 : Below w.heap.size w w_673 := (bg (bg (bt (bg (bt hB_637 hb_641) hg_646 (hB_687).size) hb_654) hg_658 (hb_2).size) hg_674 ((bt hb_2 hb_7)).size)
            have hr0 : refuseP o = 0 := by omega
            have hk1 : o.kind = 1 := by rcases refuse_kind hr0 with h_ | h_; (· exact h_); (· have h2_ := len4_2 h_; omega)
            have hl1 := len4_1 hk1
            have hct := cut_text (refuse_utf hr0).1 (q := n) (by omega) (by omega)
            rw [← hct.1, ← hct.2]
            rw [show cutO o n = (mkT (U.cutP o.text n).1 o.attrs, mkT (U.cutP o.text n).2.1 o.attrs, 0) from by unfold cutO; rw [if_neg (by omega), if_neg (by omega)]]
            exact ⟨_, _, _, _, rfl, Kd.R_low hr_685 (hB_487).size, Kd.R_low hr_683 (hB_637).size, hB_688⟩
  · refine XL_run 1 [(14, .eq (.bool true))] [(1, .int .i64 n), (2, .pointer (some ⟨w.heap.size, 0, none⟩)), (4, .pointer (some ⟨w_1.heap.size, 0, none⟩)), (5, .pointer (some ⟨w_6.heap.size, 0, none⟩)), (7, .int .i64 (refuseP o : Int)), (14, .bool true)] w_16 [Value.bool ((refuseP o : Int) != 0) = Value.bool true] (by kernel_rfl) ⟨congrArg Value.bool (bneT (c_18)), trivial⟩ ?_
    refine XL_nil ?_
    refine X_cond true rfl ?_
    refine X_seq ?_
    refine X_region ?_
    refine XL_run 3 [] [(4, .pointer (some ⟨w_1.heap.size, 0, none⟩)), (5, .pointer (some ⟨w_6.heap.size, 0, none⟩)), (15, .agg #[.int .i64 0, .string ByteArray.empty, .int .i64 0, .int .i64 0, .string ByteArray.empty, .int .i64 0, .slice none 0 0]), (16, .agg #[.int .i64 0, .string ByteArray.empty, .int .i64 0, .int .i64 0, .string ByteArray.empty, .int .i64 0, .slice none 0 0]), (17, .int .i64 (refuseP o : Int))] w_16 [] (by kernel_rfl) trivial ?_
    refine XL_store (v := .agg #[.int .i64 0, .string ByteArray.empty, .int .i64 0, .int .i64 0, .string ByteArray.empty, .int .i64 0, .slice none 0 0]) rfl rfl rfl (by kernel_rfl) (Blk.below hk_8 (bt hb_12 hb_17)) 0 [.int .i64 0, .string ByteArray.empty, .int .i64 0, .int .i64 0, .string ByteArray.empty, .int .i64 0, .slice none 0 0] #[.int .i64 0, .string ByteArray.empty, .int .i64 0, .int .i64 0, .string ByteArray.empty, .int .i64 0, .slice none 0 0] ⟨by kernel_rfl, rfl, by kernel_rfl⟩ ⟨by kernel_rfl, by kernel_rfl⟩ (Nat.le_of_ble_eq_true (by kernel_rfl)) (fun w_689 hg_690 hk_691 hz_692 => ?_)
    have hne_693 : w_6.heap.size ≠ w_1.heap.size := Nat.ne_of_gt (Nat.lt_of_lt_of_le (Blk.lt hk_8) (Nat.le_refl _))
    have hk_694 := Blk.other (Blk.below hk_13 hb_17) hg_690 hne_693
    refine XL_store (v := .agg #[.int .i64 0, .string ByteArray.empty, .int .i64 0, .int .i64 0, .string ByteArray.empty, .int .i64 0, .slice none 0 0]) rfl rfl rfl (by kernel_rfl) hk_694 0 [.int .i64 0, .string ByteArray.empty, .int .i64 0, .int .i64 0, .string ByteArray.empty, .int .i64 0, .slice none 0 0] #[.int .i64 0, .string ByteArray.empty, .int .i64 0, .int .i64 0, .string ByteArray.empty, .int .i64 0, .slice none 0 0] ⟨by kernel_rfl, rfl, by kernel_rfl⟩ ⟨by kernel_rfl, by kernel_rfl⟩ (Nat.le_of_ble_eq_true (by kernel_rfl)) (fun w_695 hg_696 hk_697 hz_698 => ?_)
    have hne_699 : w_1.heap.size ≠ w_6.heap.size := Nat.ne_of_lt (Nat.lt_of_lt_of_le (Blk.lt hk_8) (Nat.le_refl _))
    have hk_700 := Blk.other hk_691 hg_696 hne_699
    refine XL_run 1 [] [(4, .pointer (some ⟨w_1.heap.size, 0, none⟩)), (5, .pointer (some ⟨w_6.heap.size, 0, none⟩)), (6, .int .i64 (refuseP o : Int))] w_695 [] (by kernel_rfl) trivial ?_
    refine XL_nil ?_
    refine X_ret ?_
    refine RX.ret_cellCCT (P := Tryd.prog) (fn := Tryd.f59) (N := 49) (R := R_) (c := 4) (d := 5) (t := 33) (t' := 33) (p := ⟨w_1.heap.size, 0, none⟩) (p' := ⟨w_6.heap.size, 0, none⟩) (v := .agg #[.int .i64 0, .string ByteArray.empty, .int .i64 0, .int .i64 0, .string ByteArray.empty, .int .i64 0, .slice none 0 0]) (v' := .agg #[.int .i64 0, .string ByteArray.empty, .int .i64 0, .int .i64 0, .string ByteArray.empty, .int .i64 0, .slice none 0 0]) (u := .int .i64 (refuseP o : Int)) rfl rfl (loadsB rfl rfl hk_700 0 ⟨by kernel_rfl, by kernel_rfl⟩) rfl (loadsB rfl rfl hk_697 0 ⟨by kernel_rfl, by kernel_rfl⟩) rfl (hR_ _ _ ?_)
    have hB_701 : Below w.heap.size w w_695 := (bg (bg (bt (bt (bt hb_2 hb_7) hb_12) hb_17) hg_690 (hb_2).size) hg_696 ((bt hb_2 hb_7)).size)
    rw [show cutO o n = (op0, op0, refuseP o) from if_pos (by omega)]
    exact ⟨none, 0, none, 0, rfl, Kd.R_nil _ _ _ _ _, Kd.R_nil _ _ _ _ _, hB_701⟩
end Go.Proofs.YtekfdfafhfhfbaaDoor
