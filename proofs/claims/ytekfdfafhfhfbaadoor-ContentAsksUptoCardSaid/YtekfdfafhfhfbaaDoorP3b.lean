/- What vellumref04.Join and Newlines answer. Conditions: sizes, the tables of utf8. -/
import Derived.Test.YtekfdfafhfhfbaaDoorP2
set_option linter.unusedVariables false
set_option linter.unusedSimpArgs false
set_option maxRecDepth 100000
namespace Go.Proofs.YtekfdfafhfhfbaaDoor
open Go Go.RowKit Go.Proofs.YtekfdfafhfhfbaaDoorW.PrintWords RX
theorem ent46 : Ent Tryd.prog 46 := ent_of Tryd.func46 (by kernel_rfl) rfl
theorem ent54 : Ent Tryd.prog 54 := ent_of Tryd.func54 (by kernel_rfl) rfl
theorem ent107 : Ent Tryd.prog 107 := ent_of Tryd.func107 (by kernel_rfl) rfl
set_option maxHeartbeats 4000000 in
theorem r4join_any (a b : OpA) (A B : Option Addr) (c d : Nat) (w : World) (hA : kAttr.C w A a.attrs.length a.attrs) (hB : kAttr.C w B b.attrs.length b.attrs) (hza : opSz a) (hzb : opSz b) (hT : Tabs w) : Calls Tryd.prog 62 #[.agg #[.int .i64 a.kind, .string a.text, .int .i64 a.vk, .int .i64 a.vn, .string a.vt, .int .i64 a.count, .slice A a.attrs.length c], .agg #[.int .i64 b.kind, .string b.text, .int .i64 b.vk, .int .i64 b.vn, .string b.vt, .int .i64 b.count, .slice B b.attrs.length d]] w fun e w' =>
    ∃ A1 c1, e = .returned (.tuple #[.agg (opV (joinO a b).1 A1 c1).toArray, .bool (joinO a b).2.1, .int .i64 ((joinO a b).2.2 : Int)]) ∧ kAttr.R 79 w' w.heap.size (OkFrom w.heap.size) (.slice A1 (joinO a b).1.attrs.length c1) (joinO a b).1.attrs ∧ Below w.heap.size w w' := by
  have hz1 := hza.1
  have hz2 := hzb.1
  have hz3 := hza.2.2.1
  refine RX.enter Tryd.func62 rfl 46 rfl [(0, .agg #[.int .i64 a.kind, .string a.text, .int .i64 a.vk, .int .i64 a.vn, .string a.vt, .int .i64 a.count, .slice A a.attrs.length c]), (1, .agg #[.int .i64 b.kind, .string b.text, .int .i64 b.vk, .int .i64 b.vn, .string b.vt, .int .i64 b.count, .slice B b.attrs.length d])] rfl (by kernel_rfl) (fun R_ hR_ => ?_)
  refine X_seq ?_
  refine X_region ?_
  refine XL_run 1 [] [(1, .agg #[.int .i64 b.kind, .string b.text, .int .i64 b.vk, .int .i64 b.vn, .string b.vt, .int .i64 b.count, .slice B b.attrs.length d]), (2, .pointer (some ⟨w.heap.size, 0, none⟩))] (w.alloc (.cells #[.int .i64 a.kind, .string a.text, .int .i64 a.vk, .int .i64 a.vn, .string a.vt, .int .i64 a.count, .slice A a.attrs.length c] 33)) [] (by kernel_rfl) trivial ?_
  obtain ⟨w_1, hw_5, hb_2, hk_3, hz_4⟩ := new_world w #[.int .i64 a.kind, .string a.text, .int .i64 a.vk, .int .i64 a.vn, .string a.vt, .int .i64 a.count, .slice A a.attrs.length c] 33
  rw [hw_5]
  refine XL_run 1 [] [(2, .pointer (some ⟨w.heap.size, 0, none⟩)), (3, .pointer (some ⟨w_1.heap.size, 0, none⟩))] (w_1.alloc (.cells #[.int .i64 b.kind, .string b.text, .int .i64 b.vk, .int .i64 b.vn, .string b.vt, .int .i64 b.count, .slice B b.attrs.length d] 33)) [] (by kernel_rfl) trivial ?_
  obtain ⟨w_6, hw_10, hb_7, hk_8, hz_9⟩ := new_world w_1 #[.int .i64 b.kind, .string b.text, .int .i64 b.vk, .int .i64 b.vn, .string b.vt, .int .i64 b.count, .slice B b.attrs.length d] 33
  rw [hw_10]
  refine XL_run 1 [] [(2, .pointer (some ⟨w.heap.size, 0, none⟩)), (3, .pointer (some ⟨w_1.heap.size, 0, none⟩)), (4, .pointer (some ⟨w_6.heap.size, 0, none⟩))] (w_6.alloc (.cells #[.int .i64 0, .string ByteArray.empty, .int .i64 0, .int .i64 0, .string ByteArray.empty, .int .i64 0, .slice none 0 0] 33)) [] (by kernel_rfl) trivial ?_
  obtain ⟨w_11, hw_15, hb_12, hk_13, hz_14⟩ := new_world w_6 #[.int .i64 0, .string ByteArray.empty, .int .i64 0, .int .i64 0, .string ByteArray.empty, .int .i64 0, .slice none 0 0] 33
  rw [hw_15]
  refine XL_run 2 [] [(2, .pointer (some ⟨w.heap.size, 0, none⟩)), (3, .pointer (some ⟨w_1.heap.size, 0, none⟩)), (4, .pointer (some ⟨w_6.heap.size, 0, none⟩))] w_11 [] (by kernel_rfl) trivial ?_
  refine XL_nil ?_
  refine X_seq ?_
  refine X_region ?_
  refine XL_run 1 [(9, .load (.agg #[.int .i64 a.kind, .string a.text, .int .i64 a.vk, .int .i64 a.vn, .string a.vt, .int .i64 a.count, .slice A a.attrs.length c]))] [(2, .pointer (some ⟨w.heap.size, 0, none⟩)), (3, .pointer (some ⟨w_1.heap.size, 0, none⟩)), (4, .pointer (some ⟨w_6.heap.size, 0, none⟩)), (9, .agg #[.int .i64 a.kind, .string a.text, .int .i64 a.vk, .int .i64 a.vn, .string a.vt, .int .i64 a.count, .slice A a.attrs.length c])] w_11 [LoadsAs Tryd.prog 33 (⟨w.heap.size, 0, none⟩) (.agg #[.int .i64 a.kind, .string a.text, .int .i64 a.vk, .int .i64 a.vn, .string a.vt, .int .i64 a.count, .slice A a.attrs.length c]) w_11] (by kernel_rfl) ⟨loadsB rfl rfl (Blk.below hk_3 (bt hb_7 hb_12)) 0 ⟨by kernel_rfl, by kernel_rfl⟩, trivial⟩ ?_
  refine XL_call 46 rfl rfl rfl ent46 [.agg #[.int .i64 a.kind, .string a.text, .int .i64 a.vk, .int .i64 a.vn, .string a.vt, .int .i64 a.count, .slice A a.attrs.length c]] (by kernel_rfl) (r4refuse_any a _ _ _ (Kd.C_below hA (bt (bt hb_2 hb_7) hb_12)) hza (hT.below (bt (bt hb_2 hb_7) hb_12))) ?_
  rintro e w_16 ⟨rfl, hb_17⟩; refine ⟨_, rfl, ?_⟩
  refine XL_run 1 [] [(2, .pointer (some ⟨w.heap.size, 0, none⟩)), (3, .pointer (some ⟨w_1.heap.size, 0, none⟩)), (4, .pointer (some ⟨w_6.heap.size, 0, none⟩)), (7, .int .i64 (refuseP a : Int))] w_16 [] (by kernel_rfl) trivial ?_
  refine XL_nil ?_
  refine X_seq ?_
  refine X_seq ?_
  refine X_region ?_
  refine XL_run 1 [] [(2, .pointer (some ⟨w.heap.size, 0, none⟩)), (3, .pointer (some ⟨w_1.heap.size, 0, none⟩)), (4, .pointer (some ⟨w_6.heap.size, 0, none⟩)), (7, .int .i64 (refuseP a : Int)), (11, .int .i64 (refuseP a : Int))] w_16 [] (by kernel_rfl) trivial ?_
  by_cases c_18 : (refuseP a : Int) = 0
  · refine XL_run 1 [(12, .eq (.bool true))] [(2, .pointer (some ⟨w.heap.size, 0, none⟩)), (3, .pointer (some ⟨w_1.heap.size, 0, none⟩)), (4, .pointer (some ⟨w_6.heap.size, 0, none⟩)), (7, .int .i64 (refuseP a : Int)), (12, .bool true)] w_16 [Value.bool ((refuseP a : Int) == 0) = Value.bool true] (by kernel_rfl) ⟨congrArg Value.bool (beq_iff_eq.2 (c_18)), trivial⟩ ?_
    refine XL_nil ?_
    refine X_cond true rfl ?_
    refine X_region ?_
    refine XL_run 1 [(13, .load (.agg #[.int .i64 b.kind, .string b.text, .int .i64 b.vk, .int .i64 b.vn, .string b.vt, .int .i64 b.count, .slice B b.attrs.length d]))] [(2, .pointer (some ⟨w.heap.size, 0, none⟩)), (3, .pointer (some ⟨w_1.heap.size, 0, none⟩)), (4, .pointer (some ⟨w_6.heap.size, 0, none⟩)), (13, .agg #[.int .i64 b.kind, .string b.text, .int .i64 b.vk, .int .i64 b.vn, .string b.vt, .int .i64 b.count, .slice B b.attrs.length d])] w_16 [LoadsAs Tryd.prog 33 (⟨w_1.heap.size, 0, none⟩) (.agg #[.int .i64 b.kind, .string b.text, .int .i64 b.vk, .int .i64 b.vn, .string b.vt, .int .i64 b.count, .slice B b.attrs.length d]) w_16] (by kernel_rfl) ⟨loadsB rfl rfl (Blk.below hk_8 (bt hb_12 hb_17)) 0 ⟨by kernel_rfl, by kernel_rfl⟩, trivial⟩ ?_
    refine XL_call 46 rfl rfl rfl ent46 [.agg #[.int .i64 b.kind, .string b.text, .int .i64 b.vk, .int .i64 b.vn, .string b.vt, .int .i64 b.count, .slice B b.attrs.length d]] (by kernel_rfl) (r4refuse_any b _ _ _ (Kd.C_below hB (bt (bt (bt hb_2 hb_7) hb_12) hb_17)) hzb (hT.below (bt (bt (bt hb_2 hb_7) hb_12) hb_17))) ?_
    rintro e w_19 ⟨rfl, hb_20⟩; refine ⟨_, rfl, ?_⟩
    refine XL_run 1 [] [(2, .pointer (some ⟨w.heap.size, 0, none⟩)), (3, .pointer (some ⟨w_1.heap.size, 0, none⟩)), (4, .pointer (some ⟨w_6.heap.size, 0, none⟩)), (7, .int .i64 (refuseP b : Int))] w_19 [] (by kernel_rfl) trivial ?_
    refine XL_nil ?_
    refine X_seq ?_
    refine X_seq ?_
    refine X_region ?_
    refine XL_run 1 [] [(2, .pointer (some ⟨w.heap.size, 0, none⟩)), (3, .pointer (some ⟨w_1.heap.size, 0, none⟩)), (4, .pointer (some ⟨w_6.heap.size, 0, none⟩)), (7, .int .i64 (refuseP b : Int)), (15, .int .i64 (refuseP b : Int))] w_19 [] (by kernel_rfl) trivial ?_
    by_cases c_21 : (refuseP b : Int) = 0
    · refine XL_run 1 [(16, .eq (.bool false))] [(2, .pointer (some ⟨w.heap.size, 0, none⟩)), (3, .pointer (some ⟨w_1.heap.size, 0, none⟩)), (4, .pointer (some ⟨w_6.heap.size, 0, none⟩)), (7, .int .i64 (refuseP b : Int)), (16, .bool false)] w_19 [Value.bool ((refuseP b : Int) != 0) = Value.bool false] (by kernel_rfl) ⟨congrArg Value.bool (bneF (c_21)), trivial⟩ ?_
      refine XL_nil ?_
      refine X_cond false rfl ?_
      refine X_skip ?_
      refine X_seq ?_
      refine X_region ?_
      refine XL_run 4 [(20, .load (.slice A a.attrs.length c)), (22, .load (.slice B b.attrs.length d))] [(2, .pointer (some ⟨w.heap.size, 0, none⟩)), (3, .pointer (some ⟨w_1.heap.size, 0, none⟩)), (4, .pointer (some ⟨w_6.heap.size, 0, none⟩)), (20, .slice A a.attrs.length c), (22, .slice B b.attrs.length d)] w_19 [LoadsAs Tryd.prog 31 (⟨w.heap.size, 6, none⟩) (.slice A a.attrs.length c) w_19, LoadsAs Tryd.prog 31 (⟨w_1.heap.size, 6, none⟩) (.slice B b.attrs.length d) w_19] (by kernel_rfl) ⟨loads1 rfl (Blk.cell (Blk.below hk_3 (bt (bt (bt hb_7 hb_12) hb_17) hb_20)) 6 _ rfl), loads1 rfl (Blk.cell (Blk.below hk_8 (bt (bt hb_12 hb_17) hb_20)) 6 _ rfl), trivial⟩ ?_
      have hB_22 : Below w.heap.size w w_19 := (bt (bt (bt (bt hb_2 hb_7) hb_12) hb_17) hb_20)
      refine XL_call 65 rfl rfl rfl ent65 [.slice A a.attrs.length c, .slice B b.attrs.length d] (by kernel_rfl) (sattrs_any _ _ _ _ a.attrs b.attrs _ (Kd.C_below hA hB_22) (Kd.C_below hB hB_22)) ?_
      rintro e w_23 ⟨rfl, hb_24⟩; refine ⟨_, rfl, ?_⟩
      refine XL_run 1 [] [(2, .pointer (some ⟨w.heap.size, 0, none⟩)), (3, .pointer (some ⟨w_1.heap.size, 0, none⟩)), (4, .pointer (some ⟨w_6.heap.size, 0, none⟩)), (8, .bool (decide (a.attrs = b.attrs)))] w_23 [] (by kernel_rfl) trivial ?_
      refine XL_nil ?_
      refine X_seq ?_
      refine X_seq ?_
      refine X_region ?_
      refine XL_run 1 [] [(2, .pointer (some ⟨w.heap.size, 0, none⟩)), (3, .pointer (some ⟨w_1.heap.size, 0, none⟩)), (4, .pointer (some ⟨w_6.heap.size, 0, none⟩)), (24, .bool (decide (a.attrs = b.attrs)))] w_23 [] (by kernel_rfl) trivial ?_
      by_cases c_25 : decide (a.attrs = b.attrs) = true
      · rw [show (decide (a.attrs = b.attrs) : Bool) = true from by simpa using c_25]
        have hB_26 : Below w_1.heap.size w_1 w_23 := (bt (bt (bt (bt hb_7 hb_12) hb_17) hb_20) hb_24)
        refine XL_run 4 [(28, .load (.int .i64 a.kind))] [(2, .pointer (some ⟨w.heap.size, 0, none⟩)), (3, .pointer (some ⟨w_1.heap.size, 0, none⟩)), (4, .pointer (some ⟨w_6.heap.size, 0, none⟩)), (26, .bool false), (28, .int .i64 a.kind)] w_23 [LoadsAs Tryd.prog 3 (⟨w.heap.size, 0, none⟩) (.int .i64 a.kind) w_23] (by kernel_rfl) ⟨loads1 rfl (Blk.cell (Blk.below hk_3 hB_26) 0 _ rfl), trivial⟩ ?_
        by_cases c_27 : a.kind = 1
        · refine XL_run 5 [(29, .eq (.bool false)), (33, .load (.int .i64 b.kind))] [(2, .pointer (some ⟨w.heap.size, 0, none⟩)), (3, .pointer (some ⟨w_1.heap.size, 0, none⟩)), (4, .pointer (some ⟨w_6.heap.size, 0, none⟩)), (31, .bool false), (33, .int .i64 b.kind)] w_23 [Value.bool (a.kind != 1) = Value.bool false, LoadsAs Tryd.prog 3 (⟨w_1.heap.size, 0, none⟩) (.int .i64 b.kind) w_23] (by kernel_rfl) ⟨congrArg Value.bool (bneF (c_27)), loads1 rfl (Blk.cell (Blk.below hk_8 (bt (bt (bt hb_12 hb_17) hb_20) hb_24)) 0 _ rfl), trivial⟩ ?_
          by_cases c_28 : b.kind = 1
          · refine XL_run 2 [(34, .eq (.bool false))] [(2, .pointer (some ⟨w.heap.size, 0, none⟩)), (3, .pointer (some ⟨w_1.heap.size, 0, none⟩)), (4, .pointer (some ⟨w_6.heap.size, 0, none⟩)), (35, .bool false)] w_23 [Value.bool (b.kind != 1) = Value.bool false] (by kernel_rfl) ⟨congrArg Value.bool (bneF (c_28)), trivial⟩ ?_
            refine XL_nil ?_
            refine X_cond false rfl ?_
            refine X_skip ?_
            refine X_seq ?_
            refine X_gen (S := fun w_ => RX.Blk w_ w.heap.size 33 #[.int .i64 a.kind, .string a.text, .int .i64 a.vk, .int .i64 a.vn, .string a.vt, .int .i64 a.count, .slice A a.attrs.length c] ∧ RX.Blk w_ w_1.heap.size 33 #[.int .i64 b.kind, .string b.text, .int .i64 b.vk, .int .i64 b.vn, .string b.vt, .int .i64 b.count, .slice B b.attrs.length d]) [] 12 #[false, false, false, false, false, false, false, false, false, false, false, false] (by kernel_rfl) (by kernel_rfl) (by kernel_rfl) (fun wd_29 hb_30 hh_31 => ?_)
            have hB_32 : Below w_6.heap.size w_6 wd_29 := (bt (bt (bt (bt hb_12 hb_17) hb_20) hb_24) hb_30)
            refine XG_run (fuel' := 5) ⟨(Blk.below hk_3 (bt hB_26 hb_30)), (Blk.below hk_8 hB_32)⟩ [0, 1, 2, 3, 4, 5, 6] [(38, .load (.string a.text)), (40, .load (.string b.text)), (41, .as (.string (a.text ++ b.text))), (43, .load (.slice A a.attrs.length c))] [.pointer (some ⟨w.heap.size, 1, none⟩), .string a.text, .pointer (some ⟨w_1.heap.size, 1, none⟩), .string b.text, .string (a.text ++ b.text), .pointer (some ⟨w.heap.size, 6, none⟩), .slice A a.attrs.length c] #[true, true, true, true, true, true, true, false, false, false, false, false] [(4, .pointer (some ⟨w_6.heap.size, 0, none⟩)), (41, .string (a.text ++ b.text)), (43, .slice A a.attrs.length c)] (fun w_ => [LoadsAs Tryd.prog 9 (⟨w.heap.size, 1, none⟩) (.string a.text) w_, LoadsAs Tryd.prog 9 (⟨w_1.heap.size, 1, none⟩) (.string b.text) w_, RunsAs Tryd.prog [(38, .string a.text), (40, .string b.text)] (Go.Op.binOp Go.BinOp.add 9 (Go.Operand.tmp 38) (Go.Operand.tmp 40) 9) 9 (.string (a.text ++ b.text)) w_, LoadsAs Tryd.prog 31 (⟨w.heap.size, 6, none⟩) (.slice A a.attrs.length c) w_]) (fun _ _ _ _ h => h) (fun w_ => by kernel_rfl) rfl (fun w_ hC_ => ⟨loads1 rfl (Blk.cell hC_.1 1 _ rfl), loads1 rfl (Blk.cell hC_.2 1 _ rfl), runs_bin rfl rfl rfl (run_sadd (by omega)), loads1 rfl (Blk.cell hC_.1 6 _ rfl), trivial⟩) ?_
            refine XG_mid (fuel' := 4) 7 #[true, true, true, true, true, true, true, true, false, false, false, false] _ rfl (by kernel_rfl) (by kernel_rfl) rfl ?_
            refine XL_call 103 rfl rfl rfl ent103 [.slice A a.attrs.length c] (by kernel_rfl) (r4copied_any _ _ a.attrs _ (Kd.C_below hA (bt (bt hB_22 hb_24) hb_30)) (by omega)) ?_
            rintro e w_35 ⟨A_33, c_34, rfl, hl_37, hr_38, hb_36⟩; refine ⟨_, rfl, ?_⟩
            refine XL_nil ?_
            refine ⟨⟨(Blk.below hk_3 (bt (bt hB_26 hb_30) hb_36)), (Blk.below hk_8 (bt hB_32 hb_36))⟩, ?_⟩
            refine XG_run (fuel' := 3) ⟨(Blk.below hk_3 (bt (bt hB_26 hb_30) hb_36)), (Blk.below hk_8 (bt hB_32 hb_36))⟩ [8] [] [.agg #[.int .i64 1, .string (a.text ++ b.text), .int .i64 0, .int .i64 0, .string ByteArray.empty, .int .i64 0, .slice A_33 a.attrs.length c_34]] #[true, true, true, true, true, true, true, true, true, false, false, false] [(4, .pointer (some ⟨w_6.heap.size, 0, none⟩)), (45, .agg #[.int .i64 1, .string (a.text ++ b.text), .int .i64 0, .int .i64 0, .string ByteArray.empty, .int .i64 0, .slice A_33 a.attrs.length c_34])] (fun w_ => []) (fun _ _ _ _ h => h) (fun w_ => by kernel_rfl) rfl (fun w_ hC_ => trivial) ?_
            refine XG_mid (fuel' := 2) 9 #[true, true, true, true, true, true, true, true, true, true, false, false] _ rfl (by kernel_rfl) (by kernel_rfl) rfl ?_
            have hB_43 : Below w_11.heap.size w_11 w_35 := (bt (bt (bt (bt hb_17 hb_20) hb_24) hb_30) hb_36)
            refine XL_store (v := .agg #[.int .i64 1, .string (a.text ++ b.text), .int .i64 0, .int .i64 0, .string ByteArray.empty, .int .i64 0, .slice A_33 a.attrs.length c_34]) rfl rfl rfl (by kernel_rfl) (Blk.below hk_13 hB_43) 0 [.int .i64 1, .string (a.text ++ b.text), .int .i64 0, .int .i64 0, .string ByteArray.empty, .int .i64 0, .slice A_33 a.attrs.length c_34] #[.int .i64 1, .string (a.text ++ b.text), .int .i64 0, .int .i64 0, .string ByteArray.empty, .int .i64 0, .slice A_33 a.attrs.length c_34] ⟨by kernel_rfl, rfl, by kernel_rfl⟩ ⟨by kernel_rfl, by kernel_rfl⟩ (Nat.le_of_ble_eq_true (by kernel_rfl)) (fun w_39 hg_40 hk_41 hz_42 => ?_)
            have hr_44 := RX.Kd.R_past hr_38 hg_40 (Nat.lt_of_lt_of_le (Blk.lt hk_13) ((bt (bt (bt hb_17 hb_20) hb_24) hb_30)).size)
            refine XL_nil ?_
            have hB_45 : Below w_1.heap.size w_1 w_39 := (bg (bt (bt hB_26 hb_30) hb_36) hg_40 (hb_7).size)
            have hB_46 : Below w_6.heap.size w_6 w_39 := (bg (bt hB_32 hb_36) hg_40 (Nat.le_refl _))
            refine ⟨⟨(Blk.below hk_3 hB_45), (Blk.below hk_8 hB_46)⟩, ?_⟩
            refine XG_run (fuel' := 0) ⟨(Blk.below hk_3 hB_45), (Blk.below hk_8 hB_46)⟩ [10, 11] [] [.bool true, .int .i64 0] #[true, true, true, true, true, true, true, true, true, true, true, true] [(4, .pointer (some ⟨w_6.heap.size, 0, none⟩)), (5, .bool true), (6, .int .i64 0)] (fun w_ => []) (fun _ _ _ _ h => h) (fun w_ => by kernel_rfl) rfl (fun w_ hC_ => trivial) ?_
            refine XG_done (by kernel_rfl) ?_
            refine X_ret ?_
            refine RX.ret_cellCTT (P := Tryd.prog) (fn := Tryd.f62) (N := 46) (R := R_) (c := 4) (d := 5) (b := 6) (t := 33) (p := ⟨w_6.heap.size, 0, none⟩) (v := .agg #[.int .i64 1, .string (a.text ++ b.text), .int .i64 0, .int .i64 0, .string ByteArray.empty, .int .i64 0, .slice A_33 a.attrs.length c_34]) (v' := .bool true) (u := .int .i64 0) rfl rfl (loadsB rfl rfl hk_41 0 ⟨by kernel_rfl, by kernel_rfl⟩) rfl rfl (hR_ _ _ ?_)
            have hB_47 : Below w.heap.size w w_39 := (bg (bt (bt (bt hB_22 hb_24) hb_30) hb_36) hg_40 ((bt hb_2 hb_7)).size)
            rw [show joinO a b = (⟨1, a.text ++ b.text, 0, 0, ByteArray.empty, 0, a.attrs⟩, true, 0) from by unfold joinO; rw [if_neg (by omega), if_neg (by omega), if_pos ⟨by omega, by omega, of_decide_eq_true c_25⟩]]
            exact ⟨_, _, rfl, Kd.R_low hr_44 ((bt (bt hB_22 hb_24) hb_30)).size, hB_47⟩
          · refine XL_run 2 [(34, .eq (.bool true))] [(2, .pointer (some ⟨w.heap.size, 0, none⟩)), (3, .pointer (some ⟨w_1.heap.size, 0, none⟩)), (4, .pointer (some ⟨w_6.heap.size, 0, none⟩)), (35, .bool true)] w_23 [Value.bool (b.kind != 1) = Value.bool true] (by kernel_rfl) ⟨congrArg Value.bool (bneT (c_28)), trivial⟩ ?_
            refine XL_nil ?_
            refine X_cond true rfl ?_
            refine X_seq ?_
            refine X_region ?_
            refine XL_run 1 [] [(4, .pointer (some ⟨w_6.heap.size, 0, none⟩)), (36, .agg #[.int .i64 0, .string ByteArray.empty, .int .i64 0, .int .i64 0, .string ByteArray.empty, .int .i64 0, .slice none 0 0])] w_23 [] (by kernel_rfl) trivial ?_
            refine XL_store (v := .agg #[.int .i64 0, .string ByteArray.empty, .int .i64 0, .int .i64 0, .string ByteArray.empty, .int .i64 0, .slice none 0 0]) rfl rfl rfl (by kernel_rfl) (Blk.below hk_13 (bt (bt hb_17 hb_20) hb_24)) 0 [.int .i64 0, .string ByteArray.empty, .int .i64 0, .int .i64 0, .string ByteArray.empty, .int .i64 0, .slice none 0 0] #[.int .i64 0, .string ByteArray.empty, .int .i64 0, .int .i64 0, .string ByteArray.empty, .int .i64 0, .slice none 0 0] ⟨by kernel_rfl, rfl, by kernel_rfl⟩ ⟨by kernel_rfl, by kernel_rfl⟩ (Nat.le_of_ble_eq_true (by kernel_rfl)) (fun w_48 hg_49 hk_50 hz_51 => ?_)
            refine XL_run 2 [] [(4, .pointer (some ⟨w_6.heap.size, 0, none⟩)), (5, .bool false), (6, .int .i64 0)] w_48 [] (by kernel_rfl) trivial ?_
            refine XL_nil ?_
            refine X_ret ?_
            refine RX.ret_cellCTT (P := Tryd.prog) (fn := Tryd.f62) (N := 46) (R := R_) (c := 4) (d := 5) (b := 6) (t := 33) (p := ⟨w_6.heap.size, 0, none⟩) (v := .agg #[.int .i64 0, .string ByteArray.empty, .int .i64 0, .int .i64 0, .string ByteArray.empty, .int .i64 0, .slice none 0 0]) (v' := .bool false) (u := .int .i64 0) rfl rfl (loadsB rfl rfl hk_50 0 ⟨by kernel_rfl, by kernel_rfl⟩) rfl rfl (hR_ _ _ ?_)
            have hB_52 : Below w.heap.size w w_48 := (bg (bt hB_22 hb_24) hg_49 ((bt hb_2 hb_7)).size)
            rw [show joinO a b = (op0, false, 0) from by unfold joinO; rw [if_neg (by omega), if_neg (by omega), if_neg (fun h_ => by have h1_ := h_.1; have h2_ := h_.2.1; omega)]]
            exact ⟨none, 0, rfl, Kd.R_nil _ _ _ _ _, hB_52⟩
        · refine XL_run 7 [(29, .eq (.bool true))] [(2, .pointer (some ⟨w.heap.size, 0, none⟩)), (3, .pointer (some ⟨w_1.heap.size, 0, none⟩)), (4, .pointer (some ⟨w_6.heap.size, 0, none⟩)), (35, .bool true)] w_23 [Value.bool (a.kind != 1) = Value.bool true] (by kernel_rfl) ⟨congrArg Value.bool (bneT (c_27)), trivial⟩ ?_
          refine XL_nil ?_
          refine X_cond true rfl ?_
          refine X_seq ?_
          refine X_region ?_
          refine XL_run 1 [] [(4, .pointer (some ⟨w_6.heap.size, 0, none⟩)), (36, .agg #[.int .i64 0, .string ByteArray.empty, .int .i64 0, .int .i64 0, .string ByteArray.empty, .int .i64 0, .slice none 0 0])] w_23 [] (by kernel_rfl) trivial ?_
          refine XL_store (v := .agg #[.int .i64 0, .string ByteArray.empty, .int .i64 0, .int .i64 0, .string ByteArray.empty, .int .i64 0, .slice none 0 0]) rfl rfl rfl (by kernel_rfl) (Blk.below hk_13 (bt (bt hb_17 hb_20) hb_24)) 0 [.int .i64 0, .string ByteArray.empty, .int .i64 0, .int .i64 0, .string ByteArray.empty, .int .i64 0, .slice none 0 0] #[.int .i64 0, .string ByteArray.empty, .int .i64 0, .int .i64 0, .string ByteArray.empty, .int .i64 0, .slice none 0 0] ⟨by kernel_rfl, rfl, by kernel_rfl⟩ ⟨by kernel_rfl, by kernel_rfl⟩ (Nat.le_of_ble_eq_true (by kernel_rfl)) (fun w_53 hg_54 hk_55 hz_56 => ?_)
          refine XL_run 2 [] [(4, .pointer (some ⟨w_6.heap.size, 0, none⟩)), (5, .bool false), (6, .int .i64 0)] w_53 [] (by kernel_rfl) trivial ?_
          refine XL_nil ?_
          refine X_ret ?_
          refine RX.ret_cellCTT (P := Tryd.prog) (fn := Tryd.f62) (N := 46) (R := R_) (c := 4) (d := 5) (b := 6) (t := 33) (p := ⟨w_6.heap.size, 0, none⟩) (v := .agg #[.int .i64 0, .string ByteArray.empty, .int .i64 0, .int .i64 0, .string ByteArray.empty, .int .i64 0, .slice none 0 0]) (v' := .bool false) (u := .int .i64 0) rfl rfl (loadsB rfl rfl hk_55 0 ⟨by kernel_rfl, by kernel_rfl⟩) rfl rfl (hR_ _ _ ?_)
          have hB_57 : Below w.heap.size w w_53 := (bg (bt hB_22 hb_24) hg_54 ((bt hb_2 hb_7)).size)
          rw [show joinO a b = (op0, false, 0) from by unfold joinO; rw [if_neg (by omega), if_neg (by omega), if_neg (fun h_ => by have h1_ := h_.1; have h2_ := h_.2.1; omega)]]
          exact ⟨none, 0, rfl, Kd.R_nil _ _ _ _ _, hB_57⟩
      · rw [show (decide (a.attrs = b.attrs) : Bool) = false from by simpa using c_25]
        refine XL_run 11 [] [(2, .pointer (some ⟨w.heap.size, 0, none⟩)), (3, .pointer (some ⟨w_1.heap.size, 0, none⟩)), (4, .pointer (some ⟨w_6.heap.size, 0, none⟩)), (35, .bool true)] w_23 [] (by kernel_rfl) trivial ?_
        refine XL_nil ?_
        refine X_cond true rfl ?_
        refine X_seq ?_
        refine X_region ?_
        refine XL_run 1 [] [(4, .pointer (some ⟨w_6.heap.size, 0, none⟩)), (36, .agg #[.int .i64 0, .string ByteArray.empty, .int .i64 0, .int .i64 0, .string ByteArray.empty, .int .i64 0, .slice none 0 0])] w_23 [] (by kernel_rfl) trivial ?_
        refine XL_store (v := .agg #[.int .i64 0, .string ByteArray.empty, .int .i64 0, .int .i64 0, .string ByteArray.empty, .int .i64 0, .slice none 0 0]) rfl rfl rfl (by kernel_rfl) (Blk.below hk_13 (bt (bt hb_17 hb_20) hb_24)) 0 [.int .i64 0, .string ByteArray.empty, .int .i64 0, .int .i64 0, .string ByteArray.empty, .int .i64 0, .slice none 0 0] #[.int .i64 0, .string ByteArray.empty, .int .i64 0, .int .i64 0, .string ByteArray.empty, .int .i64 0, .slice none 0 0] ⟨by kernel_rfl, rfl, by kernel_rfl⟩ ⟨by kernel_rfl, by kernel_rfl⟩ (Nat.le_of_ble_eq_true (by kernel_rfl)) (fun w_58 hg_59 hk_60 hz_61 => ?_)
        refine XL_run 2 [] [(4, .pointer (some ⟨w_6.heap.size, 0, none⟩)), (5, .bool false), (6, .int .i64 0)] w_58 [] (by kernel_rfl) trivial ?_
        refine XL_nil ?_
        refine X_ret ?_
        refine RX.ret_cellCTT (P := Tryd.prog) (fn := Tryd.f62) (N := 46) (R := R_) (c := 4) (d := 5) (b := 6) (t := 33) (p := ⟨w_6.heap.size, 0, none⟩) (v := .agg #[.int .i64 0, .string ByteArray.empty, .int .i64 0, .int .i64 0, .string ByteArray.empty, .int .i64 0, .slice none 0 0]) (v' := .bool false) (u := .int .i64 0) rfl rfl (loadsB rfl rfl hk_60 0 ⟨by kernel_rfl, by kernel_rfl⟩) rfl rfl (hR_ _ _ ?_)
        have hB_62 : Below w.heap.size w w_58 := (bg (bt hB_22 hb_24) hg_59 ((bt hb_2 hb_7)).size)
        rw [show joinO a b = (op0, false, 0) from by unfold joinO; rw [if_neg (by omega), if_neg (by omega), if_neg (fun h_ => by have h1_ := h_.1; have h2_ := h_.2.1; exact c_25 (decide_eq_true h_.2.2))]]
        exact ⟨none, 0, rfl, Kd.R_nil _ _ _ _ _, hB_62⟩
    · refine XL_run 1 [(16, .eq (.bool true))] [(2, .pointer (some ⟨w.heap.size, 0, none⟩)), (3, .pointer (some ⟨w_1.heap.size, 0, none⟩)), (4, .pointer (some ⟨w_6.heap.size, 0, none⟩)), (7, .int .i64 (refuseP b : Int)), (16, .bool true)] w_19 [Value.bool ((refuseP b : Int) != 0) = Value.bool true] (by kernel_rfl) ⟨congrArg Value.bool (bneT (c_21)), trivial⟩ ?_
      refine XL_nil ?_
      refine X_cond true rfl ?_
      refine X_seq ?_
      refine X_region ?_
      refine XL_run 2 [] [(4, .pointer (some ⟨w_6.heap.size, 0, none⟩)), (17, .agg #[.int .i64 0, .string ByteArray.empty, .int .i64 0, .int .i64 0, .string ByteArray.empty, .int .i64 0, .slice none 0 0]), (18, .int .i64 (refuseP b : Int))] w_19 [] (by kernel_rfl) trivial ?_
      refine XL_store (v := .agg #[.int .i64 0, .string ByteArray.empty, .int .i64 0, .int .i64 0, .string ByteArray.empty, .int .i64 0, .slice none 0 0]) rfl rfl rfl (by kernel_rfl) (Blk.below hk_13 (bt hb_17 hb_20)) 0 [.int .i64 0, .string ByteArray.empty, .int .i64 0, .int .i64 0, .string ByteArray.empty, .int .i64 0, .slice none 0 0] #[.int .i64 0, .string ByteArray.empty, .int .i64 0, .int .i64 0, .string ByteArray.empty, .int .i64 0, .slice none 0 0] ⟨by kernel_rfl, rfl, by kernel_rfl⟩ ⟨by kernel_rfl, by kernel_rfl⟩ (Nat.le_of_ble_eq_true (by kernel_rfl)) (fun w_63 hg_64 hk_65 hz_66 => ?_)
      refine XL_run 2 [] [(4, .pointer (some ⟨w_6.heap.size, 0, none⟩)), (5, .bool false), (6, .int .i64 (refuseP b : Int))] w_63 [] (by kernel_rfl) trivial ?_
      refine XL_nil ?_
      refine X_ret ?_
      refine RX.ret_cellCTT (P := Tryd.prog) (fn := Tryd.f62) (N := 46) (R := R_) (c := 4) (d := 5) (b := 6) (t := 33) (p := ⟨w_6.heap.size, 0, none⟩) (v := .agg #[.int .i64 0, .string ByteArray.empty, .int .i64 0, .int .i64 0, .string ByteArray.empty, .int .i64 0, .slice none 0 0]) (v' := .bool false) (u := .int .i64 (refuseP b : Int)) rfl rfl (loadsB rfl rfl hk_65 0 ⟨by kernel_rfl, by kernel_rfl⟩) rfl rfl (hR_ _ _ ?_)
      have hB_67 : Below w.heap.size w w_63 := (bg (bt (bt (bt (bt hb_2 hb_7) hb_12) hb_17) hb_20) hg_64 ((bt hb_2 hb_7)).size)
      rw [show joinO a b = (op0, false, refuseP b) from by unfold joinO; rw [if_neg (by omega), if_pos (by omega)]]
      exact ⟨none, 0, rfl, Kd.R_nil _ _ _ _ _, hB_67⟩
  · refine XL_run 1 [(12, .eq (.bool false))] [(2, .pointer (some ⟨w.heap.size, 0, none⟩)), (3, .pointer (some ⟨w_1.heap.size, 0, none⟩)), (4, .pointer (some ⟨w_6.heap.size, 0, none⟩)), (7, .int .i64 (refuseP a : Int)), (12, .bool false)] w_16 [Value.bool ((refuseP a : Int) == 0) = Value.bool false] (by kernel_rfl) ⟨congrArg Value.bool (beq_eq_false_iff_ne.2 (c_18)), trivial⟩ ?_
    refine XL_nil ?_
    refine X_cond false rfl ?_
    refine X_skip ?_
    refine X_seq ?_
    refine X_seq ?_
    refine X_region ?_
    refine XL_run 2 [(16, .eq (.bool true))] [(2, .pointer (some ⟨w.heap.size, 0, none⟩)), (3, .pointer (some ⟨w_1.heap.size, 0, none⟩)), (4, .pointer (some ⟨w_6.heap.size, 0, none⟩)), (7, .int .i64 (refuseP a : Int)), (16, .bool true)] w_16 [Value.bool ((refuseP a : Int) != 0) = Value.bool true] (by kernel_rfl) ⟨congrArg Value.bool (bneT (c_18)), trivial⟩ ?_
    refine XL_nil ?_
    refine X_cond true rfl ?_
    refine X_seq ?_
    refine X_region ?_
    refine XL_run 2 [] [(4, .pointer (some ⟨w_6.heap.size, 0, none⟩)), (17, .agg #[.int .i64 0, .string ByteArray.empty, .int .i64 0, .int .i64 0, .string ByteArray.empty, .int .i64 0, .slice none 0 0]), (18, .int .i64 (refuseP a : Int))] w_16 [] (by kernel_rfl) trivial ?_
    refine XL_store (v := .agg #[.int .i64 0, .string ByteArray.empty, .int .i64 0, .int .i64 0, .string ByteArray.empty, .int .i64 0, .slice none 0 0]) rfl rfl rfl (by kernel_rfl) (Blk.below hk_13 hb_17) 0 [.int .i64 0, .string ByteArray.empty, .int .i64 0, .int .i64 0, .string ByteArray.empty, .int .i64 0, .slice none 0 0] #[.int .i64 0, .string ByteArray.empty, .int .i64 0, .int .i64 0, .string ByteArray.empty, .int .i64 0, .slice none 0 0] ⟨by kernel_rfl, rfl, by kernel_rfl⟩ ⟨by kernel_rfl, by kernel_rfl⟩ (Nat.le_of_ble_eq_true (by kernel_rfl)) (fun w_68 hg_69 hk_70 hz_71 => ?_)
    refine XL_run 2 [] [(4, .pointer (some ⟨w_6.heap.size, 0, none⟩)), (5, .bool false), (6, .int .i64 (refuseP a : Int))] w_68 [] (by kernel_rfl) trivial ?_
    refine XL_nil ?_
    refine X_ret ?_
    refine RX.ret_cellCTT (P := Tryd.prog) (fn := Tryd.f62) (N := 46) (R := R_) (c := 4) (d := 5) (b := 6) (t := 33) (p := ⟨w_6.heap.size, 0, none⟩) (v := .agg #[.int .i64 0, .string ByteArray.empty, .int .i64 0, .int .i64 0, .string ByteArray.empty, .int .i64 0, .slice none 0 0]) (v' := .bool false) (u := .int .i64 (refuseP a : Int)) rfl rfl (loadsB rfl rfl hk_70 0 ⟨by kernel_rfl, by kernel_rfl⟩) rfl rfl (hR_ _ _ ?_)
    have hB_72 : Below w.heap.size w w_68 := (bg (bt (bt (bt hb_2 hb_7) hb_12) hb_17) hg_69 ((bt hb_2 hb_7)).size)
    rw [show joinO a b = (op0, false, refuseP a) from if_pos (by omega)]
    exact ⟨none, 0, rfl, Kd.R_nil _ _ _ _ _, hB_72⟩
theorem nlC_take (xs : List CellA) (i : Nat) (h : i < xs.length) : nlC (xs.take (i + 1)) = nlC (xs.take i) + (if (xs.getD i cell0).rune = 10 then 1 else 0) := by
  rw [take_snocD cell0 xs i h, nlC_append]
  simp [nlC]
theorem nlC_le : ∀ xs : List CellA, nlC xs ≤ xs.length
  | [] => Nat.le_refl _
  | c :: r => by have := nlC_le r; simp only [nlC, List.length_cons]; split <;> omega
set_option maxHeartbeats 4000000 in
theorem r4nl_any (o : OpA) (A : Option Addr) (c : Nat) (w : World) (hA : kAttr.C w A o.attrs.length o.attrs) (hz : opSz o) : Calls Tryd.prog 56 #[.agg #[.int .i64 o.kind, .string o.text, .int .i64 o.vk, .int .i64 o.vn, .string o.vt, .int .i64 o.count, .slice A o.attrs.length c]] w fun e w' => e = .returned (.int .i64 (nlC (cellsP o) : Int)) ∧ Below w.heap.size w w' := by
  have hz3 := hz.2.2.1
  refine RX.enter Tryd.func56 rfl 20 rfl [(0, .agg #[.int .i64 o.kind, .string o.text, .int .i64 o.vk, .int .i64 o.vn, .string o.vt, .int .i64 o.count, .slice A o.attrs.length c])] rfl (by kernel_rfl) (fun R_ hR_ => ?_)
  refine X_seq ?_
  refine X_region ?_
  refine XL_run 1 [] [(1, .pointer (some ⟨w.heap.size, 0, none⟩))] (w.alloc (.cells #[.int .i64 o.kind, .string o.text, .int .i64 o.vk, .int .i64 o.vn, .string o.vt, .int .i64 o.count, .slice A o.attrs.length c] 33)) [] (by kernel_rfl) trivial ?_
  obtain ⟨w_1, hw_5, hb_2, hk_3, hz_4⟩ := new_world w #[.int .i64 o.kind, .string o.text, .int .i64 o.vk, .int .i64 o.vn, .string o.vt, .int .i64 o.count, .slice A o.attrs.length c] 33
  rw [hw_5]
  refine XL_run 1 [] [(1, .pointer (some ⟨w.heap.size, 0, none⟩))] w_1 [] (by kernel_rfl) trivial ?_
  refine XL_nil ?_
  refine X_seq ?_
  refine X_region ?_
  refine XL_run 1 [] [(1, .pointer (some ⟨w.heap.size, 0, none⟩)), (3, .int .i64 0)] w_1 [] (by kernel_rfl) trivial ?_
  refine XL_nil ?_
  refine X_seq ?_
  refine X_seq ?_
  refine X_region ?_
  refine XL_run 1 [(6, .load (.agg #[.int .i64 o.kind, .string o.text, .int .i64 o.vk, .int .i64 o.vn, .string o.vt, .int .i64 o.count, .slice A o.attrs.length c]))] [(3, .int .i64 0), (6, .agg #[.int .i64 o.kind, .string o.text, .int .i64 o.vk, .int .i64 o.vn, .string o.vt, .int .i64 o.count, .slice A o.attrs.length c])] w_1 [LoadsAs Tryd.prog 33 (⟨w.heap.size, 0, none⟩) (.agg #[.int .i64 o.kind, .string o.text, .int .i64 o.vk, .int .i64 o.vn, .string o.vt, .int .i64 o.count, .slice A o.attrs.length c]) w_1] (by kernel_rfl) ⟨loadsB rfl rfl hk_3 0 ⟨by kernel_rfl, by kernel_rfl⟩, trivial⟩ ?_
  refine XL_call 53 rfl rfl rfl ent53 [.agg #[.int .i64 o.kind, .string o.text, .int .i64 o.vk, .int .i64 o.vn, .string o.vt, .int .i64 o.count, .slice A o.attrs.length c]] (by kernel_rfl) (r4cells_any o _ _ _ (Kd.C_below hA hb_2) hz) ?_
  rintro e w_9 ⟨A_6, c_7, rfl, hr_8, hb_10⟩; refine ⟨_, rfl, ?_⟩
  have hC_11 := Kd.R_C hr_8
  have hnl : (cellsP o).length ≤ 9223372036854775807 := hC_11.2.1
  refine XL_run 2 [] [(3, .int .i64 0), (7, .slice A_6 ((cellsP o).length) c_7), (8, .int .i64 ((cellsP o).length : Int)), (9, .int .i64 0)] w_9 [] (by kernel_rfl) trivial ?_
  refine XL_nil ?_
  refine X_block ?_
  refine X_loop (ι := Nat) (fun i => [(3, .int .i64 (nlC ((cellsP o).take i) : Int)), (7, .slice A_6 ((cellsP o).length) c_7), (8, .int .i64 ((cellsP o).length : Int)), (9, .int .i64 (i : Int))]) (fun i wl => i ≤ (cellsP o).length ∧ Below w_9.heap.size w_9 wl) (fun i => (cellsP o).length - i) 0 ⟨by omega, Below.refl _ _⟩ (by kernel_rfl) ?_
  rintro i wl ⟨hi, HB⟩
  have hle := nlC_le ((cellsP o).take i)
  have hle2 : ((cellsP o).take i).length ≤ i := List.length_take_le _ _
  refine X_seq ?_
  refine X_region ?_
  by_cases c_12 : (i : Int) < ((cellsP o).length : Int)
  · refine XL_run 1 [(10, .eq (.bool true))] [(3, .int .i64 (nlC ((cellsP o).take i) : Int)), (7, .slice A_6 ((cellsP o).length) c_7), (8, .int .i64 ((cellsP o).length : Int)), (9, .int .i64 (i : Int)), (10, .bool true)] wl [Value.bool (decide ((i : Int) < ((cellsP o).length : Int))) = Value.bool true] (by kernel_rfl) ⟨congrArg Value.bool (decide_eq_true (c_12)), trivial⟩ ?_
    refine XL_nil ?_
    refine X_seq ?_
    refine X_cond true rfl ?_
    refine X_skip ?_
    refine X_seq ?_
    refine X_block ?_
    refine X_seq ?_
    refine X_region ?_
    obtain ⟨ad_13, B_16, c_17, ha_14, hc_15, hl_18, hC_19⟩ := Kd.atCell (Kd.C_below hC_11 HB) (i := (i : Int)) (by omega) (by omega)
    replace hc_15 : CellsAt wl (ad_13.add ((i : Int).toNat * 6)) [.int .i32 (((cellsP o).getD i cell0).rune), .string (((cellsP o).getD i cell0).kind), .int .i64 (((cellsP o).getD i cell0).vk), .int .i64 (((cellsP o).getD i cell0).vn), .string (((cellsP o).getD i cell0).vt), .slice B_16 (((cellsP o).getD i cell0).attrs.length) c_17] := hc_15
    replace hl_18 : ((cellsP o).getD i cell0).attrs.length ≤ c_17 := hl_18
    replace hC_19 : kAttr.C wl B_16 (((cellsP o).getD i cell0).attrs.length) ((cellsP o).getD i cell0).attrs := hC_19
    refine XL_run 3 [(11, .idx ad_13), (12, .load (.agg #[.int .i32 (((cellsP o).getD i cell0).rune), .string (((cellsP o).getD i cell0).kind), .int .i64 (((cellsP o).getD i cell0).vk), .int .i64 (((cellsP o).getD i cell0).vn), .string (((cellsP o).getD i cell0).vt), .slice B_16 (((cellsP o).getD i cell0).attrs.length) c_17]))] [(3, .int .i64 (nlC ((cellsP o).take i) : Int)), (5, .pointer (some ⟨wl.heap.size, 0, none⟩)), (7, .slice A_6 ((cellsP o).length) c_7), (8, .int .i64 ((cellsP o).length : Int)), (9, .int .i64 (i : Int)), (12, .agg #[.int .i32 (((cellsP o).getD i cell0).rune), .string (((cellsP o).getD i cell0).kind), .int .i64 (((cellsP o).getD i cell0).vk), .int .i64 (((cellsP o).getD i cell0).vn), .string (((cellsP o).getD i cell0).vt), .slice B_16 (((cellsP o).getD i cell0).attrs.length) c_17])] (wl.alloc (.cells #[.int .i32 0, .string ByteArray.empty, .int .i64 0, .int .i64 0, .string ByteArray.empty, .slice none 0 0] 98)) [A_6 = some ad_13, (0 : Int) ≤ (i : Int), (i : Int) < ((cellsP o).length : Int), LoadsAs Tryd.prog 98 (ad_13.add ((i : Int).toNat * 6)) (.agg #[.int .i32 (((cellsP o).getD i cell0).rune), .string (((cellsP o).getD i cell0).kind), .int .i64 (((cellsP o).getD i cell0).vk), .int .i64 (((cellsP o).getD i cell0).vn), .string (((cellsP o).getD i cell0).vt), .slice B_16 (((cellsP o).getD i cell0).attrs.length) c_17]) wl] (by kernel_rfl) ⟨ha_14, (by omega), (by omega), loadsE rfl rfl hc_15 0 ⟨by kernel_rfl, by kernel_rfl⟩, trivial⟩ ?_
    obtain ⟨w_20, hw_24, hb_21, hk_22, hz_23⟩ := new_world wl #[.int .i32 0, .string ByteArray.empty, .int .i64 0, .int .i64 0, .string ByteArray.empty, .slice none 0 0] 98
    rw [hw_24]
    refine XL_store (v := .agg #[.int .i32 (((cellsP o).getD i cell0).rune), .string (((cellsP o).getD i cell0).kind), .int .i64 (((cellsP o).getD i cell0).vk), .int .i64 (((cellsP o).getD i cell0).vn), .string (((cellsP o).getD i cell0).vt), .slice B_16 (((cellsP o).getD i cell0).attrs.length) c_17]) rfl rfl rfl (by kernel_rfl) hk_22 0 [.int .i32 (((cellsP o).getD i cell0).rune), .string (((cellsP o).getD i cell0).kind), .int .i64 (((cellsP o).getD i cell0).vk), .int .i64 (((cellsP o).getD i cell0).vn), .string (((cellsP o).getD i cell0).vt), .slice B_16 (((cellsP o).getD i cell0).attrs.length) c_17] #[.int .i32 (((cellsP o).getD i cell0).rune), .string (((cellsP o).getD i cell0).kind), .int .i64 (((cellsP o).getD i cell0).vk), .int .i64 (((cellsP o).getD i cell0).vn), .string (((cellsP o).getD i cell0).vt), .slice B_16 (((cellsP o).getD i cell0).attrs.length) c_17] ⟨by kernel_rfl, rfl, by kernel_rfl⟩ ⟨by kernel_rfl, by kernel_rfl⟩ (Nat.le_of_ble_eq_true (by kernel_rfl)) (fun w_25 hg_26 hk_27 hz_28 => ?_)
    refine XL_nil ?_
    refine X_seq ?_
    refine X_region ?_
    refine XL_run 2 [(14, .load (.int .i32 (((cellsP o).getD i cell0).rune)))] [(3, .int .i64 (nlC ((cellsP o).take i) : Int)), (7, .slice A_6 ((cellsP o).length) c_7), (8, .int .i64 ((cellsP o).length : Int)), (9, .int .i64 (i : Int)), (14, .int .i32 (((cellsP o).getD i cell0).rune))] w_25 [LoadsAs Tryd.prog 21 (⟨wl.heap.size, 0, none⟩) (.int .i32 (((cellsP o).getD i cell0).rune)) w_25] (by kernel_rfl) ⟨loads1 rfl (Blk.cell hk_27 0 _ rfl), trivial⟩ ?_
    by_cases c_29 : ((cellsP o).getD i cell0).rune = 10
    · refine XL_run 1 [(15, .eq (.bool true))] [(3, .int .i64 (nlC ((cellsP o).take i) : Int)), (7, .slice A_6 ((cellsP o).length) c_7), (8, .int .i64 ((cellsP o).length : Int)), (9, .int .i64 (i : Int)), (15, .bool true)] w_25 [Value.bool (((cellsP o).getD i cell0).rune == 10) = Value.bool true] (by kernel_rfl) ⟨congrArg Value.bool (beq_iff_eq.2 (c_29)), trivial⟩ ?_
      refine XL_nil ?_
      refine X_cond true rfl ?_
      refine X_region ?_
      refine XL_run 3 [(17, .eq (.int .i64 ((nlC ((cellsP o).take i) : Int) + 1)))] [(3, .int .i64 ((nlC ((cellsP o).take i) : Int) + 1)), (7, .slice A_6 ((cellsP o).length) c_7), (8, .int .i64 ((cellsP o).length : Int)), (9, .int .i64 (i : Int))] w_25 [Value.int .i64 (IntKind.i64.wrap ((nlC ((cellsP o).take i) : Int) + 1)) = Value.int .i64 ((nlC ((cellsP o).take i) : Int) + 1)] (by kernel_rfl) ⟨wr_i64 (by omega) (by omega), trivial⟩ ?_
      refine XL_nil ?_
      refine X_region ?_
      have hnt := nlC_take (cellsP o) i (by omega)
      rw [if_pos c_29] at hnt
      rw [show ((nlC ((cellsP o).take i) : Int) + 1 : Int) = ((nlC ((cellsP o).take (i + 1)) : Nat) : Int) from by omega]
      refine XL_run 2 [(18, .eq (.int .i64 ((i : Int) + 1)))] [(3, .int .i64 (nlC ((cellsP o).take (i + 1)) : Int)), (7, .slice A_6 ((cellsP o).length) c_7), (8, .int .i64 ((cellsP o).length : Int)), (9, .int .i64 ((i : Int) + 1))] w_25 [Value.int .i64 (IntKind.i64.wrap ((i : Int) + 1)) = Value.int .i64 ((i : Int) + 1)] (by kernel_rfl) ⟨wr_i64 (by omega) (by omega), trivial⟩ ?_
      refine XL_nil ?_
      refine ⟨(i + 1), by kernel_rfl, ?_, ?_⟩
      · exact ⟨by omega, (bg (bt HB hb_21) hg_26 (HB).size)⟩
      · (try dsimp only); omega
    · refine XL_run 1 [(15, .eq (.bool false))] [(3, .int .i64 (nlC ((cellsP o).take i) : Int)), (7, .slice A_6 ((cellsP o).length) c_7), (8, .int .i64 ((cellsP o).length : Int)), (9, .int .i64 (i : Int)), (15, .bool false)] w_25 [Value.bool (((cellsP o).getD i cell0).rune == 10) = Value.bool false] (by kernel_rfl) ⟨congrArg Value.bool (beq_eq_false_iff_ne.2 (c_29)), trivial⟩ ?_
      refine XL_nil ?_
      refine X_cond false rfl ?_
      refine X_skip ?_
      refine X_region ?_
      have hnt := nlC_take (cellsP o) i (by omega)
      rw [if_neg c_29] at hnt
      rw [show ((nlC ((cellsP o).take i) : Int) : Int) = ((nlC ((cellsP o).take (i + 1)) : Nat) : Int) from by omega]
      refine XL_run 2 [(18, .eq (.int .i64 ((i : Int) + 1)))] [(3, .int .i64 (nlC ((cellsP o).take (i + 1)) : Int)), (7, .slice A_6 ((cellsP o).length) c_7), (8, .int .i64 ((cellsP o).length : Int)), (9, .int .i64 ((i : Int) + 1))] w_25 [Value.int .i64 (IntKind.i64.wrap ((i : Int) + 1)) = Value.int .i64 ((i : Int) + 1)] (by kernel_rfl) ⟨wr_i64 (by omega) (by omega), trivial⟩ ?_
      refine XL_nil ?_
      refine ⟨(i + 1), by kernel_rfl, ?_, ?_⟩
      · exact ⟨by omega, (bg (bt HB hb_21) hg_26 (HB).size)⟩
      · (try dsimp only); omega
  · refine XL_run 1 [(10, .eq (.bool false))] [(3, .int .i64 (nlC ((cellsP o).take i) : Int)), (7, .slice A_6 ((cellsP o).length) c_7), (8, .int .i64 ((cellsP o).length : Int)), (9, .int .i64 (i : Int)), (10, .bool false)] wl [Value.bool (decide ((i : Int) < ((cellsP o).length : Int))) = Value.bool false] (by kernel_rfl) ⟨congrArg Value.bool (decide_eq_false (c_12)), trivial⟩ ?_
    refine XL_nil ?_
    refine X_seq ?_
    refine X_cond false rfl ?_
    refine X_exit ?_
    refine X_seq ?_
    refine X_region ?_
    refine XL_run 2 [] [(2, .int .i64 (nlC ((cellsP o).take i) : Int))] wl [] (by kernel_rfl) trivial ?_
    refine XL_nil ?_
    refine X_ret ?_
    refine RX.ret_ok (P := Tryd.prog) (fn := Tryd.f56) (N := 20) (R := R_) [.int .i64 (nlC ((cellsP o).take i) : Int)] (by kernel_rfl) (hR_ _ _ ?_)
    rw [show (cellsP o).take i = (cellsP o) from List.take_of_length_le (by omega)]
    exact ⟨rfl, (bt (bt hb_2 hb_10) HB)⟩
end Go.Proofs.YtekfdfafhfhfbaaDoor
