/- OpsSums returns true. Conditions: sizes, the tables of utf8, the errors' variables. -/
import Derived.Test.YtekfdfafhfhfbaaDoorO4a
import Derived.Test.YtekfdfafhfhfbaaDoorNum
set_option linter.unusedVariables false
set_option linter.unusedSimpArgs false
set_option maxRecDepth 100000
namespace Go.Proofs.YtekfdfafhfhfbaaDoor
open Go Go.RowKit Go.Proofs.YtekfdfafhfhfbaaDoorW.PrintWords RX
theorem ent4 : Ent Tryd.prog 4 := ent_of Tryd.func4 (by kernel_rfl) rfl
theorem sums_num {a b : List OpA} (ha : (lenP a).2.2 = 0) (hb : (lenP b).2.2 = 0) : ((lenP (a ++ b)).2.2 = 0 ∧ (lenP (a ++ b)).1 = (lenP a).1 + (lenP b).1 ∧ (lenP (a ++ b)).2.1 = (lenP a).2.1 + (lenP b).2.1 ∧ (lenP a).1 + (lenP b).1 ≤ 1099511627776 ∧ (lenP a).2.1 + (lenP b).2.1 ≤ 1099511627776) ∨
    ((lenP (a ++ b)).2.2 = 11 ∧ (1099511627776 < (lenP a).1 + (lenP b).1 ∨ 1099511627776 < (lenP a).2.1 + (lenP b).2.1)) := by
  have h := sums_ok ha hb
  by_cases hc : 1099511627776 < (lenP a).1 + (lenP b).1 ∨ 1099511627776 < (lenP a).2.1 + (lenP b).2.1
  · rw [if_pos hc] at h; rw [h]; exact .inr ⟨rfl, hc⟩
  · rw [if_neg hc] at h; rw [h]; exact .inl ⟨rfl, rfl, rfl, by omega, by omega⟩
set_option maxHeartbeats 4000000 in
theorem opsSums_any (A B : Option Addr) (c d : Nat) (xs ys : List OpA) (w : World) (hx : kOp.C w A xs.length xs) (hy : kOp.C w B ys.length ys) (hxc : xs.length ≤ c) (hyd : ys.length ≤ d) (hn : xs.length ≤ 1048576) (hny : ys.length ≤ 1048576) (hz : ∀ i, i < xs.length → opSz (xs.getD i op0)) (hzy : ∀ i, i < ys.length → opSz (ys.getD i op0)) (hT : Tabs w) (es : List Addr) (hE : Errs w es) : Calls Tryd.prog 4 #[.slice A xs.length c, .slice B ys.length d] w fun e w' => e = .returned (.bool true) ∧ Below w.heap.size w w' := by
  have hO : ErrsO w es := hE.on rfl
  have hpl : xs.length ≤ 9223372036854775807 := hx.2.1
  have hl1 : (xs ++ ys).length = xs.length + ys.length := List.length_append
  have hl2 : (ys ++ xs).length = ys.length + xs.length := List.length_append
  have hp1 := lenP_pos xs
  have hp2 := lenP_pos ys
  refine RX.enter Tryd.func4 rfl 127 rfl [(0, .slice A xs.length c), (1, .slice B ys.length d)] rfl (by kernel_rfl) (fun R_ hR_ => ?_)
  refine X_seq ?_
  refine X_region ?_
  refine XL_run 1 [] [(0, .slice A xs.length c), (1, .slice B ys.length d)] w [] (by kernel_rfl) trivial ?_
  refine XL_nil ?_
  refine X_seq ?_
  refine X_seq ?_
  refine X_region ?_
  refine XL_call 15 rfl rfl rfl ent15 [] (by kernel_rfl) (fixed_any _ (hT.below (Below.refl _ _)) es (hO.below (Below.refl _ _))) ?_
  rintro e w_1 ⟨rfl, hb_2⟩; refine ⟨_, rfl, ?_⟩
  refine XL_run 1 [] [(0, .slice A xs.length c), (1, .slice B ys.length d), (18, .bool false)] w_1 [] (by kernel_rfl) trivial ?_
  refine XL_nil ?_
  refine X_cond false rfl ?_
  refine X_skip ?_
  refine X_seq ?_
  refine X_region ?_
  refine XL_run 1 [] [(0, .slice A xs.length c), (1, .slice B ys.length d), (20, .slice A xs.length c)] w_1 [] (by kernel_rfl) trivial ?_
  refine XL_call 20 rfl rfl rfl ent20 [.slice A xs.length c] (by kernel_rfl) (olen_any A c xs w_1 (Kd.C_below hx hb_2) (by omega) hz (hT.below hb_2) es (hO.below hb_2)) ?_
  rintro e w_3 ⟨rfl, hb_4⟩; refine ⟨_, rfl, ?_⟩
  refine XL_run 7 [] [(0, .slice A xs.length c), (1, .slice B ys.length d), (5, .int .i64 ((lenP xs).1)), (6, .int .i64 ((lenP xs).2.1)), (7, errV es ((lenP xs).2.2))] w_3 [] (by kernel_rfl) trivial ?_
  refine XL_nil ?_
  refine X_seq ?_
  refine X_region ?_
  refine XL_run 1 [] [(0, .slice A xs.length c), (1, .slice B ys.length d), (5, .int .i64 ((lenP xs).1)), (6, .int .i64 ((lenP xs).2.1)), (7, errV es ((lenP xs).2.2)), (26, .slice B ys.length d)] w_3 [] (by kernel_rfl) trivial ?_
  refine XL_call 20 rfl rfl rfl ent20 [.slice B ys.length d] (by kernel_rfl) (olen_any B d ys w_3 (Kd.C_below hy (bt hb_2 hb_4)) (by omega) hzy (hT.below (bt hb_2 hb_4)) es (hO.below (bt hb_2 hb_4))) ?_
  rintro e w_5 ⟨rfl, hb_6⟩; refine ⟨_, rfl, ?_⟩
  refine XL_run 7 [] [(0, .slice A xs.length c), (1, .slice B ys.length d), (5, .int .i64 ((lenP xs).1)), (6, .int .i64 ((lenP xs).2.1)), (7, errV es ((lenP xs).2.2)), (8, .int .i64 ((lenP ys).1)), (9, .int .i64 ((lenP ys).2.1)), (10, errV es ((lenP ys).2.2))] w_5 [] (by kernel_rfl) trivial ?_
  refine XL_nil ?_
  refine X_seq ?_
  refine X_region ?_
  refine XL_run 1 [] [(0, .slice A xs.length c), (1, .slice B ys.length d), (5, .int .i64 ((lenP xs).1)), (6, .int .i64 ((lenP xs).2.1)), (7, errV es ((lenP xs).2.2)), (8, .int .i64 ((lenP ys).1)), (9, .int .i64 ((lenP ys).2.1)), (10, errV es ((lenP ys).2.2)), (32, .slice A xs.length c)] w_5 [] (by kernel_rfl) trivial ?_
  refine XL_call 16 rfl rfl rfl ent16 [.slice A xs.length c] (by kernel_rfl) (ocopied_any _ _ xs _ (Kd.C_below hx (bt (bt hb_2 hb_4) hb_6)) (by omega) hz) ?_
  rintro e w_9 ⟨A_7, c_8, rfl, hl_11, hr_12, hb_10⟩; refine ⟨_, rfl, ?_⟩
  refine XL_run 1 [] [(0, .slice A xs.length c), (1, .slice B ys.length d), (5, .int .i64 ((lenP xs).1)), (6, .int .i64 ((lenP xs).2.1)), (7, errV es ((lenP xs).2.2)), (8, .int .i64 ((lenP ys).1)), (9, .int .i64 ((lenP ys).2.1)), (10, errV es ((lenP ys).2.2)), (33, .slice A_7 xs.length c_8), (34, .slice B ys.length d)] w_9 [] (by kernel_rfl) trivial ?_
  obtain ⟨vs_13, hC_14, hK_15⟩ := Kd.C_raw (d := kOp) op0 (Kd.C_below hy (bt (bt hb_2 hb_4) hb_6))
  refine XL_appendMix (d := kOp) (W0 := w_5) (c' := d) (m := ys.length) op0 rfl rfl rfl 33 (.agg #[.int .i64 0, .string ByteArray.empty, .int .i64 0, .int .i64 0, .string ByteArray.empty, .int .i64 0, .slice none 0 0]) 88 Tryd.underlying22 info33 rfl (by decide) (by omega) xs ys vs_13 (by kernel_rfl) (Mix.of_R hr_12) (Kd.C_below hC_14 hb_10) rfl hK_15 (hb_10).size (by omega) ?_
  intro A_16 c_17 w_18 hm_19 hg_20 hl_21
  have hC_22 : kOp.C w_18 A_16 (xs ++ ys).length (xs ++ ys) := Mix.C (bgo hb_10 hg_20 hl_21 (Nat.le_refl _)) hm_19
  have hB_23 : Below w.heap.size w w_18 := (bgo (bt (bt (bt hb_2 hb_4) hb_6) hb_10) hg_20 hl_21 ((bt (bt hb_2 hb_4) hb_6)).size)
  refine XL_call 20 rfl rfl rfl ent20 [.slice A_16 ((xs ++ ys).length) c_17] (by kernel_rfl) (olen_any A_16 c_17 (xs ++ ys) w_18 hC_22 (by omega) (sz_app hz hzy) (hT.below hB_23) es (hO.below hB_23)) ?_
  rintro e w_24 ⟨rfl, hb_25⟩; refine ⟨_, rfl, ?_⟩
  refine XL_run 7 [] [(0, .slice A xs.length c), (1, .slice B ys.length d), (5, .int .i64 ((lenP xs).1)), (6, .int .i64 ((lenP xs).2.1)), (7, errV es ((lenP xs).2.2)), (8, .int .i64 ((lenP ys).1)), (9, .int .i64 ((lenP ys).2.1)), (10, errV es ((lenP ys).2.2)), (11, .int .i64 ((lenP (xs ++ ys)).1)), (12, .int .i64 ((lenP (xs ++ ys)).2.1)), (13, errV es ((lenP (xs ++ ys)).2.2))] w_24 [] (by kernel_rfl) trivial ?_
  refine XL_nil ?_
  refine X_seq ?_
  refine X_region ?_
  refine XL_run 1 [] [(0, .slice A xs.length c), (5, .int .i64 ((lenP xs).1)), (6, .int .i64 ((lenP xs).2.1)), (7, errV es ((lenP xs).2.2)), (8, .int .i64 ((lenP ys).1)), (9, .int .i64 ((lenP ys).2.1)), (10, errV es ((lenP ys).2.2)), (11, .int .i64 ((lenP (xs ++ ys)).1)), (12, .int .i64 ((lenP (xs ++ ys)).2.1)), (13, errV es ((lenP (xs ++ ys)).2.2)), (41, .slice B ys.length d)] w_24 [] (by kernel_rfl) trivial ?_
  refine XL_call 16 rfl rfl rfl ent16 [.slice B ys.length d] (by kernel_rfl) (ocopied_any _ _ ys _ (Kd.C_below hy (bt hB_23 hb_25)) (by omega) hzy) ?_
  rintro e w_28 ⟨A_26, c_27, rfl, hl_30, hr_31, hb_29⟩; refine ⟨_, rfl, ?_⟩
  refine XL_run 1 [] [(5, .int .i64 ((lenP xs).1)), (6, .int .i64 ((lenP xs).2.1)), (7, errV es ((lenP xs).2.2)), (8, .int .i64 ((lenP ys).1)), (9, .int .i64 ((lenP ys).2.1)), (10, errV es ((lenP ys).2.2)), (11, .int .i64 ((lenP (xs ++ ys)).1)), (12, .int .i64 ((lenP (xs ++ ys)).2.1)), (13, errV es ((lenP (xs ++ ys)).2.2)), (42, .slice A_26 ys.length c_27), (43, .slice A xs.length c)] w_28 [] (by kernel_rfl) trivial ?_
  obtain ⟨vs_32, hC_33, hK_34⟩ := Kd.C_raw (d := kOp) op0 (Kd.C_below hx (bt hB_23 hb_25))
  refine XL_appendMix (d := kOp) (W0 := w_24) (c' := c) (m := xs.length) op0 rfl rfl rfl 33 (.agg #[.int .i64 0, .string ByteArray.empty, .int .i64 0, .int .i64 0, .string ByteArray.empty, .int .i64 0, .slice none 0 0]) 88 Tryd.underlying22 info33 rfl (by decide) (by omega) ys xs vs_32 (by kernel_rfl) (Mix.of_R hr_31) (Kd.C_below hC_33 hb_29) rfl hK_34 (hb_29).size (by omega) ?_
  intro A_35 c_36 w_37 hm_38 hg_39 hl_40
  have hC_41 : kOp.C w_37 A_35 (ys ++ xs).length (ys ++ xs) := Mix.C (bgo hb_29 hg_39 hl_40 (Nat.le_refl _)) hm_38
  have hB_42 : Below w.heap.size w w_37 := (bgo (bt (bt hB_23 hb_25) hb_29) hg_39 hl_40 ((bt hB_23 hb_25)).size)
  refine XL_call 20 rfl rfl rfl ent20 [.slice A_35 ((ys ++ xs).length) c_36] (by kernel_rfl) (olen_any A_35 c_36 (ys ++ xs) w_37 hC_41 (by omega) (sz_app hzy hz) (hT.below hB_42) es (hO.below hB_42)) ?_
  rintro e w_43 ⟨rfl, hb_44⟩; refine ⟨_, rfl, ?_⟩
  refine XL_run 7 [] [(5, .int .i64 ((lenP xs).1)), (6, .int .i64 ((lenP xs).2.1)), (7, errV es ((lenP xs).2.2)), (8, .int .i64 ((lenP ys).1)), (9, .int .i64 ((lenP ys).2.1)), (10, errV es ((lenP ys).2.2)), (11, .int .i64 ((lenP (xs ++ ys)).1)), (12, .int .i64 ((lenP (xs ++ ys)).2.1)), (13, errV es ((lenP (xs ++ ys)).2.2)), (14, .int .i64 ((lenP (ys ++ xs)).1)), (15, .int .i64 ((lenP (ys ++ xs)).2.1)), (16, errV es ((lenP (ys ++ xs)).2.2))] w_43 [] (by kernel_rfl) trivial ?_
  refine XL_nil ?_
  refine X_seq ?_
  refine X_seq ?_
  refine X_region ?_
  refine XL_run 1 [] [(5, .int .i64 ((lenP xs).1)), (6, .int .i64 ((lenP xs).2.1)), (8, .int .i64 ((lenP ys).1)), (9, .int .i64 ((lenP ys).2.1)), (10, errV es ((lenP ys).2.2)), (11, .int .i64 ((lenP (xs ++ ys)).1)), (12, .int .i64 ((lenP (xs ++ ys)).2.1)), (13, errV es ((lenP (xs ++ ys)).2.2)), (14, .int .i64 ((lenP (ys ++ xs)).1)), (15, .int .i64 ((lenP (ys ++ xs)).2.1)), (16, errV es ((lenP (ys ++ xs)).2.2)), (49, errV es ((lenP xs).2.2))] w_43 [] (by kernel_rfl) trivial ?_
  by_cases c_45 : (lenP xs).2.2 = 0
  · rw [show errV es ((lenP xs).2.2) = .nilIface from by rw [c_45]; rfl]
    refine XL_run 3 [] [(5, .int .i64 ((lenP xs).1)), (6, .int .i64 ((lenP xs).2.1)), (8, .int .i64 ((lenP ys).1)), (9, .int .i64 ((lenP ys).2.1)), (11, .int .i64 ((lenP (xs ++ ys)).1)), (12, .int .i64 ((lenP (xs ++ ys)).2.1)), (13, errV es ((lenP (xs ++ ys)).2.2)), (14, .int .i64 ((lenP (ys ++ xs)).1)), (15, .int .i64 ((lenP (ys ++ xs)).2.1)), (16, errV es ((lenP (ys ++ xs)).2.2)), (51, .bool false), (52, errV es ((lenP ys).2.2))] w_43 [] (by kernel_rfl) trivial ?_
    by_cases c_46 : (lenP ys).2.2 = 0
    · rw [show errV es ((lenP ys).2.2) = .nilIface from by rw [c_46]; rfl]
      refine XL_run 2 [] [(5, .int .i64 ((lenP xs).1)), (6, .int .i64 ((lenP xs).2.1)), (8, .int .i64 ((lenP ys).1)), (9, .int .i64 ((lenP ys).2.1)), (11, .int .i64 ((lenP (xs ++ ys)).1)), (12, .int .i64 ((lenP (xs ++ ys)).2.1)), (13, errV es ((lenP (xs ++ ys)).2.2)), (14, .int .i64 ((lenP (ys ++ xs)).1)), (15, .int .i64 ((lenP (ys ++ xs)).2.1)), (16, errV es ((lenP (ys ++ xs)).2.2)), (54, .bool false)] w_43 [] (by kernel_rfl) trivial ?_
      refine XL_nil ?_
      refine X_cond false rfl ?_
      refine X_skip ?_
      refine X_seq ?_
      refine X_seq ?_
      refine X_region ?_
      have hs3 := sums_num (a := xs) (b := ys) c_45 c_46
      have hs4 := sums_num (a := ys) (b := xs) c_46 c_45
      refine XL_run 3 [(79, .eq (.int .i64 (((lenP xs).1) + ((lenP ys).1))))] [(5, .int .i64 ((lenP xs).1)), (6, .int .i64 ((lenP xs).2.1)), (8, .int .i64 ((lenP ys).1)), (9, .int .i64 ((lenP ys).2.1)), (11, .int .i64 ((lenP (xs ++ ys)).1)), (12, .int .i64 ((lenP (xs ++ ys)).2.1)), (13, errV es ((lenP (xs ++ ys)).2.2)), (14, .int .i64 ((lenP (ys ++ xs)).1)), (15, .int .i64 ((lenP (ys ++ xs)).2.1)), (16, errV es ((lenP (ys ++ xs)).2.2)), (79, .int .i64 (((lenP xs).1) + ((lenP ys).1)))] w_43 [Value.int .i64 (IntKind.i64.wrap (((lenP xs).1) + ((lenP ys).1))) = Value.int .i64 (((lenP xs).1) + ((lenP ys).1))] (by kernel_rfl) ⟨wr_i64 (by omega) (by omega), trivial⟩ ?_
      by_cases c_47 : ((lenP xs).1) + ((lenP ys).1) > 1099511627776
      · refine XL_run 7 [(80, .eq (.bool true))] [(5, .int .i64 ((lenP xs).1)), (6, .int .i64 ((lenP xs).2.1)), (8, .int .i64 ((lenP ys).1)), (9, .int .i64 ((lenP ys).2.1)), (11, .int .i64 ((lenP (xs ++ ys)).1)), (12, .int .i64 ((lenP (xs ++ ys)).2.1)), (13, errV es ((lenP (xs ++ ys)).2.2)), (14, .int .i64 ((lenP (ys ++ xs)).1)), (15, .int .i64 ((lenP (ys ++ xs)).2.1)), (16, errV es ((lenP (ys ++ xs)).2.2)), (86, .bool true)] w_43 [Value.bool (decide (((lenP xs).1) + ((lenP ys).1) > 1099511627776)) = Value.bool true] (by kernel_rfl) ⟨congrArg Value.bool (decide_eq_true (c_47)), trivial⟩ ?_
        refine XL_nil ?_
        refine X_cond true rfl ?_
        refine X_seq ?_
        refine X_region ?_
        refine XL_run 1 [] [(13, errV es ((lenP (xs ++ ys)).2.2)), (16, errV es ((lenP (ys ++ xs)).2.2)), (87, errV es ((lenP (xs ++ ys)).2.2))] w_43 [] (by kernel_rfl) trivial ?_
        refine XL_call 17 rfl rfl rfl ent17 [errV es ((lenP (xs ++ ys)).2.2)] (by kernel_rfl) (num_any es ((lenP (xs ++ ys)).2.2) (lenP_le _) _ (hE.below (bt hB_42 hb_44))) ?_
        rintro e w_48 ⟨rfl, hb_49⟩; refine ⟨_, rfl, ?_⟩
        refine XL_run 3 [(89, .eq (.bool true))] [(13, errV es ((lenP (xs ++ ys)).2.2)), (90, .bool true), (91, errV es ((lenP (ys ++ xs)).2.2))] w_48 [Value.bool ((((lenP (xs ++ ys)).2.2) : Int) == 11) = Value.bool true] (by kernel_rfl) ⟨congrArg Value.bool (beq_iff_eq.2 ((by omega))), trivial⟩ ?_
        refine XL_call 17 rfl rfl rfl ent17 [errV es ((lenP (ys ++ xs)).2.2)] (by kernel_rfl) (num_any es ((lenP (ys ++ xs)).2.2) (lenP_le _) _ (hE.below (bt (bt hB_42 hb_44) hb_49))) ?_
        rintro e w_50 ⟨rfl, hb_51⟩; refine ⟨_, rfl, ?_⟩
        refine XL_run 1 [] [(90, .bool true), (92, .int .i64 (((lenP (ys ++ xs)).2.2) : Int)), (93, errV es ((lenP (xs ++ ys)).2.2))] w_50 [] (by kernel_rfl) trivial ?_
        refine XL_call 17 rfl rfl rfl ent17 [errV es ((lenP (xs ++ ys)).2.2)] (by kernel_rfl) (num_any es ((lenP (xs ++ ys)).2.2) (lenP_le _) _ (hE.below (bt (bt (bt hB_42 hb_44) hb_49) hb_51))) ?_
        rintro e w_52 ⟨rfl, hb_53⟩; refine ⟨_, rfl, ?_⟩
        refine XL_run 3 [(95, .eq (.bool true))] [(4, .bool true)] w_52 [Value.bool ((((lenP (ys ++ xs)).2.2) : Int) == (((lenP (xs ++ ys)).2.2) : Int)) = Value.bool true] (by kernel_rfl) ⟨congrArg Value.bool (beq_iff_eq.2 ((by omega))), trivial⟩ ?_
        refine XL_nil ?_
        refine X_ret ?_
        refine RX.ret_ok (P := Tryd.prog) (fn := Tryd.f4) (N := 127) (R := R_) [.bool true] (by kernel_rfl) (hR_ _ _ ?_)
        have hB_54 : Below w.heap.size w w_52 := (bt (bt (bt (bt hB_42 hb_44) hb_49) hb_51) hb_53)
        exact ⟨rfl, hB_54⟩
      · refine XL_run 5 [(80, .eq (.bool false)), (84, .eq (.int .i64 (((lenP xs).2.1) + ((lenP ys).2.1))))] [(5, .int .i64 ((lenP xs).1)), (6, .int .i64 ((lenP xs).2.1)), (8, .int .i64 ((lenP ys).1)), (9, .int .i64 ((lenP ys).2.1)), (11, .int .i64 ((lenP (xs ++ ys)).1)), (12, .int .i64 ((lenP (xs ++ ys)).2.1)), (13, errV es ((lenP (xs ++ ys)).2.2)), (14, .int .i64 ((lenP (ys ++ xs)).1)), (15, .int .i64 ((lenP (ys ++ xs)).2.1)), (16, errV es ((lenP (ys ++ xs)).2.2)), (81, .bool false), (84, .int .i64 (((lenP xs).2.1) + ((lenP ys).2.1)))] w_43 [Value.bool (decide (((lenP xs).1) + ((lenP ys).1) > 1099511627776)) = Value.bool false, Value.int .i64 (IntKind.i64.wrap (((lenP xs).2.1) + ((lenP ys).2.1))) = Value.int .i64 (((lenP xs).2.1) + ((lenP ys).2.1))] (by kernel_rfl) ⟨congrArg Value.bool (decide_eq_false (c_47)), wr_i64 (by omega) (by omega), trivial⟩ ?_
        by_cases c_55 : ((lenP xs).2.1) + ((lenP ys).2.1) > 1099511627776
        · refine XL_run 2 [(85, .eq (.bool true))] [(5, .int .i64 ((lenP xs).1)), (6, .int .i64 ((lenP xs).2.1)), (8, .int .i64 ((lenP ys).1)), (9, .int .i64 ((lenP ys).2.1)), (11, .int .i64 ((lenP (xs ++ ys)).1)), (12, .int .i64 ((lenP (xs ++ ys)).2.1)), (13, errV es ((lenP (xs ++ ys)).2.2)), (14, .int .i64 ((lenP (ys ++ xs)).1)), (15, .int .i64 ((lenP (ys ++ xs)).2.1)), (16, errV es ((lenP (ys ++ xs)).2.2)), (86, .bool true)] w_43 [Value.bool (decide (((lenP xs).2.1) + ((lenP ys).2.1) > 1099511627776)) = Value.bool true] (by kernel_rfl) ⟨congrArg Value.bool (decide_eq_true (c_55)), trivial⟩ ?_
          refine XL_nil ?_
          refine X_cond true rfl ?_
          refine X_seq ?_
          refine X_region ?_
          refine XL_run 1 [] [(13, errV es ((lenP (xs ++ ys)).2.2)), (16, errV es ((lenP (ys ++ xs)).2.2)), (87, errV es ((lenP (xs ++ ys)).2.2))] w_43 [] (by kernel_rfl) trivial ?_
          refine XL_call 17 rfl rfl rfl ent17 [errV es ((lenP (xs ++ ys)).2.2)] (by kernel_rfl) (num_any es ((lenP (xs ++ ys)).2.2) (lenP_le _) _ (hE.below (bt hB_42 hb_44))) ?_
          rintro e w_56 ⟨rfl, hb_57⟩; refine ⟨_, rfl, ?_⟩
          refine XL_run 3 [(89, .eq (.bool true))] [(13, errV es ((lenP (xs ++ ys)).2.2)), (90, .bool true), (91, errV es ((lenP (ys ++ xs)).2.2))] w_56 [Value.bool ((((lenP (xs ++ ys)).2.2) : Int) == 11) = Value.bool true] (by kernel_rfl) ⟨congrArg Value.bool (beq_iff_eq.2 ((by omega))), trivial⟩ ?_
          refine XL_call 17 rfl rfl rfl ent17 [errV es ((lenP (ys ++ xs)).2.2)] (by kernel_rfl) (num_any es ((lenP (ys ++ xs)).2.2) (lenP_le _) _ (hE.below (bt (bt hB_42 hb_44) hb_57))) ?_
          rintro e w_58 ⟨rfl, hb_59⟩; refine ⟨_, rfl, ?_⟩
          refine XL_run 1 [] [(90, .bool true), (92, .int .i64 (((lenP (ys ++ xs)).2.2) : Int)), (93, errV es ((lenP (xs ++ ys)).2.2))] w_58 [] (by kernel_rfl) trivial ?_
          refine XL_call 17 rfl rfl rfl ent17 [errV es ((lenP (xs ++ ys)).2.2)] (by kernel_rfl) (num_any es ((lenP (xs ++ ys)).2.2) (lenP_le _) _ (hE.below (bt (bt (bt hB_42 hb_44) hb_57) hb_59))) ?_
          rintro e w_60 ⟨rfl, hb_61⟩; refine ⟨_, rfl, ?_⟩
          refine XL_run 3 [(95, .eq (.bool true))] [(4, .bool true)] w_60 [Value.bool ((((lenP (ys ++ xs)).2.2) : Int) == (((lenP (xs ++ ys)).2.2) : Int)) = Value.bool true] (by kernel_rfl) ⟨congrArg Value.bool (beq_iff_eq.2 ((by omega))), trivial⟩ ?_
          refine XL_nil ?_
          refine X_ret ?_
          refine RX.ret_ok (P := Tryd.prog) (fn := Tryd.f4) (N := 127) (R := R_) [.bool true] (by kernel_rfl) (hR_ _ _ ?_)
          have hB_62 : Below w.heap.size w w_60 := (bt (bt (bt (bt hB_42 hb_44) hb_57) hb_59) hb_61)
          exact ⟨rfl, hB_62⟩
        · refine XL_run 2 [(85, .eq (.bool false))] [(5, .int .i64 ((lenP xs).1)), (6, .int .i64 ((lenP xs).2.1)), (8, .int .i64 ((lenP ys).1)), (9, .int .i64 ((lenP ys).2.1)), (11, .int .i64 ((lenP (xs ++ ys)).1)), (12, .int .i64 ((lenP (xs ++ ys)).2.1)), (13, errV es ((lenP (xs ++ ys)).2.2)), (14, .int .i64 ((lenP (ys ++ xs)).1)), (15, .int .i64 ((lenP (ys ++ xs)).2.1)), (16, errV es ((lenP (ys ++ xs)).2.2)), (86, .bool false)] w_43 [Value.bool (decide (((lenP xs).2.1) + ((lenP ys).2.1) > 1099511627776)) = Value.bool false] (by kernel_rfl) ⟨congrArg Value.bool (decide_eq_false (c_55)), trivial⟩ ?_
          refine XL_nil ?_
          refine X_cond false rfl ?_
          refine X_skip ?_
          refine X_seq ?_
          refine X_region ?_
          refine XL_run 1 [] [(5, .int .i64 ((lenP xs).1)), (6, .int .i64 ((lenP xs).2.1)), (8, .int .i64 ((lenP ys).1)), (9, .int .i64 ((lenP ys).2.1)), (11, .int .i64 ((lenP (xs ++ ys)).1)), (12, .int .i64 ((lenP (xs ++ ys)).2.1)), (14, .int .i64 ((lenP (ys ++ xs)).1)), (15, .int .i64 ((lenP (ys ++ xs)).2.1)), (16, errV es ((lenP (ys ++ xs)).2.2)), (97, errV es ((lenP (xs ++ ys)).2.2))] w_43 [] (by kernel_rfl) trivial ?_
          by_cases c_63 : (lenP (xs ++ ys)).2.2 = 0
          · rw [show errV es ((lenP (xs ++ ys)).2.2) = .nilIface from by rw [c_63]; rfl]
            refine XL_run 3 [] [(5, .int .i64 ((lenP xs).1)), (6, .int .i64 ((lenP xs).2.1)), (8, .int .i64 ((lenP ys).1)), (9, .int .i64 ((lenP ys).2.1)), (11, .int .i64 ((lenP (xs ++ ys)).1)), (12, .int .i64 ((lenP (xs ++ ys)).2.1)), (14, .int .i64 ((lenP (ys ++ xs)).1)), (15, .int .i64 ((lenP (ys ++ xs)).2.1)), (99, .bool true), (100, errV es ((lenP (ys ++ xs)).2.2))] w_43 [] (by kernel_rfl) trivial ?_
            by_cases c_64 : (lenP (ys ++ xs)).2.2 = 0
            · rw [show errV es ((lenP (ys ++ xs)).2.2) = .nilIface from by rw [c_64]; rfl]
              refine XL_run 27 [(107, .eq (.int .i64 (((lenP xs).1) + ((lenP ys).1)))), (108, .eq (.bool true)), (114, .eq (.int .i64 (((lenP xs).2.1) + ((lenP ys).2.1)))), (115, .eq (.bool true)), (120, .eq (.bool true)), (125, .eq (.bool true))] [(4, .bool true)] w_43 [Value.int .i64 (IntKind.i64.wrap (((lenP xs).1) + ((lenP ys).1))) = Value.int .i64 (((lenP xs).1) + ((lenP ys).1)), Value.bool ((lenP (xs ++ ys)).1 == ((lenP xs).1) + ((lenP ys).1)) = Value.bool true, Value.int .i64 (IntKind.i64.wrap (((lenP xs).2.1) + ((lenP ys).2.1))) = Value.int .i64 (((lenP xs).2.1) + ((lenP ys).2.1)), Value.bool ((lenP (xs ++ ys)).2.1 == ((lenP xs).2.1) + ((lenP ys).2.1)) = Value.bool true, Value.bool ((lenP (ys ++ xs)).1 == (lenP (xs ++ ys)).1) = Value.bool true, Value.bool ((lenP (ys ++ xs)).2.1 == (lenP (xs ++ ys)).2.1) = Value.bool true] (by kernel_rfl) ⟨wr_i64 (by omega) (by omega), congrArg Value.bool (beq_iff_eq.2 ((by omega))), wr_i64 (by omega) (by omega), congrArg Value.bool (beq_iff_eq.2 ((by omega))), congrArg Value.bool (beq_iff_eq.2 ((by omega))), congrArg Value.bool (beq_iff_eq.2 ((by omega))), trivial⟩ ?_
              refine XL_nil ?_
              refine X_ret ?_
              refine RX.ret_ok (P := Tryd.prog) (fn := Tryd.f4) (N := 127) (R := R_) [.bool true] (by kernel_rfl) (hR_ _ _ ?_)
              exact ⟨rfl, (bt hB_42 hb_44)⟩
            · exfalso; omega
          · exfalso; omega
    · rw [errV_pos es ((lenP ys).2.2) (Nat.pos_of_ne_zero c_46)]
      refine XL_run 2 [] [(5, .int .i64 ((lenP xs).1)), (6, .int .i64 ((lenP xs).2.1)), (8, .int .i64 ((lenP ys).1)), (9, .int .i64 ((lenP ys).2.1)), (11, .int .i64 ((lenP (xs ++ ys)).1)), (12, .int .i64 ((lenP (xs ++ ys)).2.1)), (13, errV es ((lenP (xs ++ ys)).2.2)), (14, .int .i64 ((lenP (ys ++ xs)).1)), (15, .int .i64 ((lenP (ys ++ xs)).2.1)), (16, errV es ((lenP (ys ++ xs)).2.2)), (54, .bool true)] w_43 [] (by kernel_rfl) trivial ?_
      refine XL_nil ?_
      refine X_cond true rfl ?_
      refine X_seq ?_
      refine X_region ?_
      have hb3 := sums_bad (a := xs) (b := ys) (.inr c_46)
      have hb4 := sums_bad (a := ys) (b := xs) (.inl c_46)
      have hz3 := lenP_err hb3
      have hz4 := lenP_err hb4
      refine XL_run 1 [] [(11, .int .i64 ((lenP (xs ++ ys)).1)), (12, .int .i64 ((lenP (xs ++ ys)).2.1)), (14, .int .i64 ((lenP (ys ++ xs)).1)), (15, .int .i64 ((lenP (ys ++ xs)).2.1)), (16, errV es ((lenP (ys ++ xs)).2.2)), (55, errV es ((lenP (xs ++ ys)).2.2))] w_43 [] (by kernel_rfl) trivial ?_
      by_cases c_65 : (lenP (xs ++ ys)).2.2 = 0
      · exact absurd c_65 hb3
      · rw [errV_pos es ((lenP (xs ++ ys)).2.2) (Nat.pos_of_ne_zero c_65)]
        refine XL_run 3 [] [(11, .int .i64 ((lenP (xs ++ ys)).1)), (12, .int .i64 ((lenP (xs ++ ys)).2.1)), (14, .int .i64 ((lenP (ys ++ xs)).1)), (15, .int .i64 ((lenP (ys ++ xs)).2.1)), (57, .bool true), (58, errV es ((lenP (ys ++ xs)).2.2))] w_43 [] (by kernel_rfl) trivial ?_
        by_cases c_66 : (lenP (ys ++ xs)).2.2 = 0
        · exact absurd c_66 hb4
        · rw [errV_pos es ((lenP (ys ++ xs)).2.2) (Nat.pos_of_ne_zero c_66)]
          refine XL_run 19 [(63, .eq (.bool true)), (67, .eq (.bool true)), (71, .eq (.bool true)), (75, .eq (.bool true))] [(4, .bool true)] w_43 [Value.bool ((lenP (xs ++ ys)).1 == 0) = Value.bool true, Value.bool ((lenP (xs ++ ys)).2.1 == 0) = Value.bool true, Value.bool ((lenP (ys ++ xs)).1 == 0) = Value.bool true, Value.bool ((lenP (ys ++ xs)).2.1 == 0) = Value.bool true] (by kernel_rfl) ⟨congrArg Value.bool (beq_iff_eq.2 ((by omega))), congrArg Value.bool (beq_iff_eq.2 ((by omega))), congrArg Value.bool (beq_iff_eq.2 ((by omega))), congrArg Value.bool (beq_iff_eq.2 ((by omega))), trivial⟩ ?_
          refine XL_nil ?_
          refine X_ret ?_
          refine RX.ret_ok (P := Tryd.prog) (fn := Tryd.f4) (N := 127) (R := R_) [.bool true] (by kernel_rfl) (hR_ _ _ ?_)
          exact ⟨rfl, (bt hB_42 hb_44)⟩
  · rw [errV_pos es ((lenP xs).2.2) (Nat.pos_of_ne_zero c_45)]
    refine XL_run 5 [] [(5, .int .i64 ((lenP xs).1)), (6, .int .i64 ((lenP xs).2.1)), (8, .int .i64 ((lenP ys).1)), (9, .int .i64 ((lenP ys).2.1)), (11, .int .i64 ((lenP (xs ++ ys)).1)), (12, .int .i64 ((lenP (xs ++ ys)).2.1)), (13, errV es ((lenP (xs ++ ys)).2.2)), (14, .int .i64 ((lenP (ys ++ xs)).1)), (15, .int .i64 ((lenP (ys ++ xs)).2.1)), (16, errV es ((lenP (ys ++ xs)).2.2)), (54, .bool true)] w_43 [] (by kernel_rfl) trivial ?_
    refine XL_nil ?_
    refine X_cond true rfl ?_
    refine X_seq ?_
    refine X_region ?_
    have hb3 := sums_bad (a := xs) (b := ys) (.inl c_45)
    have hb4 := sums_bad (a := ys) (b := xs) (.inr c_45)
    have hz3 := lenP_err hb3
    have hz4 := lenP_err hb4
    refine XL_run 1 [] [(11, .int .i64 ((lenP (xs ++ ys)).1)), (12, .int .i64 ((lenP (xs ++ ys)).2.1)), (14, .int .i64 ((lenP (ys ++ xs)).1)), (15, .int .i64 ((lenP (ys ++ xs)).2.1)), (16, errV es ((lenP (ys ++ xs)).2.2)), (55, errV es ((lenP (xs ++ ys)).2.2))] w_43 [] (by kernel_rfl) trivial ?_
    by_cases c_67 : (lenP (xs ++ ys)).2.2 = 0
    · exact absurd c_67 hb3
    · rw [errV_pos es ((lenP (xs ++ ys)).2.2) (Nat.pos_of_ne_zero c_67)]
      refine XL_run 3 [] [(11, .int .i64 ((lenP (xs ++ ys)).1)), (12, .int .i64 ((lenP (xs ++ ys)).2.1)), (14, .int .i64 ((lenP (ys ++ xs)).1)), (15, .int .i64 ((lenP (ys ++ xs)).2.1)), (57, .bool true), (58, errV es ((lenP (ys ++ xs)).2.2))] w_43 [] (by kernel_rfl) trivial ?_
      by_cases c_68 : (lenP (ys ++ xs)).2.2 = 0
      · exact absurd c_68 hb4
      · rw [errV_pos es ((lenP (ys ++ xs)).2.2) (Nat.pos_of_ne_zero c_68)]
        refine XL_run 19 [(63, .eq (.bool true)), (67, .eq (.bool true)), (71, .eq (.bool true)), (75, .eq (.bool true))] [(4, .bool true)] w_43 [Value.bool ((lenP (xs ++ ys)).1 == 0) = Value.bool true, Value.bool ((lenP (xs ++ ys)).2.1 == 0) = Value.bool true, Value.bool ((lenP (ys ++ xs)).1 == 0) = Value.bool true, Value.bool ((lenP (ys ++ xs)).2.1 == 0) = Value.bool true] (by kernel_rfl) ⟨congrArg Value.bool (beq_iff_eq.2 ((by omega))), congrArg Value.bool (beq_iff_eq.2 ((by omega))), congrArg Value.bool (beq_iff_eq.2 ((by omega))), congrArg Value.bool (beq_iff_eq.2 ((by omega))), trivial⟩ ?_
        refine XL_nil ?_
        refine X_ret ?_
        refine RX.ret_ok (P := Tryd.prog) (fn := Tryd.f4) (N := 127) (R := R_) [.bool true] (by kernel_rfl) (hR_ _ _ ?_)
        exact ⟨rfl, (bt hB_42 hb_44)⟩
end Go.Proofs.YtekfdfafhfhfbaaDoor
