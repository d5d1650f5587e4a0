/- AttrsJoins returns true. Conditions: sizes that the row bounds, the tables of utf8, Errs. -/
import Derived.Test.YtdkdajofppjnaaaDoorR5
set_option linter.unusedVariables false
set_option linter.unusedSimpArgs false
set_option maxRecDepth 100000
namespace Go.Proofs.YtdkdajofppjnaaaDoor
open Go Go.RowKit Go.Proofs.YtdkdajofppjnaaaDoorW.PrintWords RX
set_option maxHeartbeats 4000000 in
theorem attrsJoins_any (A B : Option Addr) (c d : Nat) (xs ys : List At) (on : Bool) (w : World) (hx : kAttr.C w A xs.length xs) (hy : kAttr.C w B ys.length ys) (hxc : xs.length ≤ c) (hyd : ys.length ≤ d) (hxl : xs.length ≤ 1048576) (hyl : ys.length ≤ 1048576) (hsx : (∀ i, i < xs.length → (xs.getD i at0).1.size ≤ 100000000 ∧ (xs.getD i at0).2.2.2.size ≤ 100000000)) (hsy : (∀ i, i < ys.length → (ys.getD i at0).1.size ≤ 100000000 ∧ (ys.getD i at0).2.2.2.size ≤ 100000000)) (hT : Tabs w) (es : List Addr) (hE : Errs w es) :
    Calls Tryd.prog 6 #[.slice A xs.length c, .slice B ys.length d, .bool on] w fun e w' => e = .returned (.bool true) ∧ Below w.heap.size w w' := by
  have hbx : ∀ i, i < xs.length → (xs.getD i at0).1.size ≤ 9223372036854775807 ∧ (xs.getD i at0).2.2.2.size ≤ 9223372036854775807 := fun i hi => ⟨Nat.le_trans (hsx i hi).1 (by decide), Nat.le_trans (hsx i hi).2 (by decide)⟩
  have hby : ∀ i, i < ys.length → (ys.getD i at0).1.size ≤ 9223372036854775807 ∧ (ys.getD i at0).2.2.2.size ≤ 9223372036854775807 := fun i hi => ⟨Nat.le_trans (hsy i hi).1 (by decide), Nat.le_trans (hsy i hi).2 (by decide)⟩
  have hA : ErrsA w es := hE.on rfl
  refine RX.enter Tryd.func6 rfl 148 rfl [(0, .slice A xs.length c), (1, .slice B ys.length d), (2, .bool on)] rfl (by kernel_rfl) (fun R_ hR_ => ?_)
  refine X_seq ?_
  refine X_region ?_
  refine XL_run 1 [] [(0, .slice A xs.length c), (1, .slice B ys.length d), (2, .bool on)] w [] (by kernel_rfl) trivial ?_
  refine XL_nil ?_
  refine X_seq ?_
  refine X_region ?_
  refine XL_call 9 rfl rfl rfl ent9 [] (by kernel_rfl) (lives_any _ (hT.below (Below.refl _ _)) es (hA.below (Below.refl _ _))) ?_
  rintro e w_1 ⟨rfl, hb_2⟩; refine ⟨_, rfl, ?_⟩
  refine XL_run 1 [] [(0, .slice A xs.length c), (1, .slice B ys.length d), (2, .bool on), (7, .bool true)] w_1 [] (by kernel_rfl) trivial ?_
  refine XL_nil ?_
  refine X_seq ?_
  refine X_seq ?_
  refine X_region ?_
  refine XL_run 5 [] [(0, .slice A xs.length c), (1, .slice B ys.length d), (2, .bool on), (7, .bool true), (17, .bool false), (19, .int .i64 (xs.length : Int))] w_1 [] (by kernel_rfl) trivial ?_
  by_cases c_3 : (xs.length : Int) > 2000
  · refine XL_run 7 [(20, .eq (.bool true))] [(0, .slice A xs.length c), (1, .slice B ys.length d), (2, .bool on), (7, .bool true), (26, .bool true)] w_1 [Value.bool (decide ((xs.length : Int) > 2000)) = Value.bool true] (by kernel_rfl) ⟨congrArg Value.bool (decide_eq_true (c_3)), trivial⟩ ?_
    refine XL_nil ?_
    refine X_cond true rfl ?_
    refine X_seq ?_
    refine X_region ?_
    refine XL_run 2 [] [(6, .bool true)] w_1 [] (by kernel_rfl) trivial ?_
    refine XL_nil ?_
    refine X_ret ?_
    refine RX.ret_ok (P := Tryd.prog) (fn := Tryd.f6) (N := 148) (R := R_) [.bool true] (by kernel_rfl) (hR_ _ _ ?_)
    exact ⟨rfl, hb_2⟩
  · refine XL_run 5 [(20, .eq (.bool false))] [(0, .slice A xs.length c), (1, .slice B ys.length d), (2, .bool on), (7, .bool true), (22, .bool false), (24, .int .i64 (ys.length : Int))] w_1 [Value.bool (decide ((xs.length : Int) > 2000)) = Value.bool false] (by kernel_rfl) ⟨congrArg Value.bool (decide_eq_false (c_3)), trivial⟩ ?_
    by_cases c_4 : (ys.length : Int) > 2000
    · refine XL_run 2 [(25, .eq (.bool true))] [(0, .slice A xs.length c), (1, .slice B ys.length d), (2, .bool on), (7, .bool true), (26, .bool true)] w_1 [Value.bool (decide ((ys.length : Int) > 2000)) = Value.bool true] (by kernel_rfl) ⟨congrArg Value.bool (decide_eq_true (c_4)), trivial⟩ ?_
      refine XL_nil ?_
      refine X_cond true rfl ?_
      refine X_seq ?_
      refine X_region ?_
      refine XL_run 2 [] [(6, .bool true)] w_1 [] (by kernel_rfl) trivial ?_
      refine XL_nil ?_
      refine X_ret ?_
      refine RX.ret_ok (P := Tryd.prog) (fn := Tryd.f6) (N := 148) (R := R_) [.bool true] (by kernel_rfl) (hR_ _ _ ?_)
      exact ⟨rfl, hb_2⟩
    · refine XL_run 2 [(25, .eq (.bool false))] [(0, .slice A xs.length c), (1, .slice B ys.length d), (2, .bool on), (7, .bool true), (26, .bool false)] w_1 [Value.bool (decide ((ys.length : Int) > 2000)) = Value.bool false] (by kernel_rfl) ⟨congrArg Value.bool (decide_eq_false (c_4)), trivial⟩ ?_
      refine XL_nil ?_
      refine X_cond false rfl ?_
      refine X_skip ?_
      refine X_seq ?_
      refine X_region ?_
      refine XL_run 1 [] [(0, .slice A xs.length c), (1, .slice B ys.length d), (2, .bool on), (28, .slice A xs.length c)] w_1 [] (by kernel_rfl) trivial ?_
      refine XL_call 17 rfl rfl rfl ent17 [.slice A xs.length c] (by kernel_rfl) (hattrs_any _ _ xs _ (Kd.C_below hx hb_2) (by omega)) ?_
      rintro e w_7 ⟨A_5, c_6, rfl, hS_9, hb_8⟩; refine ⟨_, rfl, ?_⟩
      refine XL_run 1 [] [(0, .slice A xs.length c), (1, .slice B ys.length d), (2, .bool on), (29, .slice A_5 xs.length c_6), (30, .slice B ys.length d)] w_7 [] (by kernel_rfl) trivial ?_
      refine XL_call 17 rfl rfl rfl ent17 [.slice B ys.length d] (by kernel_rfl) (hattrs_any _ _ ys _ (Kd.C_below hy (bt hb_2 hb_8)) (by omega)) ?_
      rintro e w_12 ⟨A_10, c_11, rfl, hS_14, hb_13⟩; refine ⟨_, rfl, ?_⟩
      refine XL_run 2 [] [(0, .slice A xs.length c), (1, .slice B ys.length d), (2, .bool on), (8, .slice A_5 xs.length c_6), (9, .slice A_10 ys.length c_11)] w_12 [] (by kernel_rfl) trivial ?_
      refine XL_nil ?_
      refine X_seq ?_
      refine X_region ?_
      refine XL_run 3 [] [(0, .slice A xs.length c), (1, .slice B ys.length d), (2, .bool on), (8, .slice A_5 xs.length c_6), (9, .slice A_10 ys.length c_11), (33, .slice A_5 xs.length c_6), (34, .slice A_10 ys.length c_11), (35, .bool on)] w_12 [] (by kernel_rfl) trivial ?_
      refine XL_call 11 rfl rfl rfl ent11 [.slice A_5 xs.length c_6, .slice A_10 ys.length c_11, .bool on] (by kernel_rfl) (composeP_any on _ _ _ _ xs ys _ (Kd.C_below hS_9.C hb_13) hS_14.C hS_9.le hS_14.le (by omega) hbx hby (hT.below (bt (bt hb_2 hb_8) hb_13)) es (hA.below (bt (bt hb_2 hb_8) hb_13))) ?_
      rintro e w_19 ⟨A_15, c_16, rfl, hl_17, hr_18, hb_20⟩; refine ⟨_, rfl, ?_⟩
      refine XL_run 5 [] [(0, .slice A xs.length c), (1, .slice B ys.length d), (2, .bool on), (8, .slice A_5 xs.length c_6), (9, .slice A_10 ys.length c_11), (10, .slice A_15 ((composeP on xs ys).1.length) c_16), (11, errV es ((composeP on xs ys).2))] w_19 [] (by kernel_rfl) trivial ?_
      refine XL_nil ?_
      refine X_seq ?_
      refine X_region ?_
      refine XL_run 3 [] [(0, .slice A xs.length c), (1, .slice B ys.length d), (2, .bool on), (8, .slice A_5 xs.length c_6), (9, .slice A_10 ys.length c_11), (10, .slice A_15 ((composeP on xs ys).1.length) c_16), (11, errV es ((composeP on xs ys).2)), (40, .slice A xs.length c), (41, .slice B ys.length d), (42, .bool on)] w_19 [] (by kernel_rfl) trivial ?_
      refine XL_call 18 rfl rfl rfl ent18 [.slice A xs.length c, .slice B ys.length d, .bool on] (by kernel_rfl) (rcomposeP_any on _ _ _ _ xs ys _ (Kd.C_below hx (bt (bt (bt hb_2 hb_8) hb_13) hb_20)) (Kd.C_below hy (bt (bt (bt hb_2 hb_8) hb_13) hb_20)) hxc hyd (by omega) hsx hsy (hT.below (bt (bt (bt hb_2 hb_8) hb_13) hb_20))) ?_
      rintro e w_24 ⟨A_21, c_22, rfl, hr_23, hb_25⟩; refine ⟨_, rfl, ?_⟩
      refine XL_run 5 [] [(0, .slice A xs.length c), (1, .slice B ys.length d), (2, .bool on), (8, .slice A_5 xs.length c_6), (9, .slice A_10 ys.length c_11), (10, .slice A_15 ((composeP on xs ys).1.length) c_16), (11, errV es ((composeP on xs ys).2)), (12, .slice A_21 ((composeP on xs ys).1.length) c_22), (13, .int .i64 ((composeP on xs ys).2 : Int))] w_24 [] (by kernel_rfl) trivial ?_
      refine XL_nil ?_
      refine X_seq ?_
      refine X_seq ?_
      refine X_region ?_
      refine XL_run 4 [] [(0, .slice A xs.length c), (1, .slice B ys.length d), (2, .bool on), (8, .slice A_5 xs.length c_6), (9, .slice A_10 ys.length c_11), (46, .slice A_15 ((composeP on xs ys).1.length) c_16), (47, errV es ((composeP on xs ys).2)), (48, .slice A_21 ((composeP on xs ys).1.length) c_22), (49, .int .i64 ((composeP on xs ys).2 : Int))] w_24 [] (by kernel_rfl) trivial ?_
      have hB_26 : Below w.heap.size w w_24 := (bt (bt (bt (bt hb_2 hb_8) hb_13) hb_20) hb_25)
      refine XL_call 19 rfl rfl rfl ent19 [.slice A_15 ((composeP on xs ys).1.length) c_16, errV es ((composeP on xs ys).2), .slice A_21 ((composeP on xs ys).1.length) c_22, .int .i64 ((composeP on xs ys).2 : Int)] (by kernel_rfl) (same_any _ _ _ _ (composeP on xs ys).1 _ (Kd.C_below (Kd.R_C hr_18) hb_25) hr_23 es (composeP on xs ys).2 (composeP_le on xs ys) (hE.below hB_26)) ?_
      rintro e w_27 ⟨rfl, hb_28⟩; refine ⟨_, rfl, ?_⟩
      refine XL_run 1 [] [(0, .slice A xs.length c), (1, .slice B ys.length d), (2, .bool on), (8, .slice A_5 xs.length c_6), (9, .slice A_10 ys.length c_11), (51, .bool false)] w_27 [] (by kernel_rfl) trivial ?_
      refine XL_nil ?_
      refine X_cond false rfl ?_
      refine X_skip ?_
      refine X_seq ?_
      refine X_region ?_
      refine XL_run 2 [] [(0, .slice A xs.length c), (1, .slice B ys.length d), (2, .bool on), (8, .slice A_5 xs.length c_6), (9, .slice A_10 ys.length c_11), (53, .slice A_5 xs.length c_6), (54, .slice A_10 ys.length c_11)] w_27 [] (by kernel_rfl) trivial ?_
      refine XL_call 13 rfl rfl rfl ent13 [.slice A_5 xs.length c_6, .slice A_10 ys.length c_11] (by kernel_rfl) (applyP_any _ _ _ _ xs ys _ (Kd.C_below hS_9.C (bt (bt (bt hb_13 hb_20) hb_25) hb_28)) (Kd.C_below hS_14.C (bt (bt hb_20 hb_25) hb_28)) hS_9.le hS_14.le (by omega) hbx hby (hT.below (bt hB_26 hb_28)) es (hA.below (bt hB_26 hb_28))) ?_
      rintro e w_33 ⟨A_29, c_30, rfl, hl_31, hr_32, hb_34⟩; refine ⟨_, rfl, ?_⟩
      refine XL_run 5 [] [(0, .slice A xs.length c), (1, .slice B ys.length d), (2, .bool on), (8, .slice A_5 xs.length c_6), (9, .slice A_10 ys.length c_11), (10, .slice A_29 ((applyP xs ys).1.length) c_30), (11, errV es ((applyP xs ys).2))] w_33 [] (by kernel_rfl) trivial ?_
      refine XL_nil ?_
      refine X_seq ?_
      refine X_region ?_
      refine XL_run 2 [] [(0, .slice A xs.length c), (1, .slice B ys.length d), (2, .bool on), (8, .slice A_5 xs.length c_6), (9, .slice A_10 ys.length c_11), (10, .slice A_29 ((applyP xs ys).1.length) c_30), (11, errV es ((applyP xs ys).2)), (59, .slice A xs.length c), (60, .slice B ys.length d)] w_33 [] (by kernel_rfl) trivial ?_
      refine XL_call 20 rfl rfl rfl ent20 [.slice A xs.length c, .slice B ys.length d] (by kernel_rfl) (rapplyP_any _ _ _ _ xs ys _ (Kd.C_below hx (bt (bt hB_26 hb_28) hb_34)) (Kd.C_below hy (bt (bt hB_26 hb_28) hb_34)) hxc hyd (by omega) hsx hsy (hT.below (bt (bt hB_26 hb_28) hb_34))) ?_
      rintro e w_38 ⟨A_35, c_36, rfl, hr_37, hb_39⟩; refine ⟨_, rfl, ?_⟩
      refine XL_run 5 [] [(0, .slice A xs.length c), (1, .slice B ys.length d), (2, .bool on), (8, .slice A_5 xs.length c_6), (9, .slice A_10 ys.length c_11), (10, .slice A_29 ((applyP xs ys).1.length) c_30), (11, errV es ((applyP xs ys).2)), (12, .slice A_35 ((applyP xs ys).1.length) c_36), (13, .int .i64 ((applyP xs ys).2 : Int))] w_38 [] (by kernel_rfl) trivial ?_
      refine XL_nil ?_
      refine X_seq ?_
      refine X_seq ?_
      refine X_region ?_
      refine XL_run 4 [] [(0, .slice A xs.length c), (1, .slice B ys.length d), (2, .bool on), (8, .slice A_5 xs.length c_6), (9, .slice A_10 ys.length c_11), (64, .slice A_29 ((applyP xs ys).1.length) c_30), (65, errV es ((applyP xs ys).2)), (66, .slice A_35 ((applyP xs ys).1.length) c_36), (67, .int .i64 ((applyP xs ys).2 : Int))] w_38 [] (by kernel_rfl) trivial ?_
      refine XL_call 19 rfl rfl rfl ent19 [.slice A_29 ((applyP xs ys).1.length) c_30, errV es ((applyP xs ys).2), .slice A_35 ((applyP xs ys).1.length) c_36, .int .i64 ((applyP xs ys).2 : Int)] (by kernel_rfl) (same_any _ _ _ _ (applyP xs ys).1 _ (Kd.C_below (Kd.R_C hr_32) hb_39) hr_37 es (applyP xs ys).2 (applyP_le xs ys) (hE.below (bt (bt (bt hB_26 hb_28) hb_34) hb_39))) ?_
      rintro e w_40 ⟨rfl, hb_41⟩; refine ⟨_, rfl, ?_⟩
      refine XL_run 1 [] [(0, .slice A xs.length c), (1, .slice B ys.length d), (2, .bool on), (8, .slice A_5 xs.length c_6), (9, .slice A_10 ys.length c_11), (69, .bool false)] w_40 [] (by kernel_rfl) trivial ?_
      refine XL_nil ?_
      refine X_cond false rfl ?_
      refine X_skip ?_
      refine X_seq ?_
      refine X_region ?_
      refine XL_run 2 [] [(0, .slice A xs.length c), (1, .slice B ys.length d), (2, .bool on), (8, .slice A_5 xs.length c_6), (9, .slice A_10 ys.length c_11), (71, .slice A_5 xs.length c_6), (72, .slice A_10 ys.length c_11)] w_40 [] (by kernel_rfl) trivial ?_
      have hB_42 : Below w_7.heap.size w_7 w_40 := (bt (bt (bt (bt (bt (bt hb_13 hb_20) hb_25) hb_28) hb_34) hb_39) hb_41)
      have hB_43 : Below w_12.heap.size w_12 w_40 := (bt (bt (bt (bt (bt hb_20 hb_25) hb_28) hb_34) hb_39) hb_41)
      have hB_50 : Below w.heap.size w w_40 := (bt (bt (bt (bt hB_26 hb_28) hb_34) hb_39) hb_41)
      refine XL_call 15 rfl rfl rfl ent15 [.slice A_5 xs.length c_6, .slice A_10 ys.length c_11] (by kernel_rfl) (diffP_any _ _ _ _ xs ys _ (Kd.C_below hS_9.C hB_42) (Kd.C_below hS_14.C hB_43) hS_9.le hS_14.le (by omega) hbx hby (hT.below hB_50) es (hA.below hB_50)) ?_
      rintro e w_48 ⟨A_44, c_45, rfl, hl_46, hr_47, hb_49⟩; refine ⟨_, rfl, ?_⟩
      refine XL_run 5 [] [(0, .slice A xs.length c), (1, .slice B ys.length d), (2, .bool on), (8, .slice A_5 xs.length c_6), (9, .slice A_10 ys.length c_11), (10, .slice A_44 ((diffP xs ys).1.length) c_45), (11, errV es ((diffP xs ys).2))] w_48 [] (by kernel_rfl) trivial ?_
      refine XL_nil ?_
      refine X_seq ?_
      refine X_region ?_
      refine XL_run 2 [] [(0, .slice A xs.length c), (1, .slice B ys.length d), (2, .bool on), (8, .slice A_5 xs.length c_6), (9, .slice A_10 ys.length c_11), (10, .slice A_44 ((diffP xs ys).1.length) c_45), (11, errV es ((diffP xs ys).2)), (77, .slice A xs.length c), (78, .slice B ys.length d)] w_48 [] (by kernel_rfl) trivial ?_
      refine XL_call 21 rfl rfl rfl ent21 [.slice A xs.length c, .slice B ys.length d] (by kernel_rfl) (rdiffP_any _ _ _ _ xs ys _ (Kd.C_below hx (bt hB_50 hb_49)) (Kd.C_below hy (bt hB_50 hb_49)) hxc hyd (by omega) hsx hsy (hT.below (bt hB_50 hb_49))) ?_
      rintro e w_54 ⟨A_51, c_52, rfl, hr_53, hb_55⟩; refine ⟨_, rfl, ?_⟩
      refine XL_run 5 [] [(0, .slice A xs.length c), (1, .slice B ys.length d), (2, .bool on), (8, .slice A_5 xs.length c_6), (9, .slice A_10 ys.length c_11), (10, .slice A_44 ((diffP xs ys).1.length) c_45), (11, errV es ((diffP xs ys).2)), (12, .slice A_51 ((diffP xs ys).1.length) c_52), (13, .int .i64 ((diffP xs ys).2 : Int))] w_54 [] (by kernel_rfl) trivial ?_
      refine XL_nil ?_
      refine X_seq ?_
      refine X_seq ?_
      refine X_region ?_
      refine XL_run 4 [] [(0, .slice A xs.length c), (1, .slice B ys.length d), (2, .bool on), (8, .slice A_5 xs.length c_6), (9, .slice A_10 ys.length c_11), (82, .slice A_44 ((diffP xs ys).1.length) c_45), (83, errV es ((diffP xs ys).2)), (84, .slice A_51 ((diffP xs ys).1.length) c_52), (85, .int .i64 ((diffP xs ys).2 : Int))] w_54 [] (by kernel_rfl) trivial ?_
      refine XL_call 19 rfl rfl rfl ent19 [.slice A_44 ((diffP xs ys).1.length) c_45, errV es ((diffP xs ys).2), .slice A_51 ((diffP xs ys).1.length) c_52, .int .i64 ((diffP xs ys).2 : Int)] (by kernel_rfl) (same_any _ _ _ _ (diffP xs ys).1 _ (Kd.C_below (Kd.R_C hr_47) hb_55) hr_53 es (diffP xs ys).2 (diffP_le xs ys) (hE.below (bt (bt hB_50 hb_49) hb_55))) ?_
      rintro e w_56 ⟨rfl, hb_57⟩; refine ⟨_, rfl, ?_⟩
      refine XL_run 1 [] [(0, .slice A xs.length c), (1, .slice B ys.length d), (2, .bool on), (8, .slice A_5 xs.length c_6), (9, .slice A_10 ys.length c_11), (87, .bool false)] w_56 [] (by kernel_rfl) trivial ?_
      refine XL_nil ?_
      refine X_cond false rfl ?_
      refine X_skip ?_
      refine X_seq ?_
      refine X_region ?_
      refine XL_run 2 [] [(0, .slice A xs.length c), (1, .slice B ys.length d), (2, .bool on), (8, .slice A_5 xs.length c_6), (9, .slice A_10 ys.length c_11), (89, .slice A_5 xs.length c_6), (90, .slice A_10 ys.length c_11)] w_56 [] (by kernel_rfl) trivial ?_
      refine XL_call 16 rfl rfl rfl ent16 [.slice A_5 xs.length c_6, .slice A_10 ys.length c_11] (by kernel_rfl) (invertP_any _ _ _ _ xs ys _ (Kd.C_below hS_9.C (bt (bt (bt hB_42 hb_49) hb_55) hb_57)) (Kd.C_below hS_14.C (bt (bt (bt hB_43 hb_49) hb_55) hb_57)) hS_9.le hS_14.le (by omega) hbx hby (hT.below (bt (bt (bt hB_50 hb_49) hb_55) hb_57)) es (hA.below (bt (bt (bt hB_50 hb_49) hb_55) hb_57))) ?_
      rintro e w_62 ⟨A_58, c_59, rfl, hl_60, hr_61, hb_63⟩; refine ⟨_, rfl, ?_⟩
      refine XL_run 5 [] [(0, .slice A xs.length c), (1, .slice B ys.length d), (2, .bool on), (8, .slice A_5 xs.length c_6), (9, .slice A_10 ys.length c_11), (10, .slice A_58 ((invertP xs ys).1.length) c_59), (11, errV es ((invertP xs ys).2))] w_62 [] (by kernel_rfl) trivial ?_
      refine XL_nil ?_
      refine X_seq ?_
      refine X_region ?_
      refine XL_run 2 [] [(0, .slice A xs.length c), (1, .slice B ys.length d), (2, .bool on), (8, .slice A_5 xs.length c_6), (9, .slice A_10 ys.length c_11), (10, .slice A_58 ((invertP xs ys).1.length) c_59), (11, errV es ((invertP xs ys).2)), (95, .slice A xs.length c), (96, .slice B ys.length d)] w_62 [] (by kernel_rfl) trivial ?_
      have hB_64 : Below w.heap.size w w_62 := (bt (bt (bt (bt hB_50 hb_49) hb_55) hb_57) hb_63)
      refine XL_call 22 rfl rfl rfl ent22 [.slice A xs.length c, .slice B ys.length d] (by kernel_rfl) (rinvertP_any _ _ _ _ xs ys _ (Kd.C_below hx hB_64) (Kd.C_below hy hB_64) hxc hyd (by omega) hsx hsy (hT.below hB_64)) ?_
      rintro e w_68 ⟨A_65, c_66, rfl, hr_67, hb_69⟩; refine ⟨_, rfl, ?_⟩
      refine XL_run 5 [] [(0, .slice A xs.length c), (1, .slice B ys.length d), (2, .bool on), (8, .slice A_5 xs.length c_6), (9, .slice A_10 ys.length c_11), (10, .slice A_58 ((invertP xs ys).1.length) c_59), (11, errV es ((invertP xs ys).2)), (12, .slice A_65 ((invertP xs ys).1.length) c_66), (13, .int .i64 ((invertP xs ys).2 : Int))] w_68 [] (by kernel_rfl) trivial ?_
      refine XL_nil ?_
      refine X_seq ?_
      refine X_seq ?_
      refine X_region ?_
      refine XL_run 4 [] [(0, .slice A xs.length c), (1, .slice B ys.length d), (2, .bool on), (8, .slice A_5 xs.length c_6), (9, .slice A_10 ys.length c_11), (100, .slice A_58 ((invertP xs ys).1.length) c_59), (101, errV es ((invertP xs ys).2)), (102, .slice A_65 ((invertP xs ys).1.length) c_66), (103, .int .i64 ((invertP xs ys).2 : Int))] w_68 [] (by kernel_rfl) trivial ?_
      refine XL_call 19 rfl rfl rfl ent19 [.slice A_58 ((invertP xs ys).1.length) c_59, errV es ((invertP xs ys).2), .slice A_65 ((invertP xs ys).1.length) c_66, .int .i64 ((invertP xs ys).2 : Int)] (by kernel_rfl) (same_any _ _ _ _ (invertP xs ys).1 _ (Kd.C_below (Kd.R_C hr_61) hb_69) hr_67 es (invertP xs ys).2 (invertP_le xs ys) (hE.below (bt hB_64 hb_69))) ?_
      rintro e w_70 ⟨rfl, hb_71⟩; refine ⟨_, rfl, ?_⟩
      refine XL_run 1 [] [(0, .slice A xs.length c), (1, .slice B ys.length d), (2, .bool on), (8, .slice A_5 xs.length c_6), (9, .slice A_10 ys.length c_11), (105, .bool false)] w_70 [] (by kernel_rfl) trivial ?_
      refine XL_nil ?_
      refine X_cond false rfl ?_
      refine X_skip ?_
      refine X_seq ?_
      refine X_region ?_
      refine XL_run 3 [] [(0, .slice A xs.length c), (1, .slice B ys.length d), (2, .bool on), (8, .slice A_5 xs.length c_6), (9, .slice A_10 ys.length c_11), (107, .slice A_5 xs.length c_6), (108, .slice A_10 ys.length c_11), (109, .bool on)] w_70 [] (by kernel_rfl) trivial ?_
      have hB_72 : Below w_7.heap.size w_7 w_70 := (bt (bt (bt (bt (bt (bt hB_42 hb_49) hb_55) hb_57) hb_63) hb_69) hb_71)
      have hB_73 : Below w_12.heap.size w_12 w_70 := (bt (bt (bt (bt (bt (bt hB_43 hb_49) hb_55) hb_57) hb_63) hb_69) hb_71)
      refine XL_call 14 rfl rfl rfl ent14 [.slice A_5 xs.length c_6, .slice A_10 ys.length c_11, .bool on] (by kernel_rfl) (transformP_any on _ _ _ _ xs ys _ (Kd.C_below hS_9.C hB_72) (Kd.C_below hS_14.C hB_73) hS_9.le hS_14.le (by omega) hbx hby (hT.below (bt (bt hB_64 hb_69) hb_71)) es (hA.below (bt (bt hB_64 hb_69) hb_71))) ?_
      rintro e w_78 ⟨A_74, c_75, rfl, hl_76, hr_77, hb_79⟩; refine ⟨_, rfl, ?_⟩
      refine XL_run 5 [] [(0, .slice A xs.length c), (1, .slice B ys.length d), (2, .bool on), (8, .slice A_5 xs.length c_6), (9, .slice A_10 ys.length c_11), (10, .slice A_74 ((transformP on xs ys).1.length) c_75), (11, errV es ((transformP on xs ys).2))] w_78 [] (by kernel_rfl) trivial ?_
      refine XL_nil ?_
      refine X_seq ?_
      refine X_region ?_
      refine XL_run 3 [] [(0, .slice A xs.length c), (1, .slice B ys.length d), (8, .slice A_5 xs.length c_6), (9, .slice A_10 ys.length c_11), (10, .slice A_74 ((transformP on xs ys).1.length) c_75), (11, errV es ((transformP on xs ys).2)), (114, .slice A xs.length c), (115, .slice B ys.length d), (116, .bool on)] w_78 [] (by kernel_rfl) trivial ?_
      refine XL_call 23 rfl rfl rfl ent23 [.slice A xs.length c, .slice B ys.length d, .bool on] (by kernel_rfl) (rtransformP_any on _ _ _ _ xs ys _ (Kd.C_below hx (bt (bt (bt hB_64 hb_69) hb_71) hb_79)) (Kd.C_below hy (bt (bt (bt hB_64 hb_69) hb_71) hb_79)) hxc hyd (by omega) hsx hsy (hT.below (bt (bt (bt hB_64 hb_69) hb_71) hb_79))) ?_
      rintro e w_83 ⟨A_80, c_81, rfl, hr_82, hb_84⟩; refine ⟨_, rfl, ?_⟩
      refine XL_run 5 [] [(0, .slice A xs.length c), (1, .slice B ys.length d), (8, .slice A_5 xs.length c_6), (9, .slice A_10 ys.length c_11), (10, .slice A_74 ((transformP on xs ys).1.length) c_75), (11, errV es ((transformP on xs ys).2)), (12, .slice A_80 ((transformP on xs ys).1.length) c_81), (13, .int .i64 ((transformP on xs ys).2 : Int))] w_83 [] (by kernel_rfl) trivial ?_
      refine XL_nil ?_
      refine X_seq ?_
      refine X_seq ?_
      refine X_region ?_
      refine XL_run 4 [] [(0, .slice A xs.length c), (1, .slice B ys.length d), (8, .slice A_5 xs.length c_6), (9, .slice A_10 ys.length c_11), (120, .slice A_74 ((transformP on xs ys).1.length) c_75), (121, errV es ((transformP on xs ys).2)), (122, .slice A_80 ((transformP on xs ys).1.length) c_81), (123, .int .i64 ((transformP on xs ys).2 : Int))] w_83 [] (by kernel_rfl) trivial ?_
      have hB_85 : Below w.heap.size w w_83 := (bt (bt (bt (bt hB_64 hb_69) hb_71) hb_79) hb_84)
      refine XL_call 19 rfl rfl rfl ent19 [.slice A_74 ((transformP on xs ys).1.length) c_75, errV es ((transformP on xs ys).2), .slice A_80 ((transformP on xs ys).1.length) c_81, .int .i64 ((transformP on xs ys).2 : Int)] (by kernel_rfl) (same_any _ _ _ _ (transformP on xs ys).1 _ (Kd.C_below (Kd.R_C hr_77) hb_84) hr_82 es (transformP on xs ys).2 (transformP_le on xs ys) (hE.below hB_85)) ?_
      rintro e w_86 ⟨rfl, hb_87⟩; refine ⟨_, rfl, ?_⟩
      refine XL_run 1 [] [(0, .slice A xs.length c), (1, .slice B ys.length d), (8, .slice A_5 xs.length c_6), (9, .slice A_10 ys.length c_11), (125, .bool false)] w_86 [] (by kernel_rfl) trivial ?_
      refine XL_nil ?_
      refine X_cond false rfl ?_
      refine X_skip ?_
      refine X_seq ?_
      refine X_region ?_
      refine XL_run 2 [] [(0, .slice A xs.length c), (1, .slice B ys.length d), (8, .slice A_5 xs.length c_6), (9, .slice A_10 ys.length c_11), (126, .slice A_5 xs.length c_6), (127, .slice A_10 ys.length c_11)] w_86 [] (by kernel_rfl) trivial ?_
      refine XL_call 12 rfl rfl rfl ent12 [.slice A_5 xs.length c_6, .slice A_10 ys.length c_11] (by kernel_rfl) (asame_any _ _ _ _ xs ys _ (Kd.C_below hS_9.C (bt (bt (bt hB_72 hb_79) hb_84) hb_87)) (Kd.C_below hS_14.C (bt (bt (bt hB_73 hb_79) hb_84) hb_87))) ?_
      rintro e w_88 ⟨rfl, hb_89⟩; refine ⟨_, rfl, ?_⟩
      by_cases c_90 : xs = ys
      · rw [show decide (xs = ys) = true from decide_eq_true c_90]
        refine XL_run 2 [] [(0, .slice A xs.length c), (1, .slice B ys.length d), (8, .slice A_5 xs.length c_6), (9, .slice A_10 ys.length c_11), (128, .bool true), (129, .slice A xs.length c), (130, .slice B ys.length d)] w_88 [] (by kernel_rfl) trivial ?_
        refine XL_call 24 rfl rfl rfl ent24 [.slice A xs.length c, .slice B ys.length d] (by kernel_rfl) (refSame_any _ _ _ _ xs ys _ (Kd.C_below hx (bt (bt hB_85 hb_87) hb_89)) (Kd.C_below hy (bt (bt hB_85 hb_87) hb_89))) ?_
        rintro e w_91 ⟨rfl, hb_92⟩; refine ⟨_, rfl, ?_⟩
        rw [show decide (xs = ys) = true from decide_eq_true c_90]
        refine XL_run 4 [] [(0, .slice A xs.length c), (1, .slice B ys.length d), (8, .slice A_5 xs.length c_6), (9, .slice A_10 ys.length c_11), (133, .bool true), (134, .slice A_5 xs.length c_6), (135, .slice A_5 xs.length c_6)] w_91 [] (by kernel_rfl) trivial ?_
        have hB_93 : Below w_7.heap.size w_7 w_91 := (bt (bt (bt (bt (bt hB_72 hb_79) hb_84) hb_87) hb_89) hb_92)
        refine XL_call 12 rfl rfl rfl ent12 [.slice A_5 xs.length c_6, .slice A_5 xs.length c_6] (by kernel_rfl) (asame_any _ _ _ _ xs xs _ (Kd.C_below hS_9.C hB_93) (Kd.C_below hS_9.C hB_93)) ?_
        rintro e w_94 ⟨rfl, hb_95⟩; refine ⟨_, rfl, ?_⟩
        rw [show decide (xs = xs) = true from decide_eq_true rfl]
        refine XL_run 4 [] [(1, .slice B ys.length d), (9, .slice A_10 ys.length c_11), (138, .bool true), (139, .slice A_5 xs.length c_6), (140, .slice A xs.length c)] w_94 [] (by kernel_rfl) trivial ?_
        have hB_96 : Below w.heap.size w w_94 := (bt (bt (bt (bt hB_85 hb_87) hb_89) hb_92) hb_95)
        refine XL_call 25 rfl rfl rfl ent25 [.slice A_5 xs.length c_6, .slice A xs.length c] (by kernel_rfl) (kept_any _ _ _ _ xs _ (hS_9.below (bt hB_93 hb_95)) (Kd.C_below hx hB_96) (by omega)) ?_
        rintro e w_97 ⟨rfl, hb_98⟩; refine ⟨_, rfl, ?_⟩
        refine XL_run 4 [] [(143, .bool true), (144, .slice A_10 ys.length c_11), (145, .slice B ys.length d)] w_97 [] (by kernel_rfl) trivial ?_
        have hB_99 : Below w_12.heap.size w_12 w_97 := (bt (bt (bt (bt (bt (bt (bt hB_73 hb_79) hb_84) hb_87) hb_89) hb_92) hb_95) hb_98)
        refine XL_call 25 rfl rfl rfl ent25 [.slice A_10 ys.length c_11, .slice B ys.length d] (by kernel_rfl) (kept_any _ _ _ _ ys _ (hS_14.below hB_99) (Kd.C_below hy (bt hB_96 hb_98)) (by omega)) ?_
        rintro e w_100 ⟨rfl, hb_101⟩; refine ⟨_, rfl, ?_⟩
        refine XL_run 2 [] [(6, .bool true)] w_100 [] (by kernel_rfl) trivial ?_
        refine XL_nil ?_
        refine X_ret ?_
        refine RX.ret_ok (P := Tryd.prog) (fn := Tryd.f6) (N := 148) (R := R_) [.bool true] (by kernel_rfl) (hR_ _ _ ?_)
        exact ⟨rfl, (bt (bt hB_96 hb_98) hb_101)⟩
      · rw [show decide (xs = ys) = false from decide_eq_false c_90]
        refine XL_run 2 [] [(0, .slice A xs.length c), (1, .slice B ys.length d), (8, .slice A_5 xs.length c_6), (9, .slice A_10 ys.length c_11), (128, .bool false), (129, .slice A xs.length c), (130, .slice B ys.length d)] w_88 [] (by kernel_rfl) trivial ?_
        refine XL_call 24 rfl rfl rfl ent24 [.slice A xs.length c, .slice B ys.length d] (by kernel_rfl) (refSame_any _ _ _ _ xs ys _ (Kd.C_below hx (bt (bt hB_85 hb_87) hb_89)) (Kd.C_below hy (bt (bt hB_85 hb_87) hb_89))) ?_
        rintro e w_102 ⟨rfl, hb_103⟩; refine ⟨_, rfl, ?_⟩
        rw [show decide (xs = ys) = false from decide_eq_false c_90]
        refine XL_run 4 [] [(0, .slice A xs.length c), (1, .slice B ys.length d), (8, .slice A_5 xs.length c_6), (9, .slice A_10 ys.length c_11), (133, .bool true), (134, .slice A_5 xs.length c_6), (135, .slice A_5 xs.length c_6)] w_102 [] (by kernel_rfl) trivial ?_
        have hB_104 : Below w_7.heap.size w_7 w_102 := (bt (bt (bt (bt (bt hB_72 hb_79) hb_84) hb_87) hb_89) hb_103)
        refine XL_call 12 rfl rfl rfl ent12 [.slice A_5 xs.length c_6, .slice A_5 xs.length c_6] (by kernel_rfl) (asame_any _ _ _ _ xs xs _ (Kd.C_below hS_9.C hB_104) (Kd.C_below hS_9.C hB_104)) ?_
        rintro e w_105 ⟨rfl, hb_106⟩; refine ⟨_, rfl, ?_⟩
        rw [show decide (xs = xs) = true from decide_eq_true rfl]
        refine XL_run 4 [] [(1, .slice B ys.length d), (9, .slice A_10 ys.length c_11), (138, .bool true), (139, .slice A_5 xs.length c_6), (140, .slice A xs.length c)] w_105 [] (by kernel_rfl) trivial ?_
        have hB_107 : Below w.heap.size w w_105 := (bt (bt (bt (bt hB_85 hb_87) hb_89) hb_103) hb_106)
        refine XL_call 25 rfl rfl rfl ent25 [.slice A_5 xs.length c_6, .slice A xs.length c] (by kernel_rfl) (kept_any _ _ _ _ xs _ (hS_9.below (bt hB_104 hb_106)) (Kd.C_below hx hB_107) (by omega)) ?_
        rintro e w_108 ⟨rfl, hb_109⟩; refine ⟨_, rfl, ?_⟩
        refine XL_run 4 [] [(143, .bool true), (144, .slice A_10 ys.length c_11), (145, .slice B ys.length d)] w_108 [] (by kernel_rfl) trivial ?_
        have hB_110 : Below w_12.heap.size w_12 w_108 := (bt (bt (bt (bt (bt (bt (bt hB_73 hb_79) hb_84) hb_87) hb_89) hb_103) hb_106) hb_109)
        refine XL_call 25 rfl rfl rfl ent25 [.slice A_10 ys.length c_11, .slice B ys.length d] (by kernel_rfl) (kept_any _ _ _ _ ys _ (hS_14.below hB_110) (Kd.C_below hy (bt hB_107 hb_109)) (by omega)) ?_
        rintro e w_111 ⟨rfl, hb_112⟩; refine ⟨_, rfl, ?_⟩
        refine XL_run 2 [] [(6, .bool true)] w_111 [] (by kernel_rfl) trivial ?_
        refine XL_nil ?_
        refine X_ret ?_
        refine RX.ret_ok (P := Tryd.prog) (fn := Tryd.f6) (N := 148) (R := R_) [.bool true] (by kernel_rfl) (hR_ _ _ ?_)
        exact ⟨rfl, (bt (bt hB_107 hb_109) hb_112)⟩
end Go.Proofs.YtdkdajofppjnaaaDoor
