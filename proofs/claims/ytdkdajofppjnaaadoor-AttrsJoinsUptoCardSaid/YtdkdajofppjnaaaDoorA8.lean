/- AttrsThree, AttrsBoth and AttrsUndone return true. Conditions: lengths and sizes that the rows bound, the tables of utf8, Errs. -/
import Derived.Test.YtdkdajofppjnaaaDoorA7
set_option linter.unusedVariables false
set_option linter.unusedSimpArgs false
set_option maxRecDepth 100000
namespace Go.Proofs.YtdkdajofppjnaaaDoor
open Go Go.RowKit Go.Proofs.YtdkdajofppjnaaaDoorW.PrintWords RX
set_option maxHeartbeats 4000000 in
theorem attrsThree_any (A0 : Option Addr) (c0 : Nat) (xs0 : List At) (A1 : Option Addr) (c1 : Nat) (xs1 : List At) (A2 : Option Addr) (c2 : Nat) (xs2 : List At) (w : World) (hx0 : kAttr.C w A0 xs0.length xs0) (hc0 : xs0.length ≤ c0) (hl0 : xs0.length ≤ 1048576) (hs0 : ∀ i, i < xs0.length → (xs0.getD i at0).1.size ≤ 9223372036854775807 ∧ (xs0.getD i at0).2.2.2.size ≤ 9223372036854775807)  (hx1 : kAttr.C w A1 xs1.length xs1) (hc1 : xs1.length ≤ c1) (hl1 : xs1.length ≤ 1048576) (hs1 : ∀ i, i < xs1.length → (xs1.getD i at0).1.size ≤ 9223372036854775807 ∧ (xs1.getD i at0).2.2.2.size ≤ 9223372036854775807)  (hx2 : kAttr.C w A2 xs2.length xs2) (hc2 : xs2.length ≤ c2) (hl2 : xs2.length ≤ 1048576) (hs2 : ∀ i, i < xs2.length → (xs2.getD i at0).1.size ≤ 9223372036854775807 ∧ (xs2.getD i at0).2.2.2.size ≤ 9223372036854775807) (hT : Tabs w) (es : List Addr) (hE : ErrsA w es) : Calls Tryd.prog 3 #[.slice A0 xs0.length c0, .slice A1 xs1.length c1, .slice A2 xs2.length c2] w fun e w' => e = .returned (.bool true) ∧ Below w.heap.size w w' := by
  refine RX.enter Tryd.func3 rfl 154 rfl [(0, .slice A0 xs0.length c0), (1, .slice A1 xs1.length c1), (2, .slice A2 xs2.length c2)] rfl (by kernel_rfl) (fun R_ hR_ => ?_)
  refine X_seq ?_
  refine X_region ?_
  refine XL_run 1 [] [(0, .slice A0 xs0.length c0), (1, .slice A1 xs1.length c1), (2, .slice A2 xs2.length c2)] w [] (by kernel_rfl) trivial ?_
  refine XL_nil ?_
  refine X_seq ?_
  refine X_region ?_
  refine XL_call 9 rfl rfl rfl ent9 [] (by kernel_rfl) (lives_any _ (hT.below (Below.refl _ _)) es (hE.below (Below.refl _ _))) ?_
  rintro e w_1 ⟨rfl, hb_2⟩; refine ⟨_, rfl, ?_⟩
  refine XL_run 1 [] [(0, .slice A0 xs0.length c0), (1, .slice A1 xs1.length c1), (2, .slice A2 xs2.length c2), (7, .bool true)] w_1 [] (by kernel_rfl) trivial ?_
  refine XL_nil ?_
  refine X_seq ?_
  refine X_seq ?_
  refine X_region ?_
  refine XL_run 11 [(25, .eq (.int .i64 ((xs0.length : Int) + (xs1.length : Int)))), (28, .eq (.int .i64 (((xs0.length : Int) + (xs1.length : Int)) + (xs2.length : Int))))] [(0, .slice A0 xs0.length c0), (1, .slice A1 xs1.length c1), (2, .slice A2 xs2.length c2), (7, .bool true), (20, .bool false), (28, .int .i64 (((xs0.length : Int) + (xs1.length : Int)) + (xs2.length : Int)))] w_1 [Value.int .i64 (IntKind.i64.wrap ((xs0.length : Int) + (xs1.length : Int))) = Value.int .i64 ((xs0.length : Int) + (xs1.length : Int)), Value.int .i64 (IntKind.i64.wrap (((xs0.length : Int) + (xs1.length : Int)) + (xs2.length : Int))) = Value.int .i64 (((xs0.length : Int) + (xs1.length : Int)) + (xs2.length : Int))] (by kernel_rfl) ⟨wr_i64 (by omega) (by omega), wr_i64 (by omega) (by omega), trivial⟩ ?_
  by_cases c_3 : ((xs0.length : Int) + (xs1.length : Int)) + (xs2.length : Int) > 2000
  · refine XL_run 2 [(29, .eq (.bool true))] [(0, .slice A0 xs0.length c0), (1, .slice A1 xs1.length c1), (2, .slice A2 xs2.length c2), (7, .bool true), (30, .bool true)] w_1 [Value.bool (decide (((xs0.length : Int) + (xs1.length : Int)) + (xs2.length : Int) > 2000)) = Value.bool true] (by kernel_rfl) ⟨congrArg Value.bool (decide_eq_true (c_3)), trivial⟩ ?_
    refine XL_nil ?_
    refine X_cond true rfl ?_
    refine X_seq ?_
    refine X_region ?_
    refine XL_run 2 [] [(6, .bool true)] w_1 [] (by kernel_rfl) trivial ?_
    refine XL_nil ?_
    refine X_ret ?_
    refine RX.ret_ok (P := Tryd.prog) (fn := Tryd.f3) (N := 154) (R := R_) [.bool true] (by kernel_rfl) (hR_ _ _ ?_)
    exact ⟨rfl, hb_2⟩
  · refine XL_run 2 [(29, .eq (.bool false))] [(0, .slice A0 xs0.length c0), (1, .slice A1 xs1.length c1), (2, .slice A2 xs2.length c2), (7, .bool true), (30, .bool false)] w_1 [Value.bool (decide (((xs0.length : Int) + (xs1.length : Int)) + (xs2.length : Int) > 2000)) = Value.bool false] (by kernel_rfl) ⟨congrArg Value.bool (decide_eq_false (c_3)), trivial⟩ ?_
    refine XL_nil ?_
    refine X_cond false rfl ?_
    refine X_skip ?_
    refine X_seq ?_
    refine X_seq ?_
    refine X_region ?_
    refine XL_run 1 [] [(0, .slice A0 xs0.length c0), (1, .slice A1 xs1.length c1), (2, .slice A2 xs2.length c2), (32, .slice A0 xs0.length c0)] w_1 [] (by kernel_rfl) trivial ?_
    refine XL_call 10 rfl rfl rfl ent10 [.slice A0 xs0.length c0, .bool true] (by kernel_rfl) (acheck_any A0 c0 xs0 true _ (Kd.C_below hx0 hb_2) hs0 (hT.below hb_2) es (hE.below hb_2)) ?_
    rintro e w_4 ⟨rfl, hb_5⟩; refine ⟨_, rfl, ?_⟩
    by_cases c_6 : (chkA true xs0) = 0
    · rw [show errV es (chkA true xs0) = .nilIface from by rw [c_6]; rfl]
      refine XL_run 3 [] [(0, .slice A0 xs0.length c0), (1, .slice A1 xs1.length c1), (2, .slice A2 xs2.length c2), (35, .bool false), (36, .slice A1 xs1.length c1)] w_4 [] (by kernel_rfl) trivial ?_
      refine XL_call 10 rfl rfl rfl ent10 [.slice A1 xs1.length c1, .bool true] (by kernel_rfl) (acheck_any A1 c1 xs1 true _ (Kd.C_below hx1 (bt hb_2 hb_5)) hs1 (hT.below (bt hb_2 hb_5)) es (hE.below (bt hb_2 hb_5))) ?_
      rintro e w_7 ⟨rfl, hb_8⟩; refine ⟨_, rfl, ?_⟩
      by_cases c_9 : (chkA true xs1) = 0
      · rw [show errV es (chkA true xs1) = .nilIface from by rw [c_9]; rfl]
        refine XL_run 4 [] [(0, .slice A0 xs0.length c0), (1, .slice A1 xs1.length c1), (2, .slice A2 xs2.length c2), (40, .bool false), (41, .slice A2 xs2.length c2)] w_7 [] (by kernel_rfl) trivial ?_
        refine XL_call 10 rfl rfl rfl ent10 [.slice A2 xs2.length c2, .bool true] (by kernel_rfl) (acheck_any A2 c2 xs2 true _ (Kd.C_below hx2 (bt (bt hb_2 hb_5) hb_8)) hs2 (hT.below (bt (bt hb_2 hb_5) hb_8)) es (hE.below (bt (bt hb_2 hb_5) hb_8))) ?_
        rintro e w_10 ⟨rfl, hb_11⟩; refine ⟨_, rfl, ?_⟩
        by_cases c_12 : (chkA true xs2) = 0
        · rw [show errV es (chkA true xs2) = .nilIface from by rw [c_12]; rfl]
          refine XL_run 2 [] [(0, .slice A0 xs0.length c0), (1, .slice A1 xs1.length c1), (2, .slice A2 xs2.length c2), (44, .bool false)] w_10 [] (by kernel_rfl) trivial ?_
          refine XL_nil ?_
          refine X_cond false rfl ?_
          refine X_skip ?_
          refine X_seq ?_
          refine X_region ?_
          refine XL_run 2 [] [(0, .slice A0 xs0.length c0), (1, .slice A1 xs1.length c1), (2, .slice A2 xs2.length c2), (46, .slice A0 xs0.length c0), (47, .slice A1 xs1.length c1)] w_10 [] (by kernel_rfl) trivial ?_
          refine XL_call 11 rfl rfl rfl ent11 [.slice A0 xs0.length c0, .slice A1 xs1.length c1, .bool true] (by kernel_rfl) (compose_ok true A0 A1 c0 c1 xs0 xs1 _ (Kd.C_below hx0 (bt (bt (bt hb_2 hb_5) hb_8) hb_11)) (Kd.C_below hx1 (bt (bt (bt hb_2 hb_5) hb_8) hb_11)) hc0 hc1 (by omega) ((chkA_good _ _).1 c_6) ((chkA_good _ _).1 c_9) (hT.below (bt (bt (bt hb_2 hb_5) hb_8) hb_11)) es (hE.below (bt (bt (bt hb_2 hb_5) hb_8) hb_11))) ?_
          rintro e w_21 ⟨A_13, c_14, zs_15, ez_16, gz_17, lz_18, rfl, hl_19, hr_20, hb_22⟩; refine ⟨_, rfl, ?_⟩
          refine XL_run 5 [] [(0, .slice A0 xs0.length c0), (1, .slice A1 xs1.length c1), (2, .slice A2 xs2.length c2), (8, .slice A_13 zs_15.length c_14), (9, .nilIface)] w_21 [] (by kernel_rfl) trivial ?_
          refine XL_nil ?_
          refine X_seq ?_
          refine X_region ?_
          refine XL_run 2 [] [(0, .slice A0 xs0.length c0), (1, .slice A1 xs1.length c1), (2, .slice A2 xs2.length c2), (8, .slice A_13 zs_15.length c_14), (9, .nilIface), (52, .slice A1 xs1.length c1), (53, .slice A2 xs2.length c2)] w_21 [] (by kernel_rfl) trivial ?_
          have hB_23 : Below w.heap.size w w_21 := (bt (bt (bt (bt hb_2 hb_5) hb_8) hb_11) hb_22)
          refine XL_call 11 rfl rfl rfl ent11 [.slice A1 xs1.length c1, .slice A2 xs2.length c2, .bool true] (by kernel_rfl) (compose_ok true A1 A2 c1 c2 xs1 xs2 _ (Kd.C_below hx1 hB_23) (Kd.C_below hx2 hB_23) hc1 hc2 (by omega) ((chkA_good _ _).1 c_9) ((chkA_good _ _).1 c_12) (hT.below hB_23) es (hE.below hB_23)) ?_
          rintro e w_32 ⟨A_24, c_25, zs_26, ez_27, gz_28, lz_29, rfl, hl_30, hr_31, hb_33⟩; refine ⟨_, rfl, ?_⟩
          refine XL_run 5 [] [(0, .slice A0 xs0.length c0), (1, .slice A1 xs1.length c1), (2, .slice A2 xs2.length c2), (8, .slice A_13 zs_15.length c_14), (9, .nilIface), (10, .slice A_24 zs_26.length c_25), (11, .nilIface)] w_32 [] (by kernel_rfl) trivial ?_
          refine XL_nil ?_
          refine X_seq ?_
          refine X_seq ?_
          refine X_region ?_
          refine XL_run 6 [] [(0, .slice A0 xs0.length c0), (1, .slice A1 xs1.length c1), (2, .slice A2 xs2.length c2), (8, .slice A_13 zs_15.length c_14), (10, .slice A_24 zs_26.length c_25), (62, .bool false)] w_32 [] (by kernel_rfl) trivial ?_
          refine XL_nil ?_
          refine X_cond false rfl ?_
          refine X_skip ?_
          refine X_seq ?_
          refine X_region ?_
          refine XL_run 2 [] [(0, .slice A0 xs0.length c0), (1, .slice A1 xs1.length c1), (2, .slice A2 xs2.length c2), (10, .slice A_24 zs_26.length c_25), (64, .slice A_13 zs_15.length c_14), (65, .slice A2 xs2.length c2)] w_32 [] (by kernel_rfl) trivial ?_
          refine XL_call 11 rfl rfl rfl ent11 [.slice A_13 zs_15.length c_14, .slice A2 xs2.length c2, .bool true] (by kernel_rfl) (compose_ok true A_13 A2 c_14 c2 zs_15 xs2 _ (Kd.R_C (Kd.R_below hr_20 hb_33)) (Kd.C_below hx2 (bt hB_23 hb_33)) (RX.Kd.R_len (Kd.R_below hr_20 hb_33)).2 hc2 (by omega) gz_17 ((chkA_good _ _).1 c_12) (hT.below (bt hB_23 hb_33)) es (hE.below (bt hB_23 hb_33))) ?_
          rintro e w_42 ⟨A_34, c_35, zs_36, ez_37, gz_38, lz_39, rfl, hl_40, hr_41, hb_43⟩; refine ⟨_, rfl, ?_⟩
          refine XL_run 5 [] [(0, .slice A0 xs0.length c0), (1, .slice A1 xs1.length c1), (2, .slice A2 xs2.length c2), (9, .nilIface), (10, .slice A_24 zs_26.length c_25), (12, .slice A_34 zs_36.length c_35)] w_42 [] (by kernel_rfl) trivial ?_
          refine XL_nil ?_
          refine X_seq ?_
          refine X_region ?_
          refine XL_run 2 [] [(0, .slice A0 xs0.length c0), (1, .slice A1 xs1.length c1), (2, .slice A2 xs2.length c2), (9, .nilIface), (10, .slice A_24 zs_26.length c_25), (12, .slice A_34 zs_36.length c_35), (70, .slice A0 xs0.length c0), (71, .slice A_24 zs_26.length c_25)] w_42 [] (by kernel_rfl) trivial ?_
          refine XL_call 11 rfl rfl rfl ent11 [.slice A0 xs0.length c0, .slice A_24 zs_26.length c_25, .bool true] (by kernel_rfl) (compose_ok true A0 A_24 c0 c_25 xs0 zs_26 _ (Kd.C_below hx0 (bt (bt hB_23 hb_33) hb_43)) (Kd.R_C (Kd.R_below hr_31 hb_43)) hc0 (RX.Kd.R_len (Kd.R_below hr_31 hb_43)).2 (by omega) ((chkA_good _ _).1 c_6) gz_28 (hT.below (bt (bt hB_23 hb_33) hb_43)) es (hE.below (bt (bt hB_23 hb_33) hb_43))) ?_
          rintro e w_52 ⟨A_44, c_45, zs_46, ez_47, gz_48, lz_49, rfl, hl_50, hr_51, hb_53⟩; refine ⟨_, rfl, ?_⟩
          refine XL_run 5 [] [(0, .slice A0 xs0.length c0), (1, .slice A1 xs1.length c1), (2, .slice A2 xs2.length c2), (9, .nilIface), (10, .slice A_24 zs_26.length c_25), (11, .nilIface), (12, .slice A_34 zs_36.length c_35), (13, .slice A_44 zs_46.length c_45)] w_52 [] (by kernel_rfl) trivial ?_
          refine XL_nil ?_
          refine X_seq ?_
          refine X_seq ?_
          refine X_region ?_
          refine XL_run 9 [] [(0, .slice A0 xs0.length c0), (1, .slice A1 xs1.length c1), (2, .slice A2 xs2.length c2), (10, .slice A_24 zs_26.length c_25), (81, .bool false), (82, .slice A_34 zs_36.length c_35), (83, .slice A_44 zs_46.length c_45)] w_52 [] (by kernel_rfl) trivial ?_
          refine XL_call 12 rfl rfl rfl ent12 [.slice A_34 zs_36.length c_35, .slice A_44 zs_46.length c_45] (by kernel_rfl) (asame_any _ _ _ _ zs_36 zs_46 _ (Kd.R_C (Kd.R_below hr_41 hb_53)) (Kd.R_C hr_51)) ?_
          rintro e w_54 ⟨rfl, hb_55⟩; refine ⟨_, rfl, ?_⟩
          rw [show decide (zs_36 = zs_46) = true from decide_eq_true (by rw [ez_37, ez_16, ez_47, ez_27]; exact law_three (((chkA_good _ _).1 c_6)).2 (((chkA_good _ _).1 c_9)).2 (((chkA_good _ _).1 c_12)).2)]
          refine XL_run 2 [] [(0, .slice A0 xs0.length c0), (1, .slice A1 xs1.length c1), (2, .slice A2 xs2.length c2), (10, .slice A_24 zs_26.length c_25), (86, .bool false)] w_54 [] (by kernel_rfl) trivial ?_
          refine XL_nil ?_
          refine X_cond false rfl ?_
          refine X_skip ?_
          refine X_seq ?_
          refine X_region ?_
          refine XL_run 1 [] [(0, .slice A0 xs0.length c0), (1, .slice A1 xs1.length c1), (2, .slice A2 xs2.length c2), (10, .slice A_24 zs_26.length c_25), (88, .slice A0 xs0.length c0)] w_54 [] (by kernel_rfl) trivial ?_
          have hB_56 : Below w.heap.size w w_54 := (bt (bt (bt (bt hB_23 hb_33) hb_43) hb_53) hb_55)
          refine XL_call 11 rfl rfl rfl ent11 [.slice A0 xs0.length c0, .slice none 0 0, .bool true] (by kernel_rfl) (compose_ok true A0 none c0 0 xs0 [] _ (Kd.C_below hx0 hB_56) ⟨rfl, by simp, fun h => by simp at h⟩ hc0 (Nat.le_refl _) (by simp only [List.length_nil]; omega) ((chkA_good _ _).1 c_6) (good_nil _) (hT.below hB_56) es (hE.below hB_56)) ?_
          rintro e w_65 ⟨A_57, c_58, zs_59, ez_60, gz_61, lz_62, rfl, hl_63, hr_64, hb_66⟩; refine ⟨_, rfl, ?_⟩
          simp only [List.length_nil] at lz_62
          refine XL_run 5 [] [(0, .slice A0 xs0.length c0), (1, .slice A1 xs1.length c1), (2, .slice A2 xs2.length c2), (9, .nilIface), (10, .slice A_24 zs_26.length c_25), (12, .slice A_57 zs_59.length c_58)] w_65 [] (by kernel_rfl) trivial ?_
          refine XL_nil ?_
          refine X_seq ?_
          refine X_region ?_
          refine XL_run 1 [] [(0, .slice A0 xs0.length c0), (1, .slice A1 xs1.length c1), (2, .slice A2 xs2.length c2), (9, .nilIface), (10, .slice A_24 zs_26.length c_25), (12, .slice A_57 zs_59.length c_58), (93, .slice A0 xs0.length c0)] w_65 [] (by kernel_rfl) trivial ?_
          refine XL_call 11 rfl rfl rfl ent11 [.slice none 0 0, .slice A0 xs0.length c0, .bool true] (by kernel_rfl) (compose_ok true none A0 0 c0 [] xs0 _ ⟨rfl, by simp, fun h => by simp at h⟩ (Kd.C_below hx0 (bt hB_56 hb_66)) (Nat.le_refl _) hc0 (by simp only [List.length_nil]; omega) (good_nil _) ((chkA_good _ _).1 c_6) (hT.below (bt hB_56 hb_66)) es (hE.below (bt hB_56 hb_66))) ?_
          rintro e w_75 ⟨A_67, c_68, zs_69, ez_70, gz_71, lz_72, rfl, hl_73, hr_74, hb_76⟩; refine ⟨_, rfl, ?_⟩
          simp only [List.length_nil] at lz_72
          refine XL_run 5 [] [(0, .slice A0 xs0.length c0), (1, .slice A1 xs1.length c1), (2, .slice A2 xs2.length c2), (9, .nilIface), (10, .slice A_24 zs_26.length c_25), (11, .nilIface), (12, .slice A_57 zs_59.length c_58), (13, .slice A_67 zs_69.length c_68)] w_75 [] (by kernel_rfl) trivial ?_
          refine XL_nil ?_
          refine X_seq ?_
          refine X_seq ?_
          refine X_region ?_
          refine XL_run 9 [] [(0, .slice A0 xs0.length c0), (1, .slice A1 xs1.length c1), (2, .slice A2 xs2.length c2), (10, .slice A_24 zs_26.length c_25), (13, .slice A_67 zs_69.length c_68), (103, .bool false), (104, .slice A_57 zs_59.length c_58), (105, .slice A0 xs0.length c0)] w_75 [] (by kernel_rfl) trivial ?_
          refine XL_call 12 rfl rfl rfl ent12 [.slice A_57 zs_59.length c_58, .slice A0 xs0.length c0] (by kernel_rfl) (asame_any _ _ _ _ zs_59 xs0 _ (Kd.R_C (Kd.R_below hr_64 hb_76)) (Kd.C_below hx0 (bt (bt hB_56 hb_66) hb_76))) ?_
          rintro e w_77 ⟨rfl, hb_78⟩; refine ⟨_, rfl, ?_⟩
          rw [show decide (zs_59 = xs0) = true from decide_eq_true (by rw [ez_60]; exact law_nil_r (((chkA_good _ _).1 c_6)).2)]
          refine XL_run 5 [] [(0, .slice A0 xs0.length c0), (1, .slice A1 xs1.length c1), (2, .slice A2 xs2.length c2), (10, .slice A_24 zs_26.length c_25), (109, .bool false), (110, .slice A_67 zs_69.length c_68), (111, .slice A0 xs0.length c0)] w_77 [] (by kernel_rfl) trivial ?_
          refine XL_call 12 rfl rfl rfl ent12 [.slice A_67 zs_69.length c_68, .slice A0 xs0.length c0] (by kernel_rfl) (asame_any _ _ _ _ zs_69 xs0 _ (Kd.R_C (Kd.R_below hr_74 hb_78)) (Kd.C_below hx0 (bt (bt (bt hB_56 hb_66) hb_76) hb_78))) ?_
          rintro e w_79 ⟨rfl, hb_80⟩; refine ⟨_, rfl, ?_⟩
          rw [show decide (zs_69 = xs0) = true from decide_eq_true (by rw [ez_70]; exact law_nil_l (((chkA_good _ _).1 c_6)).2)]
          refine XL_run 2 [] [(0, .slice A0 xs0.length c0), (1, .slice A1 xs1.length c1), (2, .slice A2 xs2.length c2), (10, .slice A_24 zs_26.length c_25), (114, .bool false)] w_79 [] (by kernel_rfl) trivial ?_
          refine XL_nil ?_
          refine X_cond false rfl ?_
          refine X_skip ?_
          refine X_seq ?_
          refine X_seq ?_
          refine X_region ?_
          refine XL_run 1 [] [(0, .slice A0 xs0.length c0), (1, .slice A1 xs1.length c1), (2, .slice A2 xs2.length c2), (10, .slice A_24 zs_26.length c_25), (115, .slice A0 xs0.length c0)] w_79 [] (by kernel_rfl) trivial ?_
          have hB_83 : Below w.heap.size w w_79 := (bt (bt (bt (bt hB_56 hb_66) hb_76) hb_78) hb_80)
          refine XL_call 10 rfl rfl rfl ent10 [.slice A0 xs0.length c0, .bool false] (by kernel_rfl) (acheck_any A0 c0 xs0 false _ (Kd.C_below hx0 hB_83) hs0 (hT.below hB_83) es (hE.below hB_83)) ?_
          rintro e w_81 ⟨rfl, hb_82⟩; refine ⟨_, rfl, ?_⟩
          by_cases c_84 : (chkA false xs0) = 0
          · rw [show errV es (chkA false xs0) = .nilIface from by rw [c_84]; rfl]
            refine XL_run 1 [] [(0, .slice A0 xs0.length c0), (1, .slice A1 xs1.length c1), (2, .slice A2 xs2.length c2), (10, .slice A_24 zs_26.length c_25), (117, .bool false)] w_81 [] (by kernel_rfl) trivial ?_
            refine XL_nil ?_
            refine X_cond false rfl ?_
            refine X_skip ?_
            refine X_seq ?_
            refine X_region ?_
            refine XL_run 2 [] [(0, .slice A0 xs0.length c0), (1, .slice A1 xs1.length c1), (2, .slice A2 xs2.length c2), (119, .slice A0 xs0.length c0), (120, .slice A_24 zs_26.length c_25)] w_81 [] (by kernel_rfl) trivial ?_
            have hB_85 : Below w_32.heap.size w_32 w_81 := (bt (bt (bt (bt (bt (bt (bt hb_43 hb_53) hb_55) hb_66) hb_76) hb_78) hb_80) hb_82)
            refine XL_call 13 rfl rfl rfl ent13 [.slice A0 xs0.length c0, .slice A_24 zs_26.length c_25] (by kernel_rfl) (apply_ok  A0 A_24 c0 c_25 xs0 zs_26 _ (Kd.C_below hx0 (bt hB_83 hb_82)) (Kd.R_C (Kd.R_below hr_31 hB_85)) hc0 (RX.Kd.R_len (Kd.R_below hr_31 hB_85)).2 (by omega) ((chkA_good _ _).1 c_84) gz_28 (hT.below (bt hB_83 hb_82)) es (hE.below (bt hB_83 hb_82))) ?_
            rintro e w_94 ⟨A_86, c_87, zs_88, ez_89, gz_90, lz_91, rfl, hl_92, hr_93, hb_95⟩; refine ⟨_, rfl, ?_⟩
            refine XL_run 5 [] [(0, .slice A0 xs0.length c0), (1, .slice A1 xs1.length c1), (2, .slice A2 xs2.length c2), (9, .nilIface), (14, .slice A_86 zs_88.length c_87)] w_94 [] (by kernel_rfl) trivial ?_
            refine XL_nil ?_
            refine X_seq ?_
            refine X_region ?_
            refine XL_run 2 [] [(2, .slice A2 xs2.length c2), (9, .nilIface), (14, .slice A_86 zs_88.length c_87), (125, .slice A0 xs0.length c0), (126, .slice A1 xs1.length c1)] w_94 [] (by kernel_rfl) trivial ?_
            refine XL_call 13 rfl rfl rfl ent13 [.slice A0 xs0.length c0, .slice A1 xs1.length c1] (by kernel_rfl) (apply_ok  A0 A1 c0 c1 xs0 xs1 _ (Kd.C_below hx0 (bt (bt hB_83 hb_82) hb_95)) (Kd.C_below hx1 (bt (bt hB_83 hb_82) hb_95)) hc0 hc1 (by omega) ((chkA_good _ _).1 c_84) ((chkA_good _ _).1 c_9) (hT.below (bt (bt hB_83 hb_82) hb_95)) es (hE.below (bt (bt hB_83 hb_82) hb_95))) ?_
            rintro e w_104 ⟨A_96, c_97, zs_98, ez_99, gz_100, lz_101, rfl, hl_102, hr_103, hb_105⟩; refine ⟨_, rfl, ?_⟩
            refine XL_run 5 [] [(2, .slice A2 xs2.length c2), (9, .nilIface), (11, .nilIface), (14, .slice A_86 zs_88.length c_87), (15, .slice A_96 zs_98.length c_97)] w_104 [] (by kernel_rfl) trivial ?_
            refine XL_nil ?_
            refine X_seq ?_
            refine X_seq ?_
            refine X_region ?_
            refine XL_run 6 [] [(2, .slice A2 xs2.length c2), (14, .slice A_86 zs_88.length c_87), (15, .slice A_96 zs_98.length c_97), (135, .bool false)] w_104 [] (by kernel_rfl) trivial ?_
            refine XL_nil ?_
            refine X_cond false rfl ?_
            refine X_skip ?_
            refine X_seq ?_
            refine X_region ?_
            refine XL_run 2 [] [(14, .slice A_86 zs_88.length c_87), (137, .slice A_96 zs_98.length c_97), (138, .slice A2 xs2.length c2)] w_104 [] (by kernel_rfl) trivial ?_
            refine XL_call 13 rfl rfl rfl ent13 [.slice A_96 zs_98.length c_97, .slice A2 xs2.length c2] (by kernel_rfl) (apply_ok  A_96 A2 c_97 c2 zs_98 xs2 _ (Kd.R_C hr_103) (Kd.C_below hx2 (bt (bt (bt hB_83 hb_82) hb_95) hb_105)) (RX.Kd.R_len hr_103).2 hc2 (by omega) gz_100 ((chkA_good _ _).1 c_12) (hT.below (bt (bt (bt hB_83 hb_82) hb_95) hb_105)) es (hE.below (bt (bt (bt hB_83 hb_82) hb_95) hb_105))) ?_
            rintro e w_114 ⟨A_106, c_107, zs_108, ez_109, gz_110, lz_111, rfl, hl_112, hr_113, hb_115⟩; refine ⟨_, rfl, ?_⟩
            refine XL_run 5 [] [(9, .nilIface), (14, .slice A_86 zs_88.length c_87), (16, .slice A_106 zs_108.length c_107)] w_114 [] (by kernel_rfl) trivial ?_
            refine XL_nil ?_
            refine X_seq ?_
            refine X_region ?_
            refine XL_run 5 [] [(14, .slice A_86 zs_88.length c_87), (144, .bool true), (145, .slice A_86 zs_88.length c_87), (146, .slice A_106 zs_108.length c_107)] w_114 [] (by kernel_rfl) trivial ?_
            refine XL_call 12 rfl rfl rfl ent12 [.slice A_86 zs_88.length c_87, .slice A_106 zs_108.length c_107] (by kernel_rfl) (asame_any _ _ _ _ zs_88 zs_108 _ (Kd.R_C (Kd.R_below hr_93 (bt hb_105 hb_115))) (Kd.R_C hr_113)) ?_
            rintro e w_116 ⟨rfl, hb_117⟩; refine ⟨_, rfl, ?_⟩
            rw [show decide (zs_88 = zs_108) = true from decide_eq_true (by rw [ez_89, ez_27, ez_109, ez_99]; exact law_apply (((chkA_good _ _).1 c_6)).2 (((chkA_good _ _).1 c_9)).2 (((chkA_good _ _).1 c_12)).2)]
            refine XL_run 3 [] [(149, .bool true), (150, .slice A_86 zs_88.length c_87)] w_116 [] (by kernel_rfl) trivial ?_
            have hB_120 : Below w.heap.size w w_116 := (bt (bt (bt (bt (bt hB_83 hb_82) hb_95) hb_105) hb_115) hb_117)
            refine XL_call 10 rfl rfl rfl ent10 [.slice A_86 zs_88.length c_87, .bool false] (by kernel_rfl) (acheck_any A_86 c_87 zs_88 false _ (Kd.R_C (Kd.R_below hr_93 (bt (bt hb_105 hb_115) hb_117))) (good_sz gz_90) (hT.below hB_120) es (hE.below hB_120)) ?_
            rintro e w_118 ⟨rfl, hb_119⟩; refine ⟨_, rfl, ?_⟩
            rw [show errV es (chkA false zs_88) = .nilIface from by rw [(chkA_good _ _).2 gz_90]; rfl]
            refine XL_run 3 [] [(6, .bool true)] w_118 [] (by kernel_rfl) trivial ?_
            refine XL_nil ?_
            refine X_ret ?_
            refine RX.ret_ok (P := Tryd.prog) (fn := Tryd.f3) (N := 154) (R := R_) [.bool true] (by kernel_rfl) (hR_ _ _ ?_)
            exact ⟨rfl, (bt hB_120 hb_119)⟩
          · rw [errV_pos es (chkA false xs0) (Nat.pos_of_ne_zero c_84)]
            refine XL_run 1 [] [(0, .slice A0 xs0.length c0), (1, .slice A1 xs1.length c1), (2, .slice A2 xs2.length c2), (10, .slice A_24 zs_26.length c_25), (117, .bool true)] w_81 [] (by kernel_rfl) trivial ?_
            refine XL_nil ?_
            refine X_cond true rfl ?_
            refine X_seq ?_
            refine X_region ?_
            refine XL_run 1 [] [(6, .bool true)] w_81 [] (by kernel_rfl) trivial ?_
            refine XL_nil ?_
            refine X_ret ?_
            refine RX.ret_ok (P := Tryd.prog) (fn := Tryd.f3) (N := 154) (R := R_) [.bool true] (by kernel_rfl) (hR_ _ _ ?_)
            exact ⟨rfl, (bt hB_83 hb_82)⟩
        · rw [errV_pos es (chkA true xs2) (Nat.pos_of_ne_zero c_12)]
          refine XL_run 2 [] [(0, .slice A0 xs0.length c0), (1, .slice A1 xs1.length c1), (2, .slice A2 xs2.length c2), (44, .bool true)] w_10 [] (by kernel_rfl) trivial ?_
          refine XL_nil ?_
          refine X_cond true rfl ?_
          refine X_seq ?_
          refine X_region ?_
          refine XL_run 1 [] [(6, .bool true)] w_10 [] (by kernel_rfl) trivial ?_
          refine XL_nil ?_
          refine X_ret ?_
          refine RX.ret_ok (P := Tryd.prog) (fn := Tryd.f3) (N := 154) (R := R_) [.bool true] (by kernel_rfl) (hR_ _ _ ?_)
          exact ⟨rfl, (bt (bt (bt hb_2 hb_5) hb_8) hb_11)⟩
      · rw [errV_pos es (chkA true xs1) (Nat.pos_of_ne_zero c_9)]
        refine XL_run 7 [] [(0, .slice A0 xs0.length c0), (1, .slice A1 xs1.length c1), (2, .slice A2 xs2.length c2), (44, .bool true)] w_7 [] (by kernel_rfl) trivial ?_
        refine XL_nil ?_
        refine X_cond true rfl ?_
        refine X_seq ?_
        refine X_region ?_
        refine XL_run 1 [] [(6, .bool true)] w_7 [] (by kernel_rfl) trivial ?_
        refine XL_nil ?_
        refine X_ret ?_
        refine RX.ret_ok (P := Tryd.prog) (fn := Tryd.f3) (N := 154) (R := R_) [.bool true] (by kernel_rfl) (hR_ _ _ ?_)
        exact ⟨rfl, (bt (bt hb_2 hb_5) hb_8)⟩
    · rw [errV_pos es (chkA true xs0) (Nat.pos_of_ne_zero c_6)]
      refine XL_run 11 [] [(0, .slice A0 xs0.length c0), (1, .slice A1 xs1.length c1), (2, .slice A2 xs2.length c2), (44, .bool true)] w_4 [] (by kernel_rfl) trivial ?_
      refine XL_nil ?_
      refine X_cond true rfl ?_
      refine X_seq ?_
      refine X_region ?_
      refine XL_run 1 [] [(6, .bool true)] w_4 [] (by kernel_rfl) trivial ?_
      refine XL_nil ?_
      refine X_ret ?_
      refine RX.ret_ok (P := Tryd.prog) (fn := Tryd.f3) (N := 154) (R := R_) [.bool true] (by kernel_rfl) (hR_ _ _ ?_)
      exact ⟨rfl, (bt hb_2 hb_5)⟩
set_option maxHeartbeats 4000000 in
theorem attrsBoth_any (A0 : Option Addr) (c0 : Nat) (xs0 : List At) (A1 : Option Addr) (c1 : Nat) (xs1 : List At) (w : World) (hx0 : kAttr.C w A0 xs0.length xs0) (hc0 : xs0.length ≤ c0) (hl0 : xs0.length ≤ 1048576) (hs0 : ∀ i, i < xs0.length → (xs0.getD i at0).1.size ≤ 9223372036854775807 ∧ (xs0.getD i at0).2.2.2.size ≤ 9223372036854775807)  (hx1 : kAttr.C w A1 xs1.length xs1) (hc1 : xs1.length ≤ c1) (hl1 : xs1.length ≤ 1048576) (hs1 : ∀ i, i < xs1.length → (xs1.getD i at0).1.size ≤ 9223372036854775807 ∧ (xs1.getD i at0).2.2.2.size ≤ 9223372036854775807) (hT : Tabs w) (es : List Addr) (hE : ErrsA w es) : Calls Tryd.prog 4 #[.slice A0 xs0.length c0, .slice A1 xs1.length c1] w fun e w' => e = .returned (.bool true) ∧ Below w.heap.size w w' := by
  refine RX.enter Tryd.func4 rfl 73 rfl [(0, .slice A0 xs0.length c0), (1, .slice A1 xs1.length c1)] rfl (by kernel_rfl) (fun R_ hR_ => ?_)
  refine X_seq ?_
  refine X_region ?_
  refine XL_run 1 [] [(0, .slice A0 xs0.length c0), (1, .slice A1 xs1.length c1)] w [] (by kernel_rfl) trivial ?_
  refine XL_nil ?_
  refine X_seq ?_
  refine X_region ?_
  refine XL_call 9 rfl rfl rfl ent9 [] (by kernel_rfl) (lives_any _ (hT.below (Below.refl _ _)) es (hE.below (Below.refl _ _))) ?_
  rintro e w_1 ⟨rfl, hb_2⟩; refine ⟨_, rfl, ?_⟩
  refine XL_run 1 [] [(0, .slice A0 xs0.length c0), (1, .slice A1 xs1.length c1), (5, .bool true)] w_1 [] (by kernel_rfl) trivial ?_
  refine XL_nil ?_
  refine X_seq ?_
  refine X_seq ?_
  refine X_region ?_
  refine XL_run 8 [(20, .eq (.int .i64 ((xs0.length : Int) + (xs1.length : Int))))] [(0, .slice A0 xs0.length c0), (1, .slice A1 xs1.length c1), (5, .bool true), (15, .bool false), (20, .int .i64 ((xs0.length : Int) + (xs1.length : Int)))] w_1 [Value.int .i64 (IntKind.i64.wrap ((xs0.length : Int) + (xs1.length : Int))) = Value.int .i64 ((xs0.length : Int) + (xs1.length : Int))] (by kernel_rfl) ⟨wr_i64 (by omega) (by omega), trivial⟩ ?_
  by_cases c_3 : (xs0.length : Int) + (xs1.length : Int) > 2000
  · refine XL_run 2 [(21, .eq (.bool true))] [(0, .slice A0 xs0.length c0), (1, .slice A1 xs1.length c1), (5, .bool true), (22, .bool true)] w_1 [Value.bool (decide ((xs0.length : Int) + (xs1.length : Int) > 2000)) = Value.bool true] (by kernel_rfl) ⟨congrArg Value.bool (decide_eq_true (c_3)), trivial⟩ ?_
    refine XL_nil ?_
    refine X_cond true rfl ?_
    refine X_seq ?_
    refine X_region ?_
    refine XL_run 2 [] [(4, .bool true)] w_1 [] (by kernel_rfl) trivial ?_
    refine XL_nil ?_
    refine X_ret ?_
    refine RX.ret_ok (P := Tryd.prog) (fn := Tryd.f4) (N := 73) (R := R_) [.bool true] (by kernel_rfl) (hR_ _ _ ?_)
    exact ⟨rfl, hb_2⟩
  · refine XL_run 2 [(21, .eq (.bool false))] [(0, .slice A0 xs0.length c0), (1, .slice A1 xs1.length c1), (5, .bool true), (22, .bool false)] w_1 [Value.bool (decide ((xs0.length : Int) + (xs1.length : Int) > 2000)) = Value.bool false] (by kernel_rfl) ⟨congrArg Value.bool (decide_eq_false (c_3)), trivial⟩ ?_
    refine XL_nil ?_
    refine X_cond false rfl ?_
    refine X_skip ?_
    refine X_seq ?_
    refine X_seq ?_
    refine X_region ?_
    refine XL_run 1 [] [(0, .slice A0 xs0.length c0), (1, .slice A1 xs1.length c1), (24, .slice A0 xs0.length c0)] w_1 [] (by kernel_rfl) trivial ?_
    refine XL_call 10 rfl rfl rfl ent10 [.slice A0 xs0.length c0, .bool true] (by kernel_rfl) (acheck_any A0 c0 xs0 true _ (Kd.C_below hx0 hb_2) hs0 (hT.below hb_2) es (hE.below hb_2)) ?_
    rintro e w_4 ⟨rfl, hb_5⟩; refine ⟨_, rfl, ?_⟩
    by_cases c_6 : (chkA true xs0) = 0
    · rw [show errV es (chkA true xs0) = .nilIface from by rw [c_6]; rfl]
      refine XL_run 3 [] [(0, .slice A0 xs0.length c0), (1, .slice A1 xs1.length c1), (27, .bool false), (28, .slice A1 xs1.length c1)] w_4 [] (by kernel_rfl) trivial ?_
      refine XL_call 10 rfl rfl rfl ent10 [.slice A1 xs1.length c1, .bool true] (by kernel_rfl) (acheck_any A1 c1 xs1 true _ (Kd.C_below hx1 (bt hb_2 hb_5)) hs1 (hT.below (bt hb_2 hb_5)) es (hE.below (bt hb_2 hb_5))) ?_
      rintro e w_7 ⟨rfl, hb_8⟩; refine ⟨_, rfl, ?_⟩
      by_cases c_9 : (chkA true xs1) = 0
      · rw [show errV es (chkA true xs1) = .nilIface from by rw [c_9]; rfl]
        refine XL_run 2 [] [(0, .slice A0 xs0.length c0), (1, .slice A1 xs1.length c1), (31, .bool false)] w_7 [] (by kernel_rfl) trivial ?_
        refine XL_nil ?_
        refine X_cond false rfl ?_
        refine X_skip ?_
        refine X_seq ?_
        refine X_region ?_
        refine XL_run 2 [] [(0, .slice A0 xs0.length c0), (1, .slice A1 xs1.length c1), (33, .slice A0 xs0.length c0), (34, .slice A1 xs1.length c1)] w_7 [] (by kernel_rfl) trivial ?_
        refine XL_call 14 rfl rfl rfl ent14 [.slice A0 xs0.length c0, .slice A1 xs1.length c1, .bool true] (by kernel_rfl) (transform_ok true A0 A1 c0 c1 xs0 xs1 _ (Kd.C_below hx0 (bt (bt hb_2 hb_5) hb_8)) (Kd.C_below hx1 (bt (bt hb_2 hb_5) hb_8)) hc0 hc1 (by omega) ((chkA_good _ _).1 c_6) ((chkA_good _ _).1 c_9) (hT.below (bt (bt hb_2 hb_5) hb_8)) es (hE.below (bt (bt hb_2 hb_5) hb_8))) ?_
        rintro e w_18 ⟨A_10, c_11, zs_12, ez_13, gz_14, lz_15, rfl, hl_16, hr_17, hb_19⟩; refine ⟨_, rfl, ?_⟩
        refine XL_run 5 [] [(0, .slice A0 xs0.length c0), (1, .slice A1 xs1.length c1), (6, .slice A_10 zs_12.length c_11), (7, .nilIface)] w_18 [] (by kernel_rfl) trivial ?_
        refine XL_nil ?_
        refine X_seq ?_
        refine X_region ?_
        refine XL_run 2 [] [(0, .slice A0 xs0.length c0), (1, .slice A1 xs1.length c1), (6, .slice A_10 zs_12.length c_11), (7, .nilIface), (39, .slice A1 xs1.length c1), (40, .slice A0 xs0.length c0)] w_18 [] (by kernel_rfl) trivial ?_
        refine XL_call 14 rfl rfl rfl ent14 [.slice A1 xs1.length c1, .slice A0 xs0.length c0, .bool false] (by kernel_rfl) (transform_ok false A1 A0 c1 c0 xs1 xs0 _ (Kd.C_below hx1 (bt (bt (bt hb_2 hb_5) hb_8) hb_19)) (Kd.C_below hx0 (bt (bt (bt hb_2 hb_5) hb_8) hb_19)) hc1 hc0 (by omega) ((chkA_good _ _).1 c_9) ((chkA_good _ _).1 c_6) (hT.below (bt (bt (bt hb_2 hb_5) hb_8) hb_19)) es (hE.below (bt (bt (bt hb_2 hb_5) hb_8) hb_19))) ?_
        rintro e w_28 ⟨A_20, c_21, zs_22, ez_23, gz_24, lz_25, rfl, hl_26, hr_27, hb_29⟩; refine ⟨_, rfl, ?_⟩
        refine XL_run 5 [] [(0, .slice A0 xs0.length c0), (1, .slice A1 xs1.length c1), (6, .slice A_10 zs_12.length c_11), (7, .nilIface), (8, .slice A_20 zs_22.length c_21), (9, .nilIface)] w_28 [] (by kernel_rfl) trivial ?_
        refine XL_nil ?_
        refine X_seq ?_
        refine X_seq ?_
        refine X_region ?_
        refine XL_run 6 [] [(0, .slice A0 xs0.length c0), (1, .slice A1 xs1.length c1), (6, .slice A_10 zs_12.length c_11), (8, .slice A_20 zs_22.length c_21), (49, .bool false)] w_28 [] (by kernel_rfl) trivial ?_
        refine XL_nil ?_
        refine X_cond false rfl ?_
        refine X_skip ?_
        refine X_seq ?_
        refine X_region ?_
        refine XL_run 2 [] [(1, .slice A1 xs1.length c1), (8, .slice A_20 zs_22.length c_21), (51, .slice A0 xs0.length c0), (52, .slice A_10 zs_12.length c_11)] w_28 [] (by kernel_rfl) trivial ?_
        have hB_30 : Below w.heap.size w w_28 := (bt (bt (bt (bt hb_2 hb_5) hb_8) hb_19) hb_29)
        refine XL_call 11 rfl rfl rfl ent11 [.slice A0 xs0.length c0, .slice A_10 zs_12.length c_11, .bool true] (by kernel_rfl) (compose_ok true A0 A_10 c0 c_11 xs0 zs_12 _ (Kd.C_below hx0 hB_30) (Kd.R_C (Kd.R_below hr_17 hb_29)) hc0 (RX.Kd.R_len (Kd.R_below hr_17 hb_29)).2 (by omega) ((chkA_good _ _).1 c_6) gz_14 (hT.below hB_30) es (hE.below hB_30)) ?_
        rintro e w_39 ⟨A_31, c_32, zs_33, ez_34, gz_35, lz_36, rfl, hl_37, hr_38, hb_40⟩; refine ⟨_, rfl, ?_⟩
        refine XL_run 5 [] [(1, .slice A1 xs1.length c1), (7, .nilIface), (8, .slice A_20 zs_22.length c_21), (10, .slice A_31 zs_33.length c_32)] w_39 [] (by kernel_rfl) trivial ?_
        refine XL_nil ?_
        refine X_seq ?_
        refine X_region ?_
        refine XL_run 2 [] [(7, .nilIface), (10, .slice A_31 zs_33.length c_32), (57, .slice A1 xs1.length c1), (58, .slice A_20 zs_22.length c_21)] w_39 [] (by kernel_rfl) trivial ?_
        refine XL_call 11 rfl rfl rfl ent11 [.slice A1 xs1.length c1, .slice A_20 zs_22.length c_21, .bool true] (by kernel_rfl) (compose_ok true A1 A_20 c1 c_21 xs1 zs_22 _ (Kd.C_below hx1 (bt hB_30 hb_40)) (Kd.R_C (Kd.R_below hr_27 hb_40)) hc1 (RX.Kd.R_len (Kd.R_below hr_27 hb_40)).2 (by omega) ((chkA_good _ _).1 c_9) gz_24 (hT.below (bt hB_30 hb_40)) es (hE.below (bt hB_30 hb_40))) ?_
        rintro e w_49 ⟨A_41, c_42, zs_43, ez_44, gz_45, lz_46, rfl, hl_47, hr_48, hb_50⟩; refine ⟨_, rfl, ?_⟩
        refine XL_run 5 [] [(7, .nilIface), (9, .nilIface), (10, .slice A_31 zs_33.length c_32), (11, .slice A_41 zs_43.length c_42)] w_49 [] (by kernel_rfl) trivial ?_
        refine XL_nil ?_
        refine X_seq ?_
        refine X_region ?_
        refine XL_run 9 [] [(68, .bool true), (69, .slice A_31 zs_33.length c_32), (70, .slice A_41 zs_43.length c_42)] w_49 [] (by kernel_rfl) trivial ?_
        refine XL_call 12 rfl rfl rfl ent12 [.slice A_31 zs_33.length c_32, .slice A_41 zs_43.length c_42] (by kernel_rfl) (asame_any _ _ _ _ zs_33 zs_43 _ (Kd.R_C (Kd.R_below hr_38 hb_50)) (Kd.R_C hr_48)) ?_
        rintro e w_51 ⟨rfl, hb_52⟩; refine ⟨_, rfl, ?_⟩
        rw [show decide (zs_33 = zs_43) = true from decide_eq_true (by rw [ez_34, ez_13, ez_44, ez_23]; exact law_both (((chkA_good _ _).1 c_6)).2 (((chkA_good _ _).1 c_9)).2)]
        refine XL_run 2 [] [(4, .bool true)] w_51 [] (by kernel_rfl) trivial ?_
        refine XL_nil ?_
        refine X_ret ?_
        refine RX.ret_ok (P := Tryd.prog) (fn := Tryd.f4) (N := 73) (R := R_) [.bool true] (by kernel_rfl) (hR_ _ _ ?_)
        exact ⟨rfl, (bt (bt (bt hB_30 hb_40) hb_50) hb_52)⟩
      · rw [errV_pos es (chkA true xs1) (Nat.pos_of_ne_zero c_9)]
        refine XL_run 2 [] [(0, .slice A0 xs0.length c0), (1, .slice A1 xs1.length c1), (31, .bool true)] w_7 [] (by kernel_rfl) trivial ?_
        refine XL_nil ?_
        refine X_cond true rfl ?_
        refine X_seq ?_
        refine X_region ?_
        refine XL_run 1 [] [(4, .bool true)] w_7 [] (by kernel_rfl) trivial ?_
        refine XL_nil ?_
        refine X_ret ?_
        refine RX.ret_ok (P := Tryd.prog) (fn := Tryd.f4) (N := 73) (R := R_) [.bool true] (by kernel_rfl) (hR_ _ _ ?_)
        exact ⟨rfl, (bt (bt hb_2 hb_5) hb_8)⟩
    · rw [errV_pos es (chkA true xs0) (Nat.pos_of_ne_zero c_6)]
      refine XL_run 6 [] [(0, .slice A0 xs0.length c0), (1, .slice A1 xs1.length c1), (31, .bool true)] w_4 [] (by kernel_rfl) trivial ?_
      refine XL_nil ?_
      refine X_cond true rfl ?_
      refine X_seq ?_
      refine X_region ?_
      refine XL_run 1 [] [(4, .bool true)] w_4 [] (by kernel_rfl) trivial ?_
      refine XL_nil ?_
      refine X_ret ?_
      refine RX.ret_ok (P := Tryd.prog) (fn := Tryd.f4) (N := 73) (R := R_) [.bool true] (by kernel_rfl) (hR_ _ _ ?_)
      exact ⟨rfl, (bt hb_2 hb_5)⟩
set_option maxHeartbeats 4000000 in
theorem attrsUndone_any (A0 : Option Addr) (c0 : Nat) (xs0 : List At) (A1 : Option Addr) (c1 : Nat) (xs1 : List At) (A2 : Option Addr) (c2 : Nat) (xs2 : List At) (w : World) (hx0 : kAttr.C w A0 xs0.length xs0) (hc0 : xs0.length ≤ c0) (hl0 : xs0.length ≤ 1048576) (hs0 : ∀ i, i < xs0.length → (xs0.getD i at0).1.size ≤ 9223372036854775807 ∧ (xs0.getD i at0).2.2.2.size ≤ 9223372036854775807)  (hx1 : kAttr.C w A1 xs1.length xs1) (hc1 : xs1.length ≤ c1) (hl1 : xs1.length ≤ 1048576) (hs1 : ∀ i, i < xs1.length → (xs1.getD i at0).1.size ≤ 9223372036854775807 ∧ (xs1.getD i at0).2.2.2.size ≤ 9223372036854775807)  (hx2 : kAttr.C w A2 xs2.length xs2) (hc2 : xs2.length ≤ c2) (hl2 : xs2.length ≤ 1048576) (hs2 : ∀ i, i < xs2.length → (xs2.getD i at0).1.size ≤ 9223372036854775807 ∧ (xs2.getD i at0).2.2.2.size ≤ 9223372036854775807) (hT : Tabs w) (es : List Addr) (hE : ErrsA w es) : Calls Tryd.prog 5 #[.slice A0 xs0.length c0, .slice A1 xs1.length c1, .slice A2 xs2.length c2] w fun e w' => e = .returned (.bool true) ∧ Below w.heap.size w w' := by
  refine RX.enter Tryd.func5 rfl 136 rfl [(0, .slice A0 xs0.length c0), (1, .slice A1 xs1.length c1), (2, .slice A2 xs2.length c2)] rfl (by kernel_rfl) (fun R_ hR_ => ?_)
  refine X_seq ?_
  refine X_region ?_
  refine XL_run 1 [] [(0, .slice A0 xs0.length c0), (1, .slice A1 xs1.length c1), (2, .slice A2 xs2.length c2)] w [] (by kernel_rfl) trivial ?_
  refine XL_nil ?_
  refine X_seq ?_
  refine X_region ?_
  refine XL_call 9 rfl rfl rfl ent9 [] (by kernel_rfl) (lives_any _ (hT.below (Below.refl _ _)) es (hE.below (Below.refl _ _))) ?_
  rintro e w_1 ⟨rfl, hb_2⟩; refine ⟨_, rfl, ?_⟩
  refine XL_run 1 [] [(0, .slice A0 xs0.length c0), (1, .slice A1 xs1.length c1), (2, .slice A2 xs2.length c2), (7, .bool true)] w_1 [] (by kernel_rfl) trivial ?_
  refine XL_nil ?_
  refine X_seq ?_
  refine X_seq ?_
  refine X_region ?_
  refine XL_run 11 [(24, .eq (.int .i64 ((xs0.length : Int) + (xs1.length : Int)))), (27, .eq (.int .i64 (((xs0.length : Int) + (xs1.length : Int)) + (xs2.length : Int))))] [(0, .slice A0 xs0.length c0), (1, .slice A1 xs1.length c1), (2, .slice A2 xs2.length c2), (7, .bool true), (19, .bool false), (27, .int .i64 (((xs0.length : Int) + (xs1.length : Int)) + (xs2.length : Int)))] w_1 [Value.int .i64 (IntKind.i64.wrap ((xs0.length : Int) + (xs1.length : Int))) = Value.int .i64 ((xs0.length : Int) + (xs1.length : Int)), Value.int .i64 (IntKind.i64.wrap (((xs0.length : Int) + (xs1.length : Int)) + (xs2.length : Int))) = Value.int .i64 (((xs0.length : Int) + (xs1.length : Int)) + (xs2.length : Int))] (by kernel_rfl) ⟨wr_i64 (by omega) (by omega), wr_i64 (by omega) (by omega), trivial⟩ ?_
  by_cases c_3 : ((xs0.length : Int) + (xs1.length : Int)) + (xs2.length : Int) > 200
  · refine XL_run 2 [(28, .eq (.bool true))] [(0, .slice A0 xs0.length c0), (1, .slice A1 xs1.length c1), (2, .slice A2 xs2.length c2), (7, .bool true), (29, .bool true)] w_1 [Value.bool (decide (((xs0.length : Int) + (xs1.length : Int)) + (xs2.length : Int) > 200)) = Value.bool true] (by kernel_rfl) ⟨congrArg Value.bool (decide_eq_true (c_3)), trivial⟩ ?_
    refine XL_nil ?_
    refine X_cond true rfl ?_
    refine X_seq ?_
    refine X_region ?_
    refine XL_run 2 [] [(6, .bool true)] w_1 [] (by kernel_rfl) trivial ?_
    refine XL_nil ?_
    refine X_ret ?_
    refine RX.ret_ok (P := Tryd.prog) (fn := Tryd.f5) (N := 136) (R := R_) [.bool true] (by kernel_rfl) (hR_ _ _ ?_)
    exact ⟨rfl, hb_2⟩
  · refine XL_run 2 [(28, .eq (.bool false))] [(0, .slice A0 xs0.length c0), (1, .slice A1 xs1.length c1), (2, .slice A2 xs2.length c2), (7, .bool true), (29, .bool false)] w_1 [Value.bool (decide (((xs0.length : Int) + (xs1.length : Int)) + (xs2.length : Int) > 200)) = Value.bool false] (by kernel_rfl) ⟨congrArg Value.bool (decide_eq_false (c_3)), trivial⟩ ?_
    refine XL_nil ?_
    refine X_cond false rfl ?_
    refine X_skip ?_
    refine X_seq ?_
    refine X_seq ?_
    refine X_region ?_
    refine XL_run 1 [] [(0, .slice A0 xs0.length c0), (1, .slice A1 xs1.length c1), (2, .slice A2 xs2.length c2), (31, .slice A0 xs0.length c0)] w_1 [] (by kernel_rfl) trivial ?_
    refine XL_call 10 rfl rfl rfl ent10 [.slice A0 xs0.length c0, .bool false] (by kernel_rfl) (acheck_any A0 c0 xs0 false _ (Kd.C_below hx0 hb_2) hs0 (hT.below hb_2) es (hE.below hb_2)) ?_
    rintro e w_4 ⟨rfl, hb_5⟩; refine ⟨_, rfl, ?_⟩
    by_cases c_6 : (chkA false xs0) = 0
    · rw [show errV es (chkA false xs0) = .nilIface from by rw [c_6]; rfl]
      refine XL_run 3 [] [(0, .slice A0 xs0.length c0), (1, .slice A1 xs1.length c1), (2, .slice A2 xs2.length c2), (34, .bool false), (35, .slice A1 xs1.length c1)] w_4 [] (by kernel_rfl) trivial ?_
      refine XL_call 10 rfl rfl rfl ent10 [.slice A1 xs1.length c1, .bool false] (by kernel_rfl) (acheck_any A1 c1 xs1 false _ (Kd.C_below hx1 (bt hb_2 hb_5)) hs1 (hT.below (bt hb_2 hb_5)) es (hE.below (bt hb_2 hb_5))) ?_
      rintro e w_7 ⟨rfl, hb_8⟩; refine ⟨_, rfl, ?_⟩
      by_cases c_9 : (chkA false xs1) = 0
      · rw [show errV es (chkA false xs1) = .nilIface from by rw [c_9]; rfl]
        refine XL_run 4 [] [(0, .slice A0 xs0.length c0), (1, .slice A1 xs1.length c1), (2, .slice A2 xs2.length c2), (39, .bool false), (40, .slice A2 xs2.length c2)] w_7 [] (by kernel_rfl) trivial ?_
        refine XL_call 10 rfl rfl rfl ent10 [.slice A2 xs2.length c2, .bool true] (by kernel_rfl) (acheck_any A2 c2 xs2 true _ (Kd.C_below hx2 (bt (bt hb_2 hb_5) hb_8)) hs2 (hT.below (bt (bt hb_2 hb_5) hb_8)) es (hE.below (bt (bt hb_2 hb_5) hb_8))) ?_
        rintro e w_10 ⟨rfl, hb_11⟩; refine ⟨_, rfl, ?_⟩
        by_cases c_12 : (chkA true xs2) = 0
        · rw [show errV es (chkA true xs2) = .nilIface from by rw [c_12]; rfl]
          refine XL_run 2 [] [(0, .slice A0 xs0.length c0), (1, .slice A1 xs1.length c1), (2, .slice A2 xs2.length c2), (43, .bool false)] w_10 [] (by kernel_rfl) trivial ?_
          refine XL_nil ?_
          refine X_cond false rfl ?_
          refine X_skip ?_
          refine X_seq ?_
          refine X_region ?_
          refine XL_run 2 [] [(0, .slice A0 xs0.length c0), (1, .slice A1 xs1.length c1), (2, .slice A2 xs2.length c2), (45, .slice A0 xs0.length c0), (46, .slice A1 xs1.length c1)] w_10 [] (by kernel_rfl) trivial ?_
          refine XL_call 15 rfl rfl rfl ent15 [.slice A0 xs0.length c0, .slice A1 xs1.length c1] (by kernel_rfl) (diff_ok  A0 A1 c0 c1 xs0 xs1 _ (Kd.C_below hx0 (bt (bt (bt hb_2 hb_5) hb_8) hb_11)) (Kd.C_below hx1 (bt (bt (bt hb_2 hb_5) hb_8) hb_11)) hc0 hc1 (by omega) ((chkA_good _ _).1 c_6) ((chkA_good _ _).1 c_9) (hT.below (bt (bt (bt hb_2 hb_5) hb_8) hb_11)) es (hE.below (bt (bt (bt hb_2 hb_5) hb_8) hb_11))) ?_
          rintro e w_21 ⟨A_13, c_14, zs_15, ez_16, gz_17, lz_18, rfl, hl_19, hr_20, hb_22⟩; refine ⟨_, rfl, ?_⟩
          refine XL_run 5 [] [(0, .slice A0 xs0.length c0), (1, .slice A1 xs1.length c1), (2, .slice A2 xs2.length c2), (8, .slice A_13 zs_15.length c_14), (9, .nilIface)] w_21 [] (by kernel_rfl) trivial ?_
          refine XL_nil ?_
          refine X_seq ?_
          refine X_seq ?_
          refine X_region ?_
          refine XL_run 5 [] [(0, .slice A0 xs0.length c0), (1, .slice A1 xs1.length c1), (2, .slice A2 xs2.length c2), (8, .slice A_13 zs_15.length c_14), (52, .bool false), (54, .int .i64 (zs_15.length : Int))] w_21 [] (by kernel_rfl) trivial ?_
          by_cases c_23 : (zs_15.length : Int) = 0
          · refine XL_run 3 [(55, .eq (.bool true))] [(0, .slice A0 xs0.length c0), (1, .slice A1 xs1.length c1), (2, .slice A2 xs2.length c2), (8, .slice A_13 zs_15.length c_14), (52, .bool false), (55, .bool true), (56, .slice A0 xs0.length c0), (57, .slice A1 xs1.length c1)] w_21 [Value.bool ((zs_15.length : Int) == 0) = Value.bool true] (by kernel_rfl) ⟨congrArg Value.bool (beq_iff_eq.2 (c_23)), trivial⟩ ?_
            have hB_26 : Below w.heap.size w w_21 := (bt (bt (bt (bt hb_2 hb_5) hb_8) hb_11) hb_22)
            refine XL_call 12 rfl rfl rfl ent12 [.slice A0 xs0.length c0, .slice A1 xs1.length c1] (by kernel_rfl) (asame_any _ _ _ _ xs0 xs1 _ (Kd.C_below hx0 hB_26) (Kd.C_below hx1 hB_26)) ?_
            rintro e w_24 ⟨rfl, hb_25⟩; refine ⟨_, rfl, ?_⟩
            rw [show decide (xs0 = xs1) = true from decide_eq_true (by exact (law_diff_nil ((good_weak ((chkA_good _ _).1 c_6))).2 ((good_weak ((chkA_good _ _).1 c_9))).2).1 (by rw [← ez_16]; omega))]
            refine XL_run 2 [] [(0, .slice A0 xs0.length c0), (1, .slice A1 xs1.length c1), (2, .slice A2 xs2.length c2), (8, .slice A_13 zs_15.length c_14), (60, .bool false)] w_24 [] (by kernel_rfl) trivial ?_
            refine XL_nil ?_
            refine X_cond false rfl ?_
            refine X_skip ?_
            refine X_seq ?_
            refine X_region ?_
            refine XL_run 2 [] [(0, .slice A0 xs0.length c0), (1, .slice A1 xs1.length c1), (2, .slice A2 xs2.length c2), (62, .slice A0 xs0.length c0), (63, .slice A_13 zs_15.length c_14)] w_24 [] (by kernel_rfl) trivial ?_
            refine XL_call 13 rfl rfl rfl ent13 [.slice A0 xs0.length c0, .slice A_13 zs_15.length c_14] (by kernel_rfl) (apply_ok  A0 A_13 c0 c_14 xs0 zs_15 _ (Kd.C_below hx0 (bt hB_26 hb_25)) (Kd.R_C (Kd.R_below hr_20 hb_25)) hc0 (RX.Kd.R_len (Kd.R_below hr_20 hb_25)).2 (by omega) ((chkA_good _ _).1 c_6) gz_17 (hT.below (bt hB_26 hb_25)) es (hE.below (bt hB_26 hb_25))) ?_
            rintro e w_35 ⟨A_27, c_28, zs_29, ez_30, gz_31, lz_32, rfl, hl_33, hr_34, hb_36⟩; refine ⟨_, rfl, ?_⟩
            refine XL_run 5 [] [(0, .slice A0 xs0.length c0), (1, .slice A1 xs1.length c1), (2, .slice A2 xs2.length c2), (9, .nilIface), (10, .slice A_27 zs_29.length c_28)] w_35 [] (by kernel_rfl) trivial ?_
            refine XL_nil ?_
            refine X_seq ?_
            refine X_seq ?_
            refine X_region ?_
            refine XL_run 5 [] [(0, .slice A0 xs0.length c0), (2, .slice A2 xs2.length c2), (69, .bool false), (70, .slice A_27 zs_29.length c_28), (71, .slice A1 xs1.length c1)] w_35 [] (by kernel_rfl) trivial ?_
            refine XL_call 12 rfl rfl rfl ent12 [.slice A_27 zs_29.length c_28, .slice A1 xs1.length c1] (by kernel_rfl) (asame_any _ _ _ _ zs_29 xs1 _ (Kd.R_C hr_34) (Kd.C_below hx1 (bt (bt hB_26 hb_25) hb_36))) ?_
            rintro e w_37 ⟨rfl, hb_38⟩; refine ⟨_, rfl, ?_⟩
            rw [show decide (zs_29 = xs1) = true from decide_eq_true (by rw [ez_30, ez_16]; exact law_there ((chkA_good _ _).1 c_6) ((chkA_good _ _).1 c_9))]
            refine XL_run 2 [] [(0, .slice A0 xs0.length c0), (2, .slice A2 xs2.length c2), (74, .bool false)] w_37 [] (by kernel_rfl) trivial ?_
            refine XL_nil ?_
            refine X_cond false rfl ?_
            refine X_skip ?_
            refine X_seq ?_
            refine X_region ?_
            refine XL_run 2 [] [(0, .slice A0 xs0.length c0), (2, .slice A2 xs2.length c2), (76, .slice A0 xs0.length c0), (77, .slice A2 xs2.length c2)] w_37 [] (by kernel_rfl) trivial ?_
            refine XL_call 13 rfl rfl rfl ent13 [.slice A0 xs0.length c0, .slice A2 xs2.length c2] (by kernel_rfl) (apply_ok  A0 A2 c0 c2 xs0 xs2 _ (Kd.C_below hx0 (bt (bt (bt hB_26 hb_25) hb_36) hb_38)) (Kd.C_below hx2 (bt (bt (bt hB_26 hb_25) hb_36) hb_38)) hc0 hc2 (by omega) ((chkA_good _ _).1 c_6) ((chkA_good _ _).1 c_12) (hT.below (bt (bt (bt hB_26 hb_25) hb_36) hb_38)) es (hE.below (bt (bt (bt hB_26 hb_25) hb_36) hb_38))) ?_
            rintro e w_47 ⟨A_39, c_40, zs_41, ez_42, gz_43, lz_44, rfl, hl_45, hr_46, hb_48⟩; refine ⟨_, rfl, ?_⟩
            refine XL_run 5 [] [(0, .slice A0 xs0.length c0), (2, .slice A2 xs2.length c2), (9, .nilIface), (10, .slice A_39 zs_41.length c_40)] w_47 [] (by kernel_rfl) trivial ?_
            refine XL_nil ?_
            refine X_seq ?_
            refine X_region ?_
            refine XL_run 2 [] [(0, .slice A0 xs0.length c0), (9, .nilIface), (10, .slice A_39 zs_41.length c_40), (82, .slice A2 xs2.length c2), (83, .slice A0 xs0.length c0)] w_47 [] (by kernel_rfl) trivial ?_
            have hB_49 : Below w.heap.size w w_47 := (bt (bt (bt (bt hB_26 hb_25) hb_36) hb_38) hb_48)
            refine XL_call 16 rfl rfl rfl ent16 [.slice A2 xs2.length c2, .slice A0 xs0.length c0] (by kernel_rfl) (invert_ok  A2 A0 c2 c0 xs2 xs0 _ (Kd.C_below hx2 hB_49) (Kd.C_below hx0 hB_49) hc2 hc0 (by omega) ((chkA_good _ _).1 c_12) ((chkA_good _ _).1 c_6) (hT.below hB_49) es (hE.below hB_49)) ?_
            rintro e w_58 ⟨A_50, c_51, zs_52, ez_53, gz_54, lz_55, rfl, hl_56, hr_57, hb_59⟩; refine ⟨_, rfl, ?_⟩
            refine XL_run 5 [] [(0, .slice A0 xs0.length c0), (9, .nilIface), (10, .slice A_39 zs_41.length c_40), (11, .slice A_50 zs_52.length c_51), (12, .nilIface)] w_58 [] (by kernel_rfl) trivial ?_
            refine XL_nil ?_
            refine X_seq ?_
            refine X_seq ?_
            refine X_region ?_
            refine XL_run 6 [] [(0, .slice A0 xs0.length c0), (10, .slice A_39 zs_41.length c_40), (11, .slice A_50 zs_52.length c_51), (92, .bool false)] w_58 [] (by kernel_rfl) trivial ?_
            refine XL_nil ?_
            refine X_cond false rfl ?_
            refine X_skip ?_
            refine X_seq ?_
            refine X_region ?_
            refine XL_run 2 [] [(0, .slice A0 xs0.length c0), (10, .slice A_39 zs_41.length c_40), (11, .slice A_50 zs_52.length c_51), (94, .slice A_39 zs_41.length c_40), (95, .slice A_50 zs_52.length c_51)] w_58 [] (by kernel_rfl) trivial ?_
            refine XL_call 13 rfl rfl rfl ent13 [.slice A_39 zs_41.length c_40, .slice A_50 zs_52.length c_51] (by kernel_rfl) (apply_ok  A_39 A_50 c_40 c_51 zs_41 zs_52 _ (Kd.R_C (Kd.R_below hr_46 hb_59)) (Kd.R_C hr_57) (RX.Kd.R_len (Kd.R_below hr_46 hb_59)).2 (RX.Kd.R_len hr_57).2 (by omega) gz_43 gz_54 (hT.below (bt hB_49 hb_59)) es (hE.below (bt hB_49 hb_59))) ?_
            rintro e w_68 ⟨A_60, c_61, zs_62, ez_63, gz_64, lz_65, rfl, hl_66, hr_67, hb_69⟩; refine ⟨_, rfl, ?_⟩
            refine XL_run 5 [] [(0, .slice A0 xs0.length c0), (9, .nilIface), (10, .slice A_39 zs_41.length c_40), (11, .slice A_50 zs_52.length c_51), (13, .slice A_60 zs_62.length c_61)] w_68 [] (by kernel_rfl) trivial ?_
            refine XL_nil ?_
            refine X_seq ?_
            refine X_seq ?_
            refine X_region ?_
            refine XL_run 5 [] [(0, .slice A0 xs0.length c0), (10, .slice A_39 zs_41.length c_40), (11, .slice A_50 zs_52.length c_51), (101, .bool false), (102, .slice A_60 zs_62.length c_61), (103, .slice A0 xs0.length c0)] w_68 [] (by kernel_rfl) trivial ?_
            refine XL_call 12 rfl rfl rfl ent12 [.slice A_60 zs_62.length c_61, .slice A0 xs0.length c0] (by kernel_rfl) (asame_any _ _ _ _ zs_62 xs0 _ (Kd.R_C hr_67) (Kd.C_below hx0 (bt (bt hB_49 hb_59) hb_69))) ?_
            rintro e w_70 ⟨rfl, hb_71⟩; refine ⟨_, rfl, ?_⟩
            rw [show decide (zs_62 = xs0) = true from decide_eq_true (by rw [ez_63, ez_53, ← ez_42]; exact law_there gz_43 ((chkA_good _ _).1 c_6))]
            refine XL_run 2 [] [(0, .slice A0 xs0.length c0), (10, .slice A_39 zs_41.length c_40), (11, .slice A_50 zs_52.length c_51), (106, .bool false)] w_70 [] (by kernel_rfl) trivial ?_
            refine XL_nil ?_
            refine X_cond false rfl ?_
            refine X_skip ?_
            refine X_seq ?_
            refine X_seq ?_
            refine X_region ?_
            refine XL_run 3 [] [(0, .slice A0 xs0.length c0), (10, .slice A_39 zs_41.length c_40), (11, .slice A_50 zs_52.length c_51), (108, .int .i64 (zs_52.length : Int)), (109, .int .i64 0)] w_70 [] (by kernel_rfl) trivial ?_
            refine XL_nil ?_
            refine X_block ?_
            refine X_loop (ι := Nat) (fun k => [(0, .slice A0 xs0.length c0), (10, .slice A_39 zs_41.length c_40), (11, .slice A_50 zs_52.length c_51), (108, .int .i64 (zs_52.length : Int)), (109, .int .i64 (k : Int))]) (fun k wl => k ≤ zs_52.length ∧ Below w_70.heap.size w_70 wl) (fun k => zs_52.length - k) 0 ⟨by omega, Below.refl _ _⟩ (by kernel_rfl) ?_
            rintro k wl ⟨hk, HB⟩
            refine X_seq ?_
            refine X_region ?_
            by_cases c_72 : (k : Int) < (zs_52.length : Int)
            · refine XL_run 1 [(110, .eq (.bool true))] [(0, .slice A0 xs0.length c0), (10, .slice A_39 zs_41.length c_40), (11, .slice A_50 zs_52.length c_51), (108, .int .i64 (zs_52.length : Int)), (109, .int .i64 (k : Int)), (110, .bool true)] wl [Value.bool (decide ((k : Int) < (zs_52.length : Int))) = Value.bool true] (by kernel_rfl) ⟨congrArg Value.bool (decide_eq_true (c_72)), trivial⟩ ?_
              refine XL_nil ?_
              refine X_seq ?_
              refine X_cond true rfl ?_
              refine X_skip ?_
              refine X_seq ?_
              refine X_block ?_
              refine X_seq ?_
              refine X_region ?_
              refine XL_run 2 [] [(0, .slice A0 xs0.length c0), (10, .slice A_39 zs_41.length c_40), (11, .slice A_50 zs_52.length c_51), (14, .int .i64 (k : Int)), (108, .int .i64 (zs_52.length : Int)), (109, .int .i64 (k : Int))] wl [] (by kernel_rfl) trivial ?_
              refine XL_nil ?_
              refine X_seq ?_
              refine X_any [0, 4, 9] 11 #[false, false, false, false, false, false, false, false, false, false, false] (by kernel_rfl) (by kernel_rfl) (by kernel_rfl) (fun wd_73 hb_74 hh_75 => ?_)
              have hC_76 := RX.Kd.C_take (m := k) (Kd.R_C (Kd.R_below hr_57 (bt (bt (bt hb_69 hb_71) HB) hb_74))) (by first | omega | (simp; done) | (simp; omega))
              obtain ⟨A_77, hA_78⟩ : ∃ A_, (if c_51 = (k + 1) then A_50 else A_50.map (·.add ((k + 1) * 4))) = A_ := ⟨_, rfl⟩
              have hC_79 : kAttr.C wd_73 A_77 (zs_52.length - (k + 1)) (zs_52.drop (k + 1)) := by have h := RX.Kd.C_drop (Kd.R_C (Kd.R_below hr_57 (bt (bt (bt hb_69 hb_71) HB) hb_74))) (k := (k + 1)) (cap := c_51) (by omega) (by omega); first | (rw [← hA_78]; exact h)
              refine XA_pure (fuel' := 4) [1, 2, 3, 5, 6, 7, 8] [(115, .as (.slice A_50 k c_51)), (119, .eq (.int .i64 ((k : Int) + 1))), (120, .as (.slice A_77 (zs_52.length - (k + 1)) (c_51 - (k + 1))))] [.slice A_50 zs_52.length c_51, .int .i64 (k : Int), .slice A_50 k c_51, .slice A_50 zs_52.length c_51, .int .i64 (k : Int), .int .i64 ((k : Int) + 1), .slice A_77 (zs_52.length - (k + 1)) (c_51 - (k + 1))] #[false, true, true, true, false, true, true, true, true, false, false] [(0, .slice A0 xs0.length c0), (10, .slice A_39 zs_41.length c_40), (11, .slice A_50 zs_52.length c_51), (108, .int .i64 (zs_52.length : Int)), (109, .int .i64 (k : Int)), (115, .slice A_50 k c_51), (120, .slice A_77 (zs_52.length - (k + 1)) (c_51 - (k + 1)))] (fun w_ => [RunsAs Tryd.prog [(113, .slice A_50 zs_52.length c_51), (114, .int .i64 (k : Int))] (Go.Op.slice 22 (Go.Operand.tmp 113) none (some (Go.Operand.tmp 114)) none) 22 (.slice A_50 k c_51) w_, Value.int .i64 (IntKind.i64.wrap ((k : Int) + 1)) = Value.int .i64 ((k : Int) + 1), RunsAs Tryd.prog [(117, .slice A_50 zs_52.length c_51), (119, .int .i64 ((k : Int) + 1))] (Go.Op.slice 22 (Go.Operand.tmp 117) (some (Go.Operand.tmp 119)) none none) 22 (.slice A_77 (zs_52.length - (k + 1)) (c_51 - (k + 1))) w_]) (fun _ _ _ _ h => h) (fun w_ => by kernel_rfl) rfl (fun w_ => ⟨runs_slice_h (h := (k : Int)) rfl rfl rfl rfl (by omega) (by have h := (RX.Kd.R_len (Kd.R_below hr_57 (bt (bt (bt hb_69 hb_71) HB) hb_74))).2; (try simp only [List.length_append, List.length_cons, List.length_nil] at h); omega), wr_i64 (by omega) (by omega), (hA_78 ▸ runs_slice_l (h := (k : Int) + 1) rfl rfl rfl rfl (by omega) (by omega) (by omega)), trivial⟩) ?_
              refine XA_act (fuel' := 3) 0 #[true, true, true, true, false, true, true, true, true, false, false] _ rfl (by kernel_rfl) rfl (by kernel_rfl) rfl ?_
              refine XL_run 1 [] [(0, .slice A0 xs0.length c0), (10, .slice A_39 zs_41.length c_40), (11, .slice A_50 zs_52.length c_51), (108, .int .i64 (zs_52.length : Int)), (109, .int .i64 (k : Int)), (112, .slice (some ⟨wd_73.heap.size, 0, none⟩) 0 0), (115, .slice A_50 k c_51), (120, .slice A_77 (zs_52.length - (k + 1)) (c_51 - (k + 1)))] (wd_73.alloc (.cells #[] 55)) [] (by kernel_rfl) trivial ?_
              obtain ⟨w_80, hw_84, hb_81, hk_82, hz_83⟩ := new_world wd_73 #[] 55
              rw [hw_84]
              refine XL_nil ?_
              refine XA_act (fuel' := 2) 4 #[true, true, true, true, true, true, true, true, true, false, false] _ rfl (by kernel_rfl) rfl (by kernel_rfl) rfl ?_
              have hr_85 := Kd.R_litB kAttr (W := wd_73) (e := 55) (cs := #[]) [] hk_82 (repsAttr []) (Nat.le_of_ble_eq_true (by kernel_rfl))
              refine XL_appendAll (c' := c_51) kAttr rfl rfl rfl wd_73.heap.size 55 (.agg #[.string ByteArray.empty, .int .i64 0, .int .i64 0, .string ByteArray.empty]) 48 Tryd.underlying22 info55 rfl (by decide) (by omega) ([]) (List.take k zs_52) (by kernel_rfl) hr_85 (Kd.C_below hC_76 hb_81) kAttr_KM (hb_81).size (by first | omega | (simp; omega)) ?_
              intro A_86 c_87 w_88 hr_89 hc_90 hg_91 hl_92 ha_93
              have hB_94 : Below w_68.heap.size w_68 w_88 := (bgo (bt (bt (bt hb_71 HB) hb_74) hb_81) hg_91 hl_92 ((bt (bt hb_71 HB) hb_74)).size)
              have hB_95 : Below w_58.heap.size w_58 w_88 := (bgo (bt (bt (bt (bt hb_69 hb_71) HB) hb_74) hb_81) hg_91 hl_92 ((bt (bt (bt hb_69 hb_71) HB) hb_74)).size)
              have hB_96 : Below w_47.heap.size w_47 wd_73 := (bt (bt (bt (bt hb_59 hb_69) hb_71) HB) hb_74)
              have hB_97 : Below w_47.heap.size w_47 w_88 := (bgo (bt (bt (bt (bt (bt hb_59 hb_69) hb_71) HB) hb_74) hb_81) hg_91 hl_92 (hB_96).size)
              have hB_98 : Below w_35.heap.size w_35 wd_73 := (bt (bt (bt (bt (bt (bt hb_38 hb_48) hb_59) hb_69) hb_71) HB) hb_74)
              have hB_99 : Below w_35.heap.size w_35 w_88 := (bgo (bt (bt (bt (bt (bt (bt (bt hb_38 hb_48) hb_59) hb_69) hb_71) HB) hb_74) hb_81) hg_91 hl_92 (hB_98).size)
              have hB_100 : Below w_21.heap.size w_21 wd_73 := (bt (bt (bt (bt (bt (bt (bt (bt hb_25 hb_36) hb_38) hb_48) hb_59) hb_69) hb_71) HB) hb_74)
              have hB_101 : Below w_21.heap.size w_21 w_88 := (bgo (bt (bt (bt (bt (bt (bt (bt (bt (bt hb_25 hb_36) hb_38) hb_48) hb_59) hb_69) hb_71) HB) hb_74) hb_81) hg_91 hl_92 (hB_100).size)
              refine XL_nil ?_
              refine XA_act (fuel' := 1) 9 #[true, true, true, true, true, true, true, true, true, true, false] _ rfl (by kernel_rfl) rfl (by kernel_rfl) rfl ?_
              refine XL_appendAll (c' := (c_51 - (k + 1))) kAttr rfl rfl rfl wd_73.heap.size 55 (.agg #[.string ByteArray.empty, .int .i64 0, .int .i64 0, .string ByteArray.empty]) 48 Tryd.underlying22 info55 rfl (by decide) (by omega) ([] ++ (List.take k zs_52)) (zs_52.drop (k + 1)) (by kernel_rfl) hr_89 (Kd.C_below hC_79 (bgo hb_81 hg_91 hl_92 (Nat.le_refl _))) kAttr_KM ((bgo hb_81 hg_91 hl_92 (Nat.le_refl _))).size (by first | omega | (simp; omega)) ?_
              intro A_102 c_103 w_104 hr_105 hc_106 hg_107 hl_108 ha_109
              have hB_110 : Below w_68.heap.size w_68 w_104 := (bgo hB_94 hg_107 hl_108 ((bt (bt hb_71 HB) hb_74)).size)
              have hB_111 : Below w_58.heap.size w_58 w_104 := (bgo hB_95 hg_107 hl_108 ((bt (bt (bt hb_69 hb_71) HB) hb_74)).size)
              obtain ⟨fw_112, ef_113⟩ : ∃ f_, (([] ++ (List.take k zs_52)) ++ (zs_52.drop (k + 1))) = f_ := ⟨_, rfl⟩
              have gf_114 : Good true fw_112 := by rw [← ef_113]; simp only [List.nil_append]; exact good_sub gz_54 (erase_sub zs_52 k)
              have lf_115 : fw_112.length ≤ zs_52.length := by rw [← ef_113]; simp only [List.nil_append]; exact (erase_sub zs_52 k).length_le
              have he_116 : (([] ++ (List.take k zs_52)) ++ (zs_52.drop (k + 1))) = fw_112 := ef_113
              rw [he_116] at hr_105 ⊢
              refine XL_nil ?_
              refine XA_pure (fuel' := 0) [10] [] [.slice A_102 fw_112.length c_103] #[true, true, true, true, true, true, true, true, true, true, true] [(0, .slice A0 xs0.length c0), (10, .slice A_39 zs_41.length c_40), (11, .slice A_50 zs_52.length c_51), (15, .slice A_102 fw_112.length c_103), (108, .int .i64 (zs_52.length : Int)), (109, .int .i64 (k : Int))] (fun w_ => []) (fun _ _ _ _ h => h) (fun w_ => by kernel_rfl) rfl (fun w_ => trivial) ?_
              refine XA_done (by kernel_rfl) ?_
              refine X_seq ?_
              refine X_region ?_
              refine XL_run 2 [] [(0, .slice A0 xs0.length c0), (10, .slice A_39 zs_41.length c_40), (11, .slice A_50 zs_52.length c_51), (108, .int .i64 (zs_52.length : Int)), (109, .int .i64 (k : Int)), (123, .slice A_39 zs_41.length c_40), (124, .slice A_102 fw_112.length c_103)] w_104 [] (by kernel_rfl) trivial ?_
              have hB_127 : Below w.heap.size w wd_73 := (bt (bt (bt (bt (bt hB_49 hb_59) hb_69) hb_71) HB) hb_74)
              have hB_128 : Below w.heap.size w w_104 := (bgo (bgo (bt (bt (bt (bt (bt (bt hB_49 hb_59) hb_69) hb_71) HB) hb_74) hb_81) hg_91 hl_92 (hB_127).size) hg_107 hl_108 (hB_127).size)
              refine XL_call 13 rfl rfl rfl ent13 [.slice A_39 zs_41.length c_40, .slice A_102 fw_112.length c_103] (by kernel_rfl) (apply_ok  A_39 A_102 c_40 c_103 zs_41 fw_112 _ (Kd.R_C (Kd.R_below hr_46 (bgo hB_97 hg_107 hl_108 (hB_96).size))) (Kd.R_C hr_105) (RX.Kd.R_len (Kd.R_below hr_46 (bgo hB_97 hg_107 hl_108 (hB_96).size))).2 (RX.Kd.R_len hr_105).2 (by omega) gz_43 gf_114 (hT.below hB_128) es (hE.below hB_128)) ?_
              rintro e w_125 ⟨A_117, c_118, zs_119, ez_120, gz_121, lz_122, rfl, hl_123, hr_124, hb_126⟩; refine ⟨_, rfl, ?_⟩
              refine XL_run 5 [] [(0, .slice A0 xs0.length c0), (9, .nilIface), (10, .slice A_39 zs_41.length c_40), (11, .slice A_50 zs_52.length c_51), (13, .slice A_117 zs_119.length c_118), (108, .int .i64 (zs_52.length : Int)), (109, .int .i64 (k : Int))] w_125 [] (by kernel_rfl) trivial ?_
              refine XL_nil ?_
              refine X_seq ?_
              refine X_region ?_
              refine XL_run 5 [] [(0, .slice A0 xs0.length c0), (10, .slice A_39 zs_41.length c_40), (11, .slice A_50 zs_52.length c_51), (108, .int .i64 (zs_52.length : Int)), (109, .int .i64 (k : Int)), (130, .bool false), (131, .slice A_117 zs_119.length c_118), (132, .slice A0 xs0.length c0)] w_125 [] (by kernel_rfl) trivial ?_
              refine XL_call 12 rfl rfl rfl ent12 [.slice A_117 zs_119.length c_118, .slice A0 xs0.length c0] (by kernel_rfl) (asame_any _ _ _ _ zs_119 xs0 _ (Kd.R_C hr_124) (Kd.C_below hx0 (bt hB_128 hb_126))) ?_
              rintro e w_129 ⟨rfl, hb_130⟩; refine ⟨_, rfl, ?_⟩
              rw [show decide (zs_119 = xs0) = false from decide_eq_false (by have hi : zs_52 = comp btwF zs_41 xs0 := (by rw [ez_53, ← ez_42]); rw [ez_120, ← ef_113]; simp only [List.nil_append]; rw [hi]; exact law_fewer gz_43 ((chkA_good _ _).1 c_6) k (by rw [← hi]; omega))]
              refine XL_run 1 [] [(0, .slice A0 xs0.length c0), (10, .slice A_39 zs_41.length c_40), (11, .slice A_50 zs_52.length c_51), (108, .int .i64 (zs_52.length : Int)), (109, .int .i64 (k : Int)), (134, .bool false)] w_129 [] (by kernel_rfl) trivial ?_
              refine XL_nil ?_
              refine X_cond false rfl ?_
              refine X_skip ?_
              refine X_region ?_
              refine XL_run 2 [(135, .eq (.int .i64 ((k : Int) + 1)))] [(0, .slice A0 xs0.length c0), (10, .slice A_39 zs_41.length c_40), (11, .slice A_50 zs_52.length c_51), (108, .int .i64 (zs_52.length : Int)), (109, .int .i64 ((k : Int) + 1))] w_129 [Value.int .i64 (IntKind.i64.wrap ((k : Int) + 1)) = Value.int .i64 ((k : Int) + 1)] (by kernel_rfl) ⟨wr_i64 (by omega) (by omega), trivial⟩ ?_
              refine XL_nil ?_
              have hB_131 : Below w_70.heap.size w_70 w_129 := (bt (bt (bgo (bgo (bt (bt HB hb_74) hb_81) hg_91 hl_92 ((bt HB hb_74)).size) hg_107 hl_108 ((bt HB hb_74)).size) hb_126) hb_130)
              refine ⟨(k + 1), by kernel_rfl, ?_, ?_⟩
              · exact ⟨by omega, hB_131⟩
              · (try dsimp only); omega
            · refine XL_run 1 [(110, .eq (.bool false))] [(0, .slice A0 xs0.length c0), (10, .slice A_39 zs_41.length c_40), (11, .slice A_50 zs_52.length c_51), (108, .int .i64 (zs_52.length : Int)), (109, .int .i64 (k : Int)), (110, .bool false)] wl [Value.bool (decide ((k : Int) < (zs_52.length : Int))) = Value.bool false] (by kernel_rfl) ⟨congrArg Value.bool (decide_eq_false (c_72)), trivial⟩ ?_
              refine XL_nil ?_
              refine X_seq ?_
              refine X_cond false rfl ?_
              refine X_exit ?_
              refine X_seq ?_
              refine X_region ?_
              refine XL_run 1 [] [(6, .bool true)] wl [] (by kernel_rfl) trivial ?_
              refine XL_nil ?_
              refine X_ret ?_
              refine RX.ret_ok (P := Tryd.prog) (fn := Tryd.f5) (N := 136) (R := R_) [.bool true] (by kernel_rfl) (hR_ _ _ ?_)
              have hB_132 : Below w.heap.size w wl := (bt (bt (bt (bt hB_49 hb_59) hb_69) hb_71) HB)
              exact ⟨rfl, hB_132⟩
          · refine XL_run 3 [(55, .eq (.bool false))] [(0, .slice A0 xs0.length c0), (1, .slice A1 xs1.length c1), (2, .slice A2 xs2.length c2), (8, .slice A_13 zs_15.length c_14), (52, .bool false), (55, .bool false), (56, .slice A0 xs0.length c0), (57, .slice A1 xs1.length c1)] w_21 [Value.bool ((zs_15.length : Int) == 0) = Value.bool false] (by kernel_rfl) ⟨congrArg Value.bool (beq_eq_false_iff_ne.2 (c_23)), trivial⟩ ?_
            have hB_135 : Below w.heap.size w w_21 := (bt (bt (bt (bt hb_2 hb_5) hb_8) hb_11) hb_22)
            refine XL_call 12 rfl rfl rfl ent12 [.slice A0 xs0.length c0, .slice A1 xs1.length c1] (by kernel_rfl) (asame_any _ _ _ _ xs0 xs1 _ (Kd.C_below hx0 hB_135) (Kd.C_below hx1 hB_135)) ?_
            rintro e w_133 ⟨rfl, hb_134⟩; refine ⟨_, rfl, ?_⟩
            rw [show decide (xs0 = xs1) = false from decide_eq_false (by intro e_; have h_ := (law_diff_nil ((good_weak ((chkA_good _ _).1 c_6))).2 ((good_weak ((chkA_good _ _).1 c_9))).2).2 e_; rw [← ez_16] at h_; omega)]
            refine XL_run 2 [] [(0, .slice A0 xs0.length c0), (1, .slice A1 xs1.length c1), (2, .slice A2 xs2.length c2), (8, .slice A_13 zs_15.length c_14), (60, .bool false)] w_133 [] (by kernel_rfl) trivial ?_
            refine XL_nil ?_
            refine X_cond false rfl ?_
            refine X_skip ?_
            refine X_seq ?_
            refine X_region ?_
            refine XL_run 2 [] [(0, .slice A0 xs0.length c0), (1, .slice A1 xs1.length c1), (2, .slice A2 xs2.length c2), (62, .slice A0 xs0.length c0), (63, .slice A_13 zs_15.length c_14)] w_133 [] (by kernel_rfl) trivial ?_
            refine XL_call 13 rfl rfl rfl ent13 [.slice A0 xs0.length c0, .slice A_13 zs_15.length c_14] (by kernel_rfl) (apply_ok  A0 A_13 c0 c_14 xs0 zs_15 _ (Kd.C_below hx0 (bt hB_135 hb_134)) (Kd.R_C (Kd.R_below hr_20 hb_134)) hc0 (RX.Kd.R_len (Kd.R_below hr_20 hb_134)).2 (by omega) ((chkA_good _ _).1 c_6) gz_17 (hT.below (bt hB_135 hb_134)) es (hE.below (bt hB_135 hb_134))) ?_
            rintro e w_144 ⟨A_136, c_137, zs_138, ez_139, gz_140, lz_141, rfl, hl_142, hr_143, hb_145⟩; refine ⟨_, rfl, ?_⟩
            refine XL_run 5 [] [(0, .slice A0 xs0.length c0), (1, .slice A1 xs1.length c1), (2, .slice A2 xs2.length c2), (9, .nilIface), (10, .slice A_136 zs_138.length c_137)] w_144 [] (by kernel_rfl) trivial ?_
            refine XL_nil ?_
            refine X_seq ?_
            refine X_seq ?_
            refine X_region ?_
            refine XL_run 5 [] [(0, .slice A0 xs0.length c0), (2, .slice A2 xs2.length c2), (69, .bool false), (70, .slice A_136 zs_138.length c_137), (71, .slice A1 xs1.length c1)] w_144 [] (by kernel_rfl) trivial ?_
            refine XL_call 12 rfl rfl rfl ent12 [.slice A_136 zs_138.length c_137, .slice A1 xs1.length c1] (by kernel_rfl) (asame_any _ _ _ _ zs_138 xs1 _ (Kd.R_C hr_143) (Kd.C_below hx1 (bt (bt hB_135 hb_134) hb_145))) ?_
            rintro e w_146 ⟨rfl, hb_147⟩; refine ⟨_, rfl, ?_⟩
            rw [show decide (zs_138 = xs1) = true from decide_eq_true (by rw [ez_139, ez_16]; exact law_there ((chkA_good _ _).1 c_6) ((chkA_good _ _).1 c_9))]
            refine XL_run 2 [] [(0, .slice A0 xs0.length c0), (2, .slice A2 xs2.length c2), (74, .bool false)] w_146 [] (by kernel_rfl) trivial ?_
            refine XL_nil ?_
            refine X_cond false rfl ?_
            refine X_skip ?_
            refine X_seq ?_
            refine X_region ?_
            refine XL_run 2 [] [(0, .slice A0 xs0.length c0), (2, .slice A2 xs2.length c2), (76, .slice A0 xs0.length c0), (77, .slice A2 xs2.length c2)] w_146 [] (by kernel_rfl) trivial ?_
            have hB_148 : Below w.heap.size w w_146 := (bt (bt (bt hB_135 hb_134) hb_145) hb_147)
            refine XL_call 13 rfl rfl rfl ent13 [.slice A0 xs0.length c0, .slice A2 xs2.length c2] (by kernel_rfl) (apply_ok  A0 A2 c0 c2 xs0 xs2 _ (Kd.C_below hx0 hB_148) (Kd.C_below hx2 hB_148) hc0 hc2 (by omega) ((chkA_good _ _).1 c_6) ((chkA_good _ _).1 c_12) (hT.below hB_148) es (hE.below hB_148)) ?_
            rintro e w_157 ⟨A_149, c_150, zs_151, ez_152, gz_153, lz_154, rfl, hl_155, hr_156, hb_158⟩; refine ⟨_, rfl, ?_⟩
            refine XL_run 5 [] [(0, .slice A0 xs0.length c0), (2, .slice A2 xs2.length c2), (9, .nilIface), (10, .slice A_149 zs_151.length c_150)] w_157 [] (by kernel_rfl) trivial ?_
            refine XL_nil ?_
            refine X_seq ?_
            refine X_region ?_
            refine XL_run 2 [] [(0, .slice A0 xs0.length c0), (9, .nilIface), (10, .slice A_149 zs_151.length c_150), (82, .slice A2 xs2.length c2), (83, .slice A0 xs0.length c0)] w_157 [] (by kernel_rfl) trivial ?_
            refine XL_call 16 rfl rfl rfl ent16 [.slice A2 xs2.length c2, .slice A0 xs0.length c0] (by kernel_rfl) (invert_ok  A2 A0 c2 c0 xs2 xs0 _ (Kd.C_below hx2 (bt hB_148 hb_158)) (Kd.C_below hx0 (bt hB_148 hb_158)) hc2 hc0 (by omega) ((chkA_good _ _).1 c_12) ((chkA_good _ _).1 c_6) (hT.below (bt hB_148 hb_158)) es (hE.below (bt hB_148 hb_158))) ?_
            rintro e w_167 ⟨A_159, c_160, zs_161, ez_162, gz_163, lz_164, rfl, hl_165, hr_166, hb_168⟩; refine ⟨_, rfl, ?_⟩
            refine XL_run 5 [] [(0, .slice A0 xs0.length c0), (9, .nilIface), (10, .slice A_149 zs_151.length c_150), (11, .slice A_159 zs_161.length c_160), (12, .nilIface)] w_167 [] (by kernel_rfl) trivial ?_
            refine XL_nil ?_
            refine X_seq ?_
            refine X_seq ?_
            refine X_region ?_
            refine XL_run 6 [] [(0, .slice A0 xs0.length c0), (10, .slice A_149 zs_151.length c_150), (11, .slice A_159 zs_161.length c_160), (92, .bool false)] w_167 [] (by kernel_rfl) trivial ?_
            refine XL_nil ?_
            refine X_cond false rfl ?_
            refine X_skip ?_
            refine X_seq ?_
            refine X_region ?_
            refine XL_run 2 [] [(0, .slice A0 xs0.length c0), (10, .slice A_149 zs_151.length c_150), (11, .slice A_159 zs_161.length c_160), (94, .slice A_149 zs_151.length c_150), (95, .slice A_159 zs_161.length c_160)] w_167 [] (by kernel_rfl) trivial ?_
            refine XL_call 13 rfl rfl rfl ent13 [.slice A_149 zs_151.length c_150, .slice A_159 zs_161.length c_160] (by kernel_rfl) (apply_ok  A_149 A_159 c_150 c_160 zs_151 zs_161 _ (Kd.R_C (Kd.R_below hr_156 hb_168)) (Kd.R_C hr_166) (RX.Kd.R_len (Kd.R_below hr_156 hb_168)).2 (RX.Kd.R_len hr_166).2 (by omega) gz_153 gz_163 (hT.below (bt (bt hB_148 hb_158) hb_168)) es (hE.below (bt (bt hB_148 hb_158) hb_168))) ?_
            rintro e w_177 ⟨A_169, c_170, zs_171, ez_172, gz_173, lz_174, rfl, hl_175, hr_176, hb_178⟩; refine ⟨_, rfl, ?_⟩
            refine XL_run 5 [] [(0, .slice A0 xs0.length c0), (9, .nilIface), (10, .slice A_149 zs_151.length c_150), (11, .slice A_159 zs_161.length c_160), (13, .slice A_169 zs_171.length c_170)] w_177 [] (by kernel_rfl) trivial ?_
            refine XL_nil ?_
            refine X_seq ?_
            refine X_seq ?_
            refine X_region ?_
            refine XL_run 5 [] [(0, .slice A0 xs0.length c0), (10, .slice A_149 zs_151.length c_150), (11, .slice A_159 zs_161.length c_160), (101, .bool false), (102, .slice A_169 zs_171.length c_170), (103, .slice A0 xs0.length c0)] w_177 [] (by kernel_rfl) trivial ?_
            have hB_181 : Below w.heap.size w w_177 := (bt (bt (bt hB_148 hb_158) hb_168) hb_178)
            refine XL_call 12 rfl rfl rfl ent12 [.slice A_169 zs_171.length c_170, .slice A0 xs0.length c0] (by kernel_rfl) (asame_any _ _ _ _ zs_171 xs0 _ (Kd.R_C hr_176) (Kd.C_below hx0 hB_181)) ?_
            rintro e w_179 ⟨rfl, hb_180⟩; refine ⟨_, rfl, ?_⟩
            rw [show decide (zs_171 = xs0) = true from decide_eq_true (by rw [ez_172, ez_162, ← ez_152]; exact law_there gz_153 ((chkA_good _ _).1 c_6))]
            refine XL_run 2 [] [(0, .slice A0 xs0.length c0), (10, .slice A_149 zs_151.length c_150), (11, .slice A_159 zs_161.length c_160), (106, .bool false)] w_179 [] (by kernel_rfl) trivial ?_
            refine XL_nil ?_
            refine X_cond false rfl ?_
            refine X_skip ?_
            refine X_seq ?_
            refine X_seq ?_
            refine X_region ?_
            refine XL_run 3 [] [(0, .slice A0 xs0.length c0), (10, .slice A_149 zs_151.length c_150), (11, .slice A_159 zs_161.length c_160), (108, .int .i64 (zs_161.length : Int)), (109, .int .i64 0)] w_179 [] (by kernel_rfl) trivial ?_
            refine XL_nil ?_
            refine X_block ?_
            refine X_loop (ι := Nat) (fun k => [(0, .slice A0 xs0.length c0), (10, .slice A_149 zs_151.length c_150), (11, .slice A_159 zs_161.length c_160), (108, .int .i64 (zs_161.length : Int)), (109, .int .i64 (k : Int))]) (fun k wl => k ≤ zs_161.length ∧ Below w_179.heap.size w_179 wl) (fun k => zs_161.length - k) 0 ⟨by omega, Below.refl _ _⟩ (by kernel_rfl) ?_
            rintro k wl ⟨hk, HB⟩
            refine X_seq ?_
            refine X_region ?_
            by_cases c_182 : (k : Int) < (zs_161.length : Int)
            · refine XL_run 1 [(110, .eq (.bool true))] [(0, .slice A0 xs0.length c0), (10, .slice A_149 zs_151.length c_150), (11, .slice A_159 zs_161.length c_160), (108, .int .i64 (zs_161.length : Int)), (109, .int .i64 (k : Int)), (110, .bool true)] wl [Value.bool (decide ((k : Int) < (zs_161.length : Int))) = Value.bool true] (by kernel_rfl) ⟨congrArg Value.bool (decide_eq_true (c_182)), trivial⟩ ?_
              refine XL_nil ?_
              refine X_seq ?_
              refine X_cond true rfl ?_
              refine X_skip ?_
              refine X_seq ?_
              refine X_block ?_
              refine X_seq ?_
              refine X_region ?_
              refine XL_run 2 [] [(0, .slice A0 xs0.length c0), (10, .slice A_149 zs_151.length c_150), (11, .slice A_159 zs_161.length c_160), (14, .int .i64 (k : Int)), (108, .int .i64 (zs_161.length : Int)), (109, .int .i64 (k : Int))] wl [] (by kernel_rfl) trivial ?_
              refine XL_nil ?_
              refine X_seq ?_
              refine X_any [0, 4, 9] 11 #[false, false, false, false, false, false, false, false, false, false, false] (by kernel_rfl) (by kernel_rfl) (by kernel_rfl) (fun wd_183 hb_184 hh_185 => ?_)
              have hC_186 := RX.Kd.C_take (m := k) (Kd.R_C (Kd.R_below hr_166 (bt (bt (bt hb_178 hb_180) HB) hb_184))) (by first | omega | (simp; done) | (simp; omega))
              obtain ⟨A_187, hA_188⟩ : ∃ A_, (if c_160 = (k + 1) then A_159 else A_159.map (·.add ((k + 1) * 4))) = A_ := ⟨_, rfl⟩
              have hC_189 : kAttr.C wd_183 A_187 (zs_161.length - (k + 1)) (zs_161.drop (k + 1)) := by have h := RX.Kd.C_drop (Kd.R_C (Kd.R_below hr_166 (bt (bt (bt hb_178 hb_180) HB) hb_184))) (k := (k + 1)) (cap := c_160) (by omega) (by omega); first | (rw [← hA_188]; exact h)
              refine XA_pure (fuel' := 4) [1, 2, 3, 5, 6, 7, 8] [(115, .as (.slice A_159 k c_160)), (119, .eq (.int .i64 ((k : Int) + 1))), (120, .as (.slice A_187 (zs_161.length - (k + 1)) (c_160 - (k + 1))))] [.slice A_159 zs_161.length c_160, .int .i64 (k : Int), .slice A_159 k c_160, .slice A_159 zs_161.length c_160, .int .i64 (k : Int), .int .i64 ((k : Int) + 1), .slice A_187 (zs_161.length - (k + 1)) (c_160 - (k + 1))] #[false, true, true, true, false, true, true, true, true, false, false] [(0, .slice A0 xs0.length c0), (10, .slice A_149 zs_151.length c_150), (11, .slice A_159 zs_161.length c_160), (108, .int .i64 (zs_161.length : Int)), (109, .int .i64 (k : Int)), (115, .slice A_159 k c_160), (120, .slice A_187 (zs_161.length - (k + 1)) (c_160 - (k + 1)))] (fun w_ => [RunsAs Tryd.prog [(113, .slice A_159 zs_161.length c_160), (114, .int .i64 (k : Int))] (Go.Op.slice 22 (Go.Operand.tmp 113) none (some (Go.Operand.tmp 114)) none) 22 (.slice A_159 k c_160) w_, Value.int .i64 (IntKind.i64.wrap ((k : Int) + 1)) = Value.int .i64 ((k : Int) + 1), RunsAs Tryd.prog [(117, .slice A_159 zs_161.length c_160), (119, .int .i64 ((k : Int) + 1))] (Go.Op.slice 22 (Go.Operand.tmp 117) (some (Go.Operand.tmp 119)) none none) 22 (.slice A_187 (zs_161.length - (k + 1)) (c_160 - (k + 1))) w_]) (fun _ _ _ _ h => h) (fun w_ => by kernel_rfl) rfl (fun w_ => ⟨runs_slice_h (h := (k : Int)) rfl rfl rfl rfl (by omega) (by have h := (RX.Kd.R_len (Kd.R_below hr_166 (bt (bt (bt hb_178 hb_180) HB) hb_184))).2; (try simp only [List.length_append, List.length_cons, List.length_nil] at h); omega), wr_i64 (by omega) (by omega), (hA_188 ▸ runs_slice_l (h := (k : Int) + 1) rfl rfl rfl rfl (by omega) (by omega) (by omega)), trivial⟩) ?_
              refine XA_act (fuel' := 3) 0 #[true, true, true, true, false, true, true, true, true, false, false] _ rfl (by kernel_rfl) rfl (by kernel_rfl) rfl ?_
              refine XL_run 1 [] [(0, .slice A0 xs0.length c0), (10, .slice A_149 zs_151.length c_150), (11, .slice A_159 zs_161.length c_160), (108, .int .i64 (zs_161.length : Int)), (109, .int .i64 (k : Int)), (112, .slice (some ⟨wd_183.heap.size, 0, none⟩) 0 0), (115, .slice A_159 k c_160), (120, .slice A_187 (zs_161.length - (k + 1)) (c_160 - (k + 1)))] (wd_183.alloc (.cells #[] 55)) [] (by kernel_rfl) trivial ?_
              obtain ⟨w_190, hw_194, hb_191, hk_192, hz_193⟩ := new_world wd_183 #[] 55
              rw [hw_194]
              refine XL_nil ?_
              refine XA_act (fuel' := 2) 4 #[true, true, true, true, true, true, true, true, true, false, false] _ rfl (by kernel_rfl) rfl (by kernel_rfl) rfl ?_
              have hr_195 := Kd.R_litB kAttr (W := wd_183) (e := 55) (cs := #[]) [] hk_192 (repsAttr []) (Nat.le_of_ble_eq_true (by kernel_rfl))
              refine XL_appendAll (c' := c_160) kAttr rfl rfl rfl wd_183.heap.size 55 (.agg #[.string ByteArray.empty, .int .i64 0, .int .i64 0, .string ByteArray.empty]) 48 Tryd.underlying22 info55 rfl (by decide) (by omega) ([]) (List.take k zs_161) (by kernel_rfl) hr_195 (Kd.C_below hC_186 hb_191) kAttr_KM (hb_191).size (by first | omega | (simp; omega)) ?_
              intro A_196 c_197 w_198 hr_199 hc_200 hg_201 hl_202 ha_203
              have hB_204 : Below w_177.heap.size w_177 w_198 := (bgo (bt (bt (bt hb_180 HB) hb_184) hb_191) hg_201 hl_202 ((bt (bt hb_180 HB) hb_184)).size)
              have hB_205 : Below w_167.heap.size w_167 w_198 := (bgo (bt (bt (bt (bt hb_178 hb_180) HB) hb_184) hb_191) hg_201 hl_202 ((bt (bt (bt hb_178 hb_180) HB) hb_184)).size)
              have hB_206 : Below w_157.heap.size w_157 wd_183 := (bt (bt (bt (bt hb_168 hb_178) hb_180) HB) hb_184)
              have hB_207 : Below w_157.heap.size w_157 w_198 := (bgo (bt (bt (bt (bt (bt hb_168 hb_178) hb_180) HB) hb_184) hb_191) hg_201 hl_202 (hB_206).size)
              have hB_208 : Below w_144.heap.size w_144 wd_183 := (bt (bt (bt (bt (bt (bt hb_147 hb_158) hb_168) hb_178) hb_180) HB) hb_184)
              have hB_209 : Below w_144.heap.size w_144 w_198 := (bgo (bt (bt (bt (bt (bt (bt (bt hb_147 hb_158) hb_168) hb_178) hb_180) HB) hb_184) hb_191) hg_201 hl_202 (hB_208).size)
              have hB_210 : Below w_21.heap.size w_21 wd_183 := (bt (bt (bt (bt (bt (bt (bt (bt hb_134 hb_145) hb_147) hb_158) hb_168) hb_178) hb_180) HB) hb_184)
              have hB_211 : Below w_21.heap.size w_21 w_198 := (bgo (bt (bt (bt (bt (bt (bt (bt (bt (bt hb_134 hb_145) hb_147) hb_158) hb_168) hb_178) hb_180) HB) hb_184) hb_191) hg_201 hl_202 (hB_210).size)
              refine XL_nil ?_
              refine XA_act (fuel' := 1) 9 #[true, true, true, true, true, true, true, true, true, true, false] _ rfl (by kernel_rfl) rfl (by kernel_rfl) rfl ?_
              have hB_212 : Below wd_183.heap.size wd_183 w_198 := (bgo hb_191 hg_201 hl_202 (Nat.le_refl _))
              refine XL_appendAll (c' := (c_160 - (k + 1))) kAttr rfl rfl rfl wd_183.heap.size 55 (.agg #[.string ByteArray.empty, .int .i64 0, .int .i64 0, .string ByteArray.empty]) 48 Tryd.underlying22 info55 rfl (by decide) (by omega) ([] ++ (List.take k zs_161)) (zs_161.drop (k + 1)) (by kernel_rfl) hr_199 (Kd.C_below hC_189 hB_212) kAttr_KM (hB_212).size (by first | omega | (simp; omega)) ?_
              intro A_213 c_214 w_215 hr_216 hc_217 hg_218 hl_219 ha_220
              have hB_221 : Below w_177.heap.size w_177 w_215 := (bgo hB_204 hg_218 hl_219 ((bt (bt hb_180 HB) hb_184)).size)
              have hB_222 : Below w_167.heap.size w_167 w_215 := (bgo hB_205 hg_218 hl_219 ((bt (bt (bt hb_178 hb_180) HB) hb_184)).size)
              obtain ⟨fw_223, ef_224⟩ : ∃ f_, (([] ++ (List.take k zs_161)) ++ (zs_161.drop (k + 1))) = f_ := ⟨_, rfl⟩
              have gf_225 : Good true fw_223 := by rw [← ef_224]; simp only [List.nil_append]; exact good_sub gz_163 (erase_sub zs_161 k)
              have lf_226 : fw_223.length ≤ zs_161.length := by rw [← ef_224]; simp only [List.nil_append]; exact (erase_sub zs_161 k).length_le
              have he_227 : (([] ++ (List.take k zs_161)) ++ (zs_161.drop (k + 1))) = fw_223 := ef_224
              rw [he_227] at hr_216 ⊢
              refine XL_nil ?_
              refine XA_pure (fuel' := 0) [10] [] [.slice A_213 fw_223.length c_214] #[true, true, true, true, true, true, true, true, true, true, true] [(0, .slice A0 xs0.length c0), (10, .slice A_149 zs_151.length c_150), (11, .slice A_159 zs_161.length c_160), (15, .slice A_213 fw_223.length c_214), (108, .int .i64 (zs_161.length : Int)), (109, .int .i64 (k : Int))] (fun w_ => []) (fun _ _ _ _ h => h) (fun w_ => by kernel_rfl) rfl (fun w_ => trivial) ?_
              refine XA_done (by kernel_rfl) ?_
              refine X_seq ?_
              refine X_region ?_
              refine XL_run 2 [] [(0, .slice A0 xs0.length c0), (10, .slice A_149 zs_151.length c_150), (11, .slice A_159 zs_161.length c_160), (108, .int .i64 (zs_161.length : Int)), (109, .int .i64 (k : Int)), (123, .slice A_149 zs_151.length c_150), (124, .slice A_213 fw_223.length c_214)] w_215 [] (by kernel_rfl) trivial ?_
              have hB_238 : Below w.heap.size w w_215 := (bgo (bgo (bt (bt (bt (bt hB_181 hb_180) HB) hb_184) hb_191) hg_201 hl_202 ((bt (bt (bt hB_181 hb_180) HB) hb_184)).size) hg_218 hl_219 ((bt (bt (bt hB_181 hb_180) HB) hb_184)).size)
              refine XL_call 13 rfl rfl rfl ent13 [.slice A_149 zs_151.length c_150, .slice A_213 fw_223.length c_214] (by kernel_rfl) (apply_ok  A_149 A_213 c_150 c_214 zs_151 fw_223 _ (Kd.R_C (Kd.R_below hr_156 (bgo hB_207 hg_218 hl_219 (hB_206).size))) (Kd.R_C hr_216) (RX.Kd.R_len (Kd.R_below hr_156 (bgo hB_207 hg_218 hl_219 (hB_206).size))).2 (RX.Kd.R_len hr_216).2 (by omega) gz_153 gf_225 (hT.below hB_238) es (hE.below hB_238)) ?_
              rintro e w_236 ⟨A_228, c_229, zs_230, ez_231, gz_232, lz_233, rfl, hl_234, hr_235, hb_237⟩; refine ⟨_, rfl, ?_⟩
              refine XL_run 5 [] [(0, .slice A0 xs0.length c0), (9, .nilIface), (10, .slice A_149 zs_151.length c_150), (11, .slice A_159 zs_161.length c_160), (13, .slice A_228 zs_230.length c_229), (108, .int .i64 (zs_161.length : Int)), (109, .int .i64 (k : Int))] w_236 [] (by kernel_rfl) trivial ?_
              refine XL_nil ?_
              refine X_seq ?_
              refine X_region ?_
              refine XL_run 5 [] [(0, .slice A0 xs0.length c0), (10, .slice A_149 zs_151.length c_150), (11, .slice A_159 zs_161.length c_160), (108, .int .i64 (zs_161.length : Int)), (109, .int .i64 (k : Int)), (130, .bool false), (131, .slice A_228 zs_230.length c_229), (132, .slice A0 xs0.length c0)] w_236 [] (by kernel_rfl) trivial ?_
              refine XL_call 12 rfl rfl rfl ent12 [.slice A_228 zs_230.length c_229, .slice A0 xs0.length c0] (by kernel_rfl) (asame_any _ _ _ _ zs_230 xs0 _ (Kd.R_C hr_235) (Kd.C_below hx0 (bt hB_238 hb_237))) ?_
              rintro e w_239 ⟨rfl, hb_240⟩; refine ⟨_, rfl, ?_⟩
              rw [show decide (zs_230 = xs0) = false from decide_eq_false (by have hi : zs_161 = comp btwF zs_151 xs0 := (by rw [ez_162, ← ez_152]); rw [ez_231, ← ef_224]; simp only [List.nil_append]; rw [hi]; exact law_fewer gz_153 ((chkA_good _ _).1 c_6) k (by rw [← hi]; omega))]
              refine XL_run 1 [] [(0, .slice A0 xs0.length c0), (10, .slice A_149 zs_151.length c_150), (11, .slice A_159 zs_161.length c_160), (108, .int .i64 (zs_161.length : Int)), (109, .int .i64 (k : Int)), (134, .bool false)] w_239 [] (by kernel_rfl) trivial ?_
              refine XL_nil ?_
              refine X_cond false rfl ?_
              refine X_skip ?_
              refine X_region ?_
              refine XL_run 2 [(135, .eq (.int .i64 ((k : Int) + 1)))] [(0, .slice A0 xs0.length c0), (10, .slice A_149 zs_151.length c_150), (11, .slice A_159 zs_161.length c_160), (108, .int .i64 (zs_161.length : Int)), (109, .int .i64 ((k : Int) + 1))] w_239 [Value.int .i64 (IntKind.i64.wrap ((k : Int) + 1)) = Value.int .i64 ((k : Int) + 1)] (by kernel_rfl) ⟨wr_i64 (by omega) (by omega), trivial⟩ ?_
              refine XL_nil ?_
              have hB_241 : Below w_179.heap.size w_179 w_239 := (bt (bt (bgo (bgo (bt (bt HB hb_184) hb_191) hg_201 hl_202 ((bt HB hb_184)).size) hg_218 hl_219 ((bt HB hb_184)).size) hb_237) hb_240)
              refine ⟨(k + 1), by kernel_rfl, ?_, ?_⟩
              · exact ⟨by omega, hB_241⟩
              · (try dsimp only); omega
            · refine XL_run 1 [(110, .eq (.bool false))] [(0, .slice A0 xs0.length c0), (10, .slice A_149 zs_151.length c_150), (11, .slice A_159 zs_161.length c_160), (108, .int .i64 (zs_161.length : Int)), (109, .int .i64 (k : Int)), (110, .bool false)] wl [Value.bool (decide ((k : Int) < (zs_161.length : Int))) = Value.bool false] (by kernel_rfl) ⟨congrArg Value.bool (decide_eq_false (c_182)), trivial⟩ ?_
              refine XL_nil ?_
              refine X_seq ?_
              refine X_cond false rfl ?_
              refine X_exit ?_
              refine X_seq ?_
              refine X_region ?_
              refine XL_run 1 [] [(6, .bool true)] wl [] (by kernel_rfl) trivial ?_
              refine XL_nil ?_
              refine X_ret ?_
              refine RX.ret_ok (P := Tryd.prog) (fn := Tryd.f5) (N := 136) (R := R_) [.bool true] (by kernel_rfl) (hR_ _ _ ?_)
              exact ⟨rfl, (bt (bt hB_181 hb_180) HB)⟩
        · rw [errV_pos es (chkA true xs2) (Nat.pos_of_ne_zero c_12)]
          refine XL_run 2 [] [(0, .slice A0 xs0.length c0), (1, .slice A1 xs1.length c1), (2, .slice A2 xs2.length c2), (43, .bool true)] w_10 [] (by kernel_rfl) trivial ?_
          refine XL_nil ?_
          refine X_cond true rfl ?_
          refine X_seq ?_
          refine X_region ?_
          refine XL_run 1 [] [(6, .bool true)] w_10 [] (by kernel_rfl) trivial ?_
          refine XL_nil ?_
          refine X_ret ?_
          refine RX.ret_ok (P := Tryd.prog) (fn := Tryd.f5) (N := 136) (R := R_) [.bool true] (by kernel_rfl) (hR_ _ _ ?_)
          exact ⟨rfl, (bt (bt (bt hb_2 hb_5) hb_8) hb_11)⟩
      · rw [errV_pos es (chkA false xs1) (Nat.pos_of_ne_zero c_9)]
        refine XL_run 7 [] [(0, .slice A0 xs0.length c0), (1, .slice A1 xs1.length c1), (2, .slice A2 xs2.length c2), (43, .bool true)] w_7 [] (by kernel_rfl) trivial ?_
        refine XL_nil ?_
        refine X_cond true rfl ?_
        refine X_seq ?_
        refine X_region ?_
        refine XL_run 1 [] [(6, .bool true)] w_7 [] (by kernel_rfl) trivial ?_
        refine XL_nil ?_
        refine X_ret ?_
        refine RX.ret_ok (P := Tryd.prog) (fn := Tryd.f5) (N := 136) (R := R_) [.bool true] (by kernel_rfl) (hR_ _ _ ?_)
        exact ⟨rfl, (bt (bt hb_2 hb_5) hb_8)⟩
    · rw [errV_pos es (chkA false xs0) (Nat.pos_of_ne_zero c_6)]
      refine XL_run 11 [] [(0, .slice A0 xs0.length c0), (1, .slice A1 xs1.length c1), (2, .slice A2 xs2.length c2), (43, .bool true)] w_4 [] (by kernel_rfl) trivial ?_
      refine XL_nil ?_
      refine X_cond true rfl ?_
      refine X_seq ?_
      refine X_region ?_
      refine XL_run 1 [] [(6, .bool true)] w_4 [] (by kernel_rfl) trivial ?_
      refine XL_nil ?_
      refine X_ret ?_
      refine RX.ret_ok (P := Tryd.prog) (fn := Tryd.f5) (N := 136) (R := R_) [.bool true] (by kernel_rfl) (hR_ _ _ ?_)
      exact ⟨rfl, (bt hb_2 hb_5)⟩
end Go.Proofs.YtdkdajofppjnaaaDoor
