/- What MatchMore answers. Conditions: Errs, bounds on lengths. -/
import Derived.Test.YtmhkeojbjliieaaDoorV6
import Derived.Test.YtmhkeojbjliieaaDoorLcs2
set_option linter.unusedVariables false
set_option linter.unusedSimpArgs false
set_option maxRecDepth 100000
namespace Go.Proofs.YtmhkeojbjliieaaDoor
open Go.RowKit Go.Proofs.YtmhkeojbjliieaaDoorW.PrintWords MM RX
set_option maxHeartbeats 4000000 in
theorem more_any (A0 A1 A2 A3 : Option Addr) (c0 c1 c2 c3 : Nat) (a b c d : List Int) (w : World) (ha : (Kd.int .i64).C w A0 a.length a) (hb : (Kd.int .i64).C w A1 b.length b) (hc : (Kd.int .i64).C w A2 c.length c) (hd : (Kd.int .i64).C w A3 d.length d) (es : List Addr) (hE : Errs w es)
    (hla : a.length ≤ 1048576) (hlb : b.length ≤ 1048576) (hlc : c.length ≤ 1048576) (hld : d.length ≤ 1048576) :
    Calls Tryd.prog 6 #[.slice A0 a.length c0, .slice A1 b.length c1, .slice A2 c.length c2, .slice A3 d.length c3] w fun e w' => e = .returned (.bool true) ∧ Below w.heap.size w w' := by
  have k1 := Lm_app a b c d
  have k2 := L_le a b a.length b.length
  have k3 := L_le c d c.length d.length
  have k4 : Lm a b = L a b a.length b.length := rfl
  have k5 : Lm c d = L c d c.length d.length := rfl
  refine RX.enter Tryd.func6 rfl 156 rfl [(0, .slice A0 a.length c0), (1, .slice A1 b.length c1), (2, .slice A2 c.length c2), (3, .slice A3 d.length c3)] rfl (by kernel_rfl) (fun R_ hR_ => ?_)
  refine X_seq ?_
  refine X_region ?_
  refine XL_run 1 [] [(0, .slice A0 a.length c0), (1, .slice A1 b.length c1), (2, .slice A2 c.length c2), (3, .slice A3 d.length c3)] w [] (by kernel_rfl) trivial ?_
  refine XL_nil ?_
  refine X_seq ?_
  refine X_seq ?_
  refine X_region ?_
  refine XL_call 7 rfl rfl rfl ent7 [] (by kernel_rfl) (lives_any es _ (hE.below (Below.refl _ _))) ?_
  rintro e w_1 ⟨rfl, hb_2⟩; refine ⟨_, rfl, ?_⟩
  refine XL_run 1 [] [(0, .slice A0 a.length c0), (1, .slice A1 b.length c1), (2, .slice A2 c.length c2), (3, .slice A3 d.length c3), (20, .bool false)] w_1 [] (by kernel_rfl) trivial ?_
  refine XL_nil ?_
  refine X_cond false rfl ?_
  refine X_skip ?_
  refine X_seq ?_
  refine X_seq ?_
  refine X_region ?_
  refine XL_run 5 [(25, .eq (.int .i64 ((a.length : Int) + (c.length : Int))))] [(0, .slice A0 a.length c0), (1, .slice A1 b.length c1), (2, .slice A2 c.length c2), (3, .slice A3 d.length c3), (25, .int .i64 ((a.length : Int) + (c.length : Int)))] w_1 [Value.int .i64 (IntKind.i64.wrap ((a.length : Int) + (c.length : Int))) = Value.int .i64 ((a.length : Int) + (c.length : Int))] (by kernel_rfl) ⟨wr_i64 (by omega) (by omega), trivial⟩ ?_
  by_cases c_3 : (a.length : Int) + (c.length : Int) ≥ 1024
  · refine XL_run 9 [(26, .eq (.bool true))] [(0, .slice A0 a.length c0), (1, .slice A1 b.length c1), (2, .slice A2 c.length c2), (3, .slice A3 d.length c3), (34, .bool true)] w_1 [Value.bool (decide ((a.length : Int) + (c.length : Int) ≥ 1024)) = Value.bool true] (by kernel_rfl) ⟨congrArg Value.bool (decide_eq_true (c_3)), trivial⟩ ?_
    refine XL_nil ?_
    refine X_cond true rfl ?_
    refine X_seq ?_
    refine X_region ?_
    refine XL_run 1 [] [(8, .bool true)] w_1 [] (by kernel_rfl) trivial ?_
    refine XL_nil ?_
    refine X_ret ?_
    refine RX.ret_ok (P := Tryd.prog) (fn := Tryd.f6) (N := 156) (R := R_) [.bool true] (by kernel_rfl) (hR_ _ _ ?_)
    exact ⟨rfl, hb_2⟩
  · refine XL_run 7 [(26, .eq (.bool false)), (32, .eq (.int .i64 ((b.length : Int) + (d.length : Int))))] [(0, .slice A0 a.length c0), (1, .slice A1 b.length c1), (2, .slice A2 c.length c2), (3, .slice A3 d.length c3), (27, .bool false), (32, .int .i64 ((b.length : Int) + (d.length : Int)))] w_1 [Value.bool (decide ((a.length : Int) + (c.length : Int) ≥ 1024)) = Value.bool false, Value.int .i64 (IntKind.i64.wrap ((b.length : Int) + (d.length : Int))) = Value.int .i64 ((b.length : Int) + (d.length : Int))] (by kernel_rfl) ⟨congrArg Value.bool (decide_eq_false (c_3)), wr_i64 (by omega) (by omega), trivial⟩ ?_
    by_cases c_4 : (b.length : Int) + (d.length : Int) ≥ 1024
    · refine XL_run 2 [(33, .eq (.bool true))] [(0, .slice A0 a.length c0), (1, .slice A1 b.length c1), (2, .slice A2 c.length c2), (3, .slice A3 d.length c3), (34, .bool true)] w_1 [Value.bool (decide ((b.length : Int) + (d.length : Int) ≥ 1024)) = Value.bool true] (by kernel_rfl) ⟨congrArg Value.bool (decide_eq_true (c_4)), trivial⟩ ?_
      refine XL_nil ?_
      refine X_cond true rfl ?_
      refine X_seq ?_
      refine X_region ?_
      refine XL_run 1 [] [(8, .bool true)] w_1 [] (by kernel_rfl) trivial ?_
      refine XL_nil ?_
      refine X_ret ?_
      refine RX.ret_ok (P := Tryd.prog) (fn := Tryd.f6) (N := 156) (R := R_) [.bool true] (by kernel_rfl) (hR_ _ _ ?_)
      exact ⟨rfl, hb_2⟩
    · refine XL_run 2 [(33, .eq (.bool false))] [(0, .slice A0 a.length c0), (1, .slice A1 b.length c1), (2, .slice A2 c.length c2), (3, .slice A3 d.length c3), (34, .bool false)] w_1 [Value.bool (decide ((b.length : Int) + (d.length : Int) ≥ 1024)) = Value.bool false] (by kernel_rfl) ⟨congrArg Value.bool (decide_eq_false (c_4)), trivial⟩ ?_
      refine XL_nil ?_
      refine X_cond false rfl ?_
      refine X_skip ?_
      refine X_seq ?_
      refine X_region ?_
      refine XL_run 2 [] [(0, .slice A0 a.length c0), (1, .slice A1 b.length c1), (2, .slice A2 c.length c2), (3, .slice A3 d.length c3), (36, .slice A0 a.length c0), (37, .slice A1 b.length c1)] w_1 [] (by kernel_rfl) trivial ?_
      refine XL_call 11 rfl rfl rfl ent11 [.slice A0 a.length c0, .slice A1 b.length c1] (by kernel_rfl) (length_n _ _ _ _ _ _ a b _ (Kd.C_below ha hb_2) (Kd.C_below hb hb_2) (by first | omega | (simp only [List.length_append, List.length_cons, List.length_nil]; omega)) (by first | omega | (simp only [List.length_append, List.length_cons, List.length_nil]; omega))) ?_
      rintro e w_5 ⟨rfl, hb_6⟩; refine ⟨_, rfl, ?_⟩
      refine XL_run 5 [] [(0, .slice A0 a.length c0), (1, .slice A1 b.length c1), (2, .slice A2 c.length c2), (3, .slice A3 d.length c3), (9, .int .i64 (Lm a b : Int)), (10, .nilIface)] w_5 [] (by kernel_rfl) trivial ?_
      refine XL_nil ?_
      refine X_seq ?_
      refine X_region ?_
      refine XL_run 2 [] [(0, .slice A0 a.length c0), (1, .slice A1 b.length c1), (2, .slice A2 c.length c2), (3, .slice A3 d.length c3), (9, .int .i64 (Lm a b : Int)), (10, .nilIface), (42, .slice A2 c.length c2), (43, .slice A3 d.length c3)] w_5 [] (by kernel_rfl) trivial ?_
      refine XL_call 11 rfl rfl rfl ent11 [.slice A2 c.length c2, .slice A3 d.length c3] (by kernel_rfl) (length_n _ _ _ _ _ _ c d _ (Kd.C_below hc (bt hb_2 hb_6)) (Kd.C_below hd (bt hb_2 hb_6)) (by first | omega | (simp only [List.length_append, List.length_cons, List.length_nil]; omega)) (by first | omega | (simp only [List.length_append, List.length_cons, List.length_nil]; omega))) ?_
      rintro e w_7 ⟨rfl, hb_8⟩; refine ⟨_, rfl, ?_⟩
      refine XL_run 5 [] [(0, .slice A0 a.length c0), (1, .slice A1 b.length c1), (2, .slice A2 c.length c2), (3, .slice A3 d.length c3), (9, .int .i64 (Lm a b : Int)), (10, .nilIface), (11, .int .i64 (Lm c d : Int)), (12, .nilIface)] w_7 [] (by kernel_rfl) trivial ?_
      refine XL_nil ?_
      refine X_seq ?_
      refine X_region ?_
      refine XL_run 1 [] [(0, .slice A0 a.length c0), (1, .slice A1 b.length c1), (2, .slice A2 c.length c2), (3, .slice A3 d.length c3), (9, .int .i64 (Lm a b : Int)), (10, .nilIface), (11, .int .i64 (Lm c d : Int)), (12, .nilIface), (48, .slice (some ⟨w_7.heap.size, 0, none⟩) 0 0)] (w_7.alloc (.cells #[] 3)) [] (by kernel_rfl) trivial ?_
      obtain ⟨w_9, hw_13, hb_10, hk_11, hz_12⟩ := new_world w_7 #[] 3
      rw [hw_13]
      refine XL_run 1 [] [(0, .slice A0 a.length c0), (1, .slice A1 b.length c1), (2, .slice A2 c.length c2), (3, .slice A3 d.length c3), (9, .int .i64 (Lm a b : Int)), (10, .nilIface), (11, .int .i64 (Lm c d : Int)), (12, .nilIface), (48, .slice (some ⟨w_7.heap.size, 0, none⟩) 0 0), (49, .slice A0 a.length c0)] w_9 [] (by kernel_rfl) trivial ?_
      have hr_14 := Kd.R_litB (Kd.int .i64) (W := w_7) (e := 3) (cs := #[]) [] hk_11 (repsInt []) (Nat.le_of_ble_eq_true (by kernel_rfl))
      refine XL_appendAll (c' := c0) (Kd.int .i64) rfl rfl rfl w_7.heap.size 3 (.int .i64 0) 8 Tryd.underlying22 info3 rfl (by decide) (by omega) ([]) a (by kernel_rfl) hr_14 (Kd.C_below ha (bt (bt (bt hb_2 hb_6) hb_8) hb_10)) (fun _ _ h => h) (hb_10).size (by first | omega | (simp; omega)) ?_
      intro A_15 c_16 w_17 hr_18 hc_19 hg_20 hl_21 ha_22
      have he_23 : ([] ++ a) = a := List.nil_append _
      rw [he_23] at hr_18 ⊢
      refine XL_run 1 [] [(0, .slice A0 a.length c0), (1, .slice A1 b.length c1), (2, .slice A2 c.length c2), (3, .slice A3 d.length c3), (9, .int .i64 (Lm a b : Int)), (10, .nilIface), (11, .int .i64 (Lm c d : Int)), (12, .nilIface), (50, .slice A_15 a.length c_16), (51, .slice A2 c.length c2)] w_17 [] (by kernel_rfl) trivial ?_
      have hB_24 : Below w.heap.size w w_17 := (bgo (bt (bt (bt hb_2 hb_6) hb_8) hb_10) hg_20 hl_21 ((bt (bt hb_2 hb_6) hb_8)).size)
      refine XL_appendAll (c' := c2) (Kd.int .i64) rfl rfl rfl w_7.heap.size 3 (.int .i64 0) 8 Tryd.underlying22 info3 rfl (by decide) (by omega) a c (by kernel_rfl) hr_18 (Kd.C_below hc hB_24) (fun _ _ h => h) ((bgo hb_10 hg_20 hl_21 (Nat.le_refl _))).size (by first | omega | (simp only [List.length_append, List.length_cons, List.length_nil]; omega)) ?_
      intro A_25 c_26 w_27 hr_28 hc_29 hg_30 hl_31 ha_32
      refine XL_run 1 [] [(0, .slice A0 a.length c0), (1, .slice A1 b.length c1), (2, .slice A2 c.length c2), (3, .slice A3 d.length c3), (9, .int .i64 (Lm a b : Int)), (10, .nilIface), (11, .int .i64 (Lm c d : Int)), (12, .nilIface), (52, .slice A_25 ((a ++ c).length) c_26), (53, .slice (some ⟨w_27.heap.size, 0, none⟩) 0 0)] (w_27.alloc (.cells #[] 3)) [] (by kernel_rfl) trivial ?_
      obtain ⟨w_33, hw_37, hb_34, hk_35, hz_36⟩ := new_world w_27 #[] 3
      rw [hw_37]
      refine XL_run 1 [] [(0, .slice A0 a.length c0), (1, .slice A1 b.length c1), (2, .slice A2 c.length c2), (3, .slice A3 d.length c3), (9, .int .i64 (Lm a b : Int)), (10, .nilIface), (11, .int .i64 (Lm c d : Int)), (12, .nilIface), (52, .slice A_25 ((a ++ c).length) c_26), (53, .slice (some ⟨w_27.heap.size, 0, none⟩) 0 0), (54, .slice A1 b.length c1)] w_33 [] (by kernel_rfl) trivial ?_
      have hr_38 := Kd.R_litB (Kd.int .i64) (W := w_27) (e := 3) (cs := #[]) [] hk_35 (repsInt []) (Nat.le_of_ble_eq_true (by kernel_rfl))
      have hB_39 : Below w.heap.size w w_33 := (bt (bgo hB_24 hg_30 hl_31 ((bt (bt hb_2 hb_6) hb_8)).size) hb_34)
      refine XL_appendAll (c' := c1) (Kd.int .i64) rfl rfl rfl w_27.heap.size 3 (.int .i64 0) 8 Tryd.underlying22 info3 rfl (by decide) (by omega) ([]) b (by kernel_rfl) hr_38 (Kd.C_below hb hB_39) (fun _ _ h => h) (hb_34).size (by first | omega | (simp; omega)) ?_
      intro A_40 c_41 w_42 hr_43 hc_44 hg_45 hl_46 ha_47
      have he_48 : ([] ++ b) = b := List.nil_append _
      rw [he_48] at hr_43 ⊢
      refine XL_run 1 [] [(0, .slice A0 a.length c0), (1, .slice A1 b.length c1), (2, .slice A2 c.length c2), (9, .int .i64 (Lm a b : Int)), (10, .nilIface), (11, .int .i64 (Lm c d : Int)), (12, .nilIface), (52, .slice A_25 ((a ++ c).length) c_26), (55, .slice A_40 b.length c_41), (56, .slice A3 d.length c3)] w_42 [] (by kernel_rfl) trivial ?_
      have hB_49 : Below w.heap.size w w_27 := (bgo hB_24 hg_30 hl_31 ((bt (bt hb_2 hb_6) hb_8)).size)
      refine XL_appendAll (c' := c3) (Kd.int .i64) rfl rfl rfl w_27.heap.size 3 (.int .i64 0) 8 Tryd.underlying22 info3 rfl (by decide) (by omega) b d (by kernel_rfl) hr_43 (Kd.C_below hd (bgo hB_39 hg_45 hl_46 (hB_49).size)) (fun _ _ h => h) ((bgo hb_34 hg_45 hl_46 (Nat.le_refl _))).size (by first | omega | (simp only [List.length_append, List.length_cons, List.length_nil]; omega)) ?_
      intro A_50 c_51 w_52 hr_53 hc_54 hg_55 hl_56 ha_57
      have hB_58 : Below w_27.heap.size w_27 w_52 := (bgo (bgo hb_34 hg_45 hl_46 (Nat.le_refl _)) hg_55 hl_56 (Nat.le_refl _))
      refine XL_call 11 rfl rfl rfl ent11 [.slice A_25 ((a ++ c).length) c_26, .slice A_50 ((b ++ d).length) c_51] (by kernel_rfl) (length_n _ _ _ _ _ _ (a ++ c) (b ++ d) _ (Kd.R_C (Kd.R_below hr_28 hB_58)) (Kd.R_C hr_53) (by first | omega | (simp only [List.length_append, List.length_cons, List.length_nil]; omega)) (by first | omega | (simp only [List.length_append, List.length_cons, List.length_nil]; omega))) ?_
      rintro e w_59 ⟨rfl, hb_60⟩; refine ⟨_, rfl, ?_⟩
      refine XL_run 5 [] [(0, .slice A0 a.length c0), (1, .slice A1 b.length c1), (2, .slice A2 c.length c2), (9, .int .i64 (Lm a b : Int)), (10, .nilIface), (11, .int .i64 (Lm c d : Int)), (12, .nilIface), (13, .int .i64 (Lm (a ++ c) (b ++ d) : Int)), (14, .nilIface)] w_59 [] (by kernel_rfl) trivial ?_
      refine XL_nil ?_
      refine X_seq ?_
      refine X_seq ?_
      refine X_region ?_
      refine XL_run 15 [(75, .eq (.int .i64 ((Lm a b : Int) + (Lm c d : Int))))] [(0, .slice A0 a.length c0), (1, .slice A1 b.length c1), (2, .slice A2 c.length c2), (9, .int .i64 (Lm a b : Int)), (71, .bool false), (72, .int .i64 (Lm (a ++ c) (b ++ d) : Int)), (75, .int .i64 ((Lm a b : Int) + (Lm c d : Int)))] w_59 [Value.int .i64 (IntKind.i64.wrap ((Lm a b : Int) + (Lm c d : Int))) = Value.int .i64 ((Lm a b : Int) + (Lm c d : Int))] (by kernel_rfl) ⟨wr_i64 (by omega) (by omega), trivial⟩ ?_
      by_cases c_61 : (Lm (a ++ c) (b ++ d) : Int) < (Lm a b : Int) + (Lm c d : Int)
      · exfalso; omega
      · refine XL_run 2 [(76, .eq (.bool false))] [(0, .slice A0 a.length c0), (1, .slice A1 b.length c1), (2, .slice A2 c.length c2), (9, .int .i64 (Lm a b : Int)), (77, .bool false)] w_59 [Value.bool (decide ((Lm (a ++ c) (b ++ d) : Int) < (Lm a b : Int) + (Lm c d : Int))) = Value.bool false] (by kernel_rfl) ⟨congrArg Value.bool (decide_eq_false (c_61)), trivial⟩ ?_
        refine XL_nil ?_
        refine X_cond false rfl ?_
        refine X_skip ?_
        refine X_seq ?_
        refine X_region ?_
        refine XL_run 1 [] [(0, .slice A0 a.length c0), (1, .slice A1 b.length c1), (2, .slice A2 c.length c2), (9, .int .i64 (Lm a b : Int)), (15, .int .i64 3)] w_59 [] (by kernel_rfl) trivial ?_
        refine XL_nil ?_
        refine X_join (ι := Int) (fun x => [(0, .slice A0 a.length c0), (1, .slice A1 b.length c1), (9, .int .i64 (Lm a b : Int)), (15, .int .i64 x)]) (fun x wj => Below w_59.heap.size w_59 wj) ?_ ?_
        · refine X_seq ?_
          refine X_region ?_
          refine XL_run 2 [] [(0, .slice A0 a.length c0), (1, .slice A1 b.length c1), (2, .slice A2 c.length c2), (9, .int .i64 (Lm a b : Int)), (15, .int .i64 3), (79, .int .i64 (c.length : Int))] w_59 [] (by kernel_rfl) trivial ?_
          by_cases c_62 : (c.length : Int) > 0
          · refine XL_run 1 [(80, .eq (.bool true))] [(0, .slice A0 a.length c0), (1, .slice A1 b.length c1), (2, .slice A2 c.length c2), (9, .int .i64 (Lm a b : Int)), (15, .int .i64 3), (80, .bool true)] w_59 [Value.bool (decide ((c.length : Int) > 0)) = Value.bool true] (by kernel_rfl) ⟨congrArg Value.bool (decide_eq_true (c_62)), trivial⟩ ?_
            refine XL_nil ?_
            refine X_cond true rfl ?_
            refine X_region ?_
            refine XL_run 1 [] [(0, .slice A0 a.length c0), (1, .slice A1 b.length c1), (9, .int .i64 (Lm a b : Int)), (81, .slice A2 c.length c2)] w_59 [] (by kernel_rfl) trivial ?_
            have hB_63 : Below w.heap.size w w_59 := (bt (bgo (bgo hB_39 hg_45 hl_46 (hB_49).size) hg_55 hl_56 (hB_49).size) hb_60)
            obtain ⟨ad_64, ha_65, hc_66⟩ := Kd.atI (Kd.C_below hc hB_63) (i := (0 : Int)) (by omega) (by omega)
            refine XL_run 3 [(82, .idx ad_64), (83, .load (.int .i64 (rd c (0 : Int))))] [(0, .slice A0 a.length c0), (1, .slice A1 b.length c1), (9, .int .i64 (Lm a b : Int)), (15, .int .i64 (rd c (0 : Int)))] w_59 [A2 = some ad_64, (0 : Int) ≤ 0, 0 < (c.length : Int), LoadsAs Tryd.prog 3 (ad_64.add ((0 : Int).toNat * 1)) (.int .i64 (rd c (0 : Int))) w_59] (by kernel_rfl) ⟨ha_65, (by omega), (by omega), loads1 rfl (elem_cell hc_66 0 _ rfl), trivial⟩ ?_
            refine XL_nil ?_
            exact ⟨(rd c (0 : Int)), by kernel_rfl, (Below.refl _ _)⟩
          · refine XL_run 1 [(80, .eq (.bool false))] [(0, .slice A0 a.length c0), (1, .slice A1 b.length c1), (2, .slice A2 c.length c2), (9, .int .i64 (Lm a b : Int)), (15, .int .i64 3), (80, .bool false)] w_59 [Value.bool (decide ((c.length : Int) > 0)) = Value.bool false] (by kernel_rfl) ⟨congrArg Value.bool (decide_eq_false (c_62)), trivial⟩ ?_
            refine XL_nil ?_
            refine X_cond false rfl ?_
            refine X_skip ?_
            exact ⟨3, by kernel_rfl, (Below.refl _ _)⟩
        · rintro x wj HBj
          refine X_seq ?_
          refine X_region ?_
          refine XL_run 1 [] [(0, .slice A0 a.length c0), (1, .slice A1 b.length c1), (9, .int .i64 (Lm a b : Int)), (15, .int .i64 x), (85, .slice (some ⟨wj.heap.size, 0, none⟩) 0 0)] (wj.alloc (.cells #[] 3)) [] (by kernel_rfl) trivial ?_
          obtain ⟨w_67, hw_71, hb_68, hk_69, hz_70⟩ := new_world wj #[] 3
          rw [hw_71]
          refine XL_run 1 [] [(0, .slice A0 a.length c0), (1, .slice A1 b.length c1), (9, .int .i64 (Lm a b : Int)), (15, .int .i64 x), (85, .slice (some ⟨wj.heap.size, 0, none⟩) 0 0), (86, .slice A0 a.length c0)] w_67 [] (by kernel_rfl) trivial ?_
          have hr_72 := Kd.R_litB (Kd.int .i64) (W := wj) (e := 3) (cs := #[]) [] hk_69 (repsInt []) (Nat.le_of_ble_eq_true (by kernel_rfl))
          have hB_73 : Below w.heap.size w w_67 := (bt (bt (bt (bgo (bgo hB_39 hg_45 hl_46 (hB_49).size) hg_55 hl_56 (hB_49).size) hb_60) HBj) hb_68)
          refine XL_appendAll (c' := c0) (Kd.int .i64) rfl rfl rfl wj.heap.size 3 (.int .i64 0) 8 Tryd.underlying22 info3 rfl (by decide) (by omega) ([]) a (by kernel_rfl) hr_72 (Kd.C_below ha hB_73) (fun _ _ h => h) (hb_68).size (by first | omega | (simp; omega)) ?_
          intro A_74 c_75 w_76 hr_77 hc_78 hg_79 hl_80 ha_81
          have hB_82 : Below w_52.heap.size w_52 w_76 := (bgo (bt (bt hb_60 HBj) hb_68) hg_79 hl_80 ((bt hb_60 HBj)).size)
          have hB_83 : Below w_27.heap.size w_27 w_76 := (bgo (bt (bt (bt hB_58 hb_60) HBj) hb_68) hg_79 hl_80 ((bt (bt hB_58 hb_60) HBj)).size)
          have he_84 : ([] ++ a) = a := List.nil_append _
          rw [he_84] at hr_77 ⊢
          refine XL_run 2 [] [(0, .slice A0 a.length c0), (1, .slice A1 b.length c1), (9, .int .i64 (Lm a b : Int)), (15, .int .i64 x), (87, .slice A_74 a.length c_75), (89, .slice (some ⟨w_76.heap.size, 0, none⟩) 1 1)] (w_76.alloc (.cells #[.int .i64 x] 3)) [] (by kernel_rfl) trivial ?_
          obtain ⟨w_85, hw_89, hb_86, hk_87, hz_88⟩ := new_world w_76 #[.int .i64 x] 3
          rw [hw_89]
          rw [← hw_89]
          refine XL_append (Kd.int .i64) rfl rfl rfl wj.heap.size 3 (.int .i64 0) 8 Tryd.underlying22 info3 rfl (by decide) (by omega) a x [.int .i64 x] (fun _ => False) (by kernel_rfl) rfl (fun _ h => h.elim) hr_77 ((bgo hb_68 hg_79 hl_80 (Nat.le_refl _))).size (by first | omega | (simp only [List.length_append, List.length_cons, List.length_nil]; omega)) ?_
          intro A_90 c_91 w_92 hr_93 hc_94 hg_95 hl_96 ha_97
          have hB_98 : Below w_52.heap.size w_52 w_92 := (bgo hB_82 hg_95 hl_96 ((bt hb_60 HBj)).size)
          have hB_99 : Below w_27.heap.size w_27 w_92 := (bgo hB_83 hg_95 hl_96 ((bt (bt hB_58 hb_60) HBj)).size)
          refine XL_run 1 [] [(0, .slice A0 a.length c0), (1, .slice A1 b.length c1), (9, .int .i64 (Lm a b : Int)), (15, .int .i64 x), (90, .slice A_90 ((a ++ [x]).length) c_91), (91, .slice A1 b.length c1)] w_92 [] (by kernel_rfl) trivial ?_
          have hB_100 : Below w.heap.size w wj := (bt (bt (bgo (bgo hB_39 hg_45 hl_46 (hB_49).size) hg_55 hl_56 (hB_49).size) hb_60) HBj)
          have hB_101 : Below w.heap.size w w_92 := (bgo (bgo hB_73 hg_79 hl_80 (hB_100).size) hg_95 hl_96 (hB_100).size)
          refine XL_call 11 rfl rfl rfl ent11 [.slice A_90 ((a ++ [x]).length) c_91, .slice A1 b.length c1] (by kernel_rfl) (length_n _ _ _ _ _ _ (a ++ [x]) b _ (Kd.R_C hr_93) (Kd.C_below hb hB_101) (by first | omega | (simp only [List.length_append, List.length_cons, List.length_nil]; omega)) (by first | omega | (simp only [List.length_append, List.length_cons, List.length_nil]; omega))) ?_
          rintro e w_102 ⟨rfl, hb_103⟩; refine ⟨_, rfl, ?_⟩
          refine XL_run 5 [] [(0, .slice A0 a.length c0), (1, .slice A1 b.length c1), (9, .int .i64 (Lm a b : Int)), (10, .nilIface), (15, .int .i64 x), (16, .int .i64 (Lm (a ++ [x]) b : Int))] w_102 [] (by kernel_rfl) trivial ?_
          refine XL_nil ?_
          refine X_seq ?_
          refine X_region ?_
          refine XL_run 1 [] [(0, .slice A0 a.length c0), (1, .slice A1 b.length c1), (9, .int .i64 (Lm a b : Int)), (10, .nilIface), (15, .int .i64 x), (16, .int .i64 (Lm (a ++ [x]) b : Int)), (96, .slice (some ⟨w_102.heap.size, 0, none⟩) 0 0)] (w_102.alloc (.cells #[] 3)) [] (by kernel_rfl) trivial ?_
          obtain ⟨w_104, hw_108, hb_105, hk_106, hz_107⟩ := new_world w_102 #[] 3
          rw [hw_108]
          refine XL_run 1 [] [(0, .slice A0 a.length c0), (1, .slice A1 b.length c1), (9, .int .i64 (Lm a b : Int)), (10, .nilIface), (15, .int .i64 x), (16, .int .i64 (Lm (a ++ [x]) b : Int)), (96, .slice (some ⟨w_102.heap.size, 0, none⟩) 0 0), (97, .slice A0 a.length c0)] w_104 [] (by kernel_rfl) trivial ?_
          have hr_109 := Kd.R_litB (Kd.int .i64) (W := w_102) (e := 3) (cs := #[]) [] hk_106 (repsInt []) (Nat.le_of_ble_eq_true (by kernel_rfl))
          refine XL_appendAll (c' := c0) (Kd.int .i64) rfl rfl rfl w_102.heap.size 3 (.int .i64 0) 8 Tryd.underlying22 info3 rfl (by decide) (by omega) ([]) a (by kernel_rfl) hr_109 (Kd.C_below ha (bt (bt hB_101 hb_103) hb_105)) (fun _ _ h => h) (hb_105).size (by first | omega | (simp; omega)) ?_
          intro A_110 c_111 w_112 hr_113 hc_114 hg_115 hl_116 ha_117
          have hB_118 : Below w_92.heap.size w_92 w_112 := (bgo (bt hb_103 hb_105) hg_115 hl_116 (hb_103).size)
          have hB_119 : Below w_52.heap.size w_52 w_112 := (bgo (bt (bt hB_98 hb_103) hb_105) hg_115 hl_116 ((bt hB_98 hb_103)).size)
          have hB_120 : Below w_27.heap.size w_27 w_112 := (bgo (bt (bt hB_99 hb_103) hb_105) hg_115 hl_116 ((bt hB_99 hb_103)).size)
          have he_121 : ([] ++ a) = a := List.nil_append _
          rw [he_121] at hr_113 ⊢
          refine XL_run 2 [] [(0, .slice A0 a.length c0), (1, .slice A1 b.length c1), (9, .int .i64 (Lm a b : Int)), (10, .nilIface), (15, .int .i64 x), (16, .int .i64 (Lm (a ++ [x]) b : Int)), (98, .slice A_110 a.length c_111), (100, .slice (some ⟨w_112.heap.size, 0, none⟩) 1 1)] (w_112.alloc (.cells #[.int .i64 x] 3)) [] (by kernel_rfl) trivial ?_
          obtain ⟨w_122, hw_126, hb_123, hk_124, hz_125⟩ := new_world w_112 #[.int .i64 x] 3
          rw [hw_126]
          rw [← hw_126]
          have hB_135 : Below w_102.heap.size w_102 w_112 := (bgo hb_105 hg_115 hl_116 (Nat.le_refl _))
          refine XL_append (Kd.int .i64) rfl rfl rfl w_102.heap.size 3 (.int .i64 0) 8 Tryd.underlying22 info3 rfl (by decide) (by omega) a x [.int .i64 x] (fun _ => False) (by kernel_rfl) rfl (fun _ h => h.elim) hr_113 (hB_135).size (by first | omega | (simp only [List.length_append, List.length_cons, List.length_nil]; omega)) ?_
          intro A_127 c_128 w_129 hr_130 hc_131 hg_132 hl_133 ha_134
          have hB_136 : Below w_52.heap.size w_52 w_129 := (bgo hB_119 hg_132 hl_133 ((bt hB_98 hb_103)).size)
          have hB_137 : Below w_27.heap.size w_27 w_129 := (bgo hB_120 hg_132 hl_133 ((bt hB_99 hb_103)).size)
          refine XL_run 1 [] [(0, .slice A0 a.length c0), (1, .slice A1 b.length c1), (9, .int .i64 (Lm a b : Int)), (10, .nilIface), (15, .int .i64 x), (16, .int .i64 (Lm (a ++ [x]) b : Int)), (101, .slice A_127 ((a ++ [x]).length) c_128), (102, .slice (some ⟨w_129.heap.size, 0, none⟩) 0 0)] (w_129.alloc (.cells #[] 3)) [] (by kernel_rfl) trivial ?_
          obtain ⟨w_138, hw_142, hb_139, hk_140, hz_141⟩ := new_world w_129 #[] 3
          rw [hw_142]
          refine XL_run 1 [] [(0, .slice A0 a.length c0), (1, .slice A1 b.length c1), (9, .int .i64 (Lm a b : Int)), (10, .nilIface), (15, .int .i64 x), (16, .int .i64 (Lm (a ++ [x]) b : Int)), (101, .slice A_127 ((a ++ [x]).length) c_128), (102, .slice (some ⟨w_129.heap.size, 0, none⟩) 0 0), (103, .slice A1 b.length c1)] w_138 [] (by kernel_rfl) trivial ?_
          have hr_143 := Kd.R_litB (Kd.int .i64) (W := w_129) (e := 3) (cs := #[]) [] hk_140 (repsInt []) (Nat.le_of_ble_eq_true (by kernel_rfl))
          have hB_144 : Below w.heap.size w w_138 := (bt (bgo (bgo (bt (bt hB_101 hb_103) hb_105) hg_115 hl_116 ((bt hB_101 hb_103)).size) hg_132 hl_133 ((bt hB_101 hb_103)).size) hb_139)
          refine XL_appendAll (c' := c1) (Kd.int .i64) rfl rfl rfl w_129.heap.size 3 (.int .i64 0) 8 Tryd.underlying22 info3 rfl (by decide) (by omega) ([]) b (by kernel_rfl) hr_143 (Kd.C_below hb hB_144) (fun _ _ h => h) (hb_139).size (by first | omega | (simp; omega)) ?_
          intro A_145 c_146 w_147 hr_148 hc_149 hg_150 hl_151 ha_152
          have hB_153 : Below w_129.heap.size w_129 w_147 := (bgo hb_139 hg_150 hl_151 (Nat.le_refl _))
          have hB_154 : Below w_92.heap.size w_92 w_147 := (bgo (bt (bgo hB_118 hg_132 hl_133 (hb_103).size) hb_139) hg_150 hl_151 ((bgo hB_118 hg_132 hl_133 (hb_103).size)).size)
          have hB_155 : Below w_52.heap.size w_52 w_147 := (bgo (bt hB_136 hb_139) hg_150 hl_151 (hB_136).size)
          have hB_156 : Below w_27.heap.size w_27 w_147 := (bgo (bt hB_137 hb_139) hg_150 hl_151 (hB_137).size)
          have he_157 : ([] ++ b) = b := List.nil_append _
          rw [he_157] at hr_148 ⊢
          refine XL_run 2 [] [(0, .slice A0 a.length c0), (1, .slice A1 b.length c1), (9, .int .i64 (Lm a b : Int)), (10, .nilIface), (15, .int .i64 x), (16, .int .i64 (Lm (a ++ [x]) b : Int)), (101, .slice A_127 ((a ++ [x]).length) c_128), (104, .slice A_145 b.length c_146), (106, .slice (some ⟨w_147.heap.size, 0, none⟩) 1 1)] (w_147.alloc (.cells #[.int .i64 x] 3)) [] (by kernel_rfl) trivial ?_
          obtain ⟨w_158, hw_162, hb_159, hk_160, hz_161⟩ := new_world w_147 #[.int .i64 x] 3
          rw [hw_162]
          rw [← hw_162]
          refine XL_append (Kd.int .i64) rfl rfl rfl w_129.heap.size 3 (.int .i64 0) 8 Tryd.underlying22 info3 rfl (by decide) (by omega) b x [.int .i64 x] (fun _ => False) (by kernel_rfl) rfl (fun _ h => h.elim) hr_148 (hB_153).size (by first | omega | (simp only [List.length_append, List.length_cons, List.length_nil]; omega)) ?_
          intro A_163 c_164 w_165 hr_166 hc_167 hg_168 hl_169 ha_170
          have hB_171 : Below w_129.heap.size w_129 w_165 := (bgo hB_153 hg_168 hl_169 (Nat.le_refl _))
          have hB_172 : Below w_92.heap.size w_92 w_165 := (bgo hB_154 hg_168 hl_169 ((bgo hB_118 hg_132 hl_133 (hb_103).size)).size)
          refine XL_call 11 rfl rfl rfl ent11 [.slice A_127 ((a ++ [x]).length) c_128, .slice A_163 ((b ++ [x]).length) c_164] (by kernel_rfl) (length_n _ _ _ _ _ _ (a ++ [x]) (b ++ [x]) _ (Kd.R_C (Kd.R_below hr_130 hB_171)) (Kd.R_C hr_166) (by first | omega | (simp only [List.length_append, List.length_cons, List.length_nil]; omega)) (by first | omega | (simp only [List.length_append, List.length_cons, List.length_nil]; omega))) ?_
          rintro e w_173 ⟨rfl, hb_174⟩; refine ⟨_, rfl, ?_⟩
          refine XL_run 5 [] [(0, .slice A0 a.length c0), (1, .slice A1 b.length c1), (9, .int .i64 (Lm a b : Int)), (10, .nilIface), (12, .nilIface), (15, .int .i64 x), (16, .int .i64 (Lm (a ++ [x]) b : Int)), (17, .int .i64 (Lm (a ++ [x]) (b ++ [x]) : Int))] w_173 [] (by kernel_rfl) trivial ?_
          refine XL_nil ?_
          refine X_seq ?_
          refine X_region ?_
          refine XL_run 2 [] [(0, .slice A0 a.length c0), (1, .slice A1 b.length c1), (9, .int .i64 (Lm a b : Int)), (10, .nilIface), (12, .nilIface), (15, .int .i64 x), (16, .int .i64 (Lm (a ++ [x]) b : Int)), (17, .int .i64 (Lm (a ++ [x]) (b ++ [x]) : Int)), (113, .slice (some ⟨w_173.heap.size, 0, none⟩) 1 1)] (w_173.alloc (.cells #[.int .i64 x] 3)) [] (by kernel_rfl) trivial ?_
          obtain ⟨w_175, hw_179, hb_176, hk_177, hz_178⟩ := new_world w_173 #[.int .i64 x] 3
          rw [hw_179]
          refine XL_run 1 [] [(1, .slice A1 b.length c1), (9, .int .i64 (Lm a b : Int)), (10, .nilIface), (12, .nilIface), (15, .int .i64 x), (16, .int .i64 (Lm (a ++ [x]) b : Int)), (17, .int .i64 (Lm (a ++ [x]) (b ++ [x]) : Int)), (113, .slice (some ⟨w_173.heap.size, 0, none⟩) 1 1), (114, .slice A0 a.length c0)] w_175 [] (by kernel_rfl) trivial ?_
          have hr_180 := Kd.R_litB (Kd.int .i64) (W := w_173) (e := 3) (cs := #[.int .i64 x]) [x] hk_177 (repsInt [x]) (Nat.le_of_ble_eq_true (by kernel_rfl))
          have hB_181 : Below w.heap.size w w_129 := (bgo (bgo (bt (bt hB_101 hb_103) hb_105) hg_115 hl_116 ((bt hB_101 hb_103)).size) hg_132 hl_133 ((bt hB_101 hb_103)).size)
          have hB_182 : Below w.heap.size w w_175 := (bt (bt (bgo (bgo hB_144 hg_150 hl_151 (hB_181).size) hg_168 hl_169 (hB_181).size) hb_174) hb_176)
          refine XL_appendAll (c' := c0) (Kd.int .i64) rfl rfl rfl w_173.heap.size 3 (.int .i64 0) 8 Tryd.underlying22 info3 rfl (by decide) (by omega) ([x]) a (by kernel_rfl) hr_180 (Kd.C_below ha hB_182) (fun _ _ h => h) (hb_176).size (by first | omega | (simp only [List.length_append, List.length_cons, List.length_nil]; omega)) ?_
          intro A_183 c_184 w_185 hr_186 hc_187 hg_188 hl_189 ha_190
          have hB_191 : Below w_165.heap.size w_165 w_185 := (bgo (bt hb_174 hb_176) hg_188 hl_189 (hb_174).size)
          have hB_192 : Below w_129.heap.size w_129 w_185 := (bgo (bt (bt hB_171 hb_174) hb_176) hg_188 hl_189 ((bt hB_171 hb_174)).size)
          have hB_193 : Below w_92.heap.size w_92 w_185 := (bgo (bt (bt hB_172 hb_174) hb_176) hg_188 hl_189 ((bt hB_172 hb_174)).size)
          have hB_194 : Below w_52.heap.size w_52 w_173 := (bt (bgo hB_155 hg_168 hl_169 (hB_136).size) hb_174)
          have hB_195 : Below w_52.heap.size w_52 w_185 := (bgo (bt (bt (bgo hB_155 hg_168 hl_169 (hB_136).size) hb_174) hb_176) hg_188 hl_189 (hB_194).size)
          have hB_196 : Below w_27.heap.size w_27 w_173 := (bt (bgo hB_156 hg_168 hl_169 (hB_137).size) hb_174)
          have hB_197 : Below w_27.heap.size w_27 w_185 := (bgo (bt (bt (bgo hB_156 hg_168 hl_169 (hB_137).size) hb_174) hb_176) hg_188 hl_189 (hB_196).size)
          refine XL_run 2 [] [(1, .slice A1 b.length c1), (9, .int .i64 (Lm a b : Int)), (10, .nilIface), (12, .nilIface), (16, .int .i64 (Lm (a ++ [x]) b : Int)), (17, .int .i64 (Lm (a ++ [x]) (b ++ [x]) : Int)), (115, .slice A_183 (([x] ++ a).length) c_184), (117, .slice (some ⟨w_185.heap.size, 0, none⟩) 1 1)] (w_185.alloc (.cells #[.int .i64 x] 3)) [] (by kernel_rfl) trivial ?_
          obtain ⟨w_198, hw_202, hb_199, hk_200, hz_201⟩ := new_world w_185 #[.int .i64 x] 3
          rw [hw_202]
          refine XL_run 1 [] [(9, .int .i64 (Lm a b : Int)), (10, .nilIface), (12, .nilIface), (16, .int .i64 (Lm (a ++ [x]) b : Int)), (17, .int .i64 (Lm (a ++ [x]) (b ++ [x]) : Int)), (115, .slice A_183 (([x] ++ a).length) c_184), (117, .slice (some ⟨w_185.heap.size, 0, none⟩) 1 1), (118, .slice A1 b.length c1)] w_198 [] (by kernel_rfl) trivial ?_
          have hr_203 := Kd.R_litB (Kd.int .i64) (W := w_185) (e := 3) (cs := #[.int .i64 x]) [x] hk_200 (repsInt [x]) (Nat.le_of_ble_eq_true (by kernel_rfl))
          have hB_204 : Below w.heap.size w w_173 := (bt (bgo (bgo hB_144 hg_150 hl_151 (hB_181).size) hg_168 hl_169 (hB_181).size) hb_174)
          have hB_205 : Below w.heap.size w w_198 := (bt (bgo hB_182 hg_188 hl_189 (hB_204).size) hb_199)
          refine XL_appendAll (c' := c1) (Kd.int .i64) rfl rfl rfl w_185.heap.size 3 (.int .i64 0) 8 Tryd.underlying22 info3 rfl (by decide) (by omega) ([x]) b (by kernel_rfl) hr_203 (Kd.C_below hb hB_205) (fun _ _ h => h) (hb_199).size (by first | omega | (simp only [List.length_append, List.length_cons, List.length_nil]; omega)) ?_
          intro A_206 c_207 w_208 hr_209 hc_210 hg_211 hl_212 ha_213
          have hB_214 : Below w_185.heap.size w_185 w_208 := (bgo hb_199 hg_211 hl_212 (Nat.le_refl _))
          have hB_215 : Below w_165.heap.size w_165 w_208 := (bgo (bt hB_191 hb_199) hg_211 hl_212 (hB_191).size)
          have hB_216 : Below w_129.heap.size w_129 w_208 := (bgo (bt hB_192 hb_199) hg_211 hl_212 (hB_192).size)
          have hB_217 : Below w_92.heap.size w_92 w_208 := (bgo (bt hB_193 hb_199) hg_211 hl_212 (hB_193).size)
          have hB_218 : Below w_52.heap.size w_52 w_208 := (bgo (bt hB_195 hb_199) hg_211 hl_212 (hB_195).size)
          have hB_219 : Below w_27.heap.size w_27 w_208 := (bgo (bt hB_197 hb_199) hg_211 hl_212 (hB_197).size)
          refine XL_call 11 rfl rfl rfl ent11 [.slice A_183 (([x] ++ a).length) c_184, .slice A_206 (([x] ++ b).length) c_207] (by kernel_rfl) (length_n _ _ _ _ _ _ ([x] ++ a) ([x] ++ b) _ (Kd.R_C (Kd.R_below hr_186 hB_214)) (Kd.R_C hr_209) (by first | omega | (simp only [List.length_append, List.length_cons, List.length_nil]; omega)) (by first | omega | (simp only [List.length_append, List.length_cons, List.length_nil]; omega))) ?_
          rintro e w_220 ⟨rfl, hb_221⟩; refine ⟨_, rfl, ?_⟩
          refine XL_run 5 [] [(9, .int .i64 (Lm a b : Int)), (10, .nilIface), (12, .nilIface), (14, .nilIface), (16, .int .i64 (Lm (a ++ [x]) b : Int)), (17, .int .i64 (Lm (a ++ [x]) (b ++ [x]) : Int)), (18, .int .i64 (Lm ([x] ++ a) ([x] ++ b) : Int))] w_220 [] (by kernel_rfl) trivial ?_
          refine XL_nil ?_
          refine X_seq ?_
          refine X_region ?_
          refine XL_run 13 [] [(9, .int .i64 (Lm a b : Int)), (16, .int .i64 (Lm (a ++ [x]) b : Int)), (17, .int .i64 (Lm (a ++ [x]) (b ++ [x]) : Int)), (18, .int .i64 (Lm ([x] ++ a) ([x] ++ b) : Int)), (133, .bool true), (134, .int .i64 (Lm (a ++ [x]) b : Int)), (135, .int .i64 (Lm a b : Int))] w_220 [] (by kernel_rfl) trivial ?_
          by_cases c_222 : (Lm (a ++ [x]) b : Int) = (Lm a b : Int)
          · refine XL_run 21 [(136, .eq (.bool true)), (147, .eq (.int .i64 ((Lm a b : Int) + 1))), (148, .eq (.bool true)), (153, .eq (.int .i64 ((Lm a b : Int) + 1))), (154, .eq (.bool true))] [(8, .bool true)] w_220 [Value.bool ((Lm (a ++ [x]) b : Int) == (Lm a b : Int)) = Value.bool true, Value.int .i64 (IntKind.i64.wrap ((Lm a b : Int) + 1)) = Value.int .i64 ((Lm a b : Int) + 1), Value.bool ((Lm (a ++ [x]) (b ++ [x]) : Int) == (Lm a b : Int) + 1) = Value.bool true, Value.int .i64 (IntKind.i64.wrap ((Lm a b : Int) + 1)) = Value.int .i64 ((Lm a b : Int) + 1), Value.bool ((Lm ([x] ++ a) ([x] ++ b) : Int) == (Lm a b : Int) + 1) = Value.bool true] (by kernel_rfl) ⟨congrArg Value.bool (beq_iff_eq.2 (c_222)), wr_i64 (by omega) (by omega), congrArg Value.bool (beq_iff_eq.2 ((by rw [Lm_both]; omega))), wr_i64 (by omega) (by omega), congrArg Value.bool (beq_iff_eq.2 ((by rw [Lm_front]; omega))), trivial⟩ ?_
            refine XL_nil ?_
            refine X_ret ?_
            refine RX.ret_ok (P := Tryd.prog) (fn := Tryd.f6) (N := 156) (R := R_) [.bool true] (by kernel_rfl) (hR_ _ _ ?_)
            have hB_223 : Below w.heap.size w w_220 := (bt (bgo hB_205 hg_211 hl_212 ((bgo hB_182 hg_188 hl_189 (hB_204).size)).size) hb_221)
            exact ⟨rfl, hB_223⟩
          · refine XL_run 5 [(136, .eq (.bool false)), (140, .eq (.int .i64 ((Lm a b : Int) + 1)))] [(9, .int .i64 (Lm a b : Int)), (17, .int .i64 (Lm (a ++ [x]) (b ++ [x]) : Int)), (18, .int .i64 (Lm ([x] ++ a) ([x] ++ b) : Int)), (133, .bool true), (137, .bool false), (138, .int .i64 (Lm (a ++ [x]) b : Int)), (140, .int .i64 ((Lm a b : Int) + 1))] w_220 [Value.bool ((Lm (a ++ [x]) b : Int) == (Lm a b : Int)) = Value.bool false, Value.int .i64 (IntKind.i64.wrap ((Lm a b : Int) + 1)) = Value.int .i64 ((Lm a b : Int) + 1)] (by kernel_rfl) ⟨congrArg Value.bool (beq_eq_false_iff_ne.2 (c_222)), wr_i64 (by omega) (by omega), trivial⟩ ?_
            by_cases c_224 : (Lm (a ++ [x]) b : Int) = (Lm a b : Int) + 1
            · refine XL_run 16 [(141, .eq (.bool true)), (147, .eq (.int .i64 ((Lm a b : Int) + 1))), (148, .eq (.bool true)), (153, .eq (.int .i64 ((Lm a b : Int) + 1))), (154, .eq (.bool true))] [(8, .bool true)] w_220 [Value.bool ((Lm (a ++ [x]) b : Int) == (Lm a b : Int) + 1) = Value.bool true, Value.int .i64 (IntKind.i64.wrap ((Lm a b : Int) + 1)) = Value.int .i64 ((Lm a b : Int) + 1), Value.bool ((Lm (a ++ [x]) (b ++ [x]) : Int) == (Lm a b : Int) + 1) = Value.bool true, Value.int .i64 (IntKind.i64.wrap ((Lm a b : Int) + 1)) = Value.int .i64 ((Lm a b : Int) + 1), Value.bool ((Lm ([x] ++ a) ([x] ++ b) : Int) == (Lm a b : Int) + 1) = Value.bool true] (by kernel_rfl) ⟨congrArg Value.bool (beq_iff_eq.2 (c_224)), wr_i64 (by omega) (by omega), congrArg Value.bool (beq_iff_eq.2 ((by rw [Lm_both]; omega))), wr_i64 (by omega) (by omega), congrArg Value.bool (beq_iff_eq.2 ((by rw [Lm_front]; omega))), trivial⟩ ?_
              refine XL_nil ?_
              refine X_ret ?_
              refine RX.ret_ok (P := Tryd.prog) (fn := Tryd.f6) (N := 156) (R := R_) [.bool true] (by kernel_rfl) (hR_ _ _ ?_)
              have hB_225 : Below w.heap.size w w_220 := (bt (bgo hB_205 hg_211 hl_212 ((bgo hB_182 hg_188 hl_189 (hB_204).size)).size) hb_221)
              exact ⟨rfl, hB_225⟩
            · exfalso
              have k6 := Lm_snoc a b (x)
              omega
end Go.Proofs.YtmhkeojbjliieaaDoor
