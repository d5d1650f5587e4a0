/- What MatchChecks answers. Conditions: Errs, bounds on lengths. -/
import Derived.Test.YtmhkeojbjliieaaDoorV6
set_option linter.unusedVariables false
set_option linter.unusedSimpArgs false
set_option maxRecDepth 100000
namespace Go.Proofs.YtmhkeojbjliieaaDoor
open Go.RowKit Go.Proofs.YtmhkeojbjliieaaDoorW.PrintWords MM RX
theorem getD_app {α : Type} (xs ys : List α) (z : α) (i : Nat) (h : i < xs.length) : (xs ++ ys).getD i z = xs.getD i z := by
  simp [List.getD_eq_getElem?_getD, List.getElem?_append_left h]
theorem getD_len {α : Type} (xs : List α) (y z : α) : (xs ++ [y]).getD xs.length z = y := by simp [List.getD_eq_getElem?_getD]
theorem checks_small (A A' A2 : Option Addr) (c c' c2 : Nat) (a b : List Int) (ps : List (Int × Int)) (w : World) (ha : (Kd.int .i64).C w A a.length a) (hb : (Kd.int .i64).C w A' b.length b) (hp : kPair.C w A2 ps.length ps) (es : List Addr) (hE : Errs w es) (hpl : ps.length ≤ 1048576) (hla : a.length ≤ 1024) (hlb : b.length ≤ 1024) :
    Calls Tryd.prog 4 #[.slice A a.length c, .slice A' b.length c', .slice A2 ps.length c2] w fun e w' => e = .returned (.bool true) ∧ Below w.heap.size w w' := by
  refine RX.enter Tryd.func4 rfl 74 rfl [(0, .slice A a.length c), (1, .slice A' b.length c'), (2, .slice A2 ps.length c2)] rfl (by kernel_rfl) (fun R_ hR_ => ?_)
  refine X_seq ?_
  refine X_region ?_
  refine XL_run 1 [] [(0, .slice A a.length c), (1, .slice A' b.length c'), (2, .slice A2 ps.length c2)] w [] (by kernel_rfl) trivial ?_
  refine XL_nil ?_
  refine X_seq ?_
  refine X_seq ?_
  refine X_region ?_
  refine XL_call 7 rfl rfl rfl ent7 [] (by kernel_rfl) (lives_any es _ (hE.below (Below.refl _ _))) ?_
  rintro e w_1 ⟨rfl, hb_2⟩; refine ⟨_, rfl, ?_⟩
  refine XL_run 1 [] [(0, .slice A a.length c), (1, .slice A' b.length c'), (2, .slice A2 ps.length c2), (13, .bool false)] w_1 [] (by kernel_rfl) trivial ?_
  refine XL_nil ?_
  refine X_cond false rfl ?_
  refine X_skip ?_
  refine X_seq ?_
  refine X_region ?_
  refine XL_run 1 [] [(0, .slice A a.length c), (1, .slice A' b.length c'), (2, .slice A2 ps.length c2), (14, .slice (some ⟨w_1.heap.size, 0, none⟩) 0 0)] (w_1.alloc (.cells #[] 35)) [] (by kernel_rfl) trivial ?_
  obtain ⟨w_3, hw_7, hb_4, hk_5, hz_6⟩ := new_world w_1 #[] 35
  rw [hw_7]
  refine XL_run 1 [] [(0, .slice A a.length c), (1, .slice A' b.length c'), (2, .slice A2 ps.length c2), (14, .slice (some ⟨w_1.heap.size, 0, none⟩) 0 0), (15, .slice A2 ps.length c2)] w_3 [] (by kernel_rfl) trivial ?_
  have hr_8 := Kd.R_litB kPair (W := w_1) (e := 35) (cs := #[]) [] hk_5 (repsPair []) (Nat.le_of_ble_eq_true (by kernel_rfl))
  refine XL_appendAll (c' := c2) kPair rfl rfl rfl w_1.heap.size 35 (.agg #[.int .i64 0, .int .i64 0]) 16 Tryd.underlying25 info35 rfl (by decide) (by omega) ([]) ps (by kernel_rfl) hr_8 (Kd.C_below hp (bt hb_2 hb_4)) kPair_KM (hb_4).size (by first | omega | (simp; omega)) ?_
  intro A_9 c_10 w_11 hr_12 hc_13 hg_14 hl_15 ha_16
  have he_17 : ([] ++ ps) = ps := List.nil_append _
  rw [he_17] at hr_12 ⊢
  refine XL_run 2 [] [(0, .slice A a.length c), (1, .slice A' b.length c'), (2, .slice A2 ps.length c2), (16, .slice A_9 ps.length c_10), (18, .slice (some ⟨w_11.heap.size, 0, none⟩) 1 1)] (w_11.alloc (.cells #[.int .i64 5, .int .i64 6] 35)) [] (by kernel_rfl) trivial ?_
  obtain ⟨w_18, hw_22, hb_19, hk_20, hz_21⟩ := new_world w_11 #[.int .i64 5, .int .i64 6] 35
  rw [hw_22]
  rw [← hw_22]
  refine XL_append kPair rfl rfl rfl w_1.heap.size 35 (.agg #[.int .i64 0, .int .i64 0]) 16 Tryd.underlying25 info35 rfl (by decide) (by omega) ps (5, 6) [.int .i64 5, .int .i64 6] (fun _ => False) (by kernel_rfl) (kPair_M _ _ _ _) (fun _ h => h.elim) hr_12 ((bgo hb_4 hg_14 hl_15 (Nat.le_refl _))).size (by first | omega | (simp; omega)) ?_
  intro A_23 c_24 w_25 hr_26 hc_27 hg_28 hl_29 ha_30
  refine XL_run 1 [] [(0, .slice A a.length c), (1, .slice A' b.length c'), (2, .slice A2 ps.length c2), (7, .slice A_23 ((ps ++ [(5, 6)]).length) c_24)] w_25 [] (by kernel_rfl) trivial ?_
  refine XL_nil ?_
  refine X_seq ?_
  refine X_seq ?_
  refine X_region ?_
  have hC_31 : kPair.C w_25 A_23 ps.length ps := by have h := RX.Kd.C_take (m := ps.length) (Kd.R_C hr_26) (by first | omega | (simp; done) | (simp; omega)); rwa [show (List.take ps.length (ps ++ [(5, 6)])) = ps from by simp] at h
  refine XL_run 6 [(25, .as (.slice A_23 ps.length c_24))] [(0, .slice A a.length c), (1, .slice A' b.length c'), (2, .slice A2 ps.length c2), (7, .slice A_23 ((ps ++ [(5, 6)]).length) c_24), (20, .slice A a.length c), (21, .slice A' b.length c'), (25, .slice A_23 ps.length c_24)] w_25 [RunsAs Tryd.prog [(22, .slice A_23 ((ps ++ [(5, 6)]).length) c_24), (24, .int .i64 (ps.length : Int))] (Go.Op.slice 25 (Go.Operand.tmp 22) none (some (Go.Operand.tmp 24)) none) 25 (.slice A_23 ps.length c_24) w_25] (by kernel_rfl) ⟨runs_slice_h (h := (ps.length : Int)) rfl rfl rfl rfl (by omega) (by have h := hc_27; (try simp only [List.length_append, List.length_cons, List.length_nil] at h); omega), trivial⟩ ?_
  refine XL_call 17 rfl rfl rfl ent17 [.slice A a.length c, .slice A' b.length c', .slice A_23 ps.length c_24] (by kernel_rfl) (check_n _ _ _ _ _ _ _ _ _ a b ps _ (Kd.C_below ha (bgo (bgo (bt hb_2 hb_4) hg_14 hl_15 (hb_2).size) hg_28 hl_29 (hb_2).size)) (Kd.C_below hb (bgo (bgo (bt hb_2 hb_4) hg_14 hl_15 (hb_2).size) hg_28 hl_29 (hb_2).size)) hC_31 es (hE.below (bgo (bgo (bt hb_2 hb_4) hg_14 hl_15 (hb_2).size) hg_28 hl_29 (hb_2).size))) ?_
  rintro e w_32 ⟨rfl, hb_33⟩; refine ⟨_, rfl, ?_⟩
  refine XL_call 16 rfl rfl rfl ent16 [errV es (chk a b ps)] (by kernel_rfl) (num_any es (chk a b ps) (chk_le _ _ _) _ (hE.below (bt (bgo (bgo (bt hb_2 hb_4) hg_14 hl_15 (hb_2).size) hg_28 hl_29 (hb_2).size) hb_33))) ?_
  rintro e w_34 ⟨rfl, hb_35⟩; refine ⟨_, rfl, ?_⟩
  refine XL_run 3 [] [(0, .slice A a.length c), (1, .slice A' b.length c'), (2, .slice A2 ps.length c2), (7, .slice A_23 ((ps ++ [(5, 6)]).length) c_24), (27, .int .i64 (chk a b ps : Int)), (28, .slice A a.length c), (29, .slice A' b.length c'), (30, .slice A2 ps.length c2)] w_34 [] (by kernel_rfl) trivial ?_
  refine XL_call 14 rfl rfl rfl ent14 [.slice A a.length c, .slice A' b.length c', .slice A2 ps.length c2] (by kernel_rfl) (refCheck_n _ _ _ _ _ _ _ _ _ a b ps _ (Kd.C_below ha (bt (bt (bgo (bgo (bt hb_2 hb_4) hg_14 hl_15 (hb_2).size) hg_28 hl_29 (hb_2).size) hb_33) hb_35)) (Kd.C_below hb (bt (bt (bgo (bgo (bt hb_2 hb_4) hg_14 hl_15 (hb_2).size) hg_28 hl_29 (hb_2).size) hb_33) hb_35)) (Kd.C_below hp (bt (bt (bgo (bgo (bt hb_2 hb_4) hg_14 hl_15 (hb_2).size) hg_28 hl_29 (hb_2).size) hb_33) hb_35))) ?_
  rintro e w_36 ⟨rfl, hb_37⟩; refine ⟨_, rfl, ?_⟩
  refine XL_run 5 [(32, .eq (.bool false))] [(0, .slice A a.length c), (1, .slice A' b.length c'), (2, .slice A2 ps.length c2), (7, .slice A_23 ((ps ++ [(5, 6)]).length) c_24), (33, .bool false), (34, .slice A_23 ((ps ++ [(5, 6)]).length) c_24), (36, .int .i64 (ps.length : Int))] w_36 [Value.bool ((chk a b ps : Int) != (chk a b ps : Int)) = Value.bool false] (by kernel_rfl) ⟨congrArg Value.bool (bneF rfl), trivial⟩ ?_
  obtain ⟨ad_38, ha_39, hc_40⟩ := Kd.atPair (Kd.R_C (Kd.R_below hr_26 (bt (bt hb_33 hb_35) hb_37))) (i := (ps.length : Int)) (by omega) (by simp only [List.length_append, List.length_cons, List.length_nil]; omega)
  replace hc_40 : CellsAt w_36 (ad_38.add ((ps.length : Int).toNat * 2)) [.int .i64 ((ps ++ [(5, 6)]).getD ps.length (0, 0)).1, .int .i64 ((ps ++ [(5, 6)]).getD ps.length (0, 0)).2] := hc_40
  refine XL_run 5 [(37, .idx ad_38), (38, .load (.agg #[.int .i64 (((ps ++ [(5, 6)]).getD ps.length (0, 0)).1), .int .i64 (((ps ++ [(5, 6)]).getD ps.length (0, 0)).2)])), (40, .as (.bool false))] [(0, .slice A a.length c), (1, .slice A' b.length c'), (2, .slice A2 ps.length c2), (7, .slice A_23 ((ps ++ [(5, 6)]).length) c_24), (41, .bool false)] w_36 [A_23 = some ad_38, (0 : Int) ≤ (ps.length : Int), (ps.length : Int) < ((ps ++ [(5, 6)]).length : Int), LoadsAs Tryd.prog 35 (ad_38.add ((ps.length : Int).toNat * 2)) (.agg #[.int .i64 (((ps ++ [(5, 6)]).getD ps.length (0, 0)).1), .int .i64 (((ps ++ [(5, 6)]).getD ps.length (0, 0)).2)]) w_36, RunsAs Tryd.prog [(38, .agg #[.int .i64 (((ps ++ [(5, 6)]).getD ps.length (0, 0)).1), .int .i64 (((ps ++ [(5, 6)]).getD ps.length (0, 0)).2)]), (39, .agg #[.int .i64 5, .int .i64 6])] (Go.Op.binOp Go.BinOp.neq 35 (Go.Operand.tmp 38) (Go.Operand.tmp 39) 35) 4 (.bool false) w_36] (by kernel_rfl) ⟨ha_39, (by omega), (by simp only [List.length_append, List.length_cons, List.length_nil]; omega), loadsE rfl rfl hc_40 0 ⟨by kernel_rfl, by kernel_rfl⟩, runs_bin rfl rfl (run_eqGuard_agg _ _ _ _ _ _ _ (by kernel_rfl)) (pair_ne_same _ _ _ _ _ (by rw [getD_len]) (by rw [getD_len])), trivial⟩ ?_
  refine XL_nil ?_
  refine X_cond false rfl ?_
  refine X_skip ?_
  refine X_seq ?_
  refine X_seq ?_
  refine X_region ?_
  refine XL_run 3 [] [(0, .slice A a.length c), (1, .slice A' b.length c'), (7, .slice A_23 ((ps ++ [(5, 6)]).length) c_24), (42, .slice A2 ps.length c2), (43, .int .i64 (ps.length : Int)), (44, .int .i64 0)] w_36 [] (by kernel_rfl) trivial ?_
  refine XL_nil ?_
  refine X_block ?_
  refine X_loop (ι := Nat) (fun i => [(0, .slice A a.length c), (1, .slice A' b.length c'), (7, .slice A_23 ((ps ++ [(5, 6)]).length) c_24), (42, .slice A2 ps.length c2), (43, .int .i64 (ps.length : Int)), (44, .int .i64 (i : Int))]) (fun i wl => i ≤ ps.length ∧ Below w_36.heap.size w_36 wl) (fun i => ps.length - i) 0 ⟨by omega, Below.refl _ _⟩ (by kernel_rfl) ?_
  rintro i wl ⟨hi, HB⟩
  refine X_seq ?_
  refine X_region ?_
  by_cases c_41 : (i : Int) < (ps.length : Int)
  · refine XL_run 1 [(45, .eq (.bool true))] [(0, .slice A a.length c), (1, .slice A' b.length c'), (7, .slice A_23 ((ps ++ [(5, 6)]).length) c_24), (42, .slice A2 ps.length c2), (43, .int .i64 (ps.length : Int)), (44, .int .i64 (i : Int)), (45, .bool true)] wl [Value.bool (decide ((i : Int) < (ps.length : Int))) = Value.bool true] (by kernel_rfl) ⟨congrArg Value.bool (decide_eq_true (c_41)), trivial⟩ ?_
    refine XL_nil ?_
    refine X_seq ?_
    refine X_cond true rfl ?_
    refine X_skip ?_
    refine X_seq ?_
    refine X_block ?_
    refine X_seq ?_
    refine X_region ?_
    refine XL_run 1 [] [(0, .slice A a.length c), (1, .slice A' b.length c'), (7, .slice A_23 ((ps ++ [(5, 6)]).length) c_24), (42, .slice A2 ps.length c2), (43, .int .i64 (ps.length : Int)), (44, .int .i64 (i : Int)), (46, .int .i64 (i : Int))] wl [] (by kernel_rfl) trivial ?_
    obtain ⟨ad_42, ha_43, hc_44⟩ := Kd.atPair (Kd.C_below hp (bt (bt (bt (bt (bgo (bgo (bt hb_2 hb_4) hg_14 hl_15 (hb_2).size) hg_28 hl_29 (hb_2).size) hb_33) hb_35) hb_37) HB)) (i := (i : Int)) (by omega) (by omega)
    replace hc_44 : CellsAt wl (ad_42.add ((i : Int).toNat * 2)) [.int .i64 (ps.getD i (0, 0)).1, .int .i64 (ps.getD i (0, 0)).2] := hc_44
    refine XL_run 3 [(47, .idx ad_42), (48, .load (.agg #[.int .i64 ((ps.getD i (0, 0)).1), .int .i64 ((ps.getD i (0, 0)).2)]))] [(0, .slice A a.length c), (1, .slice A' b.length c'), (7, .slice A_23 ((ps ++ [(5, 6)]).length) c_24), (9, .pointer (some ⟨wl.heap.size, 0, none⟩)), (42, .slice A2 ps.length c2), (43, .int .i64 (ps.length : Int)), (44, .int .i64 (i : Int)), (46, .int .i64 (i : Int)), (48, .agg #[.int .i64 ((ps.getD i (0, 0)).1), .int .i64 ((ps.getD i (0, 0)).2)])] (wl.alloc (.cells #[.int .i64 0, .int .i64 0] 35)) [A2 = some ad_42, (0 : Int) ≤ (i : Int), (i : Int) < (ps.length : Int), LoadsAs Tryd.prog 35 (ad_42.add ((i : Int).toNat * 2)) (.agg #[.int .i64 ((ps.getD i (0, 0)).1), .int .i64 ((ps.getD i (0, 0)).2)]) wl] (by kernel_rfl) ⟨ha_43, (by omega), (by omega), loadsE rfl rfl hc_44 0 ⟨by kernel_rfl, by kernel_rfl⟩, trivial⟩ ?_
    obtain ⟨w_45, hw_49, hb_46, hk_47, hz_48⟩ := new_world wl #[.int .i64 0, .int .i64 0] 35
    rw [hw_49]
    refine XL_run 1 [] [(0, .slice A a.length c), (1, .slice A' b.length c'), (7, .slice A_23 ((ps ++ [(5, 6)]).length) c_24), (8, .int .i64 (i : Int)), (9, .pointer (some ⟨wl.heap.size, 0, none⟩)), (42, .slice A2 ps.length c2), (43, .int .i64 (ps.length : Int)), (44, .int .i64 (i : Int)), (48, .agg #[.int .i64 ((ps.getD i (0, 0)).1), .int .i64 ((ps.getD i (0, 0)).2)])] w_45 [] (by kernel_rfl) trivial ?_
    refine XL_store (v := .agg #[.int .i64 ((ps.getD i (0, 0)).1), .int .i64 ((ps.getD i (0, 0)).2)]) rfl rfl rfl (by kernel_rfl) hk_47 0 [.int .i64 ((ps.getD i (0, 0)).1), .int .i64 ((ps.getD i (0, 0)).2)] #[.int .i64 ((ps.getD i (0, 0)).1), .int .i64 ((ps.getD i (0, 0)).2)] ⟨by kernel_rfl, rfl, by kernel_rfl⟩ ⟨by kernel_rfl, by kernel_rfl⟩ (Nat.le_of_ble_eq_true (by kernel_rfl)) (fun w_50 hg_51 hk_52 hz_53 => ?_)
    refine XL_nil ?_
    refine X_seq ?_
    refine X_still (by kernel_rfl) (by kernel_rfl) (fun wd_54 hb_55 hh_56 => ?_)
    refine XS_run 2 [] [.slice A_23 ((ps ++ [(5, 6)]).length) c_24, .int .i64 (i : Int)] [(0, .slice A a.length c), (1, .slice A' b.length c'), (7, .slice A_23 ((ps ++ [(5, 6)]).length) c_24), (9, .pointer (some ⟨wl.heap.size, 0, none⟩)), (42, .slice A2 ps.length c2), (43, .int .i64 (ps.length : Int)), (44, .int .i64 (i : Int)), (49, .slice A_23 ((ps ++ [(5, 6)]).length) c_24), (50, .int .i64 (i : Int))] [] (by kernel_rfl) (by kernel_rfl) trivial ?_
    obtain ⟨ad_57, ha_58, hc_59⟩ := Kd.atPair (Kd.R_C (Kd.R_below hr_26 (bt (bg (bt (bt (bt (bt hb_33 hb_35) hb_37) HB) hb_46) hg_51 ((bt (bt (bt hb_33 hb_35) hb_37) HB)).size) hb_55))) (i := (i : Int)) (by omega) (by simp only [List.length_append, List.length_cons, List.length_nil]; omega)
    replace hc_59 : CellsAt wd_54 (ad_57.add ((i : Int).toNat * 2)) [.int .i64 ((ps ++ [(5, 6)]).getD i (0, 0)).1, .int .i64 ((ps ++ [(5, 6)]).getD i (0, 0)).2] := hc_59
    refine XS_run 4 [(51, .idx ad_57), (52, .load (.agg #[.int .i64 (((ps ++ [(5, 6)]).getD i (0, 0)).1), .int .i64 (((ps ++ [(5, 6)]).getD i (0, 0)).2)])), (53, .load (.agg #[.int .i64 ((ps.getD i (0, 0)).1), .int .i64 ((ps.getD i (0, 0)).2)])), (54, .as (.bool false))] [.pointer (some (ad_57.add ((i : Int).toNat * 2))), .agg #[.int .i64 (((ps ++ [(5, 6)]).getD i (0, 0)).1), .int .i64 (((ps ++ [(5, 6)]).getD i (0, 0)).2)], .agg #[.int .i64 ((ps.getD i (0, 0)).1), .int .i64 ((ps.getD i (0, 0)).2)], .bool false] [(0, .slice A a.length c), (1, .slice A' b.length c'), (7, .slice A_23 ((ps ++ [(5, 6)]).length) c_24), (42, .slice A2 ps.length c2), (43, .int .i64 (ps.length : Int)), (44, .int .i64 (i : Int)), (54, .bool false)] [A_23 = some ad_57, (0 : Int) ≤ (i : Int), (i : Int) < ((ps ++ [(5, 6)]).length : Int), LoadsAs Tryd.prog 35 (ad_57.add ((i : Int).toNat * 2)) (.agg #[.int .i64 (((ps ++ [(5, 6)]).getD i (0, 0)).1), .int .i64 (((ps ++ [(5, 6)]).getD i (0, 0)).2)]) wd_54, LoadsAs Tryd.prog 35 (⟨wl.heap.size, 0, none⟩) (.agg #[.int .i64 ((ps.getD i (0, 0)).1), .int .i64 ((ps.getD i (0, 0)).2)]) wd_54, RunsAs Tryd.prog [(52, .agg #[.int .i64 (((ps ++ [(5, 6)]).getD i (0, 0)).1), .int .i64 (((ps ++ [(5, 6)]).getD i (0, 0)).2)]), (53, .agg #[.int .i64 ((ps.getD i (0, 0)).1), .int .i64 ((ps.getD i (0, 0)).2)])] (Go.Op.binOp Go.BinOp.neq 35 (Go.Operand.tmp 52) (Go.Operand.tmp 53) 35) 4 (.bool false) wd_54] (by kernel_rfl) (by kernel_rfl) ⟨ha_58, (by omega), (by simp only [List.length_append, List.length_cons, List.length_nil]; omega), loadsE rfl rfl hc_59 0 ⟨by kernel_rfl, by kernel_rfl⟩, loadsB rfl rfl (Blk.below hk_52 hb_55) 0 ⟨by kernel_rfl, by kernel_rfl⟩, runs_bin rfl rfl (run_eqGuard_agg _ _ _ _ _ _ _ (by kernel_rfl)) (pair_ne_same _ _ _ _ _ (by rw [getD_app _ _ _ _ (by omega)]) (by rw [getD_app _ _ _ _ (by omega)])), trivial⟩ ?_
    refine XS_nil ?_
    refine X_cond false rfl ?_
    refine X_skip ?_
    refine X_region ?_
    refine XL_run 2 [(55, .eq (.int .i64 ((i : Int) + 1)))] [(0, .slice A a.length c), (1, .slice A' b.length c'), (7, .slice A_23 ((ps ++ [(5, 6)]).length) c_24), (42, .slice A2 ps.length c2), (43, .int .i64 (ps.length : Int)), (44, .int .i64 ((i : Int) + 1))] wd_54 [Value.int .i64 (IntKind.i64.wrap ((i : Int) + 1)) = Value.int .i64 ((i : Int) + 1)] (by kernel_rfl) ⟨wr_i64 (by omega) (by omega), trivial⟩ ?_
    refine XL_nil ?_
    refine ⟨(i + 1), by kernel_rfl, ?_, ?_⟩
    · exact ⟨by omega, (bt (bg (bt HB hb_46) hg_51 (HB).size) hb_55)⟩
    · (try dsimp only); omega
  · refine XL_run 1 [(45, .eq (.bool false))] [(0, .slice A a.length c), (1, .slice A' b.length c'), (7, .slice A_23 ((ps ++ [(5, 6)]).length) c_24), (42, .slice A2 ps.length c2), (43, .int .i64 (ps.length : Int)), (44, .int .i64 (i : Int)), (45, .bool false)] wl [Value.bool (decide ((i : Int) < (ps.length : Int))) = Value.bool false] (by kernel_rfl) ⟨congrArg Value.bool (decide_eq_false (c_41)), trivial⟩ ?_
    refine XL_nil ?_
    refine X_seq ?_
    refine X_cond false rfl ?_
    refine X_exit ?_
    refine X_seq ?_
    refine X_seq ?_
    refine X_region ?_
    refine XL_run 2 [] [(0, .slice A a.length c), (1, .slice A' b.length c'), (56, .slice A a.length c), (57, .slice A' b.length c')] wl [] (by kernel_rfl) trivial ?_
    refine XL_call 9 rfl rfl rfl ent9 [.slice A a.length c, .slice A' b.length c'] (by kernel_rfl) (lawLong_any _ _ _ _ _ _ _) ?_
    rintro e w_ ⟨bo_60, rfl, rfl⟩; refine ⟨_, rfl, ?_⟩
    refine XL_nil ?_
    by_cases c_61 : bo_60 = true
    · rw [show (bo_60 : Bool) = true from by simpa using c_61]
      refine X_cond true rfl ?_
      refine X_seq ?_
      refine X_region ?_
      refine XL_run 1 [] [(6, .bool true)] wl [] (by kernel_rfl) trivial ?_
      refine XL_nil ?_
      refine X_ret ?_
      refine RX.ret_ok (P := Tryd.prog) (fn := Tryd.f4) (N := 74) (R := R_) [.bool true] (by kernel_rfl) (hR_ _ _ ?_)
      exact ⟨rfl, (bt (bt (bt (bt (bgo (bgo (bt hb_2 hb_4) hg_14 hl_15 (hb_2).size) hg_28 hl_29 (hb_2).size) hb_33) hb_35) hb_37) HB)⟩
    · rw [show (bo_60 : Bool) = false from by simpa using c_61]
      refine X_cond false rfl ?_
      refine X_skip ?_
      refine X_seq ?_
      refine X_region ?_
      refine XL_run 2 [] [(0, .slice A a.length c), (1, .slice A' b.length c'), (60, .slice A a.length c), (61, .slice A' b.length c')] wl [] (by kernel_rfl) trivial ?_
      refine XL_call 10 rfl rfl rfl ent10 [.slice A a.length c, .slice A' b.length c'] (by kernel_rfl) (match_n _ _ _ _ _ _ a b _ (Kd.C_below ha (bt (bt (bt (bt (bgo (bgo (bt hb_2 hb_4) hg_14 hl_15 (hb_2).size) hg_28 hl_29 (hb_2).size) hb_33) hb_35) hb_37) HB)) (Kd.C_below hb (bt (bt (bt (bt (bgo (bgo (bt hb_2 hb_4) hg_14 hl_15 (hb_2).size) hg_28 hl_29 (hb_2).size) hb_33) hb_35) hb_37) HB)) (by omega) (by omega)) ?_
      rintro e w_68 ⟨ps_62, A_63, c_64, rfl, HR_65, HM_66, HL_67, hb_69⟩; refine ⟨_, rfl, ?_⟩
      refine XL_run 5 [] [(0, .slice A a.length c), (1, .slice A' b.length c'), (10, .slice A_63 ps_62.length c_64), (11, .nilIface)] w_68 [] (by kernel_rfl) trivial ?_
      refine XL_nil ?_
      refine X_seq ?_
      refine X_region ?_
      refine XL_run 6 [] [(67, .bool false), (68, .slice A a.length c), (69, .slice A' b.length c'), (70, .slice A_63 ps_62.length c_64)] w_68 [] (by kernel_rfl) trivial ?_
      refine XL_call 17 rfl rfl rfl ent17 [.slice A a.length c, .slice A' b.length c', .slice A_63 ps_62.length c_64] (by kernel_rfl) (check_n _ _ _ _ _ _ _ _ _ a b ps_62 _ (Kd.C_below ha (bt (bt (bt (bt (bt (bgo (bgo (bt hb_2 hb_4) hg_14 hl_15 (hb_2).size) hg_28 hl_29 (hb_2).size) hb_33) hb_35) hb_37) HB) hb_69)) (Kd.C_below hb (bt (bt (bt (bt (bt (bgo (bgo (bt hb_2 hb_4) hg_14 hl_15 (hb_2).size) hg_28 hl_29 (hb_2).size) hb_33) hb_35) hb_37) HB) hb_69)) (Kd.R_C HR_65) es (hE.below (bt (bt (bt (bt (bt (bgo (bgo (bt hb_2 hb_4) hg_14 hl_15 (hb_2).size) hg_28 hl_29 (hb_2).size) hb_33) hb_35) hb_37) HB) hb_69))) ?_
      rintro e w_70 ⟨rfl, hb_71⟩; refine ⟨_, rfl, ?_⟩
      rw [Mt_chk HM_66]
      refine XL_run 3 [] [(6, .bool true)] w_70 [] (by kernel_rfl) trivial ?_
      refine XL_nil ?_
      refine X_ret ?_
      refine RX.ret_ok (P := Tryd.prog) (fn := Tryd.f4) (N := 74) (R := R_) [.bool true] (by kernel_rfl) (hR_ _ _ ?_)
      exact ⟨rfl, (bt (bt (bt (bt (bt (bt (bgo (bgo (bt hb_2 hb_4) hg_14 hl_15 (hb_2).size) hg_28 hl_29 (hb_2).size) hb_33) hb_35) hb_37) HB) hb_69) hb_71)⟩
theorem checks_big (A A' A2 : Option Addr) (c c' c2 : Nat) (a b : List Int) (ps : List (Int × Int)) (w : World) (ha : (Kd.int .i64).C w A a.length a) (hb : (Kd.int .i64).C w A' b.length b) (hp : kPair.C w A2 ps.length ps) (es : List Addr) (hE : Errs w es) (hpl : ps.length ≤ 1048576) (hl : 1024 < a.length ∨ 1024 < b.length) :
    Calls Tryd.prog 4 #[.slice A a.length c, .slice A' b.length c', .slice A2 ps.length c2] w fun e w' => e = .returned (.bool true) ∧ Below w.heap.size w w' := by
  refine RX.enter Tryd.func4 rfl 74 rfl [(0, .slice A a.length c), (1, .slice A' b.length c'), (2, .slice A2 ps.length c2)] rfl (by kernel_rfl) (fun R_ hR_ => ?_)
  refine X_seq ?_
  refine X_region ?_
  refine XL_run 1 [] [(0, .slice A a.length c), (1, .slice A' b.length c'), (2, .slice A2 ps.length c2)] w [] (by kernel_rfl) trivial ?_
  refine XL_nil ?_
  refine X_seq ?_
  refine X_seq ?_
  refine X_region ?_
  refine XL_call 7 rfl rfl rfl ent7 [] (by kernel_rfl) (lives_any es _ (hE.below (Below.refl _ _))) ?_
  rintro e w_1 ⟨rfl, hb_2⟩; refine ⟨_, rfl, ?_⟩
  refine XL_run 1 [] [(0, .slice A a.length c), (1, .slice A' b.length c'), (2, .slice A2 ps.length c2), (13, .bool false)] w_1 [] (by kernel_rfl) trivial ?_
  refine XL_nil ?_
  refine X_cond false rfl ?_
  refine X_skip ?_
  refine X_seq ?_
  refine X_region ?_
  refine XL_run 1 [] [(0, .slice A a.length c), (1, .slice A' b.length c'), (2, .slice A2 ps.length c2), (14, .slice (some ⟨w_1.heap.size, 0, none⟩) 0 0)] (w_1.alloc (.cells #[] 35)) [] (by kernel_rfl) trivial ?_
  obtain ⟨w_3, hw_7, hb_4, hk_5, hz_6⟩ := new_world w_1 #[] 35
  rw [hw_7]
  refine XL_run 1 [] [(0, .slice A a.length c), (1, .slice A' b.length c'), (2, .slice A2 ps.length c2), (14, .slice (some ⟨w_1.heap.size, 0, none⟩) 0 0), (15, .slice A2 ps.length c2)] w_3 [] (by kernel_rfl) trivial ?_
  have hr_8 := Kd.R_litB kPair (W := w_1) (e := 35) (cs := #[]) [] hk_5 (repsPair []) (Nat.le_of_ble_eq_true (by kernel_rfl))
  refine XL_appendAll (c' := c2) kPair rfl rfl rfl w_1.heap.size 35 (.agg #[.int .i64 0, .int .i64 0]) 16 Tryd.underlying25 info35 rfl (by decide) (by omega) ([]) ps (by kernel_rfl) hr_8 (Kd.C_below hp (bt hb_2 hb_4)) kPair_KM (hb_4).size (by first | omega | (simp; omega)) ?_
  intro A_9 c_10 w_11 hr_12 hc_13 hg_14 hl_15 ha_16
  have he_17 : ([] ++ ps) = ps := List.nil_append _
  rw [he_17] at hr_12 ⊢
  refine XL_run 2 [] [(0, .slice A a.length c), (1, .slice A' b.length c'), (2, .slice A2 ps.length c2), (16, .slice A_9 ps.length c_10), (18, .slice (some ⟨w_11.heap.size, 0, none⟩) 1 1)] (w_11.alloc (.cells #[.int .i64 5, .int .i64 6] 35)) [] (by kernel_rfl) trivial ?_
  obtain ⟨w_18, hw_22, hb_19, hk_20, hz_21⟩ := new_world w_11 #[.int .i64 5, .int .i64 6] 35
  rw [hw_22]
  rw [← hw_22]
  refine XL_append kPair rfl rfl rfl w_1.heap.size 35 (.agg #[.int .i64 0, .int .i64 0]) 16 Tryd.underlying25 info35 rfl (by decide) (by omega) ps (5, 6) [.int .i64 5, .int .i64 6] (fun _ => False) (by kernel_rfl) (kPair_M _ _ _ _) (fun _ h => h.elim) hr_12 ((bgo hb_4 hg_14 hl_15 (Nat.le_refl _))).size (by first | omega | (simp; omega)) ?_
  intro A_23 c_24 w_25 hr_26 hc_27 hg_28 hl_29 ha_30
  refine XL_run 1 [] [(0, .slice A a.length c), (1, .slice A' b.length c'), (2, .slice A2 ps.length c2), (7, .slice A_23 ((ps ++ [(5, 6)]).length) c_24)] w_25 [] (by kernel_rfl) trivial ?_
  refine XL_nil ?_
  refine X_seq ?_
  refine X_seq ?_
  refine X_region ?_
  have hC_31 : kPair.C w_25 A_23 ps.length ps := by have h := RX.Kd.C_take (m := ps.length) (Kd.R_C hr_26) (by first | omega | (simp; done) | (simp; omega)); rwa [show (List.take ps.length (ps ++ [(5, 6)])) = ps from by simp] at h
  refine XL_run 6 [(25, .as (.slice A_23 ps.length c_24))] [(0, .slice A a.length c), (1, .slice A' b.length c'), (2, .slice A2 ps.length c2), (7, .slice A_23 ((ps ++ [(5, 6)]).length) c_24), (20, .slice A a.length c), (21, .slice A' b.length c'), (25, .slice A_23 ps.length c_24)] w_25 [RunsAs Tryd.prog [(22, .slice A_23 ((ps ++ [(5, 6)]).length) c_24), (24, .int .i64 (ps.length : Int))] (Go.Op.slice 25 (Go.Operand.tmp 22) none (some (Go.Operand.tmp 24)) none) 25 (.slice A_23 ps.length c_24) w_25] (by kernel_rfl) ⟨runs_slice_h (h := (ps.length : Int)) rfl rfl rfl rfl (by omega) (by have h := hc_27; (try simp only [List.length_append, List.length_cons, List.length_nil] at h); omega), trivial⟩ ?_
  refine XL_call 17 rfl rfl rfl ent17 [.slice A a.length c, .slice A' b.length c', .slice A_23 ps.length c_24] (by kernel_rfl) (check_n _ _ _ _ _ _ _ _ _ a b ps _ (Kd.C_below ha (bgo (bgo (bt hb_2 hb_4) hg_14 hl_15 (hb_2).size) hg_28 hl_29 (hb_2).size)) (Kd.C_below hb (bgo (bgo (bt hb_2 hb_4) hg_14 hl_15 (hb_2).size) hg_28 hl_29 (hb_2).size)) hC_31 es (hE.below (bgo (bgo (bt hb_2 hb_4) hg_14 hl_15 (hb_2).size) hg_28 hl_29 (hb_2).size))) ?_
  rintro e w_32 ⟨rfl, hb_33⟩; refine ⟨_, rfl, ?_⟩
  refine XL_call 16 rfl rfl rfl ent16 [errV es (chk a b ps)] (by kernel_rfl) (num_any es (chk a b ps) (chk_le _ _ _) _ (hE.below (bt (bgo (bgo (bt hb_2 hb_4) hg_14 hl_15 (hb_2).size) hg_28 hl_29 (hb_2).size) hb_33))) ?_
  rintro e w_34 ⟨rfl, hb_35⟩; refine ⟨_, rfl, ?_⟩
  refine XL_run 3 [] [(0, .slice A a.length c), (1, .slice A' b.length c'), (2, .slice A2 ps.length c2), (7, .slice A_23 ((ps ++ [(5, 6)]).length) c_24), (27, .int .i64 (chk a b ps : Int)), (28, .slice A a.length c), (29, .slice A' b.length c'), (30, .slice A2 ps.length c2)] w_34 [] (by kernel_rfl) trivial ?_
  refine XL_call 14 rfl rfl rfl ent14 [.slice A a.length c, .slice A' b.length c', .slice A2 ps.length c2] (by kernel_rfl) (refCheck_n _ _ _ _ _ _ _ _ _ a b ps _ (Kd.C_below ha (bt (bt (bgo (bgo (bt hb_2 hb_4) hg_14 hl_15 (hb_2).size) hg_28 hl_29 (hb_2).size) hb_33) hb_35)) (Kd.C_below hb (bt (bt (bgo (bgo (bt hb_2 hb_4) hg_14 hl_15 (hb_2).size) hg_28 hl_29 (hb_2).size) hb_33) hb_35)) (Kd.C_below hp (bt (bt (bgo (bgo (bt hb_2 hb_4) hg_14 hl_15 (hb_2).size) hg_28 hl_29 (hb_2).size) hb_33) hb_35))) ?_
  rintro e w_36 ⟨rfl, hb_37⟩; refine ⟨_, rfl, ?_⟩
  refine XL_run 5 [(32, .eq (.bool false))] [(0, .slice A a.length c), (1, .slice A' b.length c'), (2, .slice A2 ps.length c2), (7, .slice A_23 ((ps ++ [(5, 6)]).length) c_24), (33, .bool false), (34, .slice A_23 ((ps ++ [(5, 6)]).length) c_24), (36, .int .i64 (ps.length : Int))] w_36 [Value.bool ((chk a b ps : Int) != (chk a b ps : Int)) = Value.bool false] (by kernel_rfl) ⟨congrArg Value.bool (bneF rfl), trivial⟩ ?_
  obtain ⟨ad_38, ha_39, hc_40⟩ := Kd.atPair (Kd.R_C (Kd.R_below hr_26 (bt (bt hb_33 hb_35) hb_37))) (i := (ps.length : Int)) (by omega) (by simp only [List.length_append, List.length_cons, List.length_nil]; omega)
  replace hc_40 : CellsAt w_36 (ad_38.add ((ps.length : Int).toNat * 2)) [.int .i64 ((ps ++ [(5, 6)]).getD ps.length (0, 0)).1, .int .i64 ((ps ++ [(5, 6)]).getD ps.length (0, 0)).2] := hc_40
  refine XL_run 5 [(37, .idx ad_38), (38, .load (.agg #[.int .i64 (((ps ++ [(5, 6)]).getD ps.length (0, 0)).1), .int .i64 (((ps ++ [(5, 6)]).getD ps.length (0, 0)).2)])), (40, .as (.bool false))] [(0, .slice A a.length c), (1, .slice A' b.length c'), (2, .slice A2 ps.length c2), (7, .slice A_23 ((ps ++ [(5, 6)]).length) c_24), (41, .bool false)] w_36 [A_23 = some ad_38, (0 : Int) ≤ (ps.length : Int), (ps.length : Int) < ((ps ++ [(5, 6)]).length : Int), LoadsAs Tryd.prog 35 (ad_38.add ((ps.length : Int).toNat * 2)) (.agg #[.int .i64 (((ps ++ [(5, 6)]).getD ps.length (0, 0)).1), .int .i64 (((ps ++ [(5, 6)]).getD ps.length (0, 0)).2)]) w_36, RunsAs Tryd.prog [(38, .agg #[.int .i64 (((ps ++ [(5, 6)]).getD ps.length (0, 0)).1), .int .i64 (((ps ++ [(5, 6)]).getD ps.length (0, 0)).2)]), (39, .agg #[.int .i64 5, .int .i64 6])] (Go.Op.binOp Go.BinOp.neq 35 (Go.Operand.tmp 38) (Go.Operand.tmp 39) 35) 4 (.bool false) w_36] (by kernel_rfl) ⟨ha_39, (by omega), (by simp only [List.length_append, List.length_cons, List.length_nil]; omega), loadsE rfl rfl hc_40 0 ⟨by kernel_rfl, by kernel_rfl⟩, runs_bin rfl rfl (run_eqGuard_agg _ _ _ _ _ _ _ (by kernel_rfl)) (pair_ne_same _ _ _ _ _ (by rw [getD_len]) (by rw [getD_len])), trivial⟩ ?_
  refine XL_nil ?_
  refine X_cond false rfl ?_
  refine X_skip ?_
  refine X_seq ?_
  refine X_seq ?_
  refine X_region ?_
  refine XL_run 3 [] [(0, .slice A a.length c), (1, .slice A' b.length c'), (7, .slice A_23 ((ps ++ [(5, 6)]).length) c_24), (42, .slice A2 ps.length c2), (43, .int .i64 (ps.length : Int)), (44, .int .i64 0)] w_36 [] (by kernel_rfl) trivial ?_
  refine XL_nil ?_
  refine X_block ?_
  refine X_loop (ι := Nat) (fun i => [(0, .slice A a.length c), (1, .slice A' b.length c'), (7, .slice A_23 ((ps ++ [(5, 6)]).length) c_24), (42, .slice A2 ps.length c2), (43, .int .i64 (ps.length : Int)), (44, .int .i64 (i : Int))]) (fun i wl => i ≤ ps.length ∧ Below w_36.heap.size w_36 wl) (fun i => ps.length - i) 0 ⟨by omega, Below.refl _ _⟩ (by kernel_rfl) ?_
  rintro i wl ⟨hi, HB⟩
  refine X_seq ?_
  refine X_region ?_
  by_cases c_41 : (i : Int) < (ps.length : Int)
  · refine XL_run 1 [(45, .eq (.bool true))] [(0, .slice A a.length c), (1, .slice A' b.length c'), (7, .slice A_23 ((ps ++ [(5, 6)]).length) c_24), (42, .slice A2 ps.length c2), (43, .int .i64 (ps.length : Int)), (44, .int .i64 (i : Int)), (45, .bool true)] wl [Value.bool (decide ((i : Int) < (ps.length : Int))) = Value.bool true] (by kernel_rfl) ⟨congrArg Value.bool (decide_eq_true (c_41)), trivial⟩ ?_
    refine XL_nil ?_
    refine X_seq ?_
    refine X_cond true rfl ?_
    refine X_skip ?_
    refine X_seq ?_
    refine X_block ?_
    refine X_seq ?_
    refine X_region ?_
    refine XL_run 1 [] [(0, .slice A a.length c), (1, .slice A' b.length c'), (7, .slice A_23 ((ps ++ [(5, 6)]).length) c_24), (42, .slice A2 ps.length c2), (43, .int .i64 (ps.length : Int)), (44, .int .i64 (i : Int)), (46, .int .i64 (i : Int))] wl [] (by kernel_rfl) trivial ?_
    obtain ⟨ad_42, ha_43, hc_44⟩ := Kd.atPair (Kd.C_below hp (bt (bt (bt (bt (bgo (bgo (bt hb_2 hb_4) hg_14 hl_15 (hb_2).size) hg_28 hl_29 (hb_2).size) hb_33) hb_35) hb_37) HB)) (i := (i : Int)) (by omega) (by omega)
    replace hc_44 : CellsAt wl (ad_42.add ((i : Int).toNat * 2)) [.int .i64 (ps.getD i (0, 0)).1, .int .i64 (ps.getD i (0, 0)).2] := hc_44
    refine XL_run 3 [(47, .idx ad_42), (48, .load (.agg #[.int .i64 ((ps.getD i (0, 0)).1), .int .i64 ((ps.getD i (0, 0)).2)]))] [(0, .slice A a.length c), (1, .slice A' b.length c'), (7, .slice A_23 ((ps ++ [(5, 6)]).length) c_24), (9, .pointer (some ⟨wl.heap.size, 0, none⟩)), (42, .slice A2 ps.length c2), (43, .int .i64 (ps.length : Int)), (44, .int .i64 (i : Int)), (46, .int .i64 (i : Int)), (48, .agg #[.int .i64 ((ps.getD i (0, 0)).1), .int .i64 ((ps.getD i (0, 0)).2)])] (wl.alloc (.cells #[.int .i64 0, .int .i64 0] 35)) [A2 = some ad_42, (0 : Int) ≤ (i : Int), (i : Int) < (ps.length : Int), LoadsAs Tryd.prog 35 (ad_42.add ((i : Int).toNat * 2)) (.agg #[.int .i64 ((ps.getD i (0, 0)).1), .int .i64 ((ps.getD i (0, 0)).2)]) wl] (by kernel_rfl) ⟨ha_43, (by omega), (by omega), loadsE rfl rfl hc_44 0 ⟨by kernel_rfl, by kernel_rfl⟩, trivial⟩ ?_
    obtain ⟨w_45, hw_49, hb_46, hk_47, hz_48⟩ := new_world wl #[.int .i64 0, .int .i64 0] 35
    rw [hw_49]
    refine XL_run 1 [] [(0, .slice A a.length c), (1, .slice A' b.length c'), (7, .slice A_23 ((ps ++ [(5, 6)]).length) c_24), (8, .int .i64 (i : Int)), (9, .pointer (some ⟨wl.heap.size, 0, none⟩)), (42, .slice A2 ps.length c2), (43, .int .i64 (ps.length : Int)), (44, .int .i64 (i : Int)), (48, .agg #[.int .i64 ((ps.getD i (0, 0)).1), .int .i64 ((ps.getD i (0, 0)).2)])] w_45 [] (by kernel_rfl) trivial ?_
    refine XL_store (v := .agg #[.int .i64 ((ps.getD i (0, 0)).1), .int .i64 ((ps.getD i (0, 0)).2)]) rfl rfl rfl (by kernel_rfl) hk_47 0 [.int .i64 ((ps.getD i (0, 0)).1), .int .i64 ((ps.getD i (0, 0)).2)] #[.int .i64 ((ps.getD i (0, 0)).1), .int .i64 ((ps.getD i (0, 0)).2)] ⟨by kernel_rfl, rfl, by kernel_rfl⟩ ⟨by kernel_rfl, by kernel_rfl⟩ (Nat.le_of_ble_eq_true (by kernel_rfl)) (fun w_50 hg_51 hk_52 hz_53 => ?_)
    refine XL_nil ?_
    refine X_seq ?_
    refine X_still (by kernel_rfl) (by kernel_rfl) (fun wd_54 hb_55 hh_56 => ?_)
    refine XS_run 2 [] [.slice A_23 ((ps ++ [(5, 6)]).length) c_24, .int .i64 (i : Int)] [(0, .slice A a.length c), (1, .slice A' b.length c'), (7, .slice A_23 ((ps ++ [(5, 6)]).length) c_24), (9, .pointer (some ⟨wl.heap.size, 0, none⟩)), (42, .slice A2 ps.length c2), (43, .int .i64 (ps.length : Int)), (44, .int .i64 (i : Int)), (49, .slice A_23 ((ps ++ [(5, 6)]).length) c_24), (50, .int .i64 (i : Int))] [] (by kernel_rfl) (by kernel_rfl) trivial ?_
    obtain ⟨ad_57, ha_58, hc_59⟩ := Kd.atPair (Kd.R_C (Kd.R_below hr_26 (bt (bg (bt (bt (bt (bt hb_33 hb_35) hb_37) HB) hb_46) hg_51 ((bt (bt (bt hb_33 hb_35) hb_37) HB)).size) hb_55))) (i := (i : Int)) (by omega) (by simp only [List.length_append, List.length_cons, List.length_nil]; omega)
    replace hc_59 : CellsAt wd_54 (ad_57.add ((i : Int).toNat * 2)) [.int .i64 ((ps ++ [(5, 6)]).getD i (0, 0)).1, .int .i64 ((ps ++ [(5, 6)]).getD i (0, 0)).2] := hc_59
    refine XS_run 4 [(51, .idx ad_57), (52, .load (.agg #[.int .i64 (((ps ++ [(5, 6)]).getD i (0, 0)).1), .int .i64 (((ps ++ [(5, 6)]).getD i (0, 0)).2)])), (53, .load (.agg #[.int .i64 ((ps.getD i (0, 0)).1), .int .i64 ((ps.getD i (0, 0)).2)])), (54, .as (.bool false))] [.pointer (some (ad_57.add ((i : Int).toNat * 2))), .agg #[.int .i64 (((ps ++ [(5, 6)]).getD i (0, 0)).1), .int .i64 (((ps ++ [(5, 6)]).getD i (0, 0)).2)], .agg #[.int .i64 ((ps.getD i (0, 0)).1), .int .i64 ((ps.getD i (0, 0)).2)], .bool false] [(0, .slice A a.length c), (1, .slice A' b.length c'), (7, .slice A_23 ((ps ++ [(5, 6)]).length) c_24), (42, .slice A2 ps.length c2), (43, .int .i64 (ps.length : Int)), (44, .int .i64 (i : Int)), (54, .bool false)] [A_23 = some ad_57, (0 : Int) ≤ (i : Int), (i : Int) < ((ps ++ [(5, 6)]).length : Int), LoadsAs Tryd.prog 35 (ad_57.add ((i : Int).toNat * 2)) (.agg #[.int .i64 (((ps ++ [(5, 6)]).getD i (0, 0)).1), .int .i64 (((ps ++ [(5, 6)]).getD i (0, 0)).2)]) wd_54, LoadsAs Tryd.prog 35 (⟨wl.heap.size, 0, none⟩) (.agg #[.int .i64 ((ps.getD i (0, 0)).1), .int .i64 ((ps.getD i (0, 0)).2)]) wd_54, RunsAs Tryd.prog [(52, .agg #[.int .i64 (((ps ++ [(5, 6)]).getD i (0, 0)).1), .int .i64 (((ps ++ [(5, 6)]).getD i (0, 0)).2)]), (53, .agg #[.int .i64 ((ps.getD i (0, 0)).1), .int .i64 ((ps.getD i (0, 0)).2)])] (Go.Op.binOp Go.BinOp.neq 35 (Go.Operand.tmp 52) (Go.Operand.tmp 53) 35) 4 (.bool false) wd_54] (by kernel_rfl) (by kernel_rfl) ⟨ha_58, (by omega), (by simp only [List.length_append, List.length_cons, List.length_nil]; omega), loadsE rfl rfl hc_59 0 ⟨by kernel_rfl, by kernel_rfl⟩, loadsB rfl rfl (Blk.below hk_52 hb_55) 0 ⟨by kernel_rfl, by kernel_rfl⟩, runs_bin rfl rfl (run_eqGuard_agg _ _ _ _ _ _ _ (by kernel_rfl)) (pair_ne_same _ _ _ _ _ (by rw [getD_app _ _ _ _ (by omega)]) (by rw [getD_app _ _ _ _ (by omega)])), trivial⟩ ?_
    refine XS_nil ?_
    refine X_cond false rfl ?_
    refine X_skip ?_
    refine X_region ?_
    refine XL_run 2 [(55, .eq (.int .i64 ((i : Int) + 1)))] [(0, .slice A a.length c), (1, .slice A' b.length c'), (7, .slice A_23 ((ps ++ [(5, 6)]).length) c_24), (42, .slice A2 ps.length c2), (43, .int .i64 (ps.length : Int)), (44, .int .i64 ((i : Int) + 1))] wd_54 [Value.int .i64 (IntKind.i64.wrap ((i : Int) + 1)) = Value.int .i64 ((i : Int) + 1)] (by kernel_rfl) ⟨wr_i64 (by omega) (by omega), trivial⟩ ?_
    refine XL_nil ?_
    refine ⟨(i + 1), by kernel_rfl, ?_, ?_⟩
    · exact ⟨by omega, (bt (bg (bt HB hb_46) hg_51 (HB).size) hb_55)⟩
    · (try dsimp only); omega
  · refine XL_run 1 [(45, .eq (.bool false))] [(0, .slice A a.length c), (1, .slice A' b.length c'), (7, .slice A_23 ((ps ++ [(5, 6)]).length) c_24), (42, .slice A2 ps.length c2), (43, .int .i64 (ps.length : Int)), (44, .int .i64 (i : Int)), (45, .bool false)] wl [Value.bool (decide ((i : Int) < (ps.length : Int))) = Value.bool false] (by kernel_rfl) ⟨congrArg Value.bool (decide_eq_false (c_41)), trivial⟩ ?_
    refine XL_nil ?_
    refine X_seq ?_
    refine X_cond false rfl ?_
    refine X_exit ?_
    refine X_seq ?_
    refine X_seq ?_
    refine X_region ?_
    refine XL_run 2 [] [(0, .slice A a.length c), (1, .slice A' b.length c'), (56, .slice A a.length c), (57, .slice A' b.length c')] wl [] (by kernel_rfl) trivial ?_
    refine XL_call 9 rfl rfl rfl ent9 [.slice A a.length c, .slice A' b.length c'] (by kernel_rfl) (lawLong_any _ _ _ _ _ _ _) ?_
    rintro e w_ ⟨bo_60, rfl, rfl⟩; refine ⟨_, rfl, ?_⟩
    refine XL_nil ?_
    by_cases c_61 : bo_60 = true
    · rw [show (bo_60 : Bool) = true from by simpa using c_61]
      refine X_cond true rfl ?_
      refine X_seq ?_
      refine X_region ?_
      refine XL_run 1 [] [(6, .bool true)] wl [] (by kernel_rfl) trivial ?_
      refine XL_nil ?_
      refine X_ret ?_
      refine RX.ret_ok (P := Tryd.prog) (fn := Tryd.f4) (N := 74) (R := R_) [.bool true] (by kernel_rfl) (hR_ _ _ ?_)
      exact ⟨rfl, (bt (bt (bt (bt (bgo (bgo (bt hb_2 hb_4) hg_14 hl_15 (hb_2).size) hg_28 hl_29 (hb_2).size) hb_33) hb_35) hb_37) HB)⟩
    · rw [show (bo_60 : Bool) = false from by simpa using c_61]
      refine X_cond false rfl ?_
      refine X_skip ?_
      refine X_seq ?_
      refine X_region ?_
      refine XL_run 2 [] [(0, .slice A a.length c), (1, .slice A' b.length c'), (60, .slice A a.length c), (61, .slice A' b.length c')] wl [] (by kernel_rfl) trivial ?_
      refine XL_call 10 rfl rfl rfl ent10 [.slice A a.length c, .slice A' b.length c'] (by kernel_rfl) (match_err _ _ _ _ _ _ _ es (hE.below (bt (bt (bt (bt (bgo (bgo (bt hb_2 hb_4) hg_14 hl_15 (hb_2).size) hg_28 hl_29 (hb_2).size) hb_33) hb_35) hb_37) HB)) (by omega)) ?_
      rintro e w_62 ⟨rfl, hb_63⟩; refine ⟨_, rfl, ?_⟩
      refine XL_run 5 [] [(0, .slice A a.length c), (1, .slice A' b.length c'), (10, .slice none 0 0), (11, .iface 51 (.pointer (some (errAt es 10))))] w_62 [] (by kernel_rfl) trivial ?_
      refine XL_nil ?_
      refine X_seq ?_
      refine X_region ?_
      refine XL_run 10 [] [(6, .bool true)] w_62 [] (by kernel_rfl) trivial ?_
      refine XL_nil ?_
      refine X_ret ?_
      refine RX.ret_ok (P := Tryd.prog) (fn := Tryd.f4) (N := 74) (R := R_) [.bool true] (by kernel_rfl) (hR_ _ _ ?_)
      exact ⟨rfl, (bt (bt (bt (bt (bt (bgo (bgo (bt hb_2 hb_4) hg_14 hl_15 (hb_2).size) hg_28 hl_29 (hb_2).size) hb_33) hb_35) hb_37) HB) hb_63)⟩
theorem checks_any (A A' A2 : Option Addr) (c c' c2 : Nat) (a b : List Int) (ps : List (Int × Int)) (w : World) (ha : (Kd.int .i64).C w A a.length a) (hb : (Kd.int .i64).C w A' b.length b) (hp : kPair.C w A2 ps.length ps) (es : List Addr) (hE : Errs w es) (hpl : ps.length ≤ 1048576) :
    Calls Tryd.prog 4 #[.slice A a.length c, .slice A' b.length c', .slice A2 ps.length c2] w fun e w' => e = .returned (.bool true) ∧ Below w.heap.size w w' := by
  by_cases h : a.length ≤ 1024 ∧ b.length ≤ 1024
  · exact checks_small A A' A2 c c' c2 a b ps w ha hb hp es hE hpl h.1 h.2
  · exact checks_big A A' A2 c c' c2 a b ps w ha hb hp es hE hpl (by omega)
end Go.Proofs.YtmhkeojbjliieaaDoor
