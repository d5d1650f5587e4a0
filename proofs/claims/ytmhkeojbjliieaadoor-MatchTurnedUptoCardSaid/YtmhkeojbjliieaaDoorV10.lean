/- What MatchTurned answers. Conditions: Errs, bounds on lengths. -/
import Derived.Test.YtmhkeojbjliieaaDoorV6
import Derived.Test.YtmhkeojbjliieaaDoorLcs2
set_option linter.unusedVariables false
set_option linter.unusedSimpArgs false
set_option maxRecDepth 100000
namespace Go.Proofs.YtmhkeojbjliieaaDoor
open Go.RowKit Go.Proofs.YtmhkeojbjliieaaDoorW.PrintWords MM RX
theorem mturned_any (A A' : Option Addr) (c c' : Nat) (a b : List Int) (w : World) (ha : (Kd.int .i64).C w A a.length a) (hb : (Kd.int .i64).C w A' b.length b) (es : List Addr) (hE : Errs w es) (hla : a.length ≤ 1048576) (hlb : b.length ≤ 1048576) :
    Calls Tryd.prog 5 #[.slice A a.length c, .slice A' b.length c'] w fun e w' => e = .returned (.bool true) ∧ Below w.heap.size w w' := by
  refine RX.enter Tryd.func5 rfl 142 rfl [(0, .slice A a.length c), (1, .slice A' b.length c')] rfl (by kernel_rfl) (fun R_ hR_ => ?_)
  refine X_seq ?_
  refine X_region ?_
  refine XL_run 1 [] [(0, .slice A a.length c), (1, .slice A' b.length c')] w [] (by kernel_rfl) trivial ?_
  refine XL_nil ?_
  refine X_seq ?_
  refine X_seq ?_
  refine X_region ?_
  refine XL_call 7 rfl rfl rfl ent7 [] (by kernel_rfl) (lives_any es _ (hE.below (Below.refl _ _))) ?_
  rintro e w_1 ⟨rfl, hb_2⟩; refine ⟨_, rfl, ?_⟩
  refine XL_run 1 [] [(0, .slice A a.length c), (1, .slice A' b.length c'), (22, .bool false)] w_1 [] (by kernel_rfl) trivial ?_
  refine XL_nil ?_
  refine X_cond false rfl ?_
  refine X_skip ?_
  refine X_seq ?_
  refine X_seq ?_
  refine X_region ?_
  refine XL_run 2 [] [(0, .slice A a.length c), (1, .slice A' b.length c'), (24, .int .i64 (a.length : Int))] w_1 [] (by kernel_rfl) trivial ?_
  by_cases c_3 : (a.length : Int) > 1024
  · refine XL_run 6 [(25, .eq (.bool true))] [(0, .slice A a.length c), (1, .slice A' b.length c'), (30, .bool true)] w_1 [Value.bool (decide ((a.length : Int) > 1024)) = Value.bool true] (by kernel_rfl) ⟨congrArg Value.bool (decide_eq_true (c_3)), trivial⟩ ?_
    refine XL_nil ?_
    refine X_cond true rfl ?_
    refine X_seq ?_
    refine X_region ?_
    refine XL_run 2 [] [(31, .slice A' b.length c'), (32, .slice A a.length c)] w_1 [] (by kernel_rfl) trivial ?_
    refine XL_call 8 rfl rfl rfl ent8 [.slice A' b.length c', .slice A a.length c] (by kernel_rfl) (refused_any _ _ _ _ _ _ es _ (hE.below hb_2) (by omega) (by omega) (by omega)) ?_
    rintro e w_4 ⟨rfl, hb_5⟩; refine ⟨_, rfl, ?_⟩
    refine XL_run 1 [] [(4, .bool true)] w_4 [] (by kernel_rfl) trivial ?_
    refine XL_nil ?_
    refine X_ret ?_
    refine RX.ret_ok (P := Tryd.prog) (fn := Tryd.f5) (N := 142) (R := R_) [.bool true] (by kernel_rfl) (hR_ _ _ ?_)
    exact ⟨rfl, (bt hb_2 hb_5)⟩
  · refine XL_run 4 [(25, .eq (.bool false))] [(0, .slice A a.length c), (1, .slice A' b.length c'), (26, .bool false), (28, .int .i64 (b.length : Int))] w_1 [Value.bool (decide ((a.length : Int) > 1024)) = Value.bool false] (by kernel_rfl) ⟨congrArg Value.bool (decide_eq_false (c_3)), trivial⟩ ?_
    by_cases c_6 : (b.length : Int) > 1024
    · refine XL_run 2 [(29, .eq (.bool true))] [(0, .slice A a.length c), (1, .slice A' b.length c'), (30, .bool true)] w_1 [Value.bool (decide ((b.length : Int) > 1024)) = Value.bool true] (by kernel_rfl) ⟨congrArg Value.bool (decide_eq_true (c_6)), trivial⟩ ?_
      refine XL_nil ?_
      refine X_cond true rfl ?_
      refine X_seq ?_
      refine X_region ?_
      refine XL_run 2 [] [(31, .slice A' b.length c'), (32, .slice A a.length c)] w_1 [] (by kernel_rfl) trivial ?_
      refine XL_call 8 rfl rfl rfl ent8 [.slice A' b.length c', .slice A a.length c] (by kernel_rfl) (refused_any _ _ _ _ _ _ es _ (hE.below hb_2) (by omega) (by omega) (by omega)) ?_
      rintro e w_7 ⟨rfl, hb_8⟩; refine ⟨_, rfl, ?_⟩
      refine XL_run 1 [] [(4, .bool true)] w_7 [] (by kernel_rfl) trivial ?_
      refine XL_nil ?_
      refine X_ret ?_
      refine RX.ret_ok (P := Tryd.prog) (fn := Tryd.f5) (N := 142) (R := R_) [.bool true] (by kernel_rfl) (hR_ _ _ ?_)
      exact ⟨rfl, (bt hb_2 hb_8)⟩
    · refine XL_run 2 [(29, .eq (.bool false))] [(0, .slice A a.length c), (1, .slice A' b.length c'), (30, .bool false)] w_1 [Value.bool (decide ((b.length : Int) > 1024)) = Value.bool false] (by kernel_rfl) ⟨congrArg Value.bool (decide_eq_false (c_6)), trivial⟩ ?_
      refine XL_nil ?_
      refine X_cond false rfl ?_
      refine X_skip ?_
      refine X_seq ?_
      refine X_region ?_
      refine XL_run 2 [] [(0, .slice A a.length c), (1, .slice A' b.length c'), (35, .slice A a.length c), (36, .slice A' b.length c')] w_1 [] (by kernel_rfl) trivial ?_
      refine XL_call 11 rfl rfl rfl ent11 [.slice A a.length c, .slice A' b.length c'] (by kernel_rfl) (length_n _ _ _ _ _ _ a b _ (Kd.C_below ha hb_2) (Kd.C_below hb hb_2) (by first | omega | (simp; omega)) (by first | omega | (simp; omega))) ?_
      rintro e w_9 ⟨rfl, hb_10⟩; refine ⟨_, rfl, ?_⟩
      refine XL_run 5 [] [(0, .slice A a.length c), (1, .slice A' b.length c'), (5, .int .i64 (Lm a b : Int)), (6, .nilIface)] w_9 [] (by kernel_rfl) trivial ?_
      refine XL_nil ?_
      refine X_seq ?_
      refine X_region ?_
      refine XL_run 2 [] [(0, .slice A a.length c), (1, .slice A' b.length c'), (5, .int .i64 (Lm a b : Int)), (6, .nilIface), (41, .slice A' b.length c'), (42, .slice A a.length c)] w_9 [] (by kernel_rfl) trivial ?_
      refine XL_call 11 rfl rfl rfl ent11 [.slice A' b.length c', .slice A a.length c] (by kernel_rfl) (length_n _ _ _ _ _ _ b a _ (Kd.C_below hb (bt hb_2 hb_10)) (Kd.C_below ha (bt hb_2 hb_10)) (by first | omega | (simp; omega)) (by first | omega | (simp; omega))) ?_
      rintro e w_11 ⟨rfl, hb_12⟩; refine ⟨_, rfl, ?_⟩
      refine XL_run 5 [] [(0, .slice A a.length c), (1, .slice A' b.length c'), (5, .int .i64 (Lm a b : Int)), (6, .nilIface), (7, .int .i64 (Lm b a : Int)), (8, .nilIface)] w_11 [] (by kernel_rfl) trivial ?_
      refine XL_nil ?_
      refine X_seq ?_
      refine X_region ?_
      refine XL_run 1 [] [(0, .slice A a.length c), (1, .slice A' b.length c'), (5, .int .i64 (Lm a b : Int)), (6, .nilIface), (7, .int .i64 (Lm b a : Int)), (8, .nilIface), (47, .slice A a.length c)] w_11 [] (by kernel_rfl) trivial ?_
      refine XL_call 18 rfl rfl rfl ent18 [.slice A a.length c] (by kernel_rfl) (turned_any _ _ a _ (Kd.C_below ha (bt (bt hb_2 hb_10) hb_12)) (by omega)) ?_
      rintro e w_16 ⟨A_13, c_14, rfl, HR_15, hb_17⟩; refine ⟨_, rfl, ?_⟩
      refine XL_run 1 [] [(0, .slice A a.length c), (1, .slice A' b.length c'), (5, .int .i64 (Lm a b : Int)), (6, .nilIface), (7, .int .i64 (Lm b a : Int)), (8, .nilIface), (48, .slice A_13 a.reverse.length c_14), (49, .slice A' b.length c')] w_16 [] (by kernel_rfl) trivial ?_
      refine XL_call 18 rfl rfl rfl ent18 [.slice A' b.length c'] (by kernel_rfl) (turned_any _ _ b _ (Kd.C_below hb (bt (bt (bt hb_2 hb_10) hb_12) hb_17)) (by omega)) ?_
      rintro e w_21 ⟨A_18, c_19, rfl, HR_20, hb_22⟩; refine ⟨_, rfl, ?_⟩
      refine XL_call 11 rfl rfl rfl ent11 [.slice A_13 a.reverse.length c_14, .slice A_18 b.reverse.length c_19] (by kernel_rfl) (length_n _ _ _ _ _ _ a.reverse b.reverse _ (Kd.R_C (Kd.R_below HR_15 hb_22)) (Kd.R_C HR_20) (by first | omega | (simp; omega)) (by first | omega | (simp; omega))) ?_
      rintro e w_23 ⟨rfl, hb_24⟩; refine ⟨_, rfl, ?_⟩
      refine XL_run 5 [] [(0, .slice A a.length c), (1, .slice A' b.length c'), (5, .int .i64 (Lm a b : Int)), (6, .nilIface), (7, .int .i64 (Lm b a : Int)), (8, .nilIface), (9, .int .i64 (Lm a.reverse b.reverse : Int)), (10, .nilIface)] w_23 [] (by kernel_rfl) trivial ?_
      refine XL_nil ?_
      refine X_seq ?_
      refine X_region ?_
      refine XL_run 2 [] [(0, .slice A a.length c), (1, .slice A' b.length c'), (5, .int .i64 (Lm a b : Int)), (6, .nilIface), (7, .int .i64 (Lm b a : Int)), (8, .nilIface), (9, .int .i64 (Lm a.reverse b.reverse : Int)), (10, .nilIface), (55, .slice A a.length c), (56, .slice A a.length c)] w_23 [] (by kernel_rfl) trivial ?_
      refine XL_call 11 rfl rfl rfl ent11 [.slice A a.length c, .slice A a.length c] (by kernel_rfl) (length_n _ _ _ _ _ _ a a _ (Kd.C_below ha (bt (bt (bt (bt (bt hb_2 hb_10) hb_12) hb_17) hb_22) hb_24)) (Kd.C_below ha (bt (bt (bt (bt (bt hb_2 hb_10) hb_12) hb_17) hb_22) hb_24)) (by first | omega | (simp; omega)) (by first | omega | (simp; omega))) ?_
      rintro e w_25 ⟨rfl, hb_26⟩; refine ⟨_, rfl, ?_⟩
      refine XL_run 5 [] [(0, .slice A a.length c), (1, .slice A' b.length c'), (5, .int .i64 (Lm a b : Int)), (6, .nilIface), (7, .int .i64 (Lm b a : Int)), (8, .nilIface), (9, .int .i64 (Lm a.reverse b.reverse : Int)), (10, .nilIface), (11, .int .i64 (Lm a a : Int)), (12, .nilIface)] w_25 [] (by kernel_rfl) trivial ?_
      refine XL_nil ?_
      refine X_seq ?_
      refine X_region ?_
      refine XL_run 1 [] [(0, .slice A a.length c), (1, .slice A' b.length c'), (5, .int .i64 (Lm a b : Int)), (6, .nilIface), (7, .int .i64 (Lm b a : Int)), (8, .nilIface), (9, .int .i64 (Lm a.reverse b.reverse : Int)), (10, .nilIface), (11, .int .i64 (Lm a a : Int)), (12, .nilIface), (60, .slice (some ⟨w_25.heap.size, 0, none⟩) 0 0)] (w_25.alloc (.cells #[] 3)) [] (by kernel_rfl) trivial ?_
      obtain ⟨w_27, hw_31, hb_28, hk_29, hz_30⟩ := new_world w_25 #[] 3
      rw [hw_31]
      refine XL_run 1 [] [(0, .slice A a.length c), (1, .slice A' b.length c'), (5, .int .i64 (Lm a b : Int)), (6, .nilIface), (7, .int .i64 (Lm b a : Int)), (8, .nilIface), (9, .int .i64 (Lm a.reverse b.reverse : Int)), (10, .nilIface), (11, .int .i64 (Lm a a : Int)), (12, .nilIface), (13, .slice (some ⟨w_25.heap.size, 0, none⟩) 0 0)] w_27 [] (by kernel_rfl) trivial ?_
      refine XL_nil ?_
      refine X_seq ?_
      refine X_seq ?_
      refine X_region ?_
      refine XL_run 3 [] [(0, .slice A a.length c), (1, .slice A' b.length c'), (5, .int .i64 (Lm a b : Int)), (6, .nilIface), (7, .int .i64 (Lm b a : Int)), (8, .nilIface), (9, .int .i64 (Lm a.reverse b.reverse : Int)), (10, .nilIface), (11, .int .i64 (Lm a a : Int)), (12, .nilIface), (13, .slice (some ⟨w_25.heap.size, 0, none⟩) 0 0), (61, .slice A a.length c), (62, .int .i64 (a.length : Int)), (63, .int .i64 0)] w_27 [] (by kernel_rfl) trivial ?_
      refine XL_nil ?_
      refine X_block ?_
      have hr_32 := Kd.R_litB (Kd.int .i64) (W := w_25) (e := 3) (cs := #[]) [] hk_29 (repsInt []) (Nat.le_of_ble_eq_true (by kernel_rfl))
      refine X_loop (ι := Nat × Option Addr × Nat) (fun ⟨i, Ai, ci⟩ => [(0, .slice A a.length c), (1, .slice A' b.length c'), (5, .int .i64 (Lm a b : Int)), (6, .nilIface), (7, .int .i64 (Lm b a : Int)), (8, .nilIface), (9, .int .i64 (Lm a.reverse b.reverse : Int)), (10, .nilIface), (11, .int .i64 (Lm a a : Int)), (12, .nilIface), (13, .slice Ai (((a.take i).map oddf).length) ci), (61, .slice A a.length c), (62, .int .i64 (a.length : Int)), (63, .int .i64 (i : Int))]) (fun ⟨i, Ai, ci⟩ wi => i ≤ a.length ∧ (Kd.int .i64).R 3 wi w_25.heap.size (OkFrom w_25.heap.size) (.slice Ai ((a.take i).map oddf).length ci) ((a.take i).map oddf) ∧ Below w_25.heap.size w_25 wi) (fun ⟨i, Ai, ci⟩ => a.length - i) ⟨0, (some ⟨w_25.heap.size, 0, none⟩), 0⟩ ⟨by omega, hr_32, hb_28⟩ (by kernel_rfl) ?_
      rintro ⟨i, Ai, ci⟩ wi ⟨hi, HRi, HBi⟩
      refine X_seq ?_
      refine X_region ?_
      by_cases c_33 : (i : Int) < (a.length : Int)
      · refine XL_run 1 [(64, .eq (.bool true))] [(0, .slice A a.length c), (1, .slice A' b.length c'), (5, .int .i64 (Lm a b : Int)), (6, .nilIface), (7, .int .i64 (Lm b a : Int)), (8, .nilIface), (9, .int .i64 (Lm a.reverse b.reverse : Int)), (10, .nilIface), (11, .int .i64 (Lm a a : Int)), (12, .nilIface), (13, .slice Ai (((a.take i).map oddf).length) ci), (61, .slice A a.length c), (62, .int .i64 (a.length : Int)), (63, .int .i64 (i : Int)), (64, .bool true)] wi [Value.bool (decide ((i : Int) < (a.length : Int))) = Value.bool true] (by kernel_rfl) ⟨congrArg Value.bool (decide_eq_true (c_33)), trivial⟩ ?_
        refine XL_nil ?_
        refine X_seq ?_
        refine X_cond true rfl ?_
        refine X_skip ?_
        refine X_seq ?_
        refine X_block ?_
        refine X_seq ?_
        refine X_region ?_
        obtain ⟨ad_34, ha_35, hc_36⟩ := Kd.atI (Kd.C_below ha (bt (bt (bt (bt (bt (bt (bt hb_2 hb_10) hb_12) hb_17) hb_22) hb_24) hb_26) HBi)) (i := (i : Int)) (by omega) (by omega)
        refine XL_run 3 [(65, .idx ad_34), (66, .load (.int .i64 (rd a (i : Int))))] [(0, .slice A a.length c), (1, .slice A' b.length c'), (5, .int .i64 (Lm a b : Int)), (6, .nilIface), (7, .int .i64 (Lm b a : Int)), (8, .nilIface), (9, .int .i64 (Lm a.reverse b.reverse : Int)), (10, .nilIface), (11, .int .i64 (Lm a a : Int)), (12, .nilIface), (13, .slice Ai (((a.take i).map oddf).length) ci), (15, .int .i64 (rd a (i : Int))), (61, .slice A a.length c), (62, .int .i64 (a.length : Int)), (63, .int .i64 (i : Int))] wi [A = some ad_34, (0 : Int) ≤ (i : Int), (i : Int) < (a.length : Int), LoadsAs Tryd.prog 3 (ad_34.add ((i : Int).toNat * 1)) (.int .i64 (rd a (i : Int))) wi] (by kernel_rfl) ⟨ha_35, (by omega), (by omega), loads1 rfl (elem_cell hc_36 0 _ rfl), trivial⟩ ?_
        refine XL_nil ?_
        refine X_region ?_
        refine XL_run 6 [(70, .eq (.int .i64 (2 * (Int.tmod (rd a (i : Int)) 1099511627776)))), (71, .eq (.int .i64 ((2 * (Int.tmod (rd a (i : Int)) 1099511627776)) + 1)))] [(0, .slice A a.length c), (1, .slice A' b.length c'), (5, .int .i64 (Lm a b : Int)), (6, .nilIface), (7, .int .i64 (Lm b a : Int)), (8, .nilIface), (9, .int .i64 (Lm a.reverse b.reverse : Int)), (10, .nilIface), (11, .int .i64 (Lm a a : Int)), (12, .nilIface), (61, .slice A a.length c), (62, .int .i64 (a.length : Int)), (63, .int .i64 (i : Int)), (67, .slice Ai (((a.take i).map oddf).length) ci), (72, .slice (some ⟨wi.heap.size, 0, none⟩) 1 1)] (wi.alloc (.cells #[.int .i64 ((2 * (Int.tmod (rd a (i : Int)) 1099511627776)) + 1)] 3)) [Value.int .i64 (IntKind.i64.wrap (2 * (Int.tmod (rd a (i : Int)) 1099511627776))) = Value.int .i64 (2 * (Int.tmod (rd a (i : Int)) 1099511627776)), Value.int .i64 (IntKind.i64.wrap ((2 * (Int.tmod (rd a (i : Int)) 1099511627776)) + 1)) = Value.int .i64 ((2 * (Int.tmod (rd a (i : Int)) 1099511627776)) + 1)] (by kernel_rfl) ⟨wr_i64 (by have := tmod_bd (rd a (i : Int)); omega) (by have := tmod_bd (rd a (i : Int)); omega), wr_i64 (by have := tmod_bd (rd a (i : Int)); omega) (by have := tmod_bd (rd a (i : Int)); omega), trivial⟩ ?_
        obtain ⟨w_37, hw_41, hb_38, hk_39, hz_40⟩ := new_world wi #[.int .i64 ((2 * (Int.tmod (rd a (i : Int)) 1099511627776)) + 1)] 3
        rw [hw_41]
        rw [← hw_41]
        refine XL_append (Kd.int .i64) rfl rfl rfl w_25.heap.size 3 (.int .i64 0) 8 Tryd.underlying22 info3 rfl (by decide) (by omega) ((a.take i).map oddf) ((2 * (Int.tmod (rd a (i : Int)) 1099511627776)) + 1) [.int .i64 ((2 * (Int.tmod (rd a (i : Int)) 1099511627776)) + 1)] (fun _ => False) (by kernel_rfl) rfl (fun _ h => h.elim) HRi (HBi).size (by simp; omega) ?_
        intro A_42 c_43 w_44 hr_45 hc_46 hg_47 hl_48 ha_49
        have he_50 : (((a.take i).map oddf) ++ [(2 * (Int.tmod (rd a (i : Int)) 1099511627776)) + 1]) = ((a.take (i + 1)).map oddf) := take_map oddf a i (by omega)
        rw [he_50] at hr_45 ⊢
        refine XL_run 1 [] [(0, .slice A a.length c), (1, .slice A' b.length c'), (5, .int .i64 (Lm a b : Int)), (6, .nilIface), (7, .int .i64 (Lm b a : Int)), (8, .nilIface), (9, .int .i64 (Lm a.reverse b.reverse : Int)), (10, .nilIface), (11, .int .i64 (Lm a a : Int)), (12, .nilIface), (13, .slice A_42 (((a.take (i + 1)).map oddf).length) c_43), (61, .slice A a.length c), (62, .int .i64 (a.length : Int)), (63, .int .i64 (i : Int))] w_44 [] (by kernel_rfl) trivial ?_
        refine XL_nil ?_
        refine X_region ?_
        refine XL_run 2 [(74, .eq (.int .i64 ((i : Int) + 1)))] [(0, .slice A a.length c), (1, .slice A' b.length c'), (5, .int .i64 (Lm a b : Int)), (6, .nilIface), (7, .int .i64 (Lm b a : Int)), (8, .nilIface), (9, .int .i64 (Lm a.reverse b.reverse : Int)), (10, .nilIface), (11, .int .i64 (Lm a a : Int)), (12, .nilIface), (13, .slice A_42 (((a.take (i + 1)).map oddf).length) c_43), (61, .slice A a.length c), (62, .int .i64 (a.length : Int)), (63, .int .i64 ((i : Int) + 1))] w_44 [Value.int .i64 (IntKind.i64.wrap ((i : Int) + 1)) = Value.int .i64 ((i : Int) + 1)] (by kernel_rfl) ⟨wr_i64 (by omega) (by omega), trivial⟩ ?_
        refine XL_nil ?_
        refine ⟨⟨i + 1, A_42, c_43⟩, by kernel_rfl, ?_, ?_⟩
        · exact ⟨by omega, hr_45, (bgo HBi hg_47 hl_48 (Nat.le_refl _))⟩
        · (try dsimp only); omega
      · refine XL_run 1 [(64, .eq (.bool false))] [(0, .slice A a.length c), (1, .slice A' b.length c'), (5, .int .i64 (Lm a b : Int)), (6, .nilIface), (7, .int .i64 (Lm b a : Int)), (8, .nilIface), (9, .int .i64 (Lm a.reverse b.reverse : Int)), (10, .nilIface), (11, .int .i64 (Lm a a : Int)), (12, .nilIface), (13, .slice Ai (((a.take i).map oddf).length) ci), (61, .slice A a.length c), (62, .int .i64 (a.length : Int)), (63, .int .i64 (i : Int)), (64, .bool false)] wi [Value.bool (decide ((i : Int) < (a.length : Int))) = Value.bool false] (by kernel_rfl) ⟨congrArg Value.bool (decide_eq_false (c_33)), trivial⟩ ?_
        refine XL_nil ?_
        refine X_seq ?_
        refine X_cond false rfl ?_
        refine X_exit ?_
        refine X_seq ?_
        refine X_region ?_
        refine XL_run 1 [] [(0, .slice A a.length c), (1, .slice A' b.length c'), (5, .int .i64 (Lm a b : Int)), (6, .nilIface), (7, .int .i64 (Lm b a : Int)), (8, .nilIface), (9, .int .i64 (Lm a.reverse b.reverse : Int)), (10, .nilIface), (11, .int .i64 (Lm a a : Int)), (12, .nilIface), (13, .slice Ai (((a.take i).map oddf).length) ci), (75, .slice (some ⟨wi.heap.size, 0, none⟩) 0 0)] (wi.alloc (.cells #[] 3)) [] (by kernel_rfl) trivial ?_
        obtain ⟨w_51, hw_55, hb_52, hk_53, hz_54⟩ := new_world wi #[] 3
        rw [hw_55]
        refine XL_run 1 [] [(0, .slice A a.length c), (1, .slice A' b.length c'), (5, .int .i64 (Lm a b : Int)), (6, .nilIface), (7, .int .i64 (Lm b a : Int)), (8, .nilIface), (9, .int .i64 (Lm a.reverse b.reverse : Int)), (10, .nilIface), (11, .int .i64 (Lm a a : Int)), (12, .nilIface), (13, .slice Ai (((a.take i).map oddf).length) ci), (16, .slice (some ⟨wi.heap.size, 0, none⟩) 0 0)] w_51 [] (by kernel_rfl) trivial ?_
        refine XL_nil ?_
        refine X_seq ?_
        refine X_seq ?_
        refine X_region ?_
        refine XL_run 3 [] [(0, .slice A a.length c), (1, .slice A' b.length c'), (5, .int .i64 (Lm a b : Int)), (6, .nilIface), (7, .int .i64 (Lm b a : Int)), (8, .nilIface), (9, .int .i64 (Lm a.reverse b.reverse : Int)), (10, .nilIface), (11, .int .i64 (Lm a a : Int)), (12, .nilIface), (13, .slice Ai (((a.take i).map oddf).length) ci), (16, .slice (some ⟨wi.heap.size, 0, none⟩) 0 0), (76, .slice A' b.length c'), (77, .int .i64 (b.length : Int)), (78, .int .i64 0)] w_51 [] (by kernel_rfl) trivial ?_
        refine XL_nil ?_
        refine X_block ?_
        have hr_56 := Kd.R_litB (Kd.int .i64) (W := wi) (e := 3) (cs := #[]) [] hk_53 (repsInt []) (Nat.le_of_ble_eq_true (by kernel_rfl))
        have hio : i = a.length := by omega
        refine X_loop (ι := Nat × Option Addr × Nat) (fun ⟨k, Ak, ck⟩ => [(0, .slice A a.length c), (1, .slice A' b.length c'), (5, .int .i64 (Lm a b : Int)), (6, .nilIface), (7, .int .i64 (Lm b a : Int)), (8, .nilIface), (9, .int .i64 (Lm a.reverse b.reverse : Int)), (10, .nilIface), (11, .int .i64 (Lm a a : Int)), (12, .nilIface), (13, .slice Ai (((a.take i).map oddf).length) ci), (16, .slice Ak (((b.take k).map evenf).length) ck), (76, .slice A' b.length c'), (77, .int .i64 (b.length : Int)), (78, .int .i64 (k : Int))]) (fun ⟨k, Ak, ck⟩ wk => k ≤ b.length ∧ (Kd.int .i64).R 3 wk wi.heap.size (OkFrom wi.heap.size) (.slice Ak ((b.take k).map evenf).length ck) ((b.take k).map evenf) ∧ Below wi.heap.size wi wk) (fun ⟨k, Ak, ck⟩ => b.length - k) ⟨0, (some ⟨wi.heap.size, 0, none⟩), 0⟩ ⟨by omega, hr_56, hb_52⟩ (by kernel_rfl) ?_
        rintro ⟨k, Ak, ck⟩ wk ⟨hk, HRk, HBk⟩
        refine X_seq ?_
        refine X_region ?_
        by_cases c_57 : (k : Int) < (b.length : Int)
        · refine XL_run 1 [(79, .eq (.bool true))] [(0, .slice A a.length c), (1, .slice A' b.length c'), (5, .int .i64 (Lm a b : Int)), (6, .nilIface), (7, .int .i64 (Lm b a : Int)), (8, .nilIface), (9, .int .i64 (Lm a.reverse b.reverse : Int)), (10, .nilIface), (11, .int .i64 (Lm a a : Int)), (12, .nilIface), (13, .slice Ai (((a.take i).map oddf).length) ci), (16, .slice Ak (((b.take k).map evenf).length) ck), (76, .slice A' b.length c'), (77, .int .i64 (b.length : Int)), (78, .int .i64 (k : Int)), (79, .bool true)] wk [Value.bool (decide ((k : Int) < (b.length : Int))) = Value.bool true] (by kernel_rfl) ⟨congrArg Value.bool (decide_eq_true (c_57)), trivial⟩ ?_
          refine XL_nil ?_
          refine X_seq ?_
          refine X_cond true rfl ?_
          refine X_skip ?_
          refine X_seq ?_
          refine X_block ?_
          refine X_seq ?_
          refine X_region ?_
          obtain ⟨ad_58, ha_59, hc_60⟩ := Kd.atI (Kd.C_below hb (bt (bt (bt (bt (bt (bt (bt (bt hb_2 hb_10) hb_12) hb_17) hb_22) hb_24) hb_26) HBi) HBk)) (i := (k : Int)) (by omega) (by omega)
          refine XL_run 3 [(80, .idx ad_58), (81, .load (.int .i64 (rd b (k : Int))))] [(0, .slice A a.length c), (1, .slice A' b.length c'), (5, .int .i64 (Lm a b : Int)), (6, .nilIface), (7, .int .i64 (Lm b a : Int)), (8, .nilIface), (9, .int .i64 (Lm a.reverse b.reverse : Int)), (10, .nilIface), (11, .int .i64 (Lm a a : Int)), (12, .nilIface), (13, .slice Ai (((a.take i).map oddf).length) ci), (16, .slice Ak (((b.take k).map evenf).length) ck), (18, .int .i64 (rd b (k : Int))), (76, .slice A' b.length c'), (77, .int .i64 (b.length : Int)), (78, .int .i64 (k : Int))] wk [A' = some ad_58, (0 : Int) ≤ (k : Int), (k : Int) < (b.length : Int), LoadsAs Tryd.prog 3 (ad_58.add ((k : Int).toNat * 1)) (.int .i64 (rd b (k : Int))) wk] (by kernel_rfl) ⟨ha_59, (by omega), (by omega), loads1 rfl (elem_cell hc_60 0 _ rfl), trivial⟩ ?_
          refine XL_nil ?_
          refine X_region ?_
          refine XL_run 5 [(85, .eq (.int .i64 (2 * (Int.tmod (rd b (k : Int)) 1099511627776))))] [(0, .slice A a.length c), (1, .slice A' b.length c'), (5, .int .i64 (Lm a b : Int)), (6, .nilIface), (7, .int .i64 (Lm b a : Int)), (8, .nilIface), (9, .int .i64 (Lm a.reverse b.reverse : Int)), (10, .nilIface), (11, .int .i64 (Lm a a : Int)), (12, .nilIface), (13, .slice Ai (((a.take i).map oddf).length) ci), (76, .slice A' b.length c'), (77, .int .i64 (b.length : Int)), (78, .int .i64 (k : Int)), (82, .slice Ak (((b.take k).map evenf).length) ck), (86, .slice (some ⟨wk.heap.size, 0, none⟩) 1 1)] (wk.alloc (.cells #[.int .i64 (2 * (Int.tmod (rd b (k : Int)) 1099511627776))] 3)) [Value.int .i64 (IntKind.i64.wrap (2 * (Int.tmod (rd b (k : Int)) 1099511627776))) = Value.int .i64 (2 * (Int.tmod (rd b (k : Int)) 1099511627776))] (by kernel_rfl) ⟨wr_i64 (by have := tmod_bd (rd b (k : Int)); omega) (by have := tmod_bd (rd b (k : Int)); omega), trivial⟩ ?_
          obtain ⟨w_61, hw_65, hb_62, hk_63, hz_64⟩ := new_world wk #[.int .i64 (2 * (Int.tmod (rd b (k : Int)) 1099511627776))] 3
          rw [hw_65]
          rw [← hw_65]
          refine XL_append (Kd.int .i64) rfl rfl rfl wi.heap.size 3 (.int .i64 0) 8 Tryd.underlying22 info3 rfl (by decide) (by omega) ((b.take k).map evenf) (2 * (Int.tmod (rd b (k : Int)) 1099511627776)) [.int .i64 (2 * (Int.tmod (rd b (k : Int)) 1099511627776))] (fun _ => False) (by kernel_rfl) rfl (fun _ h => h.elim) HRk (HBk).size (by simp; omega) ?_
          intro A_66 c_67 w_68 hr_69 hc_70 hg_71 hl_72 ha_73
          have he_74 : (((b.take k).map evenf) ++ [2 * (Int.tmod (rd b (k : Int)) 1099511627776)]) = ((b.take (k + 1)).map evenf) := take_map evenf b k (by omega)
          rw [he_74] at hr_69 ⊢
          refine XL_run 1 [] [(0, .slice A a.length c), (1, .slice A' b.length c'), (5, .int .i64 (Lm a b : Int)), (6, .nilIface), (7, .int .i64 (Lm b a : Int)), (8, .nilIface), (9, .int .i64 (Lm a.reverse b.reverse : Int)), (10, .nilIface), (11, .int .i64 (Lm a a : Int)), (12, .nilIface), (13, .slice Ai (((a.take i).map oddf).length) ci), (16, .slice A_66 (((b.take (k + 1)).map evenf).length) c_67), (76, .slice A' b.length c'), (77, .int .i64 (b.length : Int)), (78, .int .i64 (k : Int))] w_68 [] (by kernel_rfl) trivial ?_
          refine XL_nil ?_
          refine X_region ?_
          refine XL_run 2 [(88, .eq (.int .i64 ((k : Int) + 1)))] [(0, .slice A a.length c), (1, .slice A' b.length c'), (5, .int .i64 (Lm a b : Int)), (6, .nilIface), (7, .int .i64 (Lm b a : Int)), (8, .nilIface), (9, .int .i64 (Lm a.reverse b.reverse : Int)), (10, .nilIface), (11, .int .i64 (Lm a a : Int)), (12, .nilIface), (13, .slice Ai (((a.take i).map oddf).length) ci), (16, .slice A_66 (((b.take (k + 1)).map evenf).length) c_67), (76, .slice A' b.length c'), (77, .int .i64 (b.length : Int)), (78, .int .i64 ((k : Int) + 1))] w_68 [Value.int .i64 (IntKind.i64.wrap ((k : Int) + 1)) = Value.int .i64 ((k : Int) + 1)] (by kernel_rfl) ⟨wr_i64 (by omega) (by omega), trivial⟩ ?_
          refine XL_nil ?_
          refine ⟨⟨k + 1, A_66, c_67⟩, by kernel_rfl, ?_, ?_⟩
          · exact ⟨by omega, hr_69, (bgo HBk hg_71 hl_72 (Nat.le_refl _))⟩
          · (try dsimp only); omega
        · refine XL_run 1 [(79, .eq (.bool false))] [(0, .slice A a.length c), (1, .slice A' b.length c'), (5, .int .i64 (Lm a b : Int)), (6, .nilIface), (7, .int .i64 (Lm b a : Int)), (8, .nilIface), (9, .int .i64 (Lm a.reverse b.reverse : Int)), (10, .nilIface), (11, .int .i64 (Lm a a : Int)), (12, .nilIface), (13, .slice Ai (((a.take i).map oddf).length) ci), (16, .slice Ak (((b.take k).map evenf).length) ck), (76, .slice A' b.length c'), (77, .int .i64 (b.length : Int)), (78, .int .i64 (k : Int)), (79, .bool false)] wk [Value.bool (decide ((k : Int) < (b.length : Int))) = Value.bool false] (by kernel_rfl) ⟨congrArg Value.bool (decide_eq_false (c_57)), trivial⟩ ?_
          refine XL_nil ?_
          refine X_seq ?_
          refine X_cond false rfl ?_
          refine X_exit ?_
          refine X_seq ?_
          refine X_region ?_
          refine XL_run 2 [] [(0, .slice A a.length c), (1, .slice A' b.length c'), (5, .int .i64 (Lm a b : Int)), (6, .nilIface), (7, .int .i64 (Lm b a : Int)), (8, .nilIface), (9, .int .i64 (Lm a.reverse b.reverse : Int)), (10, .nilIface), (11, .int .i64 (Lm a a : Int)), (12, .nilIface), (90, .slice Ai (((a.take i).map oddf).length) ci), (91, .slice Ak (((b.take k).map evenf).length) ck)] wk [] (by kernel_rfl) trivial ?_
          have hko : k = b.length := by omega
          refine XL_call 11 rfl rfl rfl ent11 [.slice Ai (((a.take i).map oddf).length) ci, .slice Ak (((b.take k).map evenf).length) ck] (by kernel_rfl) (length_n _ _ _ _ _ _ ((a.take i).map oddf) ((b.take k).map evenf) _ (Kd.R_C (Kd.R_below HRi HBk)) (Kd.R_C HRk) (by rw [List.length_map, List.length_take]; omega) (by rw [List.length_map, List.length_take]; omega)) ?_
          rintro e w_75 ⟨rfl, hb_76⟩; refine ⟨_, rfl, ?_⟩
          rw [show (Lm ((a.take i).map oddf) ((b.take k).map evenf) : Int) = 0 from by rw [hio, hko, List.take_length, List.take_length, Lm_odd]; rfl]
          refine XL_run 5 [] [(0, .slice A a.length c), (1, .slice A' b.length c'), (5, .int .i64 (Lm a b : Int)), (6, .nilIface), (7, .int .i64 (Lm b a : Int)), (8, .nilIface), (9, .int .i64 (Lm a.reverse b.reverse : Int)), (10, .nilIface), (11, .int .i64 (Lm a a : Int)), (12, .nilIface), (19, .int .i64 0), (20, .nilIface)] w_75 [] (by kernel_rfl) trivial ?_
          refine XL_nil ?_
          refine X_seq ?_
          refine X_region ?_
          refine XL_run 48 [(116, .eq (.bool true)), (121, .eq (.bool true)), (127, .eq (.bool true)), (139, .eq (.int .i64 (min (a.length : Int) (b.length : Int)))), (140, .eq (.bool true))] [(4, .bool true)] w_75 [Value.bool ((Lm a b : Int) == (Lm b a : Int)) = Value.bool true, Value.bool ((Lm a b : Int) == (Lm a.reverse b.reverse : Int)) = Value.bool true, Value.bool ((Lm a a : Int) == (a.length : Int)) = Value.bool true, Value.int .i64 (if (b.length : Int) < (a.length : Int) then (b.length : Int) else (a.length : Int)) = Value.int .i64 (min (a.length : Int) (b.length : Int)), Value.bool (decide ((Lm a b : Int) ≤ min (a.length : Int) (b.length : Int))) = Value.bool true] (by kernel_rfl) ⟨congrArg Value.bool (beq_iff_eq.2 ((by rw [Lm_comm]))), congrArg Value.bool (beq_iff_eq.2 ((by rw [Lm_rev]))), congrArg Value.bool (beq_iff_eq.2 ((by rw [Lm_self]))), congrArg (Value.int .i64) (min_eq _ _), congrArg Value.bool (decide_eq_true ((by have := L_le a b a.length b.length; unfold Lm; omega))), trivial⟩ ?_
          refine XL_nil ?_
          refine X_ret ?_
          refine RX.ret_ok (P := Tryd.prog) (fn := Tryd.f5) (N := 142) (R := R_) [.bool true] (by kernel_rfl) (hR_ _ _ ?_)
          exact ⟨rfl, (bt (bt (bt (bt (bt (bt (bt (bt (bt hb_2 hb_10) hb_12) hb_17) hb_22) hb_24) hb_26) HBi) HBk) hb_76)⟩
end Go.Proofs.YtmhkeojbjliieaaDoor
