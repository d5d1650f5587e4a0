/- What MatchGreatest answers. Conditions: Errs, bounds on lengths. -/
import Derived.Test.YtmhkeojbjliieaaDoorV6
set_option linter.unusedVariables false
set_option linter.unusedSimpArgs false
set_option maxRecDepth 100000
namespace Go.Proofs.YtmhkeojbjliieaaDoor
open Go.RowKit Go.Proofs.YtmhkeojbjliieaaDoorW.PrintWords MM RX
theorem RX.Kd.R_later {α : Type} {d : Kd α} {e : Nat} {W9 w1 w2 : World} {v : Value} {ys : List α} {row : Option Nat} (hq : d.R e w1 W9.heap.size (OkFrom W9.heap.size) v ys) (hlt : ∀ k, row = some k → k < W9.heap.size) (hg : w1.grownBy w2 row) :
    d.R e w2 W9.heap.size (OkFrom W9.heap.size) v ys := Kd.R_grown hq hg (fun k hk he => by have h1 := hlt k he.symm; have h2 : W9.heap.size ≤ k := hk; omega)
theorem RX.Kd.R_lt {α : Type} {d : Kd α} {e : Nat} {w : World} {base : Nat} {ok : Nat → Prop} {A : Option Addr} {n c : Nat} {xs : List α} (h : d.R e w base ok (.slice A n c) xs) : ∀ k, A.map (·.block) = some k → k < w.heap.size := by
  intro k hk
  obtain ⟨inner, ho⟩ := Kd.R_own h
  obtain ⟨cells, hb⟩ := own_typed ho k (by rw [ownB]; exact hk)
  exact (Array.getElem?_eq_some_iff.1 hb).1
theorem last_get (xs : List Int) (y z : Int) : (xs ++ [y]).getD xs.length z = y := by simp [List.getD_eq_getElem?_getD]
set_option maxHeartbeats 4000000 in
theorem greatest_any (A A' : Option Addr) (c c' : Nat) (a b : List Int) (w : World) (ha : (Kd.int .i64).C w A a.length a) (hb : (Kd.int .i64).C w A' b.length b) (es : List Addr) (hE : Errs w es) (hla : a.length ≤ 1048576) (hlb : b.length ≤ 1048576) :
    Calls Tryd.prog 3 #[.slice A a.length c, .slice A' b.length c'] w fun e w' => e = .returned (.bool true) ∧ Below w.heap.size w w' := by
  have k2 := L_le a b a.length b.length
  have k4 : Lm a b = L a b a.length b.length := rfl
  have k5 := dist_eq a b
  refine RX.enter Tryd.func3 rfl 198 rfl [(0, .slice A a.length c), (1, .slice A' b.length c')] rfl (by kernel_rfl) (fun R_ hR_ => ?_)
  refine X_seq ?_
  refine X_region ?_
  refine XL_run 1 [] [(0, .slice A a.length c), (1, .slice A' b.length c')] w [] (by kernel_rfl) trivial ?_
  refine XL_nil ?_
  refine X_seq ?_
  refine X_seq ?_
  refine X_region ?_
  refine XL_call 7 rfl rfl rfl ent7 [] (by kernel_rfl) (lives_any es _ (hE.below (Below.refl _ _))) ?_
  rintro e w_1 ⟨rfl, hb_2⟩; refine ⟨_, rfl, ?_⟩
  refine XL_run 1 [] [(0, .slice A a.length c), (1, .slice A' b.length c'), (18, .bool false)] w_1 [] (by kernel_rfl) trivial ?_
  refine XL_nil ?_
  refine X_cond false rfl ?_
  refine X_skip ?_
  refine X_seq ?_
  refine X_seq ?_
  refine X_region ?_
  refine XL_run 2 [] [(0, .slice A a.length c), (1, .slice A' b.length c'), (20, .int .i64 (a.length : Int))] w_1 [] (by kernel_rfl) trivial ?_
  by_cases c_3 : (a.length : Int) > 1024
  · refine XL_run 6 [(21, .eq (.bool true))] [(0, .slice A a.length c), (1, .slice A' b.length c'), (26, .bool true)] w_1 [Value.bool (decide ((a.length : Int) > 1024)) = Value.bool true] (by kernel_rfl) ⟨congrArg Value.bool (decide_eq_true (c_3)), trivial⟩ ?_
    refine XL_nil ?_
    refine X_cond true rfl ?_
    refine X_seq ?_
    refine X_region ?_
    refine XL_run 2 [] [(27, .slice A a.length c), (28, .slice A' b.length c')] w_1 [] (by kernel_rfl) trivial ?_
    refine XL_call 8 rfl rfl rfl ent8 [.slice A a.length c, .slice A' b.length c'] (by kernel_rfl) (refused_any _ _ _ _ _ _ es _ (hE.below hb_2) (by omega) (by omega) (by omega)) ?_
    rintro e w_4 ⟨rfl, hb_5⟩; refine ⟨_, rfl, ?_⟩
    refine XL_run 1 [] [(4, .bool true)] w_4 [] (by kernel_rfl) trivial ?_
    refine XL_nil ?_
    refine X_ret ?_
    refine RX.ret_ok (P := Tryd.prog) (fn := Tryd.f3) (N := 198) (R := R_) [.bool true] (by kernel_rfl) (hR_ _ _ ?_)
    exact ⟨rfl, (bt hb_2 hb_5)⟩
  · refine XL_run 4 [(21, .eq (.bool false))] [(0, .slice A a.length c), (1, .slice A' b.length c'), (22, .bool false), (24, .int .i64 (b.length : Int))] w_1 [Value.bool (decide ((a.length : Int) > 1024)) = Value.bool false] (by kernel_rfl) ⟨congrArg Value.bool (decide_eq_false (c_3)), trivial⟩ ?_
    by_cases c_6 : (b.length : Int) > 1024
    · refine XL_run 2 [(25, .eq (.bool true))] [(0, .slice A a.length c), (1, .slice A' b.length c'), (26, .bool true)] w_1 [Value.bool (decide ((b.length : Int) > 1024)) = Value.bool true] (by kernel_rfl) ⟨congrArg Value.bool (decide_eq_true (c_6)), trivial⟩ ?_
      refine XL_nil ?_
      refine X_cond true rfl ?_
      refine X_seq ?_
      refine X_region ?_
      refine XL_run 2 [] [(27, .slice A a.length c), (28, .slice A' b.length c')] w_1 [] (by kernel_rfl) trivial ?_
      refine XL_call 8 rfl rfl rfl ent8 [.slice A a.length c, .slice A' b.length c'] (by kernel_rfl) (refused_any _ _ _ _ _ _ es _ (hE.below hb_2) (by omega) (by omega) (by omega)) ?_
      rintro e w_7 ⟨rfl, hb_8⟩; refine ⟨_, rfl, ?_⟩
      refine XL_run 1 [] [(4, .bool true)] w_7 [] (by kernel_rfl) trivial ?_
      refine XL_nil ?_
      refine X_ret ?_
      refine RX.ret_ok (P := Tryd.prog) (fn := Tryd.f3) (N := 198) (R := R_) [.bool true] (by kernel_rfl) (hR_ _ _ ?_)
      exact ⟨rfl, (bt hb_2 hb_8)⟩
    · refine XL_run 2 [(25, .eq (.bool false))] [(0, .slice A a.length c), (1, .slice A' b.length c'), (26, .bool false)] w_1 [Value.bool (decide ((b.length : Int) > 1024)) = Value.bool false] (by kernel_rfl) ⟨congrArg Value.bool (decide_eq_false (c_6)), trivial⟩ ?_
      refine XL_nil ?_
      refine X_cond false rfl ?_
      refine X_skip ?_
      refine X_seq ?_
      refine X_seq ?_
      refine X_region ?_
      refine XL_run 2 [] [(0, .slice A a.length c), (1, .slice A' b.length c'), (30, .slice A a.length c), (31, .slice A' b.length c')] w_1 [] (by kernel_rfl) trivial ?_
      refine XL_call 9 rfl rfl rfl ent9 [.slice A a.length c, .slice A' b.length c'] (by kernel_rfl) (lawLong_any _ _ _ _ _ _ _) ?_
      rintro e w_ ⟨bo_9, rfl, rfl⟩; refine ⟨_, rfl, ?_⟩
      refine XL_nil ?_
      by_cases c_10 : bo_9 = true
      · rw [show (bo_9 : Bool) = true from by simpa using c_10]
        refine X_cond true rfl ?_
        refine X_seq ?_
        refine X_region ?_
        refine XL_run 1 [] [(4, .bool true)] w_1 [] (by kernel_rfl) trivial ?_
        refine XL_nil ?_
        refine X_ret ?_
        refine RX.ret_ok (P := Tryd.prog) (fn := Tryd.f3) (N := 198) (R := R_) [.bool true] (by kernel_rfl) (hR_ _ _ ?_)
        exact ⟨rfl, hb_2⟩
      · rw [show (bo_9 : Bool) = false from by simpa using c_10]
        refine X_cond false rfl ?_
        refine X_skip ?_
        refine X_seq ?_
        refine X_region ?_
        refine XL_run 1 [] [(0, .slice A a.length c), (1, .slice A' b.length c'), (33, .slice (some ⟨w_1.heap.size, 0, none⟩) 0 0)] (w_1.alloc (.cells #[] 3)) [] (by kernel_rfl) trivial ?_
        obtain ⟨w_11, hw_15, hb_12, hk_13, hz_14⟩ := new_world w_1 #[] 3
        rw [hw_15]
        refine XL_run 1 [] [(0, .slice A a.length c), (1, .slice A' b.length c'), (33, .slice (some ⟨w_1.heap.size, 0, none⟩) 0 0), (34, .slice A a.length c)] w_11 [] (by kernel_rfl) trivial ?_
        have hr_16 := Kd.R_litB (Kd.int .i64) (W := w_1) (e := 3) (cs := #[]) [] hk_13 (repsInt []) (Nat.le_of_ble_eq_true (by kernel_rfl))
        refine XL_appendAll (c' := c) (Kd.int .i64) rfl rfl rfl w_1.heap.size 3 (.int .i64 0) 8 Tryd.underlying22 info3 rfl (by decide) (by omega) ([]) a (by kernel_rfl) hr_16 (Kd.C_below ha (bt hb_2 hb_12)) (fun _ _ h => h) (hb_12).size (by first | omega | (simp; omega)) ?_
        intro A_17 c_18 w_19 hr_20 hc_21 hg_22 hl_23 ha_24
        have he_25 : ([] ++ a) = a := List.nil_append _
        rw [he_25] at hr_20 ⊢
        refine XL_run 1 [] [(0, .slice A a.length c), (1, .slice A' b.length c'), (35, .slice A_17 a.length c_18), (36, .slice (some ⟨w_19.heap.size, 0, none⟩) 1 1)] (w_19.alloc (.cells #[.int .i64 7] 3)) [] (by kernel_rfl) trivial ?_
        obtain ⟨w_26, hw_30, hb_27, hk_28, hz_29⟩ := new_world w_19 #[.int .i64 7] 3
        rw [hw_30]
        rw [← hw_30]
        refine XL_append (Kd.int .i64) rfl rfl rfl w_1.heap.size 3 (.int .i64 0) 8 Tryd.underlying22 info3 rfl (by decide) (by omega) a 7 [.int .i64 7] (fun _ => False) (by kernel_rfl) rfl (fun _ h => h.elim) hr_20 ((bgo hb_12 hg_22 hl_23 (Nat.le_refl _))).size (by first | omega | (simp; omega)) ?_
        intro A_31 c_32 w_33 hr_34 hc_35 hg_36 hl_37 ha_38
        refine XL_run 1 [] [(0, .slice A a.length c), (1, .slice A' b.length c'), (37, .slice A_31 ((a ++ [7]).length) c_32), (38, .slice (some ⟨w_33.heap.size, 0, none⟩) 0 0)] (w_33.alloc (.cells #[] 3)) [] (by kernel_rfl) trivial ?_
        obtain ⟨w_39, hw_43, hb_40, hk_41, hz_42⟩ := new_world w_33 #[] 3
        rw [hw_43]
        refine XL_run 1 [] [(0, .slice A a.length c), (1, .slice A' b.length c'), (37, .slice A_31 ((a ++ [7]).length) c_32), (38, .slice (some ⟨w_33.heap.size, 0, none⟩) 0 0), (39, .slice A' b.length c')] w_39 [] (by kernel_rfl) trivial ?_
        have hr_44 := Kd.R_litB (Kd.int .i64) (W := w_33) (e := 3) (cs := #[]) [] hk_41 (repsInt []) (Nat.le_of_ble_eq_true (by kernel_rfl))
        have hB_45 : Below w.heap.size w w_39 := (bt (bgo (bgo (bt hb_2 hb_12) hg_22 hl_23 (hb_2).size) hg_36 hl_37 (hb_2).size) hb_40)
        refine XL_appendAll (c' := c') (Kd.int .i64) rfl rfl rfl w_33.heap.size 3 (.int .i64 0) 8 Tryd.underlying22 info3 rfl (by decide) (by omega) ([]) b (by kernel_rfl) hr_44 (Kd.C_below hb hB_45) (fun _ _ h => h) (hb_40).size (by first | omega | (simp; omega)) ?_
        intro A_46 c_47 w_48 hr_49 hc_50 hg_51 hl_52 ha_53
        have he_54 : ([] ++ b) = b := List.nil_append _
        rw [he_54] at hr_49 ⊢
        refine XL_run 1 [] [(0, .slice A a.length c), (1, .slice A' b.length c'), (37, .slice A_31 ((a ++ [7]).length) c_32), (40, .slice A_46 b.length c_47), (41, .slice (some ⟨w_48.heap.size, 0, none⟩) 1 1)] (w_48.alloc (.cells #[.int .i64 8] 3)) [] (by kernel_rfl) trivial ?_
        obtain ⟨w_55, hw_59, hb_56, hk_57, hz_58⟩ := new_world w_48 #[.int .i64 8] 3
        rw [hw_59]
        rw [← hw_59]
        refine XL_append (Kd.int .i64) rfl rfl rfl w_33.heap.size 3 (.int .i64 0) 8 Tryd.underlying22 info3 rfl (by decide) (by omega) b 8 [.int .i64 8] (fun _ => False) (by kernel_rfl) rfl (fun _ h => h.elim) hr_49 ((bgo hb_40 hg_51 hl_52 (Nat.le_refl _))).size (by first | omega | (simp; omega)) ?_
        intro A_60 c_61 w_62 hr_63 hc_64 hg_65 hl_66 ha_67
        have hB_68 : Below w_33.heap.size w_33 w_62 := (bgo (bgo hb_40 hg_51 hl_52 (Nat.le_refl _)) hg_65 hl_66 (Nat.le_refl _))
        refine XL_run 2 [] [(0, .slice A a.length c), (1, .slice A' b.length c'), (5, .slice A_31 ((a ++ [7]).length) c_32), (6, .slice A_60 ((b ++ [8]).length) c_61)] w_62 [] (by kernel_rfl) trivial ?_
        refine XL_nil ?_
        refine X_seq ?_
        refine X_any [8] 14 #[false, false, false, false, false, false, false, false, false, false, false, false, false, false] (by kernel_rfl) (by kernel_rfl) (by kernel_rfl) (fun wd_69 hb_70 hh_71 => ?_)
        have hC_72 : (Kd.int .i64).C wd_69 A_31 a.length a := by have h := RX.Kd.C_take (m := a.length) (Kd.R_C (Kd.R_below hr_34 (bt hB_68 hb_70))) (by first | omega | (simp; done) | (simp; omega)); rwa [show (List.take a.length (a ++ [7])) = a from (by simp)] at h
        have hC_73 : (Kd.int .i64).C wd_69 A_60 b.length b := by have h := RX.Kd.C_take (m := b.length) (Kd.R_C (Kd.R_below hr_63 hb_70)) (by first | omega | (simp; done) | (simp; omega)); rwa [show (List.take b.length (b ++ [8])) = b from (by simp)] at h
        refine XA_run (fuel' := 6) [0, 1, 2, 3, 4, 5, 6, 7] [(47, .as (.slice A_31 a.length c_32)), (51, .as (.slice A_60 b.length c_61))] [.slice A_31 ((a ++ [7]).length) c_32, .slice A a.length c, .int .i64 (a.length : Int), .slice A_31 a.length c_32, .slice A_60 ((b ++ [8]).length) c_61, .slice A' b.length c', .int .i64 (b.length : Int), .slice A_60 b.length c_61] #[true, true, true, true, true, true, true, true, false, false, false, false, false, false] [(0, .slice A a.length c), (1, .slice A' b.length c'), (5, .slice A_31 ((a ++ [7]).length) c_32), (6, .slice A_60 ((b ++ [8]).length) c_61), (47, .slice A_31 a.length c_32), (51, .slice A_60 b.length c_61)] [RunsAs Tryd.prog [(44, .slice A_31 ((a ++ [7]).length) c_32), (46, .int .i64 (a.length : Int))] (Go.Op.slice 22 (Go.Operand.tmp 44) none (some (Go.Operand.tmp 46)) none) 22 (.slice A_31 a.length c_32) wd_69, RunsAs Tryd.prog [(48, .slice A_60 ((b ++ [8]).length) c_61), (50, .int .i64 (b.length : Int))] (Go.Op.slice 22 (Go.Operand.tmp 48) none (some (Go.Operand.tmp 50)) none) 22 (.slice A_60 b.length c_61) wd_69] (fun _ _ _ _ h => h) (by kernel_rfl) rfl ⟨runs_slice_h (h := (a.length : Int)) rfl rfl rfl rfl (by omega) (by have h := hc_35; (try simp only [List.length_append, List.length_cons, List.length_nil] at h); omega), runs_slice_h (h := (b.length : Int)) rfl rfl rfl rfl (by omega) (by have h := hc_64; (try simp only [List.length_append, List.length_cons, List.length_nil] at h); omega), trivial⟩ ?_
        refine XA_act (fuel' := 5) 8 #[true, true, true, true, true, true, true, true, true, false, false, false, false, false] _ rfl (by kernel_rfl) rfl (by kernel_rfl) rfl ?_
        refine XL_call 10 rfl rfl rfl ent10 [.slice A_31 a.length c_32, .slice A_60 b.length c_61] (by kernel_rfl) (match_n _ _ _ _ _ _ a b _ hC_72 hC_73 (by omega) (by omega)) ?_
        rintro e w_80 ⟨ps_74, A_75, c_76, rfl, HR_77, HM_78, HL_79, hb_81⟩; refine ⟨_, rfl, ?_⟩
        refine XL_nil ?_
        refine XA_pure (fuel' := 0) [9, 10, 11, 12, 13] [] [.tuple #[.slice A_75 ps_74.length c_76, .nilIface], .slice A_75 ps_74.length c_76, .nilIface, .slice A_75 ps_74.length c_76, .nilIface] #[true, true, true, true, true, true, true, true, true, true, true, true, true, true] [(0, .slice A a.length c), (1, .slice A' b.length c'), (5, .slice A_31 ((a ++ [7]).length) c_32), (6, .slice A_60 ((b ++ [8]).length) c_61), (7, .slice A_75 ps_74.length c_76), (8, .nilIface)] (fun w_ => []) (fun _ _ _ _ h => h) (fun w_ => by kernel_rfl) rfl (fun w_ => trivial) ?_
        refine XA_done (by kernel_rfl) ?_
        refine X_seq ?_
        refine X_any [8] 14 #[false, false, false, false, false, false, false, false, false, false, false, false, false, false] (by kernel_rfl) (by kernel_rfl) (by kernel_rfl) (fun wd_82 hb_83 hh_84 => ?_)
        have hC_85 : (Kd.int .i64).C wd_82 A_31 a.length a := by have h := RX.Kd.C_take (m := a.length) (Kd.R_C (Kd.R_below hr_34 (bt (bt (bt hB_68 hb_70) hb_81) hb_83))) (by first | omega | (simp; done) | (simp; omega)); rwa [show (List.take a.length (a ++ [7])) = a from (by simp)] at h
        have hC_86 : (Kd.int .i64).C wd_82 A_60 b.length b := by have h := RX.Kd.C_take (m := b.length) (Kd.R_C (Kd.R_below hr_63 (bt (bt hb_70 hb_81) hb_83))) (by first | omega | (simp; done) | (simp; omega)); rwa [show (List.take b.length (b ++ [8])) = b from (by simp)] at h
        refine XA_run (fuel' := 6) [0, 1, 2, 3, 4, 5, 6, 7] [(59, .as (.slice A_31 a.length c_32)), (63, .as (.slice A_60 b.length c_61))] [.slice A_31 ((a ++ [7]).length) c_32, .slice A a.length c, .int .i64 (a.length : Int), .slice A_31 a.length c_32, .slice A_60 ((b ++ [8]).length) c_61, .slice A' b.length c', .int .i64 (b.length : Int), .slice A_60 b.length c_61] #[true, true, true, true, true, true, true, true, false, false, false, false, false, false] [(0, .slice A a.length c), (1, .slice A' b.length c'), (5, .slice A_31 ((a ++ [7]).length) c_32), (6, .slice A_60 ((b ++ [8]).length) c_61), (7, .slice A_75 ps_74.length c_76), (8, .nilIface), (59, .slice A_31 a.length c_32), (63, .slice A_60 b.length c_61)] [RunsAs Tryd.prog [(56, .slice A_31 ((a ++ [7]).length) c_32), (58, .int .i64 (a.length : Int))] (Go.Op.slice 22 (Go.Operand.tmp 56) none (some (Go.Operand.tmp 58)) none) 22 (.slice A_31 a.length c_32) wd_82, RunsAs Tryd.prog [(60, .slice A_60 ((b ++ [8]).length) c_61), (62, .int .i64 (b.length : Int))] (Go.Op.slice 22 (Go.Operand.tmp 60) none (some (Go.Operand.tmp 62)) none) 22 (.slice A_60 b.length c_61) wd_82] (fun _ _ _ _ h => h) (by kernel_rfl) rfl ⟨runs_slice_h (h := (a.length : Int)) rfl rfl rfl rfl (by omega) (by have h := hc_35; (try simp only [List.length_append, List.length_cons, List.length_nil] at h); omega), runs_slice_h (h := (b.length : Int)) rfl rfl rfl rfl (by omega) (by have h := hc_64; (try simp only [List.length_append, List.length_cons, List.length_nil] at h); omega), trivial⟩ ?_
        refine XA_act (fuel' := 5) 8 #[true, true, true, true, true, true, true, true, true, false, false, false, false, false] _ rfl (by kernel_rfl) rfl (by kernel_rfl) rfl ?_
        have hlt_87 := RX.Kd.R_lt (Kd.R_below HR_77 hb_83)
        refine XL_call 10 rfl rfl rfl ent10 [.slice A_31 a.length c_32, .slice A_60 b.length c_61] (by kernel_rfl) (match_n _ _ _ _ _ _ a b _ hC_85 hC_86 (by omega) (by omega)) ?_
        rintro e w_94 ⟨ps_88, A_89, c_90, rfl, HR_91, HM_92, HL_93, hb_95⟩; refine ⟨_, rfl, ?_⟩
        refine XL_nil ?_
        refine XA_pure (fuel' := 0) [9, 10, 11, 12, 13] [] [.tuple #[.slice A_89 ps_88.length c_90, .nilIface], .slice A_89 ps_88.length c_90, .nilIface, .slice A_89 ps_88.length c_90, .nilIface] #[true, true, true, true, true, true, true, true, true, true, true, true, true, true] [(0, .slice A a.length c), (1, .slice A' b.length c'), (5, .slice A_31 ((a ++ [7]).length) c_32), (6, .slice A_60 ((b ++ [8]).length) c_61), (7, .slice A_75 ps_74.length c_76), (8, .nilIface), (9, .slice A_89 ps_88.length c_90)] (fun w_ => []) (fun _ _ _ _ h => h) (fun w_ => by kernel_rfl) rfl (fun w_ => trivial) ?_
        refine XA_done (by kernel_rfl) ?_
        refine X_seq ?_
        refine X_any [8] 14 #[false, false, false, false, false, false, false, false, false, false, false, false, false, false] (by kernel_rfl) (by kernel_rfl) (by kernel_rfl) (fun wd_96 hb_97 hh_98 => ?_)
        have hB_99 : Below w_33.heap.size w_33 wd_96 := (bt (bt (bt (bt (bt hB_68 hb_70) hb_81) hb_83) hb_95) hb_97)
        have hC_100 : (Kd.int .i64).C wd_96 A_31 a.length a := by have h := RX.Kd.C_take (m := a.length) (Kd.R_C (Kd.R_below hr_34 hB_99)) (by first | omega | (simp; done) | (simp; omega)); rwa [show (List.take a.length (a ++ [7])) = a from (by simp)] at h
        have hB_101 : Below w_62.heap.size w_62 wd_96 := (bt (bt (bt (bt hb_70 hb_81) hb_83) hb_95) hb_97)
        have hC_102 : (Kd.int .i64).C wd_96 A_60 b.length b := by have h := RX.Kd.C_take (m := b.length) (Kd.R_C (Kd.R_below hr_63 hB_101)) (by first | omega | (simp; done) | (simp; omega)); rwa [show (List.take b.length (b ++ [8])) = b from (by simp)] at h
        refine XA_run (fuel' := 6) [0, 1, 2, 3, 4, 5, 6, 7] [(71, .as (.slice A_31 a.length c_32)), (75, .as (.slice A_60 b.length c_61))] [.slice A_31 ((a ++ [7]).length) c_32, .slice A a.length c, .int .i64 (a.length : Int), .slice A_31 a.length c_32, .slice A_60 ((b ++ [8]).length) c_61, .slice A' b.length c', .int .i64 (b.length : Int), .slice A_60 b.length c_61] #[true, true, true, true, true, true, true, true, false, false, false, false, false, false] [(0, .slice A a.length c), (1, .slice A' b.length c'), (5, .slice A_31 ((a ++ [7]).length) c_32), (6, .slice A_60 ((b ++ [8]).length) c_61), (7, .slice A_75 ps_74.length c_76), (8, .nilIface), (9, .slice A_89 ps_88.length c_90), (71, .slice A_31 a.length c_32), (75, .slice A_60 b.length c_61)] [RunsAs Tryd.prog [(68, .slice A_31 ((a ++ [7]).length) c_32), (70, .int .i64 (a.length : Int))] (Go.Op.slice 22 (Go.Operand.tmp 68) none (some (Go.Operand.tmp 70)) none) 22 (.slice A_31 a.length c_32) wd_96, RunsAs Tryd.prog [(72, .slice A_60 ((b ++ [8]).length) c_61), (74, .int .i64 (b.length : Int))] (Go.Op.slice 22 (Go.Operand.tmp 72) none (some (Go.Operand.tmp 74)) none) 22 (.slice A_60 b.length c_61) wd_96] (fun _ _ _ _ h => h) (by kernel_rfl) rfl ⟨runs_slice_h (h := (a.length : Int)) rfl rfl rfl rfl (by omega) (by have h := hc_35; (try simp only [List.length_append, List.length_cons, List.length_nil] at h); omega), runs_slice_h (h := (b.length : Int)) rfl rfl rfl rfl (by omega) (by have h := hc_64; (try simp only [List.length_append, List.length_cons, List.length_nil] at h); omega), trivial⟩ ?_
        refine XA_act (fuel' := 5) 8 #[true, true, true, true, true, true, true, true, true, false, false, false, false, false] _ rfl (by kernel_rfl) rfl (by kernel_rfl) rfl ?_
        refine XL_call 11 rfl rfl rfl ent11 [.slice A_31 a.length c_32, .slice A_60 b.length c_61] (by kernel_rfl) (length_n _ _ _ _ _ _ a b _ hC_100 hC_102 (by first | omega | (simp; omega)) (by first | omega | (simp; omega))) ?_
        rintro e w_103 ⟨rfl, hb_104⟩; refine ⟨_, rfl, ?_⟩
        refine XL_nil ?_
        refine XA_pure (fuel' := 0) [9, 10, 11, 12, 13] [] [.tuple #[.int .i64 (Lm a b : Int), .nilIface], .int .i64 (Lm a b : Int), .nilIface, .int .i64 (Lm a b : Int), .nilIface] #[true, true, true, true, true, true, true, true, true, true, true, true, true, true] [(0, .slice A a.length c), (1, .slice A' b.length c'), (5, .slice A_31 ((a ++ [7]).length) c_32), (6, .slice A_60 ((b ++ [8]).length) c_61), (7, .slice A_75 ps_74.length c_76), (8, .nilIface), (9, .slice A_89 ps_88.length c_90), (11, .int .i64 (Lm a b : Int)), (12, .nilIface)] (fun w_ => []) (fun _ _ _ _ h => h) (fun w_ => by kernel_rfl) rfl (fun w_ => trivial) ?_
        refine XA_done (by kernel_rfl) ?_
        refine X_seq ?_
        refine X_any [8] 14 #[false, false, false, false, false, false, false, false, false, false, false, false, false, false] (by kernel_rfl) (by kernel_rfl) (by kernel_rfl) (fun wd_105 hb_106 hh_107 => ?_)
        have hC_108 : (Kd.int .i64).C wd_105 A_31 a.length a := by have h := RX.Kd.C_take (m := a.length) (Kd.R_C (Kd.R_below hr_34 (bt (bt hB_99 hb_104) hb_106))) (by first | omega | (simp; done) | (simp; omega)); rwa [show (List.take a.length (a ++ [7])) = a from (by simp)] at h
        have hC_109 : (Kd.int .i64).C wd_105 A_60 b.length b := by have h := RX.Kd.C_take (m := b.length) (Kd.R_C (Kd.R_below hr_63 (bt (bt hB_101 hb_104) hb_106))) (by first | omega | (simp; done) | (simp; omega)); rwa [show (List.take b.length (b ++ [8])) = b from (by simp)] at h
        refine XA_run (fuel' := 6) [0, 1, 2, 3, 4, 5, 6, 7] [(83, .as (.slice A_31 a.length c_32)), (87, .as (.slice A_60 b.length c_61))] [.slice A_31 ((a ++ [7]).length) c_32, .slice A a.length c, .int .i64 (a.length : Int), .slice A_31 a.length c_32, .slice A_60 ((b ++ [8]).length) c_61, .slice A' b.length c', .int .i64 (b.length : Int), .slice A_60 b.length c_61] #[true, true, true, true, true, true, true, true, false, false, false, false, false, false] [(0, .slice A a.length c), (1, .slice A' b.length c'), (5, .slice A_31 ((a ++ [7]).length) c_32), (6, .slice A_60 ((b ++ [8]).length) c_61), (7, .slice A_75 ps_74.length c_76), (8, .nilIface), (9, .slice A_89 ps_88.length c_90), (11, .int .i64 (Lm a b : Int)), (12, .nilIface), (83, .slice A_31 a.length c_32), (87, .slice A_60 b.length c_61)] [RunsAs Tryd.prog [(80, .slice A_31 ((a ++ [7]).length) c_32), (82, .int .i64 (a.length : Int))] (Go.Op.slice 22 (Go.Operand.tmp 80) none (some (Go.Operand.tmp 82)) none) 22 (.slice A_31 a.length c_32) wd_105, RunsAs Tryd.prog [(84, .slice A_60 ((b ++ [8]).length) c_61), (86, .int .i64 (b.length : Int))] (Go.Op.slice 22 (Go.Operand.tmp 84) none (some (Go.Operand.tmp 86)) none) 22 (.slice A_60 b.length c_61) wd_105] (fun _ _ _ _ h => h) (by kernel_rfl) rfl ⟨runs_slice_h (h := (a.length : Int)) rfl rfl rfl rfl (by omega) (by have h := hc_35; (try simp only [List.length_append, List.length_cons, List.length_nil] at h); omega), runs_slice_h (h := (b.length : Int)) rfl rfl rfl rfl (by omega) (by have h := hc_64; (try simp only [List.length_append, List.length_cons, List.length_nil] at h); omega), trivial⟩ ?_
        refine XA_act (fuel' := 5) 8 #[true, true, true, true, true, true, true, true, true, false, false, false, false, false] _ rfl (by kernel_rfl) rfl (by kernel_rfl) rfl ?_
        refine XL_call 12 rfl rfl rfl ent12 [.slice A_31 a.length c_32, .slice A_60 b.length c_61] (by kernel_rfl) (edits_n _ _ _ _ _ _ a b _ hC_108 hC_109 (by omega) (by omega)) ?_
        rintro e w_110 ⟨rfl, hb_111⟩; refine ⟨_, rfl, ?_⟩
        refine XL_nil ?_
        refine XA_pure (fuel' := 0) [9, 10, 11, 12, 13] [] [.tuple #[.int .i64 (dist a b : Int), .nilIface], .int .i64 (dist a b : Int), .nilIface, .int .i64 (dist a b : Int), .nilIface] #[true, true, true, true, true, true, true, true, true, true, true, true, true, true] [(0, .slice A a.length c), (1, .slice A' b.length c'), (5, .slice A_31 ((a ++ [7]).length) c_32), (6, .slice A_60 ((b ++ [8]).length) c_61), (7, .slice A_75 ps_74.length c_76), (8, .nilIface), (9, .slice A_89 ps_88.length c_90), (11, .int .i64 (Lm a b : Int)), (12, .nilIface), (13, .int .i64 (dist a b : Int)), (14, .nilIface)] (fun w_ => []) (fun _ _ _ _ h => h) (fun w_ => by kernel_rfl) rfl (fun w_ => trivial) ?_
        refine XA_done (by kernel_rfl) ?_
        refine X_seq ?_
        refine X_region ?_
        refine XL_run 2 [] [(0, .slice A a.length c), (1, .slice A' b.length c'), (5, .slice A_31 ((a ++ [7]).length) c_32), (6, .slice A_60 ((b ++ [8]).length) c_61), (7, .slice A_75 ps_74.length c_76), (8, .nilIface), (9, .slice A_89 ps_88.length c_90), (11, .int .i64 (Lm a b : Int)), (12, .nilIface), (13, .int .i64 (dist a b : Int)), (14, .nilIface), (91, .slice A a.length c), (92, .slice A' b.length c')] w_110 [] (by kernel_rfl) trivial ?_
        have hB_112 : Below w.heap.size w w_33 := (bgo (bgo (bt hb_2 hb_12) hg_22 hl_23 (hb_2).size) hg_36 hl_37 (hb_2).size)
        have hB_113 : Below w.heap.size w w_110 := (bt (bt (bt (bt (bt (bt (bt (bt (bgo (bgo hB_45 hg_51 hl_52 (hB_112).size) hg_65 hl_66 (hB_112).size) hb_70) hb_81) hb_83) hb_95) hb_97) hb_104) hb_106) hb_111)
        refine XL_call 13 rfl rfl rfl ent13 [.slice A a.length c, .slice A' b.length c'] (by kernel_rfl) (refLength_n _ _ _ _ _ _ a b _ (Kd.C_below ha hB_113) (Kd.C_below hb hB_113) (by omega) (by omega)) ?_
        rintro e w_114 ⟨rfl, hb_115⟩; refine ⟨_, rfl, ?_⟩
        refine XL_run 1 [] [(0, .slice A a.length c), (1, .slice A' b.length c'), (5, .slice A_31 ((a ++ [7]).length) c_32), (6, .slice A_60 ((b ++ [8]).length) c_61), (7, .slice A_75 ps_74.length c_76), (8, .nilIface), (9, .slice A_89 ps_88.length c_90), (11, .int .i64 (Lm a b : Int)), (12, .nilIface), (13, .int .i64 (dist a b : Int)), (14, .nilIface), (15, .int .i64 (Lm a b : Int))] w_114 [] (by kernel_rfl) trivial ?_
        refine XL_nil ?_
        refine X_seq ?_
        refine X_seq ?_
        refine X_region ?_
        refine XL_run 37 [(107, .eq (.bool false)), (113, .eq (.bool false)), (121, .eq (.int .i64 ((a.length : Int) + (b.length : Int)))), (123, .eq (.int .i64 (2 * (Lm a b : Int)))), (124, .eq (.int .i64 (((a.length : Int) + (b.length : Int)) - (2 * (Lm a b : Int))))), (125, .eq (.bool false))] [(0, .slice A a.length c), (1, .slice A' b.length c'), (5, .slice A_31 ((a ++ [7]).length) c_32), (6, .slice A_60 ((b ++ [8]).length) c_61), (7, .slice A_75 ps_74.length c_76), (9, .slice A_89 ps_88.length c_90), (15, .int .i64 (Lm a b : Int)), (127, .bool false), (128, .slice A a.length c), (129, .slice A' b.length c'), (130, .slice A_75 ps_74.length c_76)] w_114 [Value.bool ((Lm a b : Int) != (Lm a b : Int)) = Value.bool false, Value.bool ((ps_74.length : Int) != (Lm a b : Int)) = Value.bool false, Value.int .i64 (IntKind.i64.wrap ((a.length : Int) + (b.length : Int))) = Value.int .i64 ((a.length : Int) + (b.length : Int)), Value.int .i64 (IntKind.i64.wrap (2 * (Lm a b : Int))) = Value.int .i64 (2 * (Lm a b : Int)), Value.int .i64 (IntKind.i64.wrap (((a.length : Int) + (b.length : Int)) - (2 * (Lm a b : Int)))) = Value.int .i64 (((a.length : Int) + (b.length : Int)) - (2 * (Lm a b : Int))), Value.bool ((dist a b : Int) != ((a.length : Int) + (b.length : Int)) - (2 * (Lm a b : Int))) = Value.bool false] (by kernel_rfl) ⟨congrArg Value.bool (bneF rfl), congrArg Value.bool (bneF ((by omega))), wr_i64 (by omega) (by omega), wr_i64 (by omega) (by omega), wr_i64 (by omega) (by omega), congrArg Value.bool (bneF ((by omega))), trivial⟩ ?_
        have hB_116 : Below w_80.heap.size w_80 w_114 := (bt (bt (bt (bt (bt (bt hb_83 hb_95) hb_97) hb_104) hb_106) hb_111) hb_115)
        refine XL_call 14 rfl rfl rfl ent14 [.slice A a.length c, .slice A' b.length c', .slice A_75 ps_74.length c_76] (by kernel_rfl) (refCheck_n _ _ _ _ _ _ _ _ _ a b ps_74 _ (Kd.C_below ha (bt hB_113 hb_115)) (Kd.C_below hb (bt hB_113 hb_115)) (Kd.R_C (Kd.R_below HR_77 hB_116))) ?_
        rintro e w_117 ⟨rfl, hb_118⟩; refine ⟨_, rfl, ?_⟩
        rw [Mt_chk HM_78]
        refine XL_run 2 [] [(0, .slice A a.length c), (1, .slice A' b.length c'), (5, .slice A_31 ((a ++ [7]).length) c_32), (6, .slice A_60 ((b ++ [8]).length) c_61), (7, .slice A_75 ps_74.length c_76), (9, .slice A_89 ps_88.length c_90), (15, .int .i64 (Lm a b : Int)), (133, .bool false)] w_117 [] (by kernel_rfl) trivial ?_
        refine XL_nil ?_
        refine X_cond false rfl ?_
        refine X_skip ?_
        refine X_seq ?_
        refine X_seq ?_
        refine X_region ?_
        have hB_119 : Below w_33.heap.size w_33 w_117 := (bt (bt (bt (bt (bt hB_99 hb_104) hb_106) hb_111) hb_115) hb_118)
        have hC_120 : (Kd.int .i64).C w_117 A_31 a.length a := by have h := RX.Kd.C_take (m := a.length) (Kd.R_C (Kd.R_below hr_34 hB_119)) (by first | omega | (simp; done) | (simp; omega)); rwa [show (List.take a.length (a ++ [7])) = a from (by simp)] at h
        refine XL_run 5 [(137, .as (.slice A_31 a.length c_32))] [(0, .slice A a.length c), (1, .slice A' b.length c'), (5, .slice A_31 ((a ++ [7]).length) c_32), (6, .slice A_60 ((b ++ [8]).length) c_61), (7, .slice A_75 ps_74.length c_76), (9, .slice A_89 ps_88.length c_90), (15, .int .i64 (Lm a b : Int)), (137, .slice A_31 a.length c_32), (138, .slice A a.length c)] w_117 [RunsAs Tryd.prog [(134, .slice A_31 ((a ++ [7]).length) c_32), (136, .int .i64 (a.length : Int))] (Go.Op.slice 22 (Go.Operand.tmp 134) none (some (Go.Operand.tmp 136)) none) 22 (.slice A_31 a.length c_32) w_117] (by kernel_rfl) ⟨runs_slice_h (h := (a.length : Int)) rfl rfl rfl rfl (by omega) (by have h := hc_35; (try simp only [List.length_append, List.length_cons, List.length_nil] at h); omega), trivial⟩ ?_
        refine XL_call 15 rfl rfl rfl ent15 [.slice A_31 a.length c_32, .slice A a.length c] (by kernel_rfl) (same_any _ _ _ _ a _ hC_120 (Kd.C_below ha (bt (bt hB_113 hb_115) hb_118))) ?_
        rintro e w_121 ⟨rfl, hb_122⟩; refine ⟨_, rfl, ?_⟩
        have hB_123 : Below w_62.heap.size w_62 w_121 := (bt (bt (bt (bt (bt (bt hB_101 hb_104) hb_106) hb_111) hb_115) hb_118) hb_122)
        have hC_124 : (Kd.int .i64).C w_121 A_60 b.length b := by have h := RX.Kd.C_take (m := b.length) (Kd.R_C (Kd.R_below hr_63 hB_123)) (by first | omega | (simp; done) | (simp; omega)); rwa [show (List.take b.length (b ++ [8])) = b from (by simp)] at h
        refine XL_run 7 [(145, .as (.slice A_60 b.length c_61))] [(0, .slice A a.length c), (1, .slice A' b.length c'), (5, .slice A_31 ((a ++ [7]).length) c_32), (6, .slice A_60 ((b ++ [8]).length) c_61), (7, .slice A_75 ps_74.length c_76), (9, .slice A_89 ps_88.length c_90), (15, .int .i64 (Lm a b : Int)), (141, .bool false), (145, .slice A_60 b.length c_61), (146, .slice A' b.length c')] w_121 [RunsAs Tryd.prog [(142, .slice A_60 ((b ++ [8]).length) c_61), (144, .int .i64 (b.length : Int))] (Go.Op.slice 22 (Go.Operand.tmp 142) none (some (Go.Operand.tmp 144)) none) 22 (.slice A_60 b.length c_61) w_121] (by kernel_rfl) ⟨runs_slice_h (h := (b.length : Int)) rfl rfl rfl rfl (by omega) (by have h := hc_64; (try simp only [List.length_append, List.length_cons, List.length_nil] at h); omega), trivial⟩ ?_
        have hB_125 : Below w.heap.size w w_121 := (bt (bt (bt hB_113 hb_115) hb_118) hb_122)
        refine XL_call 15 rfl rfl rfl ent15 [.slice A_60 b.length c_61, .slice A' b.length c'] (by kernel_rfl) (same_any _ _ _ _ b _ hC_124 (Kd.C_below hb hB_125)) ?_
        rintro e w_126 ⟨rfl, hb_127⟩; refine ⟨_, rfl, ?_⟩
        refine XL_run 6 [] [(0, .slice A a.length c), (1, .slice A' b.length c'), (6, .slice A_60 ((b ++ [8]).length) c_61), (7, .slice A_75 ps_74.length c_76), (9, .slice A_89 ps_88.length c_90), (15, .int .i64 (Lm a b : Int)), (150, .bool false), (151, .slice A_31 ((a ++ [7]).length) c_32), (153, .int .i64 (a.length : Int))] w_126 [] (by kernel_rfl) trivial ?_
        obtain ⟨ad_128, ha_129, hc_130⟩ := Kd.atI (Kd.R_C (Kd.R_below hr_34 (bt (bt hB_119 hb_122) hb_127))) (i := (a.length : Int)) (by omega) (by simp only [List.length_append, List.length_cons, List.length_nil]; omega)
        refine XL_run 8 [(154, .idx ad_128), (155, .load (.int .i64 (rd (a ++ [7]) (a.length : Int)))), (156, .eq (.bool false))] [(0, .slice A a.length c), (1, .slice A' b.length c'), (7, .slice A_75 ps_74.length c_76), (9, .slice A_89 ps_88.length c_90), (15, .int .i64 (Lm a b : Int)), (158, .bool false), (159, .slice A_60 ((b ++ [8]).length) c_61), (161, .int .i64 (b.length : Int))] w_126 [A_31 = some ad_128, (0 : Int) ≤ (a.length : Int), (a.length : Int) < ((a ++ [7]).length : Int), LoadsAs Tryd.prog 3 (ad_128.add ((a.length : Int).toNat * 1)) (.int .i64 (rd (a ++ [7]) (a.length : Int))) w_126, Value.bool (rd (a ++ [7]) (a.length : Int) != 7) = Value.bool false] (by kernel_rfl) ⟨ha_129, (by omega), (by simp only [List.length_append, List.length_cons, List.length_nil]; omega), loads1 rfl (elem_cell hc_130 0 _ rfl), congrArg Value.bool (bneF ((last_get a 7 0))), trivial⟩ ?_
        obtain ⟨ad_131, ha_132, hc_133⟩ := Kd.atI (Kd.R_C (Kd.R_below hr_63 (bt hB_123 hb_127))) (i := (b.length : Int)) (by omega) (by simp only [List.length_append, List.length_cons, List.length_nil]; omega)
        refine XL_run 4 [(162, .idx ad_131), (163, .load (.int .i64 (rd (b ++ [8]) (b.length : Int)))), (164, .eq (.bool false))] [(0, .slice A a.length c), (1, .slice A' b.length c'), (7, .slice A_75 ps_74.length c_76), (9, .slice A_89 ps_88.length c_90), (15, .int .i64 (Lm a b : Int)), (165, .bool false)] w_126 [A_60 = some ad_131, (0 : Int) ≤ (b.length : Int), (b.length : Int) < ((b ++ [8]).length : Int), LoadsAs Tryd.prog 3 (ad_131.add ((b.length : Int).toNat * 1)) (.int .i64 (rd (b ++ [8]) (b.length : Int))) w_126, Value.bool (rd (b ++ [8]) (b.length : Int) != 8) = Value.bool false] (by kernel_rfl) ⟨ha_132, (by omega), (by simp only [List.length_append, List.length_cons, List.length_nil]; omega), loads1 rfl (elem_cell hc_133 0 _ rfl), congrArg Value.bool (bneF ((last_get b 8 0))), trivial⟩ ?_
        refine XL_nil ?_
        refine X_cond false rfl ?_
        refine X_skip ?_
        refine X_seq ?_
        refine X_seq ?_
        refine X_region ?_
        refine XL_run 3 [] [(0, .slice A a.length c), (1, .slice A' b.length c'), (7, .slice A_75 ps_74.length c_76), (9, .slice A_89 ps_88.length c_90), (15, .int .i64 (Lm a b : Int)), (167, .int .i64 (ps_74.length : Int)), (168, .int .i64 0)] w_126 [] (by kernel_rfl) trivial ?_
        refine XL_nil ?_
        refine X_block ?_
        have hB_134 : Below w_80.heap.size w_80 w_126 := (bt (bt (bt hB_116 hb_118) hb_122) hb_127)
        have hB_135 : Below w_94.heap.size w_94 w_126 := (bt (bt (bt (bt (bt (bt (bt hb_97 hb_104) hb_106) hb_111) hb_115) hb_118) hb_122) hb_127)
        have hB_136 : Below wd_69.heap.size wd_69 w_126 := (bt (bt (bt (bt (bt (bt (bt (bt (bt (bt hb_81 hb_83) hb_95) hb_97) hb_104) hb_106) hb_111) hb_115) hb_118) hb_122) hb_127)
        refine X_loop (ι := Nat × List (Int × Int)) (fun ⟨i, pl⟩ => [(0, .slice A a.length c), (1, .slice A' b.length c'), (7, .slice A_75 ps_74.length c_76), (9, .slice A_89 ps_88.length c_90), (15, .int .i64 (Lm a b : Int)), (167, .int .i64 (ps_74.length : Int)), (168, .int .i64 (i : Int))]) (fun ⟨i, pl⟩ wl => i ≤ ps_74.length ∧ pl.length = ps_74.length ∧ kPair.R 35 wl wd_69.heap.size (OkFrom wd_69.heap.size) (.slice A_75 ps_74.length c_76) pl ∧ kPair.R 35 wl wd_82.heap.size (OkFrom wd_82.heap.size) (.slice A_89 ps_88.length c_90) ps_88 ∧ Below wd_69.heap.size wd_69 wl) (fun ⟨i, pl⟩ => ps_74.length - i) ⟨0, ps_74⟩ ⟨by omega, rfl, (Kd.R_below HR_77 hB_134), (Kd.R_below HR_91 hB_135), hB_136⟩ (by kernel_rfl) ?_
        rintro ⟨i, pl⟩ wl ⟨hi, hpl, HP, HQ, HB⟩
        refine X_seq ?_
        refine X_region ?_
        by_cases c_137 : (i : Int) < (ps_74.length : Int)
        · refine XL_run 1 [(169, .eq (.bool true))] [(0, .slice A a.length c), (1, .slice A' b.length c'), (7, .slice A_75 ps_74.length c_76), (9, .slice A_89 ps_88.length c_90), (15, .int .i64 (Lm a b : Int)), (167, .int .i64 (ps_74.length : Int)), (168, .int .i64 (i : Int)), (169, .bool true)] wl [Value.bool (decide ((i : Int) < (ps_74.length : Int))) = Value.bool true] (by kernel_rfl) ⟨congrArg Value.bool (decide_eq_true (c_137)), trivial⟩ ?_
          refine XL_nil ?_
          refine X_seq ?_
          refine X_cond true rfl ?_
          refine X_skip ?_
          refine X_seq ?_
          refine X_block ?_
          refine X_seq ?_
          refine X_region ?_
          refine XL_run 2 [] [(0, .slice A a.length c), (1, .slice A' b.length c'), (7, .slice A_75 ps_74.length c_76), (9, .slice A_89 ps_88.length c_90), (15, .int .i64 (Lm a b : Int)), (16, .int .i64 (i : Int)), (167, .int .i64 (ps_74.length : Int)), (168, .int .i64 (i : Int))] wl [] (by kernel_rfl) trivial ?_
          refine XL_nil ?_
          refine X_region ?_
          refine XL_run 3 [] [(0, .slice A a.length c), (1, .slice A' b.length c'), (7, .slice A_75 ps_74.length c_76), (9, .slice A_89 ps_88.length c_90), (15, .int .i64 (Lm a b : Int)), (167, .int .i64 (ps_74.length : Int)), (168, .int .i64 (i : Int)), (171, .slice A_75 ps_74.length c_76), (172, .int .i64 (i : Int)), (173, .agg #[.int .i64 (-1), .int .i64 (-1)])] wl [] (by kernel_rfl) trivial ?_
          obtain ⟨ad_138, ha_139, hc_140⟩ := Kd.atPair (Kd.R_C HP) (i := (i : Int)) (by omega) (by omega)
          replace hc_140 : CellsAt wl (ad_138.add ((i : Int).toNat * 2)) [.int .i64 (pl.getD i (0, 0)).1, .int .i64 (pl.getD i (0, 0)).2] := hc_140
          refine XL_run 1 [(174, .idx ad_138)] [(0, .slice A a.length c), (1, .slice A' b.length c'), (7, .slice A_75 ps_74.length c_76), (9, .slice A_89 ps_88.length c_90), (15, .int .i64 (Lm a b : Int)), (167, .int .i64 (ps_74.length : Int)), (168, .int .i64 (i : Int)), (173, .agg #[.int .i64 (-1), .int .i64 (-1)]), (174, .pointer (some (ad_138.add ((i : Int).toNat * 2))))] wl [A_75 = some ad_138, (0 : Int) ≤ (i : Int), (i : Int) < (ps_74.length : Int)] (by kernel_rfl) ⟨ha_139, (by omega), (by omega), trivial⟩ ?_
          refine XL_rowset kPair rfl rfl rfl wd_69.heap.size 35 (ad := ad_138) (i := (i : Int)) (v := .agg #[.int .i64 (-1), .int .i64 (-1)]) pl ((-1), (-1)) (by kernel_rfl) ha_139 HP (by omega) (by omega) [.int .i64 (-1), .int .i64 (-1)] ⟨by kernel_rfl, by kernel_rfl⟩ (by kernel_rfl) (kPair_M _ _ _ _) ?_
          intro w_141 hr_142 hg_143 hl_144
          have hr_145 := RX.Kd.R_later HQ hlt_87 hg_143
          have hB_146 : Below w_62.heap.size w_62 w_141 := (bgo (bt hb_70 HB) hg_143 hl_144 (hb_70).size)
          have hB_147 : Below w_33.heap.size w_33 w_141 := (bgo (bt (bt hB_68 hb_70) HB) hg_143 hl_144 ((bt hB_68 hb_70)).size)
          refine XL_nil ?_
          refine X_region ?_
          refine XL_run 2 [(175, .eq (.int .i64 ((i : Int) + 1)))] [(0, .slice A a.length c), (1, .slice A' b.length c'), (7, .slice A_75 ps_74.length c_76), (9, .slice A_89 ps_88.length c_90), (15, .int .i64 (Lm a b : Int)), (167, .int .i64 (ps_74.length : Int)), (168, .int .i64 ((i : Int) + 1))] w_141 [Value.int .i64 (IntKind.i64.wrap ((i : Int) + 1)) = Value.int .i64 ((i : Int) + 1)] (by kernel_rfl) ⟨wr_i64 (by omega) (by omega), trivial⟩ ?_
          refine XL_nil ?_
          refine ⟨⟨i + 1, (pl.set (i : Int).toNat ((-1), (-1)))⟩, by kernel_rfl, ?_, ?_⟩
          · exact ⟨by omega, by rw [List.length_set]; exact hpl, hr_142, hr_145, (bgo HB hg_143 hl_144 (Nat.le_refl _))⟩
          · (try dsimp only); omega
        · refine XL_run 1 [(169, .eq (.bool false))] [(0, .slice A a.length c), (1, .slice A' b.length c'), (7, .slice A_75 ps_74.length c_76), (9, .slice A_89 ps_88.length c_90), (15, .int .i64 (Lm a b : Int)), (167, .int .i64 (ps_74.length : Int)), (168, .int .i64 (i : Int)), (169, .bool false)] wl [Value.bool (decide ((i : Int) < (ps_74.length : Int))) = Value.bool false] (by kernel_rfl) ⟨congrArg Value.bool (decide_eq_false (c_137)), trivial⟩ ?_
          refine XL_nil ?_
          refine X_seq ?_
          refine X_cond false rfl ?_
          refine X_exit ?_
          refine X_seq ?_
          refine X_region ?_
          refine XL_run 3 [] [(0, .slice A a.length c), (1, .slice A' b.length c'), (9, .slice A_89 ps_88.length c_90), (15, .int .i64 (Lm a b : Int)), (176, .slice A_75 ps_74.length c_76), (178, .slice (some ⟨wl.heap.size, 0, none⟩) 1 1)] (wl.alloc (.cells #[.int .i64 0, .int .i64 0] 35)) [] (by kernel_rfl) trivial ?_
          obtain ⟨w_148, hw_152, hb_149, hk_150, hz_151⟩ := new_world wl #[.int .i64 0, .int .i64 0] 35
          rw [hw_152]
          rw [← hw_152]
          refine XL_append kPair rfl rfl rfl wd_69.heap.size 35 (.agg #[.int .i64 0, .int .i64 0]) 16 Tryd.underlying25 info35 rfl (by decide) (by omega) pl (0, 0) [.int .i64 0, .int .i64 0] (fun _ => False) (by kernel_rfl) (kPair_M _ _ _ _) (fun _ h => h.elim) HP (HB).size (by first | omega | (simp; omega)) ?_
          intro A_153 c_154 w_155 hr_156 hc_157 hg_158 hl_159 ha_160
          have hr_161 := RX.Kd.R_later HQ hlt_87 hg_158
          have hB_162 : Below w_62.heap.size w_62 w_155 := (bgo (bt hb_70 HB) hg_158 hl_159 (hb_70).size)
          have hB_163 : Below w_33.heap.size w_33 w_155 := (bgo (bt (bt hB_68 hb_70) HB) hg_158 hl_159 ((bt hB_68 hb_70)).size)
          refine XL_run 1 [] [(0, .slice A a.length c), (1, .slice A' b.length c'), (7, .slice A_153 ((pl ++ [(0, 0)]).length) c_154), (9, .slice A_89 ps_88.length c_90), (15, .int .i64 (Lm a b : Int))] w_155 [] (by kernel_rfl) trivial ?_
          refine XL_nil ?_
          refine X_seq ?_
          refine X_region ?_
          refine XL_run 8 [(183, .eq (.bool true))] [(7, .slice A_153 ((pl ++ [(0, 0)]).length) c_154), (15, .int .i64 (Lm a b : Int)), (184, .bool true), (185, .slice A a.length c), (186, .slice A' b.length c'), (187, .slice A_89 ps_88.length c_90)] w_155 [Value.bool ((ps_88.length : Int) == (Lm a b : Int)) = Value.bool true] (by kernel_rfl) ⟨congrArg Value.bool (beq_iff_eq.2 ((by omega))), trivial⟩ ?_
          have hB_164 : Below w.heap.size w wd_69 := (bt (bgo (bgo hB_45 hg_51 hl_52 (hB_112).size) hg_65 hl_66 (hB_112).size) hb_70)
          have hB_165 : Below w.heap.size w w_155 := (bgo (bt (bt (bgo (bgo hB_45 hg_51 hl_52 (hB_112).size) hg_65 hl_66 (hB_112).size) hb_70) HB) hg_158 hl_159 (hB_164).size)
          refine XL_call 14 rfl rfl rfl ent14 [.slice A a.length c, .slice A' b.length c', .slice A_89 ps_88.length c_90] (by kernel_rfl) (refCheck_n _ _ _ _ _ _ _ _ _ a b ps_88 _ (Kd.C_below ha hB_165) (Kd.C_below hb hB_165) (Kd.R_C hr_161)) ?_
          rintro e w_166 ⟨rfl, hb_167⟩; refine ⟨_, rfl, ?_⟩
          rw [Mt_chk HM_92]
          refine XL_run 10 [(195, .eq (.int .i64 ((Lm a b : Int) + 1))), (196, .eq (.bool true))] [(4, .bool true)] w_166 [Value.int .i64 (IntKind.i64.wrap ((Lm a b : Int) + 1)) = Value.int .i64 ((Lm a b : Int) + 1), Value.bool (((pl ++ [(0, 0)]).length : Int) == (Lm a b : Int) + 1) = Value.bool true] (by kernel_rfl) ⟨wr_i64 (by omega) (by omega), congrArg Value.bool (beq_iff_eq.2 ((by simp only [List.length_append, List.length_cons, List.length_nil]; omega))), trivial⟩ ?_
          refine XL_nil ?_
          refine X_ret ?_
          refine RX.ret_ok (P := Tryd.prog) (fn := Tryd.f3) (N := 198) (R := R_) [.bool true] (by kernel_rfl) (hR_ _ _ ?_)
          exact ⟨rfl, (bt hB_165 hb_167)⟩
end Go.Proofs.YtmhkeojbjliieaaDoor
