/- What the reference's Length and Check and match's Check answer. Conditions: the lists' lengths. -/
import Derived.Test.YtmhkeojbjliieaaDoorV4
set_option linter.unusedVariables false
set_option linter.unusedSimpArgs false
set_option maxRecDepth 100000
namespace Go.Proofs.YtmhkeojbjliieaaDoor
open Go.RowKit Go.Proofs.YtmhkeojbjliieaaDoorW.PrintWords MM RX
theorem ent13 : Ent Tryd.prog 13 := ent_of Tryd.func13 (by kernel_rfl) rfl
theorem ent14 : Ent Tryd.prog 14 := ent_of Tryd.func14 (by kernel_rfl) rfl
theorem ent17 : Ent Tryd.prog 17 := ent_of Tryd.func17 (by kernel_rfl) rfl
theorem ent15 : Ent Tryd.prog 15 := ent_of Tryd.func15 (by kernel_rfl) rfl
theorem ent18 : Ent Tryd.prog 18 := ent_of Tryd.func18 (by kernel_rfl) rfl
theorem ent9 : Ent Tryd.prog 9 := ent_of Tryd.func9 (by kernel_rfl) rfl
theorem refLength_any (A A' : Option Addr) (c c' : Nat) (a b : List Int) (w : World) (ha : (Kd.int .i64).C w A a.length a) (hb : (Kd.int .i64).C w A' b.length b) (hla : a.length ≤ 1024) (hlb : b.length ≤ 1024) :
    Calls Tryd.prog 13 #[.slice A a.length c, .slice A' b.length c'] w fun e w' => e = .returned (.int .i64 (Lm a b : Int)) ∧ Below w.heap.size w w' := by
  refine RX.enter Tryd.func13 rfl 66 rfl [(0, .slice A a.length c), (1, .slice A' b.length c')] rfl (by kernel_rfl) (fun R_ hR_ => ?_)
  refine X_seq ?_
  refine X_region ?_
  refine XL_run 1 [] [(0, .slice A a.length c), (1, .slice A' b.length c')] w [] (by kernel_rfl) trivial ?_
  refine XL_nil ?_
  refine X_seq ?_
  refine X_region ?_
  refine XL_run 3 [(13, .eq (.int .i64 ((b.length : Int) + 1)))] [(0, .slice A a.length c), (1, .slice A' b.length c'), (13, .int .i64 ((b.length : Int) + 1))] w [Value.int .i64 (IntKind.i64.wrap ((b.length : Int) + 1)) = Value.int .i64 ((b.length : Int) + 1)] (by kernel_rfl) ⟨wr_i64 (by omega) (by omega), trivial⟩ ?_
  refine XL_make (Kd.int .i64) rfl rfl rfl rfl 3 (.int .i64 0) 8 ((b.length : Int) + 1) (by kernel_rfl) Tryd.underlying22 info3 rfl (by decide) (by omega) (0 : Int) rfl (by omega) (by omega) ?_
  intro A_1 c_2 w_3 hr_4 hc_5 hb_6
  refine XL_run 1 [] [(0, .slice A a.length c), (1, .slice A' b.length c'), (5, .slice A_1 (((b.length : Int) + 1).toNat) c_2)] w_3 [] (by kernel_rfl) trivial ?_
  refine XL_nil ?_
  refine X_seq ?_
  refine X_seq ?_
  refine X_region ?_
  refine XL_run 3 [] [(1, .slice A' b.length c'), (5, .slice A_1 (((b.length : Int) + 1).toNat) c_2), (15, .slice A a.length c), (16, .int .i64 (a.length : Int)), (17, .int .i64 0)] w_3 [] (by kernel_rfl) trivial ?_
  refine XL_nil ?_
  refine X_block ?_
  have h0 : (Kd.int .i64).C w_3 A_1 (b.length + 1) (trow a b 0) := by
    have h := Kd.R_C hr_4
    rw [show ((b.length : Int) + 1).toNat = b.length + 1 from by omega, ← trow_zero a b] at h
    exact h
  refine X_loop (ι := Nat × Option Addr × Nat) (fun ⟨i, A1, c1⟩ => [(1, .slice A' b.length c'), (5, .slice A1 (b.length + 1) c1), (15, .slice A a.length c), (16, .int .i64 (a.length : Int)), (17, .int .i64 (i : Int))]) (fun ⟨i, A1, c1⟩ wo => i ≤ a.length ∧ (Kd.int .i64).C wo A1 (b.length + 1) (trow a b i) ∧ Below w.heap.size w wo) (fun ⟨i, A1, c1⟩ => a.length - i) ⟨0, A_1, c_2⟩ ⟨by omega, h0, hb_6⟩ (by kernel_rfl) ?_
  rintro ⟨i, A1, c1⟩ wo ⟨hi, HC, HB⟩
  refine X_seq ?_
  refine X_region ?_
  by_cases c_7 : (i : Int) < (a.length : Int)
  · refine XL_run 1 [(18, .eq (.bool true))] [(1, .slice A' b.length c'), (5, .slice A1 (b.length + 1) c1), (15, .slice A a.length c), (16, .int .i64 (a.length : Int)), (17, .int .i64 (i : Int)), (18, .bool true)] wo [Value.bool (decide ((i : Int) < (a.length : Int))) = Value.bool true] (by kernel_rfl) ⟨congrArg Value.bool (decide_eq_true (c_7)), trivial⟩ ?_
    refine XL_nil ?_
    refine X_seq ?_
    refine X_cond true rfl ?_
    refine X_skip ?_
    refine X_seq ?_
    refine X_block ?_
    refine X_seq ?_
    refine X_region ?_
    obtain ⟨ad_8, ha_9, hc_10⟩ := Kd.atI (Kd.C_below ha HB) (i := (i : Int)) (by omega) (by omega)
    refine XL_run 3 [(19, .idx ad_8), (20, .load (.int .i64 (rd a (i : Int))))] [(1, .slice A' b.length c'), (5, .slice A1 (b.length + 1) c1), (7, .int .i64 (rd a (i : Int))), (15, .slice A a.length c), (16, .int .i64 (a.length : Int)), (17, .int .i64 (i : Int))] wo [A = some ad_8, (0 : Int) ≤ (i : Int), (i : Int) < (a.length : Int), LoadsAs Tryd.prog 3 (ad_8.add ((i : Int).toNat * 1)) (.int .i64 (rd a (i : Int))) wo] (by kernel_rfl) ⟨ha_9, (by omega), (by omega), loads1 rfl (elem_cell hc_10 0 _ rfl), trivial⟩ ?_
    refine XL_nil ?_
    refine X_seq ?_
    refine X_region ?_
    refine XL_run 3 [(23, .eq (.int .i64 ((b.length : Int) + 1)))] [(1, .slice A' b.length c'), (5, .slice A1 (b.length + 1) c1), (7, .int .i64 (rd a (i : Int))), (15, .slice A a.length c), (16, .int .i64 (a.length : Int)), (17, .int .i64 (i : Int)), (23, .int .i64 ((b.length : Int) + 1))] wo [Value.int .i64 (IntKind.i64.wrap ((b.length : Int) + 1)) = Value.int .i64 ((b.length : Int) + 1)] (by kernel_rfl) ⟨wr_i64 (by omega) (by omega), trivial⟩ ?_
    refine XL_make (Kd.int .i64) rfl rfl rfl rfl 3 (.int .i64 0) 8 ((b.length : Int) + 1) (by kernel_rfl) Tryd.underlying22 info3 rfl (by decide) (by omega) (0 : Int) rfl (by omega) (by omega) ?_
    intro A_11 c_12 w_13 hr_14 hc_15 hb_16
    refine XL_run 1 [] [(1, .slice A' b.length c'), (5, .slice A1 (b.length + 1) c1), (7, .int .i64 (rd a (i : Int))), (8, .slice A_11 (((b.length : Int) + 1).toNat) c_12), (15, .slice A a.length c), (16, .int .i64 (a.length : Int)), (17, .int .i64 (i : Int))] w_13 [] (by kernel_rfl) trivial ?_
    refine XL_nil ?_
    refine X_seq ?_
    refine X_seq ?_
    refine X_region ?_
    refine XL_run 3 [] [(1, .slice A' b.length c'), (5, .slice A1 (b.length + 1) c1), (7, .int .i64 (rd a (i : Int))), (8, .slice A_11 (((b.length : Int) + 1).toNat) c_12), (15, .slice A a.length c), (16, .int .i64 (a.length : Int)), (17, .int .i64 (i : Int)), (25, .slice A' b.length c'), (26, .int .i64 (b.length : Int)), (27, .int .i64 0)] w_13 [] (by kernel_rfl) trivial ?_
    refine XL_nil ?_
    refine X_block ?_
    have h1 : (Kd.int .i64).R 3 w_13 wo.heap.size (OkFrom wo.heap.size) (.slice A_11 (((b.length : Int) + 1).toNat) c_12) (tpart a b i 0) := by
      have h := hr_14
      rw [tpart_zero]; rwa [show (List.replicate (b.length + 1) (0 : Int)) = List.replicate ((b.length : Int) + 1).toNat 0 from rfl]
    refine X_loop (ι := Nat) (fun j => [(1, .slice A' b.length c'), (5, .slice A1 (b.length + 1) c1), (7, .int .i64 (rd a (i : Int))), (8, .slice A_11 (((b.length : Int) + 1).toNat) c_12), (15, .slice A a.length c), (16, .int .i64 (a.length : Int)), (17, .int .i64 (i : Int)), (25, .slice A' b.length c'), (26, .int .i64 (b.length : Int)), (27, .int .i64 (j : Int))]) (fun j wl => j ≤ b.length ∧ (Kd.int .i64).R 3 wl wo.heap.size (OkFrom wo.heap.size) (.slice A_11 (((b.length : Int) + 1).toNat) c_12) (tpart a b i j) ∧ Below wo.heap.size wo wl) (fun j => b.length - j) 0 ⟨by omega, h1, hb_16⟩ (by kernel_rfl) ?_
    rintro j wl ⟨hj, HR, HB2⟩
    refine X_seq ?_
    refine X_region ?_
    by_cases c_17 : (j : Int) < (b.length : Int)
    · refine XL_run 1 [(28, .eq (.bool true))] [(1, .slice A' b.length c'), (5, .slice A1 (b.length + 1) c1), (7, .int .i64 (rd a (i : Int))), (8, .slice A_11 (((b.length : Int) + 1).toNat) c_12), (15, .slice A a.length c), (16, .int .i64 (a.length : Int)), (17, .int .i64 (i : Int)), (25, .slice A' b.length c'), (26, .int .i64 (b.length : Int)), (27, .int .i64 (j : Int)), (28, .bool true)] wl [Value.bool (decide ((j : Int) < (b.length : Int))) = Value.bool true] (by kernel_rfl) ⟨congrArg Value.bool (decide_eq_true (c_17)), trivial⟩ ?_
      refine XL_nil ?_
      refine X_seq ?_
      refine X_cond true rfl ?_
      refine X_skip ?_
      refine X_seq ?_
      refine X_block ?_
      refine X_seq ?_
      refine X_region ?_
      refine XL_run 1 [] [(1, .slice A' b.length c'), (5, .slice A1 (b.length + 1) c1), (7, .int .i64 (rd a (i : Int))), (8, .slice A_11 (((b.length : Int) + 1).toNat) c_12), (15, .slice A a.length c), (16, .int .i64 (a.length : Int)), (17, .int .i64 (i : Int)), (25, .slice A' b.length c'), (26, .int .i64 (b.length : Int)), (27, .int .i64 (j : Int)), (29, .int .i64 (j : Int))] wl [] (by kernel_rfl) trivial ?_
      obtain ⟨ad_18, ha_19, hc_20⟩ := Kd.atI (Kd.C_below hb (bt HB HB2)) (i := (j : Int)) (by omega) (by omega)
      refine XL_run 4 [(30, .idx ad_18), (31, .load (.int .i64 (rd b (j : Int))))] [(1, .slice A' b.length c'), (5, .slice A1 (b.length + 1) c1), (7, .int .i64 (rd a (i : Int))), (8, .slice A_11 (((b.length : Int) + 1).toNat) c_12), (9, .int .i64 (j : Int)), (10, .int .i64 (rd b (j : Int))), (15, .slice A a.length c), (16, .int .i64 (a.length : Int)), (17, .int .i64 (i : Int)), (25, .slice A' b.length c'), (26, .int .i64 (b.length : Int)), (27, .int .i64 (j : Int))] wl [A' = some ad_18, (0 : Int) ≤ (j : Int), (j : Int) < (b.length : Int), LoadsAs Tryd.prog 3 (ad_18.add ((j : Int).toNat * 1)) (.int .i64 (rd b (j : Int))) wl] (by kernel_rfl) ⟨ha_19, (by omega), (by omega), loads1 rfl (elem_cell hc_20 0 _ rfl), trivial⟩ ?_
      refine XL_nil ?_
      refine X_seq ?_
      refine X_region ?_
      refine XL_run 2 [] [(1, .slice A' b.length c'), (5, .slice A1 (b.length + 1) c1), (7, .int .i64 (rd a (i : Int))), (8, .slice A_11 (((b.length : Int) + 1).toNat) c_12), (9, .int .i64 (j : Int)), (15, .slice A a.length c), (16, .int .i64 (a.length : Int)), (17, .int .i64 (i : Int)), (25, .slice A' b.length c'), (26, .int .i64 (b.length : Int)), (27, .int .i64 (j : Int)), (32, .int .i64 (rd a (i : Int))), (33, .int .i64 (rd b (j : Int)))] wl [] (by kernel_rfl) trivial ?_
      by_cases c_21 : rd a (i : Int) = rd b (j : Int)
      · refine XL_run 1 [(34, .eq (.bool true))] [(1, .slice A' b.length c'), (5, .slice A1 (b.length + 1) c1), (7, .int .i64 (rd a (i : Int))), (8, .slice A_11 (((b.length : Int) + 1).toNat) c_12), (9, .int .i64 (j : Int)), (15, .slice A a.length c), (16, .int .i64 (a.length : Int)), (17, .int .i64 (i : Int)), (25, .slice A' b.length c'), (26, .int .i64 (b.length : Int)), (27, .int .i64 (j : Int)), (34, .bool true)] wl [Value.bool (rd a (i : Int) == rd b (j : Int)) = Value.bool true] (by kernel_rfl) ⟨congrArg Value.bool (beq_iff_eq.2 (c_21)), trivial⟩ ?_
        refine XL_nil ?_
        refine X_cond true rfl ?_
        refine X_region ?_
        refine XL_run 5 [(37, .eq (.int .i64 ((j : Int) + 1)))] [(1, .slice A' b.length c'), (5, .slice A1 (b.length + 1) c1), (7, .int .i64 (rd a (i : Int))), (8, .slice A_11 (((b.length : Int) + 1).toNat) c_12), (15, .slice A a.length c), (16, .int .i64 (a.length : Int)), (17, .int .i64 (i : Int)), (25, .slice A' b.length c'), (26, .int .i64 (b.length : Int)), (27, .int .i64 (j : Int)), (35, .slice A_11 (((b.length : Int) + 1).toNat) c_12), (37, .int .i64 ((j : Int) + 1)), (38, .slice A1 (b.length + 1) c1), (39, .int .i64 (j : Int))] wl [Value.int .i64 (IntKind.i64.wrap ((j : Int) + 1)) = Value.int .i64 ((j : Int) + 1)] (by kernel_rfl) ⟨wr_i64 (by omega) (by omega), trivial⟩ ?_
        obtain ⟨ad_22, ha_23, hc_24⟩ := Kd.atI (Kd.C_below HC HB2) (i := (j : Int)) (by omega) (by omega)
        refine XL_run 3 [(40, .idx ad_22), (41, .load (.int .i64 (rd (trow a b i) (j : Int)))), (42, .eq (.int .i64 ((rd (trow a b i) (j : Int)) + 1)))] [(1, .slice A' b.length c'), (5, .slice A1 (b.length + 1) c1), (7, .int .i64 (rd a (i : Int))), (8, .slice A_11 (((b.length : Int) + 1).toNat) c_12), (15, .slice A a.length c), (16, .int .i64 (a.length : Int)), (17, .int .i64 (i : Int)), (25, .slice A' b.length c'), (26, .int .i64 (b.length : Int)), (27, .int .i64 (j : Int)), (35, .slice A_11 (((b.length : Int) + 1).toNat) c_12), (37, .int .i64 ((j : Int) + 1)), (42, .int .i64 ((rd (trow a b i) (j : Int)) + 1))] wl [A1 = some ad_22, (0 : Int) ≤ (j : Int), (j : Int) < ((b.length + 1) : Int), LoadsAs Tryd.prog 3 (ad_22.add ((j : Int).toNat * 1)) (.int .i64 (rd (trow a b i) (j : Int))) wl, Value.int .i64 (IntKind.i64.wrap ((rd (trow a b i) (j : Int)) + 1)) = Value.int .i64 ((rd (trow a b i) (j : Int)) + 1)] (by kernel_rfl) ⟨ha_23, (by omega), (by omega), loads1 rfl (elem_cell hc_24 0 _ rfl), wr_i64 (by have h := trow_get a b i j (by omega); have h2 := L_le a b i j; have h3 : rd (trow a b i) (j : Int) = (L a b i j : Int) := h; omega) (by have h := trow_get a b i j (by omega); have h2 := L_le a b i j; have h3 : rd (trow a b i) (j : Int) = (L a b i j : Int) := h; omega), trivial⟩ ?_
        obtain ⟨ad_25, ha_26, hc_27⟩ := Kd.atI (Kd.R_C HR) (i := (j : Int) + 1) (by omega) (by omega)
        refine XL_run 1 [(43, .idx ad_25)] [(1, .slice A' b.length c'), (5, .slice A1 (b.length + 1) c1), (7, .int .i64 (rd a (i : Int))), (8, .slice A_11 (((b.length : Int) + 1).toNat) c_12), (15, .slice A a.length c), (16, .int .i64 (a.length : Int)), (17, .int .i64 (i : Int)), (25, .slice A' b.length c'), (26, .int .i64 (b.length : Int)), (27, .int .i64 (j : Int)), (42, .int .i64 ((rd (trow a b i) (j : Int)) + 1)), (43, .pointer (some (ad_25.add (((j : Int) + 1).toNat * 1))))] wl [A_11 = some ad_25, (0 : Int) ≤ (j : Int) + 1, (j : Int) + 1 < (((b.length : Int) + 1).toNat : Int)] (by kernel_rfl) ⟨ha_26, (by omega), (by omega), trivial⟩ ?_
        refine XL_rowset (Kd.int .i64) rfl rfl rfl wo.heap.size 3 (ad := ad_25) (i := (j : Int) + 1) (v := .int .i64 ((rd (trow a b i) (j : Int)) + 1)) (tpart a b i j) ((rd (trow a b i) (j : Int)) + 1) (by kernel_rfl) ha_26 HR (by omega) (by omega) [.int .i64 ((rd (trow a b i) (j : Int)) + 1)] ⟨by kernel_rfl, by kernel_rfl⟩ (by kernel_rfl) rfl ?_
        intro w_28 hr_29 hg_30 hl_31
        have he_32 : ((tpart a b i j).set ((j : Int) + 1).toNat ((rd (trow a b i) (j : Int)) + 1)) = (tpart a b i (j + 1)) := by rw [show ((j : Int) + 1).toNat = j + 1 from by omega]; exact tpart_set a b i j (by omega) _ (by rw [L_succ, if_pos (show a.getD i 0 = b.getD j 0 from c_21), show rd (trow a b i) (j : Int) = (L a b i j : Int) from trow_get a b i j (by omega)]; omega)
        rw [he_32] at hr_29
        refine XL_nil ?_
        refine X_region ?_
        refine XL_run 2 [(58, .eq (.int .i64 ((j : Int) + 1)))] [(1, .slice A' b.length c'), (5, .slice A1 (b.length + 1) c1), (7, .int .i64 (rd a (i : Int))), (8, .slice A_11 (((b.length : Int) + 1).toNat) c_12), (15, .slice A a.length c), (16, .int .i64 (a.length : Int)), (17, .int .i64 (i : Int)), (25, .slice A' b.length c'), (26, .int .i64 (b.length : Int)), (27, .int .i64 ((j : Int) + 1))] w_28 [Value.int .i64 (IntKind.i64.wrap ((j : Int) + 1)) = Value.int .i64 ((j : Int) + 1)] (by kernel_rfl) ⟨wr_i64 (by omega) (by omega), trivial⟩ ?_
        refine XL_nil ?_
        refine ⟨(j + 1), by kernel_rfl, ?_, ?_⟩
        · exact ⟨by omega, hr_29, (bgo HB2 hg_30 hl_31 (Nat.le_refl _))⟩
        · (try dsimp only); omega
      · refine XL_run 1 [(34, .eq (.bool false))] [(1, .slice A' b.length c'), (5, .slice A1 (b.length + 1) c1), (7, .int .i64 (rd a (i : Int))), (8, .slice A_11 (((b.length : Int) + 1).toNat) c_12), (9, .int .i64 (j : Int)), (15, .slice A a.length c), (16, .int .i64 (a.length : Int)), (17, .int .i64 (i : Int)), (25, .slice A' b.length c'), (26, .int .i64 (b.length : Int)), (27, .int .i64 (j : Int)), (34, .bool false)] wl [Value.bool (rd a (i : Int) == rd b (j : Int)) = Value.bool false] (by kernel_rfl) ⟨congrArg Value.bool (beq_eq_false_iff_ne.2 (c_21)), trivial⟩ ?_
        refine XL_nil ?_
        refine X_cond false rfl ?_
        refine X_any [14] 15 #[false, false, false, false, false, false, false, false, false, false, false, false, false, false, false] (by kernel_rfl) (by kernel_rfl) (by kernel_rfl) (fun wd_33 hb_34 hh_35 => ?_)
        refine XA_run (fuel' := 10) [0, 1, 2, 3, 4] [(46, .eq (.int .i64 ((j : Int) + 1)))] [.slice A_11 (((b.length : Int) + 1).toNat) c_12, .int .i64 (j : Int), .int .i64 ((j : Int) + 1), .slice A_11 (((b.length : Int) + 1).toNat) c_12, .int .i64 (j : Int)] #[true, true, true, true, true, false, false, false, false, false, false, false, false, false, false] [(1, .slice A' b.length c'), (5, .slice A1 (b.length + 1) c1), (7, .int .i64 (rd a (i : Int))), (8, .slice A_11 (((b.length : Int) + 1).toNat) c_12), (9, .int .i64 (j : Int)), (15, .slice A a.length c), (16, .int .i64 (a.length : Int)), (17, .int .i64 (i : Int)), (25, .slice A' b.length c'), (26, .int .i64 (b.length : Int)), (27, .int .i64 (j : Int)), (44, .slice A_11 (((b.length : Int) + 1).toNat) c_12), (46, .int .i64 ((j : Int) + 1)), (47, .slice A_11 (((b.length : Int) + 1).toNat) c_12), (48, .int .i64 (j : Int))] [Value.int .i64 (IntKind.i64.wrap ((j : Int) + 1)) = Value.int .i64 ((j : Int) + 1)] (fun _ _ _ _ h => h) (by kernel_rfl) rfl ⟨wr_i64 (by omega) (by omega), trivial⟩ ?_
        obtain ⟨ad_36, ha_37, hc_38⟩ := Kd.atI (Kd.R_C (Kd.R_below HR hb_34)) (i := (j : Int)) (by omega) (by omega)
        refine XA_run (fuel' := 5) [5, 6, 7, 8, 9] [(49, .idx ad_36), (50, .load (.int .i64 (rd (tpart a b i j) (j : Int)))), (53, .eq (.int .i64 ((j : Int) + 1)))] [.pointer (some (ad_36.add ((j : Int).toNat * 1))), .int .i64 (rd (tpart a b i j) (j : Int)), .slice A1 (b.length + 1) c1, .int .i64 (j : Int), .int .i64 ((j : Int) + 1)] #[true, true, true, true, true, true, true, true, true, true, false, false, false, false, false] [(1, .slice A' b.length c'), (5, .slice A1 (b.length + 1) c1), (7, .int .i64 (rd a (i : Int))), (8, .slice A_11 (((b.length : Int) + 1).toNat) c_12), (15, .slice A a.length c), (16, .int .i64 (a.length : Int)), (17, .int .i64 (i : Int)), (25, .slice A' b.length c'), (26, .int .i64 (b.length : Int)), (27, .int .i64 (j : Int)), (44, .slice A_11 (((b.length : Int) + 1).toNat) c_12), (46, .int .i64 ((j : Int) + 1)), (50, .int .i64 (rd (tpart a b i j) (j : Int))), (51, .slice A1 (b.length + 1) c1), (53, .int .i64 ((j : Int) + 1))] [A_11 = some ad_36, (0 : Int) ≤ (j : Int), (j : Int) < (((b.length : Int) + 1).toNat : Int), LoadsAs Tryd.prog 3 (ad_36.add ((j : Int).toNat * 1)) (.int .i64 (rd (tpart a b i j) (j : Int))) wd_33, Value.int .i64 (IntKind.i64.wrap ((j : Int) + 1)) = Value.int .i64 ((j : Int) + 1)] (fun _ _ _ _ h => h) (by kernel_rfl) rfl ⟨ha_37, (by omega), (by omega), loads1 rfl (elem_cell hc_38 0 _ rfl), wr_i64 (by omega) (by omega), trivial⟩ ?_
        obtain ⟨ad_39, ha_40, hc_41⟩ := Kd.atI (Kd.C_below HC (bt HB2 hb_34)) (i := (j : Int) + 1) (by omega) (by omega)
        refine XA_run (fuel' := 2) [10, 11, 12] [(54, .idx ad_39), (55, .load (.int .i64 (rd (trow a b i) ((j : Int) + 1)))), (56, .eq (.int .i64 (max (rd (tpart a b i j) (j : Int)) (rd (trow a b i) ((j : Int) + 1)))))] [.pointer (some (ad_39.add (((j : Int) + 1).toNat * 1))), .int .i64 (rd (trow a b i) ((j : Int) + 1)), .int .i64 (max (rd (tpart a b i j) (j : Int)) (rd (trow a b i) ((j : Int) + 1)))] #[true, true, true, true, true, true, true, true, true, true, true, true, true, false, false] [(1, .slice A' b.length c'), (5, .slice A1 (b.length + 1) c1), (7, .int .i64 (rd a (i : Int))), (8, .slice A_11 (((b.length : Int) + 1).toNat) c_12), (15, .slice A a.length c), (16, .int .i64 (a.length : Int)), (17, .int .i64 (i : Int)), (25, .slice A' b.length c'), (26, .int .i64 (b.length : Int)), (27, .int .i64 (j : Int)), (44, .slice A_11 (((b.length : Int) + 1).toNat) c_12), (46, .int .i64 ((j : Int) + 1)), (56, .int .i64 (max (rd (tpart a b i j) (j : Int)) (rd (trow a b i) ((j : Int) + 1))))] [A1 = some ad_39, (0 : Int) ≤ (j : Int) + 1, (j : Int) + 1 < ((b.length + 1) : Int), LoadsAs Tryd.prog 3 (ad_39.add (((j : Int) + 1).toNat * 1)) (.int .i64 (rd (trow a b i) ((j : Int) + 1))) wd_33, Value.int .i64 (if rd (trow a b i) ((j : Int) + 1) > rd (tpart a b i j) (j : Int) then rd (trow a b i) ((j : Int) + 1) else rd (tpart a b i j) (j : Int)) = Value.int .i64 (max (rd (tpart a b i j) (j : Int)) (rd (trow a b i) ((j : Int) + 1)))] (fun _ _ _ _ h => h) (by kernel_rfl) rfl ⟨ha_40, (by omega), (by omega), loads1 rfl (elem_cell hc_41 0 _ rfl), congrArg (Value.int .i64) (max_eq _ _), trivial⟩ ?_
        obtain ⟨ad_42, ha_43, hc_44⟩ := Kd.atI (Kd.R_C (Kd.R_below HR hb_34)) (i := (j : Int) + 1) (by omega) (by omega)
        refine XA_run (fuel' := 1) [13] [(57, .idx ad_42)] [.pointer (some (ad_42.add (((j : Int) + 1).toNat * 1)))] #[true, true, true, true, true, true, true, true, true, true, true, true, true, true, false] [(1, .slice A' b.length c'), (5, .slice A1 (b.length + 1) c1), (7, .int .i64 (rd a (i : Int))), (8, .slice A_11 (((b.length : Int) + 1).toNat) c_12), (15, .slice A a.length c), (16, .int .i64 (a.length : Int)), (17, .int .i64 (i : Int)), (25, .slice A' b.length c'), (26, .int .i64 (b.length : Int)), (27, .int .i64 (j : Int)), (56, .int .i64 (max (rd (tpart a b i j) (j : Int)) (rd (trow a b i) ((j : Int) + 1)))), (57, .pointer (some (ad_42.add (((j : Int) + 1).toNat * 1))))] [A_11 = some ad_42, (0 : Int) ≤ (j : Int) + 1, (j : Int) + 1 < (((b.length : Int) + 1).toNat : Int)] (fun _ _ _ _ h => h) (by kernel_rfl) rfl ⟨ha_43, (by omega), (by omega), trivial⟩ ?_
        refine XA_act (fuel' := 0) 14 #[true, true, true, true, true, true, true, true, true, true, true, true, true, true, true] _ rfl (by kernel_rfl) rfl (by kernel_rfl) rfl ?_
        refine XL_rowset (Kd.int .i64) rfl rfl rfl wo.heap.size 3 (ad := ad_42) (i := (j : Int) + 1) (v := .int .i64 (max (rd (tpart a b i j) (j : Int)) (rd (trow a b i) ((j : Int) + 1)))) (tpart a b i j) (max (rd (tpart a b i j) (j : Int)) (rd (trow a b i) ((j : Int) + 1))) (by kernel_rfl) ha_43 (Kd.R_below HR hb_34) (by omega) (by omega) [.int .i64 (max (rd (tpart a b i j) (j : Int)) (rd (trow a b i) ((j : Int) + 1)))] ⟨by kernel_rfl, by kernel_rfl⟩ (by kernel_rfl) rfl ?_
        intro w_45 hr_46 hg_47 hl_48
        have he_49 : ((tpart a b i j).set ((j : Int) + 1).toNat (max (rd (tpart a b i j) (j : Int)) (rd (trow a b i) ((j : Int) + 1)))) = (tpart a b i (j + 1)) := by rw [show ((j : Int) + 1).toNat = j + 1 from by omega]; exact tpart_set a b i j (by omega) _ (by rw [L_succ, if_neg (show ¬ a.getD i 0 = b.getD j 0 from c_21), show rd (tpart a b i j) (j : Int) = (L a b (i + 1) j : Int) from tpart_get a b i j j (by omega) (by omega), show rd (trow a b i) ((j : Int) + 1) = (L a b i (j + 1) : Int) from trow_get a b i (j + 1) (by omega)]; omega)
        rw [he_49] at hr_46
        refine XL_nil ?_
        refine XA_done (by kernel_rfl) ?_
        refine X_region ?_
        refine XL_run 2 [(58, .eq (.int .i64 ((j : Int) + 1)))] [(1, .slice A' b.length c'), (5, .slice A1 (b.length + 1) c1), (7, .int .i64 (rd a (i : Int))), (8, .slice A_11 (((b.length : Int) + 1).toNat) c_12), (15, .slice A a.length c), (16, .int .i64 (a.length : Int)), (17, .int .i64 (i : Int)), (25, .slice A' b.length c'), (26, .int .i64 (b.length : Int)), (27, .int .i64 ((j : Int) + 1))] w_45 [Value.int .i64 (IntKind.i64.wrap ((j : Int) + 1)) = Value.int .i64 ((j : Int) + 1)] (by kernel_rfl) ⟨wr_i64 (by omega) (by omega), trivial⟩ ?_
        refine XL_nil ?_
        refine ⟨(j + 1), by kernel_rfl, ?_, ?_⟩
        · exact ⟨by omega, hr_46, (bgo (bt HB2 hb_34) hg_47 hl_48 (Nat.le_refl _))⟩
        · (try dsimp only); omega
    · refine XL_run 1 [(28, .eq (.bool false))] [(1, .slice A' b.length c'), (5, .slice A1 (b.length + 1) c1), (7, .int .i64 (rd a (i : Int))), (8, .slice A_11 (((b.length : Int) + 1).toNat) c_12), (15, .slice A a.length c), (16, .int .i64 (a.length : Int)), (17, .int .i64 (i : Int)), (25, .slice A' b.length c'), (26, .int .i64 (b.length : Int)), (27, .int .i64 (j : Int)), (28, .bool false)] wl [Value.bool (decide ((j : Int) < (b.length : Int))) = Value.bool false] (by kernel_rfl) ⟨congrArg Value.bool (decide_eq_false (c_17)), trivial⟩ ?_
      refine XL_nil ?_
      refine X_seq ?_
      refine X_cond false rfl ?_
      refine X_exit ?_
      refine X_region ?_
      refine XL_run 2 [] [(1, .slice A' b.length c'), (5, .slice A_11 (((b.length : Int) + 1).toNat) c_12), (15, .slice A a.length c), (16, .int .i64 (a.length : Int)), (17, .int .i64 (i : Int))] wl [] (by kernel_rfl) trivial ?_
      refine XL_nil ?_
      refine X_region ?_
      refine XL_run 2 [(60, .eq (.int .i64 ((i : Int) + 1)))] [(1, .slice A' b.length c'), (5, .slice A_11 (((b.length : Int) + 1).toNat) c_12), (15, .slice A a.length c), (16, .int .i64 (a.length : Int)), (17, .int .i64 ((i : Int) + 1))] wl [Value.int .i64 (IntKind.i64.wrap ((i : Int) + 1)) = Value.int .i64 ((i : Int) + 1)] (by kernel_rfl) ⟨wr_i64 (by omega) (by omega), trivial⟩ ?_
      refine XL_nil ?_
      refine ⟨⟨i + 1, A_11, c_12⟩, by kernel_rfl, ?_, ?_⟩
      · refine ⟨by omega, ?_, (bt HB HB2)⟩
        have h := Kd.R_C HR
        rw [show j = b.length from by omega, tpart_done, show ((b.length : Int) + 1).toNat = b.length + 1 from by omega] at h
        exact h
      · (try dsimp only); omega
  · refine XL_run 1 [(18, .eq (.bool false))] [(1, .slice A' b.length c'), (5, .slice A1 (b.length + 1) c1), (15, .slice A a.length c), (16, .int .i64 (a.length : Int)), (17, .int .i64 (i : Int)), (18, .bool false)] wo [Value.bool (decide ((i : Int) < (a.length : Int))) = Value.bool false] (by kernel_rfl) ⟨congrArg Value.bool (decide_eq_false (c_7)), trivial⟩ ?_
    refine XL_nil ?_
    refine X_seq ?_
    refine X_cond false rfl ?_
    refine X_exit ?_
    refine X_seq ?_
    refine X_region ?_
    refine XL_run 3 [] [(61, .slice A1 (b.length + 1) c1), (63, .int .i64 (b.length : Int))] wo [] (by kernel_rfl) trivial ?_
    obtain ⟨ad_50, ha_51, hc_52⟩ := Kd.atI HC (i := (b.length : Int)) (by omega) (by omega)
    refine XL_run 3 [(64, .idx ad_50), (65, .load (.int .i64 (rd (trow a b i) (b.length : Int))))] [(4, .int .i64 (rd (trow a b i) (b.length : Int)))] wo [A1 = some ad_50, (0 : Int) ≤ (b.length : Int), (b.length : Int) < ((b.length + 1) : Int), LoadsAs Tryd.prog 3 (ad_50.add ((b.length : Int).toNat * 1)) (.int .i64 (rd (trow a b i) (b.length : Int))) wo] (by kernel_rfl) ⟨ha_51, (by omega), (by omega), loads1 rfl (elem_cell hc_52 0 _ rfl), trivial⟩ ?_
    refine XL_nil ?_
    refine X_ret ?_
    refine RX.ret_ok (P := Tryd.prog) (fn := Tryd.f13) (N := 66) (R := R_) [.int .i64 (rd (trow a b i) (b.length : Int))] (by kernel_rfl) (hR_ _ _ ?_)
    have hi2 : i = a.length := by omega
    rw [show rd (trow a b i) (b.length : Int) = (Lm a b : Int) from by rw [hi2]; exact trow_get a b a.length b.length (by omega)]
    exact ⟨rfl, HB⟩
theorem refCheck_any (A A' A2 : Option Addr) (c c' c2 : Nat) (a b : List Int) (ps : List (Int × Int)) (w : World) (ha : (Kd.int .i64).C w A a.length a) (hb : (Kd.int .i64).C w A' b.length b) (hp : kPair.C w A2 ps.length ps) :
    Calls Tryd.prog 14 #[.slice A a.length c, .slice A' b.length c', .slice A2 ps.length c2] w fun e w' => e = .returned (.int .i64 (chk a b ps : Int)) ∧ Below w.heap.size w w' := by
  refine RX.enter Tryd.func14 rfl 85 rfl [(0, .slice A a.length c), (1, .slice A' b.length c'), (2, .slice A2 ps.length c2)] rfl (by kernel_rfl) (fun R_ hR_ => ?_)
  have hpl : ps.length ≤ 9223372036854775807 := hp.2.1
  refine X_seq ?_
  refine X_region ?_
  refine XL_run 1 [] [(0, .slice A a.length c), (1, .slice A' b.length c'), (2, .slice A2 ps.length c2)] w [] (by kernel_rfl) trivial ?_
  refine XL_nil ?_
  refine X_seq ?_
  refine X_seq ?_
  refine X_region ?_
  refine XL_run 3 [] [(0, .slice A a.length c), (1, .slice A' b.length c'), (2, .slice A2 ps.length c2), (11, .slice A2 ps.length c2), (12, .int .i64 (ps.length : Int)), (13, .int .i64 0)] w [] (by kernel_rfl) trivial ?_
  refine XL_nil ?_
  refine X_block ?_
  refine X_loop (ι := Nat) (fun i => [(0, .slice A a.length c), (1, .slice A' b.length c'), (2, .slice A2 ps.length c2), (11, .slice A2 ps.length c2), (12, .int .i64 (ps.length : Int)), (13, .int .i64 (i : Int))]) (fun i w1 => i ≤ ps.length ∧ (∀ q, q < i → InR a b (ps.getD q (0, 0))) ∧ Below w.heap.size w w1) (fun i => ps.length - i) 0 ⟨by omega, fun q hq => by omega, (Below.refl _ _)⟩ (by kernel_rfl) ?_
  rintro i w1 ⟨hi, hQ, HB1⟩
  refine X_seq ?_
  refine X_region ?_
  by_cases c_1 : (i : Int) < (ps.length : Int)
  · refine XL_run 1 [(14, .eq (.bool true))] [(0, .slice A a.length c), (1, .slice A' b.length c'), (2, .slice A2 ps.length c2), (11, .slice A2 ps.length c2), (12, .int .i64 (ps.length : Int)), (13, .int .i64 (i : Int)), (14, .bool true)] w1 [Value.bool (decide ((i : Int) < (ps.length : Int))) = Value.bool true] (by kernel_rfl) ⟨congrArg Value.bool (decide_eq_true (c_1)), trivial⟩ ?_
    refine XL_nil ?_
    refine X_seq ?_
    refine X_cond true rfl ?_
    refine X_skip ?_
    refine X_seq ?_
    refine X_block ?_
    refine X_seq ?_
    refine X_region ?_
    obtain ⟨ad_2, ha_3, hc_4⟩ := Kd.atPair (Kd.C_below hp HB1) (i := (i : Int)) (by omega) (by omega)
    replace hc_4 : CellsAt w1 (ad_2.add ((i : Int).toNat * 2)) [.int .i64 (ps.getD i (0, 0)).1, .int .i64 (ps.getD i (0, 0)).2] := hc_4
    refine XL_run 3 [(15, .idx ad_2), (16, .load (.agg #[.int .i64 ((ps.getD i (0, 0)).1), .int .i64 ((ps.getD i (0, 0)).2)]))] [(0, .slice A a.length c), (1, .slice A' b.length c'), (2, .slice A2 ps.length c2), (8, .pointer (some ⟨w1.heap.size, 0, none⟩)), (11, .slice A2 ps.length c2), (12, .int .i64 (ps.length : Int)), (13, .int .i64 (i : Int)), (16, .agg #[.int .i64 ((ps.getD i (0, 0)).1), .int .i64 ((ps.getD i (0, 0)).2)])] (w1.alloc (.cells #[.int .i64 0, .int .i64 0] 35)) [A2 = some ad_2, (0 : Int) ≤ (i : Int), (i : Int) < (ps.length : Int), LoadsAs Tryd.prog 35 (ad_2.add ((i : Int).toNat * 2)) (.agg #[.int .i64 ((ps.getD i (0, 0)).1), .int .i64 ((ps.getD i (0, 0)).2)]) w1] (by kernel_rfl) ⟨ha_3, (by omega), (by omega), loadsE rfl rfl hc_4 0 ⟨by kernel_rfl, by kernel_rfl⟩, trivial⟩ ?_
    obtain ⟨w_5, hw_9, hb_6, hk_7, hz_8⟩ := new_world w1 #[.int .i64 0, .int .i64 0] 35
    rw [hw_9]
    refine XL_store (v := .agg #[.int .i64 ((ps.getD i (0, 0)).1), .int .i64 ((ps.getD i (0, 0)).2)]) rfl rfl rfl (by kernel_rfl) hk_7 0 [.int .i64 ((ps.getD i (0, 0)).1), .int .i64 ((ps.getD i (0, 0)).2)] #[.int .i64 ((ps.getD i (0, 0)).1), .int .i64 ((ps.getD i (0, 0)).2)] ⟨by kernel_rfl, rfl, by kernel_rfl⟩ ⟨by kernel_rfl, by kernel_rfl⟩ (Nat.le_of_ble_eq_true (by kernel_rfl)) (fun w_10 hg_11 hk_12 hz_13 => ?_)
    refine XL_nil ?_
    refine X_seq ?_
    refine X_region ?_
    refine XL_run 2 [(18, .load (.int .i64 ((ps.getD i (0, 0)).1)))] [(0, .slice A a.length c), (1, .slice A' b.length c'), (2, .slice A2 ps.length c2), (8, .pointer (some ⟨w1.heap.size, 0, none⟩)), (11, .slice A2 ps.length c2), (12, .int .i64 (ps.length : Int)), (13, .int .i64 (i : Int)), (18, .int .i64 ((ps.getD i (0, 0)).1))] w_10 [LoadsAs Tryd.prog 3 (⟨w1.heap.size, 0, none⟩) (.int .i64 ((ps.getD i (0, 0)).1)) w_10] (by kernel_rfl) ⟨loads1 rfl (Blk.cell hk_12 0 _ rfl), trivial⟩ ?_
    by_cases c_14 : (ps.getD i (0, 0)).1 < 0
    · refine XL_run 20 [(19, .eq (.bool true))] [(0, .slice A a.length c), (1, .slice A' b.length c'), (2, .slice A2 ps.length c2), (11, .slice A2 ps.length c2), (12, .int .i64 (ps.length : Int)), (13, .int .i64 (i : Int)), (38, .bool true)] w_10 [Value.bool (decide ((ps.getD i (0, 0)).1 < 0)) = Value.bool true] (by kernel_rfl) ⟨congrArg Value.bool (decide_eq_true (c_14)), trivial⟩ ?_
      refine XL_nil ?_
      refine X_cond true rfl ?_
      refine X_seq ?_
      refine X_region ?_
      refine XL_run 1 [] [(6, .int .i64 12)] w_10 [] (by kernel_rfl) trivial ?_
      refine XL_nil ?_
      refine X_ret ?_
      refine RX.ret_ok (P := Tryd.prog) (fn := Tryd.f14) (N := 85) (R := R_) [.int .i64 12] (by kernel_rfl) (hR_ _ _ ?_)
      rw [chk_12 i (by omega) (fun h => by unfold InR at h; omega)]
      exact ⟨rfl, (bg (bt HB1 hb_6) hg_11 (HB1).size)⟩
    · refine XL_run 6 [(19, .eq (.bool false)), (22, .load (.int .i64 ((ps.getD i (0, 0)).1)))] [(0, .slice A a.length c), (1, .slice A' b.length c'), (2, .slice A2 ps.length c2), (8, .pointer (some ⟨w1.heap.size, 0, none⟩)), (11, .slice A2 ps.length c2), (12, .int .i64 (ps.length : Int)), (13, .int .i64 (i : Int)), (20, .bool false), (22, .int .i64 ((ps.getD i (0, 0)).1)), (24, .int .i64 (a.length : Int))] w_10 [Value.bool (decide ((ps.getD i (0, 0)).1 < 0)) = Value.bool false, LoadsAs Tryd.prog 3 (⟨w1.heap.size, 0, none⟩) (.int .i64 ((ps.getD i (0, 0)).1)) w_10] (by kernel_rfl) ⟨congrArg Value.bool (decide_eq_false (c_14)), loads1 rfl (Blk.cell hk_12 0 _ rfl), trivial⟩ ?_
      by_cases c_15 : (ps.getD i (0, 0)).1 ≥ (a.length : Int)
      · refine XL_run 14 [(25, .eq (.bool true))] [(0, .slice A a.length c), (1, .slice A' b.length c'), (2, .slice A2 ps.length c2), (11, .slice A2 ps.length c2), (12, .int .i64 (ps.length : Int)), (13, .int .i64 (i : Int)), (38, .bool true)] w_10 [Value.bool (decide ((ps.getD i (0, 0)).1 ≥ (a.length : Int))) = Value.bool true] (by kernel_rfl) ⟨congrArg Value.bool (decide_eq_true (c_15)), trivial⟩ ?_
        refine XL_nil ?_
        refine X_cond true rfl ?_
        refine X_seq ?_
        refine X_region ?_
        refine XL_run 1 [] [(6, .int .i64 12)] w_10 [] (by kernel_rfl) trivial ?_
        refine XL_nil ?_
        refine X_ret ?_
        refine RX.ret_ok (P := Tryd.prog) (fn := Tryd.f14) (N := 85) (R := R_) [.int .i64 12] (by kernel_rfl) (hR_ _ _ ?_)
        rw [chk_12 i (by omega) (fun h => by unfold InR at h; omega)]
        exact ⟨rfl, (bg (bt HB1 hb_6) hg_11 (HB1).size)⟩
      · refine XL_run 5 [(25, .eq (.bool false)), (29, .load (.int .i64 ((ps.getD i (0, 0)).2)))] [(0, .slice A a.length c), (1, .slice A' b.length c'), (2, .slice A2 ps.length c2), (8, .pointer (some ⟨w1.heap.size, 0, none⟩)), (11, .slice A2 ps.length c2), (12, .int .i64 (ps.length : Int)), (13, .int .i64 (i : Int)), (27, .bool false), (29, .int .i64 ((ps.getD i (0, 0)).2))] w_10 [Value.bool (decide ((ps.getD i (0, 0)).1 ≥ (a.length : Int))) = Value.bool false, LoadsAs Tryd.prog 3 (⟨w1.heap.size, 1, none⟩) (.int .i64 ((ps.getD i (0, 0)).2)) w_10] (by kernel_rfl) ⟨congrArg Value.bool (decide_eq_false (c_15)), loads1 rfl (Blk.cell hk_12 1 _ rfl), trivial⟩ ?_
        by_cases c_16 : (ps.getD i (0, 0)).2 < 0
        · refine XL_run 9 [(30, .eq (.bool true))] [(0, .slice A a.length c), (1, .slice A' b.length c'), (2, .slice A2 ps.length c2), (11, .slice A2 ps.length c2), (12, .int .i64 (ps.length : Int)), (13, .int .i64 (i : Int)), (38, .bool true)] w_10 [Value.bool (decide ((ps.getD i (0, 0)).2 < 0)) = Value.bool true] (by kernel_rfl) ⟨congrArg Value.bool (decide_eq_true (c_16)), trivial⟩ ?_
          refine XL_nil ?_
          refine X_cond true rfl ?_
          refine X_seq ?_
          refine X_region ?_
          refine XL_run 1 [] [(6, .int .i64 12)] w_10 [] (by kernel_rfl) trivial ?_
          refine XL_nil ?_
          refine X_ret ?_
          refine RX.ret_ok (P := Tryd.prog) (fn := Tryd.f14) (N := 85) (R := R_) [.int .i64 12] (by kernel_rfl) (hR_ _ _ ?_)
          rw [chk_12 i (by omega) (fun h => by unfold InR at h; omega)]
          exact ⟨rfl, (bg (bt HB1 hb_6) hg_11 (HB1).size)⟩
        · refine XL_run 7 [(30, .eq (.bool false)), (34, .load (.int .i64 ((ps.getD i (0, 0)).2)))] [(0, .slice A a.length c), (1, .slice A' b.length c'), (2, .slice A2 ps.length c2), (11, .slice A2 ps.length c2), (12, .int .i64 (ps.length : Int)), (13, .int .i64 (i : Int)), (32, .bool false), (34, .int .i64 ((ps.getD i (0, 0)).2)), (36, .int .i64 (b.length : Int))] w_10 [Value.bool (decide ((ps.getD i (0, 0)).2 < 0)) = Value.bool false, LoadsAs Tryd.prog 3 (⟨w1.heap.size, 1, none⟩) (.int .i64 ((ps.getD i (0, 0)).2)) w_10] (by kernel_rfl) ⟨congrArg Value.bool (decide_eq_false (c_16)), loads1 rfl (Blk.cell hk_12 1 _ rfl), trivial⟩ ?_
          by_cases c_17 : (ps.getD i (0, 0)).2 ≥ (b.length : Int)
          · refine XL_run 2 [(37, .eq (.bool true))] [(0, .slice A a.length c), (1, .slice A' b.length c'), (2, .slice A2 ps.length c2), (11, .slice A2 ps.length c2), (12, .int .i64 (ps.length : Int)), (13, .int .i64 (i : Int)), (38, .bool true)] w_10 [Value.bool (decide ((ps.getD i (0, 0)).2 ≥ (b.length : Int))) = Value.bool true] (by kernel_rfl) ⟨congrArg Value.bool (decide_eq_true (c_17)), trivial⟩ ?_
            refine XL_nil ?_
            refine X_cond true rfl ?_
            refine X_seq ?_
            refine X_region ?_
            refine XL_run 1 [] [(6, .int .i64 12)] w_10 [] (by kernel_rfl) trivial ?_
            refine XL_nil ?_
            refine X_ret ?_
            refine RX.ret_ok (P := Tryd.prog) (fn := Tryd.f14) (N := 85) (R := R_) [.int .i64 12] (by kernel_rfl) (hR_ _ _ ?_)
            rw [chk_12 i (by omega) (fun h => by unfold InR at h; omega)]
            exact ⟨rfl, (bg (bt HB1 hb_6) hg_11 (HB1).size)⟩
          · refine XL_run 2 [(37, .eq (.bool false))] [(0, .slice A a.length c), (1, .slice A' b.length c'), (2, .slice A2 ps.length c2), (11, .slice A2 ps.length c2), (12, .int .i64 (ps.length : Int)), (13, .int .i64 (i : Int)), (38, .bool false)] w_10 [Value.bool (decide ((ps.getD i (0, 0)).2 ≥ (b.length : Int))) = Value.bool false] (by kernel_rfl) ⟨congrArg Value.bool (decide_eq_false (c_17)), trivial⟩ ?_
            refine XL_nil ?_
            refine X_cond false rfl ?_
            refine X_skip ?_
            refine X_region ?_
            refine XL_run 2 [(39, .eq (.int .i64 ((i : Int) + 1)))] [(0, .slice A a.length c), (1, .slice A' b.length c'), (2, .slice A2 ps.length c2), (11, .slice A2 ps.length c2), (12, .int .i64 (ps.length : Int)), (13, .int .i64 ((i : Int) + 1))] w_10 [Value.int .i64 (IntKind.i64.wrap ((i : Int) + 1)) = Value.int .i64 ((i : Int) + 1)] (by kernel_rfl) ⟨wr_i64 (by omega) (by omega), trivial⟩ ?_
            refine XL_nil ?_
            refine ⟨(i + 1), by kernel_rfl, ?_, ?_⟩
            · refine ⟨by omega, fun q hq => ?_, (bg (bt HB1 hb_6) hg_11 (HB1).size)⟩
              by_cases e : q = i
              · subst e; unfold InR; omega
              · exact hQ q (by omega)
            · (try dsimp only); omega
  · refine XL_run 1 [(14, .eq (.bool false))] [(0, .slice A a.length c), (1, .slice A' b.length c'), (2, .slice A2 ps.length c2), (11, .slice A2 ps.length c2), (12, .int .i64 (ps.length : Int)), (13, .int .i64 (i : Int)), (14, .bool false)] w1 [Value.bool (decide ((i : Int) < (ps.length : Int))) = Value.bool false] (by kernel_rfl) ⟨congrArg Value.bool (decide_eq_false (c_1)), trivial⟩ ?_
    refine XL_nil ?_
    refine X_seq ?_
    refine X_cond false rfl ?_
    refine X_exit ?_
    refine X_seq ?_
    refine X_seq ?_
    refine X_region ?_
    refine XL_run 3 [] [(0, .slice A a.length c), (1, .slice A' b.length c'), (2, .slice A2 ps.length c2), (40, .slice A2 ps.length c2), (41, .int .i64 (ps.length : Int)), (42, .int .i64 0)] w1 [] (by kernel_rfl) trivial ?_
    refine XL_nil ?_
    refine X_block ?_
    obtain rfl : i = ps.length := by omega
    refine X_loop (ι := Nat) (fun k => [(0, .slice A a.length c), (1, .slice A' b.length c'), (2, .slice A2 ps.length c2), (40, .slice A2 ps.length c2), (41, .int .i64 (ps.length : Int)), (42, .int .i64 (k : Int))]) (fun k w2 => k ≤ ps.length ∧ (∀ q, q < k → OkAt a b ps q) ∧ Below w.heap.size w w2) (fun k => ps.length - k) 0 ⟨by omega, fun q hq => by omega, HB1⟩ (by kernel_rfl) ?_
    rintro k w2 ⟨hk, hO, HB2⟩
    have hz : ((k : Int) - 1).toNat = k - 1 := by omega
    refine X_seq ?_
    refine X_region ?_
    by_cases c_18 : (k : Int) < (ps.length : Int)
    · refine XL_run 1 [(43, .eq (.bool true))] [(0, .slice A a.length c), (1, .slice A' b.length c'), (2, .slice A2 ps.length c2), (40, .slice A2 ps.length c2), (41, .int .i64 (ps.length : Int)), (42, .int .i64 (k : Int)), (43, .bool true)] w2 [Value.bool (decide ((k : Int) < (ps.length : Int))) = Value.bool true] (by kernel_rfl) ⟨congrArg Value.bool (decide_eq_true (c_18)), trivial⟩ ?_
      refine XL_nil ?_
      refine X_seq ?_
      refine X_cond true rfl ?_
      refine X_skip ?_
      refine X_seq ?_
      refine X_block ?_
      refine X_seq ?_
      refine X_region ?_
      refine XL_run 1 [] [(0, .slice A a.length c), (1, .slice A' b.length c'), (2, .slice A2 ps.length c2), (40, .slice A2 ps.length c2), (41, .int .i64 (ps.length : Int)), (42, .int .i64 (k : Int)), (44, .int .i64 (k : Int))] w2 [] (by kernel_rfl) trivial ?_
      obtain ⟨ad_19, ha_20, hc_21⟩ := Kd.atPair (Kd.C_below hp HB2) (i := (k : Int)) (by omega) (by omega)
      replace hc_21 : CellsAt w2 (ad_19.add ((k : Int).toNat * 2)) [.int .i64 (ps.getD k (0, 0)).1, .int .i64 (ps.getD k (0, 0)).2] := hc_21
      refine XL_run 3 [(45, .idx ad_19), (46, .load (.agg #[.int .i64 ((ps.getD k (0, 0)).1), .int .i64 ((ps.getD k (0, 0)).2)]))] [(0, .slice A a.length c), (1, .slice A' b.length c'), (2, .slice A2 ps.length c2), (10, .pointer (some ⟨w2.heap.size, 0, none⟩)), (40, .slice A2 ps.length c2), (41, .int .i64 (ps.length : Int)), (42, .int .i64 (k : Int)), (44, .int .i64 (k : Int)), (46, .agg #[.int .i64 ((ps.getD k (0, 0)).1), .int .i64 ((ps.getD k (0, 0)).2)])] (w2.alloc (.cells #[.int .i64 0, .int .i64 0] 35)) [A2 = some ad_19, (0 : Int) ≤ (k : Int), (k : Int) < (ps.length : Int), LoadsAs Tryd.prog 35 (ad_19.add ((k : Int).toNat * 2)) (.agg #[.int .i64 ((ps.getD k (0, 0)).1), .int .i64 ((ps.getD k (0, 0)).2)]) w2] (by kernel_rfl) ⟨ha_20, (by omega), (by omega), loadsE rfl rfl hc_21 0 ⟨by kernel_rfl, by kernel_rfl⟩, trivial⟩ ?_
      obtain ⟨w_22, hw_26, hb_23, hk_24, hz_25⟩ := new_world w2 #[.int .i64 0, .int .i64 0] 35
      rw [hw_26]
      refine XL_run 1 [] [(0, .slice A a.length c), (1, .slice A' b.length c'), (2, .slice A2 ps.length c2), (9, .int .i64 (k : Int)), (10, .pointer (some ⟨w2.heap.size, 0, none⟩)), (40, .slice A2 ps.length c2), (41, .int .i64 (ps.length : Int)), (42, .int .i64 (k : Int)), (46, .agg #[.int .i64 ((ps.getD k (0, 0)).1), .int .i64 ((ps.getD k (0, 0)).2)])] w_22 [] (by kernel_rfl) trivial ?_
      refine XL_store (v := .agg #[.int .i64 ((ps.getD k (0, 0)).1), .int .i64 ((ps.getD k (0, 0)).2)]) rfl rfl rfl (by kernel_rfl) hk_24 0 [.int .i64 ((ps.getD k (0, 0)).1), .int .i64 ((ps.getD k (0, 0)).2)] #[.int .i64 ((ps.getD k (0, 0)).1), .int .i64 ((ps.getD k (0, 0)).2)] ⟨by kernel_rfl, rfl, by kernel_rfl⟩ ⟨by kernel_rfl, by kernel_rfl⟩ (Nat.le_of_ble_eq_true (by kernel_rfl)) (fun w_27 hg_28 hk_29 hz_30 => ?_)
      refine XL_nil ?_
      refine X_seq ?_
      refine X_still (by kernel_rfl) (by kernel_rfl) (fun wd_31 hb_32 hh_33 => ?_)
      refine XS_run 3 [(49, .load (.int .i64 ((ps.getD k (0, 0)).1)))] [.slice A a.length c, .pointer (some ⟨w2.heap.size, 0, none⟩), .int .i64 ((ps.getD k (0, 0)).1)] [(0, .slice A a.length c), (1, .slice A' b.length c'), (2, .slice A2 ps.length c2), (9, .int .i64 (k : Int)), (10, .pointer (some ⟨w2.heap.size, 0, none⟩)), (40, .slice A2 ps.length c2), (41, .int .i64 (ps.length : Int)), (42, .int .i64 (k : Int)), (47, .slice A a.length c), (49, .int .i64 ((ps.getD k (0, 0)).1))] [LoadsAs Tryd.prog 3 (⟨w2.heap.size, 0, none⟩) (.int .i64 ((ps.getD k (0, 0)).1)) wd_31] (by kernel_rfl) (by kernel_rfl) ⟨loads1 rfl (Blk.cell (Blk.below hk_29 hb_32) 0 _ rfl), trivial⟩ ?_
      obtain ⟨ad_34, ha_35, hc_36⟩ := Kd.atI (Kd.C_below ha (bt (bg (bt HB2 hb_23) hg_28 (HB2).size) hb_32)) (i := (ps.getD k (0, 0)).1) (by have h := hQ k (by omega); unfold InR at h; omega) (by have h := hQ k (by omega); unfold InR at h; omega)
      refine XS_run 5 [(50, .idx ad_34), (51, .load (.int .i64 (rd a ((ps.getD k (0, 0)).1)))), (54, .load (.int .i64 ((ps.getD k (0, 0)).2)))] [.pointer (some (ad_34.add (((ps.getD k (0, 0)).1).toNat * 1))), .int .i64 (rd a ((ps.getD k (0, 0)).1)), .slice A' b.length c', .pointer (some ⟨w2.heap.size, 1, none⟩), .int .i64 ((ps.getD k (0, 0)).2)] [(0, .slice A a.length c), (1, .slice A' b.length c'), (2, .slice A2 ps.length c2), (9, .int .i64 (k : Int)), (10, .pointer (some ⟨w2.heap.size, 0, none⟩)), (40, .slice A2 ps.length c2), (41, .int .i64 (ps.length : Int)), (42, .int .i64 (k : Int)), (51, .int .i64 (rd a ((ps.getD k (0, 0)).1))), (52, .slice A' b.length c'), (54, .int .i64 ((ps.getD k (0, 0)).2))] [A = some ad_34, (0 : Int) ≤ (ps.getD k (0, 0)).1, (ps.getD k (0, 0)).1 < (a.length : Int), LoadsAs Tryd.prog 3 (ad_34.add (((ps.getD k (0, 0)).1).toNat * 1)) (.int .i64 (rd a ((ps.getD k (0, 0)).1))) wd_31, LoadsAs Tryd.prog 3 (⟨w2.heap.size, 1, none⟩) (.int .i64 ((ps.getD k (0, 0)).2)) wd_31] (by kernel_rfl) (by kernel_rfl) ⟨ha_35, (by have h := hQ k (by omega); unfold InR at h; omega), (by have h := hQ k (by omega); unfold InR at h; omega), loads1 rfl (elem_cell hc_36 0 _ rfl), loads1 rfl (Blk.cell (Blk.below hk_29 hb_32) 1 _ rfl), trivial⟩ ?_
      obtain ⟨ad_37, ha_38, hc_39⟩ := Kd.atI (Kd.C_below hb (bt (bg (bt HB2 hb_23) hg_28 (HB2).size) hb_32)) (i := (ps.getD k (0, 0)).2) (by have h := hQ k (by omega); unfold InR at h; omega) (by have h := hQ k (by omega); unfold InR at h; omega)
      refine XS_run 2 [(55, .idx ad_37), (56, .load (.int .i64 (rd b ((ps.getD k (0, 0)).2))))] [.pointer (some (ad_37.add (((ps.getD k (0, 0)).2).toNat * 1))), .int .i64 (rd b ((ps.getD k (0, 0)).2))] [(0, .slice A a.length c), (1, .slice A' b.length c'), (2, .slice A2 ps.length c2), (9, .int .i64 (k : Int)), (10, .pointer (some ⟨w2.heap.size, 0, none⟩)), (40, .slice A2 ps.length c2), (41, .int .i64 (ps.length : Int)), (42, .int .i64 (k : Int)), (51, .int .i64 (rd a ((ps.getD k (0, 0)).1))), (56, .int .i64 (rd b ((ps.getD k (0, 0)).2)))] [A' = some ad_37, (0 : Int) ≤ (ps.getD k (0, 0)).2, (ps.getD k (0, 0)).2 < (b.length : Int), LoadsAs Tryd.prog 3 (ad_37.add (((ps.getD k (0, 0)).2).toNat * 1)) (.int .i64 (rd b ((ps.getD k (0, 0)).2))) wd_31] (by kernel_rfl) (by kernel_rfl) ⟨ha_38, (by have h := hQ k (by omega); unfold InR at h; omega), (by have h := hQ k (by omega); unfold InR at h; omega), loads1 rfl (elem_cell hc_39 0 _ rfl), trivial⟩ ?_
      by_cases c_40 : rd a ((ps.getD k (0, 0)).1) = rd b ((ps.getD k (0, 0)).2)
      · refine XS_run 3 [(57, .eq (.bool false))] [.bool false, .bool false, .int .i64 (k : Int)] [(0, .slice A a.length c), (1, .slice A' b.length c'), (2, .slice A2 ps.length c2), (9, .int .i64 (k : Int)), (10, .pointer (some ⟨w2.heap.size, 0, none⟩)), (40, .slice A2 ps.length c2), (41, .int .i64 (ps.length : Int)), (42, .int .i64 (k : Int)), (58, .bool false), (59, .int .i64 (k : Int))] [Value.bool (rd a ((ps.getD k (0, 0)).1) != rd b ((ps.getD k (0, 0)).2)) = Value.bool false] (by kernel_rfl) (by kernel_rfl) ⟨congrArg Value.bool (bneF (c_40)), trivial⟩ ?_
        by_cases c_41 : (k : Int) > 0
        · refine XS_run 7 [(60, .eq (.bool true)), (63, .load (.int .i64 ((ps.getD k (0, 0)).1))), (66, .eq (.int .i64 ((k : Int) - 1)))] [.bool true, .bool true, .pointer (some ⟨w2.heap.size, 0, none⟩), .int .i64 ((ps.getD k (0, 0)).1), .slice A2 ps.length c2, .int .i64 (k : Int), .int .i64 ((k : Int) - 1)] [(0, .slice A a.length c), (1, .slice A' b.length c'), (2, .slice A2 ps.length c2), (9, .int .i64 (k : Int)), (10, .pointer (some ⟨w2.heap.size, 0, none⟩)), (40, .slice A2 ps.length c2), (41, .int .i64 (ps.length : Int)), (42, .int .i64 (k : Int)), (58, .bool false), (61, .bool true), (63, .int .i64 ((ps.getD k (0, 0)).1)), (64, .slice A2 ps.length c2), (66, .int .i64 ((k : Int) - 1))] [Value.bool (decide ((k : Int) > 0)) = Value.bool true, LoadsAs Tryd.prog 3 (⟨w2.heap.size, 0, none⟩) (.int .i64 ((ps.getD k (0, 0)).1)) wd_31, Value.int .i64 (IntKind.i64.wrap ((k : Int) - 1)) = Value.int .i64 ((k : Int) - 1)] (by kernel_rfl) (by kernel_rfl) ⟨congrArg Value.bool (decide_eq_true (c_41)), loads1 rfl (Blk.cell (Blk.below hk_29 hb_32) 0 _ rfl), wr_i64 (by omega) (by omega), trivial⟩ ?_
          obtain ⟨ad_42, ha_43, hc_44⟩ := Kd.atPair (Kd.C_below hp (bt (bg (bt HB2 hb_23) hg_28 (HB2).size) hb_32)) (i := (k : Int) - 1) (by omega) (by omega)
          replace hc_44 : CellsAt wd_31 (ad_42.add (((k : Int) - 1).toNat * 2)) [.int .i64 (ps.getD ((k : Int) - 1).toNat (0, 0)).1, .int .i64 (ps.getD ((k : Int) - 1).toNat (0, 0)).2] := hc_44
          refine XS_run 3 [(67, .idx ad_42), (69, .load (.int .i64 ((ps.getD ((k : Int) - 1).toNat (0, 0)).1)))] [.pointer (some (ad_42.add (((k : Int) - 1).toNat * 2))), .pointer (some (ad_42.add (((k : Int) - 1).toNat * 2))), .int .i64 ((ps.getD ((k : Int) - 1).toNat (0, 0)).1)] [(0, .slice A a.length c), (1, .slice A' b.length c'), (2, .slice A2 ps.length c2), (9, .int .i64 (k : Int)), (10, .pointer (some ⟨w2.heap.size, 0, none⟩)), (40, .slice A2 ps.length c2), (41, .int .i64 (ps.length : Int)), (42, .int .i64 (k : Int)), (58, .bool false), (61, .bool true), (63, .int .i64 ((ps.getD k (0, 0)).1)), (69, .int .i64 ((ps.getD ((k : Int) - 1).toNat (0, 0)).1))] [A2 = some ad_42, (0 : Int) ≤ (k : Int) - 1, (k : Int) - 1 < (ps.length : Int), LoadsAs Tryd.prog 3 (ad_42.add (((k : Int) - 1).toNat * 2)) (.int .i64 ((ps.getD ((k : Int) - 1).toNat (0, 0)).1)) wd_31] (by kernel_rfl) (by kernel_rfl) ⟨ha_43, (by omega), (by omega), loads1 rfl (elem_cell hc_44 0 _ rfl), trivial⟩ ?_
          by_cases c_45 : (ps.getD k (0, 0)).1 ≤ (ps.getD ((k : Int) - 1).toNat (0, 0)).1
          · refine XS_run 14 [(70, .eq (.bool true))] [.bool true, .bool true, undef, undef, undef, undef, undef, undef, undef, undef, undef, .bool true, .bool true, .bool true] [(0, .slice A a.length c), (1, .slice A' b.length c'), (2, .slice A2 ps.length c2), (40, .slice A2 ps.length c2), (41, .int .i64 (ps.length : Int)), (42, .int .i64 (k : Int)), (83, .bool true)] [Value.bool (decide ((ps.getD k (0, 0)).1 ≤ (ps.getD ((k : Int) - 1).toNat (0, 0)).1)) = Value.bool true] (by kernel_rfl) (by kernel_rfl) ⟨congrArg Value.bool (decide_eq_true (c_45)), trivial⟩ ?_
            refine XS_nil ?_
            refine X_cond true rfl ?_
            refine X_seq ?_
            refine X_region ?_
            refine XL_run 1 [] [(6, .int .i64 9)] wd_31 [] (by kernel_rfl) trivial ?_
            refine XL_nil ?_
            refine X_ret ?_
            refine RX.ret_ok (P := Tryd.prog) (fn := Tryd.f14) (N := 85) (R := R_) [.int .i64 9] (by kernel_rfl) (hR_ _ _ ?_)
            (try simp only [hz] at *)
            rw [chk_9 hQ k (by omega) (fun h => by obtain ⟨h1, h2⟩ := h; first | omega | exact absurd h1 c_40)]
            exact ⟨rfl, (bt (bg (bt HB2 hb_23) hg_28 (HB2).size) hb_32)⟩
          · refine XS_run 7 [(70, .eq (.bool false)), (73, .load (.int .i64 ((ps.getD k (0, 0)).2))), (76, .eq (.int .i64 ((k : Int) - 1)))] [.bool false, .bool false, .pointer (some ⟨w2.heap.size, 1, none⟩), .int .i64 ((ps.getD k (0, 0)).2), .slice A2 ps.length c2, .int .i64 (k : Int), .int .i64 ((k : Int) - 1)] [(0, .slice A a.length c), (1, .slice A' b.length c'), (2, .slice A2 ps.length c2), (40, .slice A2 ps.length c2), (41, .int .i64 (ps.length : Int)), (42, .int .i64 (k : Int)), (58, .bool false), (61, .bool true), (71, .bool false), (73, .int .i64 ((ps.getD k (0, 0)).2)), (74, .slice A2 ps.length c2), (76, .int .i64 ((k : Int) - 1))] [Value.bool (decide ((ps.getD k (0, 0)).1 ≤ (ps.getD ((k : Int) - 1).toNat (0, 0)).1)) = Value.bool false, LoadsAs Tryd.prog 3 (⟨w2.heap.size, 1, none⟩) (.int .i64 ((ps.getD k (0, 0)).2)) wd_31, Value.int .i64 (IntKind.i64.wrap ((k : Int) - 1)) = Value.int .i64 ((k : Int) - 1)] (by kernel_rfl) (by kernel_rfl) ⟨congrArg Value.bool (decide_eq_false (c_45)), loads1 rfl (Blk.cell (Blk.below hk_29 hb_32) 1 _ rfl), wr_i64 (by omega) (by omega), trivial⟩ ?_
            obtain ⟨ad_46, ha_47, hc_48⟩ := Kd.atPair (Kd.C_below hp (bt (bg (bt HB2 hb_23) hg_28 (HB2).size) hb_32)) (i := (k : Int) - 1) (by omega) (by omega)
            replace hc_48 : CellsAt wd_31 (ad_46.add (((k : Int) - 1).toNat * 2)) [.int .i64 (ps.getD ((k : Int) - 1).toNat (0, 0)).1, .int .i64 (ps.getD ((k : Int) - 1).toNat (0, 0)).2] := hc_48
            refine XS_run 3 [(77, .idx ad_46), (79, .load (.int .i64 ((ps.getD ((k : Int) - 1).toNat (0, 0)).2)))] [.pointer (some (ad_46.add (((k : Int) - 1).toNat * 2))), .pointer (some ((ad_46.add (((k : Int) - 1).toNat * 2)).add 1)), .int .i64 ((ps.getD ((k : Int) - 1).toNat (0, 0)).2)] [(0, .slice A a.length c), (1, .slice A' b.length c'), (2, .slice A2 ps.length c2), (40, .slice A2 ps.length c2), (41, .int .i64 (ps.length : Int)), (42, .int .i64 (k : Int)), (58, .bool false), (61, .bool true), (71, .bool false), (73, .int .i64 ((ps.getD k (0, 0)).2)), (79, .int .i64 ((ps.getD ((k : Int) - 1).toNat (0, 0)).2))] [A2 = some ad_46, (0 : Int) ≤ (k : Int) - 1, (k : Int) - 1 < (ps.length : Int), LoadsAs Tryd.prog 3 ((ad_46.add (((k : Int) - 1).toNat * 2)).add 1) (.int .i64 ((ps.getD ((k : Int) - 1).toNat (0, 0)).2)) wd_31] (by kernel_rfl) (by kernel_rfl) ⟨ha_47, (by omega), (by omega), loads1 rfl (elem_cell hc_48 1 _ rfl), trivial⟩ ?_
            by_cases c_49 : (ps.getD k (0, 0)).2 ≤ (ps.getD ((k : Int) - 1).toNat (0, 0)).2
            · refine XS_run 4 [(80, .eq (.bool true))] [.bool true, .bool true, .bool true, .bool true] [(0, .slice A a.length c), (1, .slice A' b.length c'), (2, .slice A2 ps.length c2), (40, .slice A2 ps.length c2), (41, .int .i64 (ps.length : Int)), (42, .int .i64 (k : Int)), (83, .bool true)] [Value.bool (decide ((ps.getD k (0, 0)).2 ≤ (ps.getD ((k : Int) - 1).toNat (0, 0)).2)) = Value.bool true] (by kernel_rfl) (by kernel_rfl) ⟨congrArg Value.bool (decide_eq_true (c_49)), trivial⟩ ?_
              refine XS_nil ?_
              refine X_cond true rfl ?_
              refine X_seq ?_
              refine X_region ?_
              refine XL_run 1 [] [(6, .int .i64 9)] wd_31 [] (by kernel_rfl) trivial ?_
              refine XL_nil ?_
              refine X_ret ?_
              refine RX.ret_ok (P := Tryd.prog) (fn := Tryd.f14) (N := 85) (R := R_) [.int .i64 9] (by kernel_rfl) (hR_ _ _ ?_)
              (try simp only [hz] at *)
              rw [chk_9 hQ k (by omega) (fun h => by obtain ⟨h1, h2⟩ := h; first | omega | exact absurd h1 c_40)]
              exact ⟨rfl, (bt (bg (bt HB2 hb_23) hg_28 (HB2).size) hb_32)⟩
            · refine XS_run 4 [(80, .eq (.bool false))] [.bool false, .bool false, .bool false, .bool false] [(0, .slice A a.length c), (1, .slice A' b.length c'), (2, .slice A2 ps.length c2), (40, .slice A2 ps.length c2), (41, .int .i64 (ps.length : Int)), (42, .int .i64 (k : Int)), (83, .bool false)] [Value.bool (decide ((ps.getD k (0, 0)).2 ≤ (ps.getD ((k : Int) - 1).toNat (0, 0)).2)) = Value.bool false] (by kernel_rfl) (by kernel_rfl) ⟨congrArg Value.bool (decide_eq_false (c_49)), trivial⟩ ?_
              refine XS_nil ?_
              refine X_cond false rfl ?_
              refine X_skip ?_
              refine X_region ?_
              refine XL_run 2 [(84, .eq (.int .i64 ((k : Int) + 1)))] [(0, .slice A a.length c), (1, .slice A' b.length c'), (2, .slice A2 ps.length c2), (40, .slice A2 ps.length c2), (41, .int .i64 (ps.length : Int)), (42, .int .i64 ((k : Int) + 1))] wd_31 [Value.int .i64 (IntKind.i64.wrap ((k : Int) + 1)) = Value.int .i64 ((k : Int) + 1)] (by kernel_rfl) ⟨wr_i64 (by omega) (by omega), trivial⟩ ?_
              refine XL_nil ?_
              refine ⟨(k + 1), by kernel_rfl, ?_, ?_⟩
              · (try simp only [hz] at *)
                refine ⟨by omega, fun q hq => ?_, (bt (bg (bt HB2 hb_23) hg_28 (HB2).size) hb_32)⟩
                by_cases e : q = k
                · subst e; exact ⟨c_40, by omega⟩
                · exact hO q (by omega)
              · (try dsimp only); omega
        · refine XS_run 24 [(60, .eq (.bool false))] [.bool false, .bool false, undef, undef, undef, undef, undef, undef, undef, undef, undef, undef, undef, undef, undef, undef, undef, undef, undef, undef, undef, undef, .bool false, .bool false] [(0, .slice A a.length c), (1, .slice A' b.length c'), (2, .slice A2 ps.length c2), (40, .slice A2 ps.length c2), (41, .int .i64 (ps.length : Int)), (42, .int .i64 (k : Int)), (83, .bool false)] [Value.bool (decide ((k : Int) > 0)) = Value.bool false] (by kernel_rfl) (by kernel_rfl) ⟨congrArg Value.bool (decide_eq_false (c_41)), trivial⟩ ?_
          refine XS_nil ?_
          refine X_cond false rfl ?_
          refine X_skip ?_
          refine X_region ?_
          refine XL_run 2 [(84, .eq (.int .i64 ((k : Int) + 1)))] [(0, .slice A a.length c), (1, .slice A' b.length c'), (2, .slice A2 ps.length c2), (40, .slice A2 ps.length c2), (41, .int .i64 (ps.length : Int)), (42, .int .i64 ((k : Int) + 1))] wd_31 [Value.int .i64 (IntKind.i64.wrap ((k : Int) + 1)) = Value.int .i64 ((k : Int) + 1)] (by kernel_rfl) ⟨wr_i64 (by omega) (by omega), trivial⟩ ?_
          refine XL_nil ?_
          refine ⟨(k + 1), by kernel_rfl, ?_, ?_⟩
          · (try simp only [hz] at *)
            refine ⟨by omega, fun q hq => ?_, (bt (bg (bt HB2 hb_23) hg_28 (HB2).size) hb_32)⟩
            by_cases e : q = k
            · subst e; exact ⟨c_40, by omega⟩
            · exact hO q (by omega)
          · (try dsimp only); omega
      · refine XS_run 27 [(57, .eq (.bool true))] [.bool true, .bool true, undef, undef, undef, undef, undef, undef, undef, undef, undef, undef, undef, undef, undef, undef, undef, undef, undef, undef, undef, undef, undef, undef, undef, undef, .bool true] [(0, .slice A a.length c), (1, .slice A' b.length c'), (2, .slice A2 ps.length c2), (40, .slice A2 ps.length c2), (41, .int .i64 (ps.length : Int)), (42, .int .i64 (k : Int)), (83, .bool true)] [Value.bool (rd a ((ps.getD k (0, 0)).1) != rd b ((ps.getD k (0, 0)).2)) = Value.bool true] (by kernel_rfl) (by kernel_rfl) ⟨congrArg Value.bool (bneT (c_40)), trivial⟩ ?_
        refine XS_nil ?_
        refine X_cond true rfl ?_
        refine X_seq ?_
        refine X_region ?_
        refine XL_run 1 [] [(6, .int .i64 9)] wd_31 [] (by kernel_rfl) trivial ?_
        refine XL_nil ?_
        refine X_ret ?_
        refine RX.ret_ok (P := Tryd.prog) (fn := Tryd.f14) (N := 85) (R := R_) [.int .i64 9] (by kernel_rfl) (hR_ _ _ ?_)
        (try simp only [hz] at *)
        rw [chk_9 hQ k (by omega) (fun h => by obtain ⟨h1, h2⟩ := h; first | omega | exact absurd h1 c_40)]
        exact ⟨rfl, (bt (bg (bt HB2 hb_23) hg_28 (HB2).size) hb_32)⟩
    · refine XL_run 1 [(43, .eq (.bool false))] [(0, .slice A a.length c), (1, .slice A' b.length c'), (2, .slice A2 ps.length c2), (40, .slice A2 ps.length c2), (41, .int .i64 (ps.length : Int)), (42, .int .i64 (k : Int)), (43, .bool false)] w2 [Value.bool (decide ((k : Int) < (ps.length : Int))) = Value.bool false] (by kernel_rfl) ⟨congrArg Value.bool (decide_eq_false (c_18)), trivial⟩ ?_
      refine XL_nil ?_
      refine X_seq ?_
      refine X_cond false rfl ?_
      refine X_exit ?_
      refine X_seq ?_
      refine X_region ?_
      refine XL_run 1 [] [(6, .int .i64 0)] w2 [] (by kernel_rfl) trivial ?_
      refine XL_nil ?_
      refine X_ret ?_
      refine RX.ret_ok (P := Tryd.prog) (fn := Tryd.f14) (N := 85) (R := R_) [.int .i64 0] (by kernel_rfl) (hR_ _ _ ?_)
      obtain rfl : k = ps.length := by omega
      rw [chk_0 hQ hO]
      exact ⟨rfl, HB2⟩
theorem check_any (A A' A2 : Option Addr) (c c' c2 : Nat) (a b : List Int) (ps : List (Int × Int)) (w : World) (ha : (Kd.int .i64).C w A a.length a) (hb : (Kd.int .i64).C w A' b.length b) (hp : kPair.C w A2 ps.length ps) (es : List Addr) (hE : Errs w es) :
    Calls Tryd.prog 17 #[.slice A a.length c, .slice A' b.length c', .slice A2 ps.length c2] w fun e w' => e = .returned (errV es (chk a b ps)) ∧ Below w.heap.size w w' := by
  refine RX.enter Tryd.func17 rfl 87 rfl [(0, .slice A a.length c), (1, .slice A' b.length c'), (2, .slice A2 ps.length c2)] rfl (by kernel_rfl) (fun R_ hR_ => ?_)
  have hpl : ps.length ≤ 9223372036854775807 := hp.2.1
  refine X_seq ?_
  refine X_region ?_
  refine XL_run 1 [] [(0, .slice A a.length c), (1, .slice A' b.length c'), (2, .slice A2 ps.length c2)] w [] (by kernel_rfl) trivial ?_
  refine XL_nil ?_
  refine X_seq ?_
  refine X_seq ?_
  refine X_region ?_
  refine XL_run 3 [] [(0, .slice A a.length c), (1, .slice A' b.length c'), (2, .slice A2 ps.length c2), (11, .slice A2 ps.length c2), (12, .int .i64 (ps.length : Int)), (13, .int .i64 0)] w [] (by kernel_rfl) trivial ?_
  refine XL_nil ?_
  refine X_block ?_
  refine X_loop (ι := Nat) (fun i => [(0, .slice A a.length c), (1, .slice A' b.length c'), (2, .slice A2 ps.length c2), (11, .slice A2 ps.length c2), (12, .int .i64 (ps.length : Int)), (13, .int .i64 (i : Int))]) (fun i w1 => i ≤ ps.length ∧ (∀ q, q < i → InR a b (ps.getD q (0, 0))) ∧ Below w.heap.size w w1) (fun i => ps.length - i) 0 ⟨by omega, fun q hq => by omega, (Below.refl _ _)⟩ (by kernel_rfl) ?_
  rintro i w1 ⟨hi, hQ, HB1⟩
  refine X_seq ?_
  refine X_region ?_
  by_cases c_1 : (i : Int) < (ps.length : Int)
  · refine XL_run 1 [(14, .eq (.bool true))] [(0, .slice A a.length c), (1, .slice A' b.length c'), (2, .slice A2 ps.length c2), (11, .slice A2 ps.length c2), (12, .int .i64 (ps.length : Int)), (13, .int .i64 (i : Int)), (14, .bool true)] w1 [Value.bool (decide ((i : Int) < (ps.length : Int))) = Value.bool true] (by kernel_rfl) ⟨congrArg Value.bool (decide_eq_true (c_1)), trivial⟩ ?_
    refine XL_nil ?_
    refine X_seq ?_
    refine X_cond true rfl ?_
    refine X_skip ?_
    refine X_seq ?_
    refine X_block ?_
    refine X_seq ?_
    refine X_region ?_
    obtain ⟨ad_2, ha_3, hc_4⟩ := Kd.atPair (Kd.C_below hp HB1) (i := (i : Int)) (by omega) (by omega)
    replace hc_4 : CellsAt w1 (ad_2.add ((i : Int).toNat * 2)) [.int .i64 (ps.getD i (0, 0)).1, .int .i64 (ps.getD i (0, 0)).2] := hc_4
    refine XL_run 3 [(15, .idx ad_2), (16, .load (.agg #[.int .i64 ((ps.getD i (0, 0)).1), .int .i64 ((ps.getD i (0, 0)).2)]))] [(0, .slice A a.length c), (1, .slice A' b.length c'), (2, .slice A2 ps.length c2), (8, .pointer (some ⟨w1.heap.size, 0, none⟩)), (11, .slice A2 ps.length c2), (12, .int .i64 (ps.length : Int)), (13, .int .i64 (i : Int)), (16, .agg #[.int .i64 ((ps.getD i (0, 0)).1), .int .i64 ((ps.getD i (0, 0)).2)])] (w1.alloc (.cells #[.int .i64 0, .int .i64 0] 35)) [A2 = some ad_2, (0 : Int) ≤ (i : Int), (i : Int) < (ps.length : Int), LoadsAs Tryd.prog 35 (ad_2.add ((i : Int).toNat * 2)) (.agg #[.int .i64 ((ps.getD i (0, 0)).1), .int .i64 ((ps.getD i (0, 0)).2)]) w1] (by kernel_rfl) ⟨ha_3, (by omega), (by omega), loadsE rfl rfl hc_4 0 ⟨by kernel_rfl, by kernel_rfl⟩, trivial⟩ ?_
    obtain ⟨w_5, hw_9, hb_6, hk_7, hz_8⟩ := new_world w1 #[.int .i64 0, .int .i64 0] 35
    rw [hw_9]
    refine XL_store (v := .agg #[.int .i64 ((ps.getD i (0, 0)).1), .int .i64 ((ps.getD i (0, 0)).2)]) rfl rfl rfl (by kernel_rfl) hk_7 0 [.int .i64 ((ps.getD i (0, 0)).1), .int .i64 ((ps.getD i (0, 0)).2)] #[.int .i64 ((ps.getD i (0, 0)).1), .int .i64 ((ps.getD i (0, 0)).2)] ⟨by kernel_rfl, rfl, by kernel_rfl⟩ ⟨by kernel_rfl, by kernel_rfl⟩ (Nat.le_of_ble_eq_true (by kernel_rfl)) (fun w_10 hg_11 hk_12 hz_13 => ?_)
    refine XL_nil ?_
    refine X_seq ?_
    refine X_region ?_
    refine XL_run 2 [(18, .load (.int .i64 ((ps.getD i (0, 0)).1)))] [(0, .slice A a.length c), (1, .slice A' b.length c'), (2, .slice A2 ps.length c2), (8, .pointer (some ⟨w1.heap.size, 0, none⟩)), (11, .slice A2 ps.length c2), (12, .int .i64 (ps.length : Int)), (13, .int .i64 (i : Int)), (18, .int .i64 ((ps.getD i (0, 0)).1))] w_10 [LoadsAs Tryd.prog 3 (⟨w1.heap.size, 0, none⟩) (.int .i64 ((ps.getD i (0, 0)).1)) w_10] (by kernel_rfl) ⟨loads1 rfl (Blk.cell hk_12 0 _ rfl), trivial⟩ ?_
    by_cases c_14 : (ps.getD i (0, 0)).1 < 0
    · refine XL_run 20 [(19, .eq (.bool true))] [(0, .slice A a.length c), (1, .slice A' b.length c'), (2, .slice A2 ps.length c2), (11, .slice A2 ps.length c2), (12, .int .i64 (ps.length : Int)), (13, .int .i64 (i : Int)), (38, .bool true)] w_10 [Value.bool (decide ((ps.getD i (0, 0)).1 < 0)) = Value.bool true] (by kernel_rfl) ⟨congrArg Value.bool (decide_eq_true (c_14)), trivial⟩ ?_
      refine XL_nil ?_
      refine X_cond true rfl ?_
      refine X_seq ?_
      refine X_region ?_
      refine XL_run 2 [(39, .load (.iface 51 (.pointer (some (errAt es 12)))))] [(6, .iface 51 (.pointer (some (errAt es 12))))] w_10 [LoadsAs Tryd.prog 27 (⟨1, 0, none⟩) (.iface 51 (.pointer (some (errAt es 12)))) w_10] (by kernel_rfl) ⟨loads1 rfl (((bg (bt HB1 hb_6) hg_11 (HB1).size).cell (World.block_lt_of_cell? _ _ (hE.load 12 1 (by decide) (by decide) rfl))).trans (hE.load 12 1 (by decide) (by decide) rfl)), trivial⟩ ?_
      refine XL_nil ?_
      refine X_ret ?_
      refine RX.ret_ok (P := Tryd.prog) (fn := Tryd.f17) (N := 87) (R := R_) [.iface 51 (.pointer (some (errAt es 12)))] (by kernel_rfl) (hR_ _ _ ?_)
      rw [chk_12 i (by omega) (fun h => by unfold InR at h; omega)]
      exact ⟨rfl, (bg (bt HB1 hb_6) hg_11 (HB1).size)⟩
    · refine XL_run 6 [(19, .eq (.bool false)), (22, .load (.int .i64 ((ps.getD i (0, 0)).1)))] [(0, .slice A a.length c), (1, .slice A' b.length c'), (2, .slice A2 ps.length c2), (8, .pointer (some ⟨w1.heap.size, 0, none⟩)), (11, .slice A2 ps.length c2), (12, .int .i64 (ps.length : Int)), (13, .int .i64 (i : Int)), (20, .bool false), (22, .int .i64 ((ps.getD i (0, 0)).1)), (24, .int .i64 (a.length : Int))] w_10 [Value.bool (decide ((ps.getD i (0, 0)).1 < 0)) = Value.bool false, LoadsAs Tryd.prog 3 (⟨w1.heap.size, 0, none⟩) (.int .i64 ((ps.getD i (0, 0)).1)) w_10] (by kernel_rfl) ⟨congrArg Value.bool (decide_eq_false (c_14)), loads1 rfl (Blk.cell hk_12 0 _ rfl), trivial⟩ ?_
      by_cases c_15 : (ps.getD i (0, 0)).1 ≥ (a.length : Int)
      · refine XL_run 14 [(25, .eq (.bool true))] [(0, .slice A a.length c), (1, .slice A' b.length c'), (2, .slice A2 ps.length c2), (11, .slice A2 ps.length c2), (12, .int .i64 (ps.length : Int)), (13, .int .i64 (i : Int)), (38, .bool true)] w_10 [Value.bool (decide ((ps.getD i (0, 0)).1 ≥ (a.length : Int))) = Value.bool true] (by kernel_rfl) ⟨congrArg Value.bool (decide_eq_true (c_15)), trivial⟩ ?_
        refine XL_nil ?_
        refine X_cond true rfl ?_
        refine X_seq ?_
        refine X_region ?_
        refine XL_run 2 [(39, .load (.iface 51 (.pointer (some (errAt es 12)))))] [(6, .iface 51 (.pointer (some (errAt es 12))))] w_10 [LoadsAs Tryd.prog 27 (⟨1, 0, none⟩) (.iface 51 (.pointer (some (errAt es 12)))) w_10] (by kernel_rfl) ⟨loads1 rfl (((bg (bt HB1 hb_6) hg_11 (HB1).size).cell (World.block_lt_of_cell? _ _ (hE.load 12 1 (by decide) (by decide) rfl))).trans (hE.load 12 1 (by decide) (by decide) rfl)), trivial⟩ ?_
        refine XL_nil ?_
        refine X_ret ?_
        refine RX.ret_ok (P := Tryd.prog) (fn := Tryd.f17) (N := 87) (R := R_) [.iface 51 (.pointer (some (errAt es 12)))] (by kernel_rfl) (hR_ _ _ ?_)
        rw [chk_12 i (by omega) (fun h => by unfold InR at h; omega)]
        exact ⟨rfl, (bg (bt HB1 hb_6) hg_11 (HB1).size)⟩
      · refine XL_run 5 [(25, .eq (.bool false)), (29, .load (.int .i64 ((ps.getD i (0, 0)).2)))] [(0, .slice A a.length c), (1, .slice A' b.length c'), (2, .slice A2 ps.length c2), (8, .pointer (some ⟨w1.heap.size, 0, none⟩)), (11, .slice A2 ps.length c2), (12, .int .i64 (ps.length : Int)), (13, .int .i64 (i : Int)), (27, .bool false), (29, .int .i64 ((ps.getD i (0, 0)).2))] w_10 [Value.bool (decide ((ps.getD i (0, 0)).1 ≥ (a.length : Int))) = Value.bool false, LoadsAs Tryd.prog 3 (⟨w1.heap.size, 1, none⟩) (.int .i64 ((ps.getD i (0, 0)).2)) w_10] (by kernel_rfl) ⟨congrArg Value.bool (decide_eq_false (c_15)), loads1 rfl (Blk.cell hk_12 1 _ rfl), trivial⟩ ?_
        by_cases c_16 : (ps.getD i (0, 0)).2 < 0
        · refine XL_run 9 [(30, .eq (.bool true))] [(0, .slice A a.length c), (1, .slice A' b.length c'), (2, .slice A2 ps.length c2), (11, .slice A2 ps.length c2), (12, .int .i64 (ps.length : Int)), (13, .int .i64 (i : Int)), (38, .bool true)] w_10 [Value.bool (decide ((ps.getD i (0, 0)).2 < 0)) = Value.bool true] (by kernel_rfl) ⟨congrArg Value.bool (decide_eq_true (c_16)), trivial⟩ ?_
          refine XL_nil ?_
          refine X_cond true rfl ?_
          refine X_seq ?_
          refine X_region ?_
          refine XL_run 2 [(39, .load (.iface 51 (.pointer (some (errAt es 12)))))] [(6, .iface 51 (.pointer (some (errAt es 12))))] w_10 [LoadsAs Tryd.prog 27 (⟨1, 0, none⟩) (.iface 51 (.pointer (some (errAt es 12)))) w_10] (by kernel_rfl) ⟨loads1 rfl (((bg (bt HB1 hb_6) hg_11 (HB1).size).cell (World.block_lt_of_cell? _ _ (hE.load 12 1 (by decide) (by decide) rfl))).trans (hE.load 12 1 (by decide) (by decide) rfl)), trivial⟩ ?_
          refine XL_nil ?_
          refine X_ret ?_
          refine RX.ret_ok (P := Tryd.prog) (fn := Tryd.f17) (N := 87) (R := R_) [.iface 51 (.pointer (some (errAt es 12)))] (by kernel_rfl) (hR_ _ _ ?_)
          rw [chk_12 i (by omega) (fun h => by unfold InR at h; omega)]
          exact ⟨rfl, (bg (bt HB1 hb_6) hg_11 (HB1).size)⟩
        · refine XL_run 7 [(30, .eq (.bool false)), (34, .load (.int .i64 ((ps.getD i (0, 0)).2)))] [(0, .slice A a.length c), (1, .slice A' b.length c'), (2, .slice A2 ps.length c2), (11, .slice A2 ps.length c2), (12, .int .i64 (ps.length : Int)), (13, .int .i64 (i : Int)), (32, .bool false), (34, .int .i64 ((ps.getD i (0, 0)).2)), (36, .int .i64 (b.length : Int))] w_10 [Value.bool (decide ((ps.getD i (0, 0)).2 < 0)) = Value.bool false, LoadsAs Tryd.prog 3 (⟨w1.heap.size, 1, none⟩) (.int .i64 ((ps.getD i (0, 0)).2)) w_10] (by kernel_rfl) ⟨congrArg Value.bool (decide_eq_false (c_16)), loads1 rfl (Blk.cell hk_12 1 _ rfl), trivial⟩ ?_
          by_cases c_17 : (ps.getD i (0, 0)).2 ≥ (b.length : Int)
          · refine XL_run 2 [(37, .eq (.bool true))] [(0, .slice A a.length c), (1, .slice A' b.length c'), (2, .slice A2 ps.length c2), (11, .slice A2 ps.length c2), (12, .int .i64 (ps.length : Int)), (13, .int .i64 (i : Int)), (38, .bool true)] w_10 [Value.bool (decide ((ps.getD i (0, 0)).2 ≥ (b.length : Int))) = Value.bool true] (by kernel_rfl) ⟨congrArg Value.bool (decide_eq_true (c_17)), trivial⟩ ?_
            refine XL_nil ?_
            refine X_cond true rfl ?_
            refine X_seq ?_
            refine X_region ?_
            refine XL_run 2 [(39, .load (.iface 51 (.pointer (some (errAt es 12)))))] [(6, .iface 51 (.pointer (some (errAt es 12))))] w_10 [LoadsAs Tryd.prog 27 (⟨1, 0, none⟩) (.iface 51 (.pointer (some (errAt es 12)))) w_10] (by kernel_rfl) ⟨loads1 rfl (((bg (bt HB1 hb_6) hg_11 (HB1).size).cell (World.block_lt_of_cell? _ _ (hE.load 12 1 (by decide) (by decide) rfl))).trans (hE.load 12 1 (by decide) (by decide) rfl)), trivial⟩ ?_
            refine XL_nil ?_
            refine X_ret ?_
            refine RX.ret_ok (P := Tryd.prog) (fn := Tryd.f17) (N := 87) (R := R_) [.iface 51 (.pointer (some (errAt es 12)))] (by kernel_rfl) (hR_ _ _ ?_)
            rw [chk_12 i (by omega) (fun h => by unfold InR at h; omega)]
            exact ⟨rfl, (bg (bt HB1 hb_6) hg_11 (HB1).size)⟩
          · refine XL_run 2 [(37, .eq (.bool false))] [(0, .slice A a.length c), (1, .slice A' b.length c'), (2, .slice A2 ps.length c2), (11, .slice A2 ps.length c2), (12, .int .i64 (ps.length : Int)), (13, .int .i64 (i : Int)), (38, .bool false)] w_10 [Value.bool (decide ((ps.getD i (0, 0)).2 ≥ (b.length : Int))) = Value.bool false] (by kernel_rfl) ⟨congrArg Value.bool (decide_eq_false (c_17)), trivial⟩ ?_
            refine XL_nil ?_
            refine X_cond false rfl ?_
            refine X_skip ?_
            refine X_region ?_
            refine XL_run 2 [(40, .eq (.int .i64 ((i : Int) + 1)))] [(0, .slice A a.length c), (1, .slice A' b.length c'), (2, .slice A2 ps.length c2), (11, .slice A2 ps.length c2), (12, .int .i64 (ps.length : Int)), (13, .int .i64 ((i : Int) + 1))] w_10 [Value.int .i64 (IntKind.i64.wrap ((i : Int) + 1)) = Value.int .i64 ((i : Int) + 1)] (by kernel_rfl) ⟨wr_i64 (by omega) (by omega), trivial⟩ ?_
            refine XL_nil ?_
            refine ⟨(i + 1), by kernel_rfl, ?_, ?_⟩
            · refine ⟨by omega, fun q hq => ?_, (bg (bt HB1 hb_6) hg_11 (HB1).size)⟩
              by_cases e : q = i
              · subst e; unfold InR; omega
              · exact hQ q (by omega)
            · (try dsimp only); omega
  · refine XL_run 1 [(14, .eq (.bool false))] [(0, .slice A a.length c), (1, .slice A' b.length c'), (2, .slice A2 ps.length c2), (11, .slice A2 ps.length c2), (12, .int .i64 (ps.length : Int)), (13, .int .i64 (i : Int)), (14, .bool false)] w1 [Value.bool (decide ((i : Int) < (ps.length : Int))) = Value.bool false] (by kernel_rfl) ⟨congrArg Value.bool (decide_eq_false (c_1)), trivial⟩ ?_
    refine XL_nil ?_
    refine X_seq ?_
    refine X_cond false rfl ?_
    refine X_exit ?_
    refine X_seq ?_
    refine X_seq ?_
    refine X_region ?_
    refine XL_run 3 [] [(0, .slice A a.length c), (1, .slice A' b.length c'), (2, .slice A2 ps.length c2), (41, .slice A2 ps.length c2), (42, .int .i64 (ps.length : Int)), (43, .int .i64 0)] w1 [] (by kernel_rfl) trivial ?_
    refine XL_nil ?_
    refine X_block ?_
    obtain rfl : i = ps.length := by omega
    refine X_loop (ι := Nat) (fun k => [(0, .slice A a.length c), (1, .slice A' b.length c'), (2, .slice A2 ps.length c2), (41, .slice A2 ps.length c2), (42, .int .i64 (ps.length : Int)), (43, .int .i64 (k : Int))]) (fun k w2 => k ≤ ps.length ∧ (∀ q, q < k → OkAt a b ps q) ∧ Below w.heap.size w w2) (fun k => ps.length - k) 0 ⟨by omega, fun q hq => by omega, HB1⟩ (by kernel_rfl) ?_
    rintro k w2 ⟨hk, hO, HB2⟩
    have hz : ((k : Int) - 1).toNat = k - 1 := by omega
    refine X_seq ?_
    refine X_region ?_
    by_cases c_18 : (k : Int) < (ps.length : Int)
    · refine XL_run 1 [(44, .eq (.bool true))] [(0, .slice A a.length c), (1, .slice A' b.length c'), (2, .slice A2 ps.length c2), (41, .slice A2 ps.length c2), (42, .int .i64 (ps.length : Int)), (43, .int .i64 (k : Int)), (44, .bool true)] w2 [Value.bool (decide ((k : Int) < (ps.length : Int))) = Value.bool true] (by kernel_rfl) ⟨congrArg Value.bool (decide_eq_true (c_18)), trivial⟩ ?_
      refine XL_nil ?_
      refine X_seq ?_
      refine X_cond true rfl ?_
      refine X_skip ?_
      refine X_seq ?_
      refine X_block ?_
      refine X_seq ?_
      refine X_region ?_
      refine XL_run 1 [] [(0, .slice A a.length c), (1, .slice A' b.length c'), (2, .slice A2 ps.length c2), (41, .slice A2 ps.length c2), (42, .int .i64 (ps.length : Int)), (43, .int .i64 (k : Int)), (45, .int .i64 (k : Int))] w2 [] (by kernel_rfl) trivial ?_
      obtain ⟨ad_19, ha_20, hc_21⟩ := Kd.atPair (Kd.C_below hp HB2) (i := (k : Int)) (by omega) (by omega)
      replace hc_21 : CellsAt w2 (ad_19.add ((k : Int).toNat * 2)) [.int .i64 (ps.getD k (0, 0)).1, .int .i64 (ps.getD k (0, 0)).2] := hc_21
      refine XL_run 3 [(46, .idx ad_19), (47, .load (.agg #[.int .i64 ((ps.getD k (0, 0)).1), .int .i64 ((ps.getD k (0, 0)).2)]))] [(0, .slice A a.length c), (1, .slice A' b.length c'), (2, .slice A2 ps.length c2), (10, .pointer (some ⟨w2.heap.size, 0, none⟩)), (41, .slice A2 ps.length c2), (42, .int .i64 (ps.length : Int)), (43, .int .i64 (k : Int)), (45, .int .i64 (k : Int)), (47, .agg #[.int .i64 ((ps.getD k (0, 0)).1), .int .i64 ((ps.getD k (0, 0)).2)])] (w2.alloc (.cells #[.int .i64 0, .int .i64 0] 35)) [A2 = some ad_19, (0 : Int) ≤ (k : Int), (k : Int) < (ps.length : Int), LoadsAs Tryd.prog 35 (ad_19.add ((k : Int).toNat * 2)) (.agg #[.int .i64 ((ps.getD k (0, 0)).1), .int .i64 ((ps.getD k (0, 0)).2)]) w2] (by kernel_rfl) ⟨ha_20, (by omega), (by omega), loadsE rfl rfl hc_21 0 ⟨by kernel_rfl, by kernel_rfl⟩, trivial⟩ ?_
      obtain ⟨w_22, hw_26, hb_23, hk_24, hz_25⟩ := new_world w2 #[.int .i64 0, .int .i64 0] 35
      rw [hw_26]
      refine XL_run 1 [] [(0, .slice A a.length c), (1, .slice A' b.length c'), (2, .slice A2 ps.length c2), (9, .int .i64 (k : Int)), (10, .pointer (some ⟨w2.heap.size, 0, none⟩)), (41, .slice A2 ps.length c2), (42, .int .i64 (ps.length : Int)), (43, .int .i64 (k : Int)), (47, .agg #[.int .i64 ((ps.getD k (0, 0)).1), .int .i64 ((ps.getD k (0, 0)).2)])] w_22 [] (by kernel_rfl) trivial ?_
      refine XL_store (v := .agg #[.int .i64 ((ps.getD k (0, 0)).1), .int .i64 ((ps.getD k (0, 0)).2)]) rfl rfl rfl (by kernel_rfl) hk_24 0 [.int .i64 ((ps.getD k (0, 0)).1), .int .i64 ((ps.getD k (0, 0)).2)] #[.int .i64 ((ps.getD k (0, 0)).1), .int .i64 ((ps.getD k (0, 0)).2)] ⟨by kernel_rfl, rfl, by kernel_rfl⟩ ⟨by kernel_rfl, by kernel_rfl⟩ (Nat.le_of_ble_eq_true (by kernel_rfl)) (fun w_27 hg_28 hk_29 hz_30 => ?_)
      refine XL_nil ?_
      refine X_seq ?_
      refine X_still (by kernel_rfl) (by kernel_rfl) (fun wd_31 hb_32 hh_33 => ?_)
      refine XS_run 1 [] [.int .i64 (k : Int)] [(0, .slice A a.length c), (1, .slice A' b.length c'), (2, .slice A2 ps.length c2), (9, .int .i64 (k : Int)), (10, .pointer (some ⟨w2.heap.size, 0, none⟩)), (41, .slice A2 ps.length c2), (42, .int .i64 (ps.length : Int)), (43, .int .i64 (k : Int)), (48, .int .i64 (k : Int))] [] (by kernel_rfl) (by kernel_rfl) trivial ?_
      by_cases c_34 : (k : Int) > 0
      · refine XS_run 7 [(49, .eq (.bool true)), (52, .load (.int .i64 ((ps.getD k (0, 0)).1))), (55, .eq (.int .i64 ((k : Int) - 1)))] [.bool true, .bool true, .pointer (some ⟨w2.heap.size, 0, none⟩), .int .i64 ((ps.getD k (0, 0)).1), .slice A2 ps.length c2, .int .i64 (k : Int), .int .i64 ((k : Int) - 1)] [(0, .slice A a.length c), (1, .slice A' b.length c'), (2, .slice A2 ps.length c2), (9, .int .i64 (k : Int)), (10, .pointer (some ⟨w2.heap.size, 0, none⟩)), (41, .slice A2 ps.length c2), (42, .int .i64 (ps.length : Int)), (43, .int .i64 (k : Int)), (50, .bool true), (52, .int .i64 ((ps.getD k (0, 0)).1)), (53, .slice A2 ps.length c2), (55, .int .i64 ((k : Int) - 1))] [Value.bool (decide ((k : Int) > 0)) = Value.bool true, LoadsAs Tryd.prog 3 (⟨w2.heap.size, 0, none⟩) (.int .i64 ((ps.getD k (0, 0)).1)) wd_31, Value.int .i64 (IntKind.i64.wrap ((k : Int) - 1)) = Value.int .i64 ((k : Int) - 1)] (by kernel_rfl) (by kernel_rfl) ⟨congrArg Value.bool (decide_eq_true (c_34)), loads1 rfl (Blk.cell (Blk.below hk_29 hb_32) 0 _ rfl), wr_i64 (by omega) (by omega), trivial⟩ ?_
        obtain ⟨ad_35, ha_36, hc_37⟩ := Kd.atPair (Kd.C_below hp (bt (bg (bt HB2 hb_23) hg_28 (HB2).size) hb_32)) (i := (k : Int) - 1) (by omega) (by omega)
        replace hc_37 : CellsAt wd_31 (ad_35.add (((k : Int) - 1).toNat * 2)) [.int .i64 (ps.getD ((k : Int) - 1).toNat (0, 0)).1, .int .i64 (ps.getD ((k : Int) - 1).toNat (0, 0)).2] := hc_37
        refine XS_run 3 [(56, .idx ad_35), (58, .load (.int .i64 ((ps.getD ((k : Int) - 1).toNat (0, 0)).1)))] [.pointer (some (ad_35.add (((k : Int) - 1).toNat * 2))), .pointer (some (ad_35.add (((k : Int) - 1).toNat * 2))), .int .i64 ((ps.getD ((k : Int) - 1).toNat (0, 0)).1)] [(0, .slice A a.length c), (1, .slice A' b.length c'), (2, .slice A2 ps.length c2), (9, .int .i64 (k : Int)), (10, .pointer (some ⟨w2.heap.size, 0, none⟩)), (41, .slice A2 ps.length c2), (42, .int .i64 (ps.length : Int)), (43, .int .i64 (k : Int)), (50, .bool true), (52, .int .i64 ((ps.getD k (0, 0)).1)), (58, .int .i64 ((ps.getD ((k : Int) - 1).toNat (0, 0)).1))] [A2 = some ad_35, (0 : Int) ≤ (k : Int) - 1, (k : Int) - 1 < (ps.length : Int), LoadsAs Tryd.prog 3 (ad_35.add (((k : Int) - 1).toNat * 2)) (.int .i64 ((ps.getD ((k : Int) - 1).toNat (0, 0)).1)) wd_31] (by kernel_rfl) (by kernel_rfl) ⟨ha_36, (by omega), (by omega), loads1 rfl (elem_cell hc_37 0 _ rfl), trivial⟩ ?_
        by_cases c_38 : (ps.getD k (0, 0)).1 ≤ (ps.getD ((k : Int) - 1).toNat (0, 0)).1
        · refine XS_run 26 [(59, .eq (.bool true))] [.bool true, .bool true, undef, undef, undef, undef, undef, undef, undef, undef, undef, .bool true, .bool true, .bool true, undef, undef, undef, undef, undef, undef, undef, undef, undef, undef, undef, .bool true] [(0, .slice A a.length c), (1, .slice A' b.length c'), (2, .slice A2 ps.length c2), (41, .slice A2 ps.length c2), (42, .int .i64 (ps.length : Int)), (43, .int .i64 (k : Int)), (84, .bool true)] [Value.bool (decide ((ps.getD k (0, 0)).1 ≤ (ps.getD ((k : Int) - 1).toNat (0, 0)).1)) = Value.bool true] (by kernel_rfl) (by kernel_rfl) ⟨congrArg Value.bool (decide_eq_true (c_38)), trivial⟩ ?_
          refine XS_nil ?_
          refine X_cond true rfl ?_
          refine X_seq ?_
          refine X_region ?_
          refine XL_run 2 [(85, .load (.iface 51 (.pointer (some (errAt es 9)))))] [(6, .iface 51 (.pointer (some (errAt es 9))))] wd_31 [LoadsAs Tryd.prog 27 (⟨2, 0, none⟩) (.iface 51 (.pointer (some (errAt es 9)))) wd_31] (by kernel_rfl) ⟨loads1 rfl (((bt (bg (bt HB2 hb_23) hg_28 (HB2).size) hb_32).cell (World.block_lt_of_cell? _ _ (hE.load 9 2 (by decide) (by decide) rfl))).trans (hE.load 9 2 (by decide) (by decide) rfl)), trivial⟩ ?_
          refine XL_nil ?_
          refine X_ret ?_
          refine RX.ret_ok (P := Tryd.prog) (fn := Tryd.f17) (N := 87) (R := R_) [.iface 51 (.pointer (some (errAt es 9)))] (by kernel_rfl) (hR_ _ _ ?_)
          (try simp only [hz] at *)
          rw [chk_9 hQ k (by omega) (fun h => by obtain ⟨h1, h2⟩ := h; first | omega)]
          exact ⟨rfl, (bt (bg (bt HB2 hb_23) hg_28 (HB2).size) hb_32)⟩
        · refine XS_run 7 [(59, .eq (.bool false)), (62, .load (.int .i64 ((ps.getD k (0, 0)).2))), (65, .eq (.int .i64 ((k : Int) - 1)))] [.bool false, .bool false, .pointer (some ⟨w2.heap.size, 1, none⟩), .int .i64 ((ps.getD k (0, 0)).2), .slice A2 ps.length c2, .int .i64 (k : Int), .int .i64 ((k : Int) - 1)] [(0, .slice A a.length c), (1, .slice A' b.length c'), (2, .slice A2 ps.length c2), (10, .pointer (some ⟨w2.heap.size, 0, none⟩)), (41, .slice A2 ps.length c2), (42, .int .i64 (ps.length : Int)), (43, .int .i64 (k : Int)), (50, .bool true), (60, .bool false), (62, .int .i64 ((ps.getD k (0, 0)).2)), (63, .slice A2 ps.length c2), (65, .int .i64 ((k : Int) - 1))] [Value.bool (decide ((ps.getD k (0, 0)).1 ≤ (ps.getD ((k : Int) - 1).toNat (0, 0)).1)) = Value.bool false, LoadsAs Tryd.prog 3 (⟨w2.heap.size, 1, none⟩) (.int .i64 ((ps.getD k (0, 0)).2)) wd_31, Value.int .i64 (IntKind.i64.wrap ((k : Int) - 1)) = Value.int .i64 ((k : Int) - 1)] (by kernel_rfl) (by kernel_rfl) ⟨congrArg Value.bool (decide_eq_false (c_38)), loads1 rfl (Blk.cell (Blk.below hk_29 hb_32) 1 _ rfl), wr_i64 (by omega) (by omega), trivial⟩ ?_
          obtain ⟨ad_39, ha_40, hc_41⟩ := Kd.atPair (Kd.C_below hp (bt (bg (bt HB2 hb_23) hg_28 (HB2).size) hb_32)) (i := (k : Int) - 1) (by omega) (by omega)
          replace hc_41 : CellsAt wd_31 (ad_39.add (((k : Int) - 1).toNat * 2)) [.int .i64 (ps.getD ((k : Int) - 1).toNat (0, 0)).1, .int .i64 (ps.getD ((k : Int) - 1).toNat (0, 0)).2] := hc_41
          refine XS_run 3 [(66, .idx ad_39), (68, .load (.int .i64 ((ps.getD ((k : Int) - 1).toNat (0, 0)).2)))] [.pointer (some (ad_39.add (((k : Int) - 1).toNat * 2))), .pointer (some ((ad_39.add (((k : Int) - 1).toNat * 2)).add 1)), .int .i64 ((ps.getD ((k : Int) - 1).toNat (0, 0)).2)] [(0, .slice A a.length c), (1, .slice A' b.length c'), (2, .slice A2 ps.length c2), (10, .pointer (some ⟨w2.heap.size, 0, none⟩)), (41, .slice A2 ps.length c2), (42, .int .i64 (ps.length : Int)), (43, .int .i64 (k : Int)), (50, .bool true), (60, .bool false), (62, .int .i64 ((ps.getD k (0, 0)).2)), (68, .int .i64 ((ps.getD ((k : Int) - 1).toNat (0, 0)).2))] [A2 = some ad_39, (0 : Int) ≤ (k : Int) - 1, (k : Int) - 1 < (ps.length : Int), LoadsAs Tryd.prog 3 ((ad_39.add (((k : Int) - 1).toNat * 2)).add 1) (.int .i64 ((ps.getD ((k : Int) - 1).toNat (0, 0)).2)) wd_31] (by kernel_rfl) (by kernel_rfl) ⟨ha_40, (by omega), (by omega), loads1 rfl (elem_cell hc_41 1 _ rfl), trivial⟩ ?_
          by_cases c_42 : (ps.getD k (0, 0)).2 ≤ (ps.getD ((k : Int) - 1).toNat (0, 0)).2
          · refine XS_run 16 [(69, .eq (.bool true))] [.bool true, .bool true, .bool true, .bool true, undef, undef, undef, undef, undef, undef, undef, undef, undef, undef, undef, .bool true] [(0, .slice A a.length c), (1, .slice A' b.length c'), (2, .slice A2 ps.length c2), (41, .slice A2 ps.length c2), (42, .int .i64 (ps.length : Int)), (43, .int .i64 (k : Int)), (84, .bool true)] [Value.bool (decide ((ps.getD k (0, 0)).2 ≤ (ps.getD ((k : Int) - 1).toNat (0, 0)).2)) = Value.bool true] (by kernel_rfl) (by kernel_rfl) ⟨congrArg Value.bool (decide_eq_true (c_42)), trivial⟩ ?_
            refine XS_nil ?_
            refine X_cond true rfl ?_
            refine X_seq ?_
            refine X_region ?_
            refine XL_run 2 [(85, .load (.iface 51 (.pointer (some (errAt es 9)))))] [(6, .iface 51 (.pointer (some (errAt es 9))))] wd_31 [LoadsAs Tryd.prog 27 (⟨2, 0, none⟩) (.iface 51 (.pointer (some (errAt es 9)))) wd_31] (by kernel_rfl) ⟨loads1 rfl (((bt (bg (bt HB2 hb_23) hg_28 (HB2).size) hb_32).cell (World.block_lt_of_cell? _ _ (hE.load 9 2 (by decide) (by decide) rfl))).trans (hE.load 9 2 (by decide) (by decide) rfl)), trivial⟩ ?_
            refine XL_nil ?_
            refine X_ret ?_
            refine RX.ret_ok (P := Tryd.prog) (fn := Tryd.f17) (N := 87) (R := R_) [.iface 51 (.pointer (some (errAt es 9)))] (by kernel_rfl) (hR_ _ _ ?_)
            (try simp only [hz] at *)
            rw [chk_9 hQ k (by omega) (fun h => by obtain ⟨h1, h2⟩ := h; first | omega)]
            exact ⟨rfl, (bt (bg (bt HB2 hb_23) hg_28 (HB2).size) hb_32)⟩
          · refine XS_run 7 [(69, .eq (.bool false)), (75, .load (.int .i64 ((ps.getD k (0, 0)).1)))] [.bool false, .bool false, .bool false, .bool false, .slice A a.length c, .pointer (some ⟨w2.heap.size, 0, none⟩), .int .i64 ((ps.getD k (0, 0)).1)] [(0, .slice A a.length c), (1, .slice A' b.length c'), (2, .slice A2 ps.length c2), (10, .pointer (some ⟨w2.heap.size, 0, none⟩)), (41, .slice A2 ps.length c2), (42, .int .i64 (ps.length : Int)), (43, .int .i64 (k : Int)), (72, .bool false), (73, .slice A a.length c), (75, .int .i64 ((ps.getD k (0, 0)).1))] [Value.bool (decide ((ps.getD k (0, 0)).2 ≤ (ps.getD ((k : Int) - 1).toNat (0, 0)).2)) = Value.bool false, LoadsAs Tryd.prog 3 (⟨w2.heap.size, 0, none⟩) (.int .i64 ((ps.getD k (0, 0)).1)) wd_31] (by kernel_rfl) (by kernel_rfl) ⟨congrArg Value.bool (decide_eq_false (c_42)), loads1 rfl (Blk.cell (Blk.below hk_29 hb_32) 0 _ rfl), trivial⟩ ?_
            obtain ⟨ad_43, ha_44, hc_45⟩ := Kd.atI (Kd.C_below ha (bt (bg (bt HB2 hb_23) hg_28 (HB2).size) hb_32)) (i := (ps.getD k (0, 0)).1) (by have h := hQ k (by omega); unfold InR at h; omega) (by have h := hQ k (by omega); unfold InR at h; omega)
            refine XS_run 5 [(76, .idx ad_43), (77, .load (.int .i64 (rd a ((ps.getD k (0, 0)).1)))), (80, .load (.int .i64 ((ps.getD k (0, 0)).2)))] [.pointer (some (ad_43.add (((ps.getD k (0, 0)).1).toNat * 1))), .int .i64 (rd a ((ps.getD k (0, 0)).1)), .slice A' b.length c', .pointer (some ⟨w2.heap.size, 1, none⟩), .int .i64 ((ps.getD k (0, 0)).2)] [(0, .slice A a.length c), (1, .slice A' b.length c'), (2, .slice A2 ps.length c2), (41, .slice A2 ps.length c2), (42, .int .i64 (ps.length : Int)), (43, .int .i64 (k : Int)), (72, .bool false), (77, .int .i64 (rd a ((ps.getD k (0, 0)).1))), (78, .slice A' b.length c'), (80, .int .i64 ((ps.getD k (0, 0)).2))] [A = some ad_43, (0 : Int) ≤ (ps.getD k (0, 0)).1, (ps.getD k (0, 0)).1 < (a.length : Int), LoadsAs Tryd.prog 3 (ad_43.add (((ps.getD k (0, 0)).1).toNat * 1)) (.int .i64 (rd a ((ps.getD k (0, 0)).1))) wd_31, LoadsAs Tryd.prog 3 (⟨w2.heap.size, 1, none⟩) (.int .i64 ((ps.getD k (0, 0)).2)) wd_31] (by kernel_rfl) (by kernel_rfl) ⟨ha_44, (by have h := hQ k (by omega); unfold InR at h; omega), (by have h := hQ k (by omega); unfold InR at h; omega), loads1 rfl (elem_cell hc_45 0 _ rfl), loads1 rfl (Blk.cell (Blk.below hk_29 hb_32) 1 _ rfl), trivial⟩ ?_
            obtain ⟨ad_46, ha_47, hc_48⟩ := Kd.atI (Kd.C_below hb (bt (bg (bt HB2 hb_23) hg_28 (HB2).size) hb_32)) (i := (ps.getD k (0, 0)).2) (by have h := hQ k (by omega); unfold InR at h; omega) (by have h := hQ k (by omega); unfold InR at h; omega)
            refine XS_run 2 [(81, .idx ad_46), (82, .load (.int .i64 (rd b ((ps.getD k (0, 0)).2))))] [.pointer (some (ad_46.add (((ps.getD k (0, 0)).2).toNat * 1))), .int .i64 (rd b ((ps.getD k (0, 0)).2))] [(0, .slice A a.length c), (1, .slice A' b.length c'), (2, .slice A2 ps.length c2), (41, .slice A2 ps.length c2), (42, .int .i64 (ps.length : Int)), (43, .int .i64 (k : Int)), (72, .bool false), (77, .int .i64 (rd a ((ps.getD k (0, 0)).1))), (82, .int .i64 (rd b ((ps.getD k (0, 0)).2)))] [A' = some ad_46, (0 : Int) ≤ (ps.getD k (0, 0)).2, (ps.getD k (0, 0)).2 < (b.length : Int), LoadsAs Tryd.prog 3 (ad_46.add (((ps.getD k (0, 0)).2).toNat * 1)) (.int .i64 (rd b ((ps.getD k (0, 0)).2))) wd_31] (by kernel_rfl) (by kernel_rfl) ⟨ha_47, (by have h := hQ k (by omega); unfold InR at h; omega), (by have h := hQ k (by omega); unfold InR at h; omega), loads1 rfl (elem_cell hc_48 0 _ rfl), trivial⟩ ?_
            by_cases c_49 : rd a ((ps.getD k (0, 0)).1) = rd b ((ps.getD k (0, 0)).2)
            · refine XS_run 2 [(83, .eq (.bool false))] [.bool false, .bool false] [(0, .slice A a.length c), (1, .slice A' b.length c'), (2, .slice A2 ps.length c2), (41, .slice A2 ps.length c2), (42, .int .i64 (ps.length : Int)), (43, .int .i64 (k : Int)), (84, .bool false)] [Value.bool (rd a ((ps.getD k (0, 0)).1) != rd b ((ps.getD k (0, 0)).2)) = Value.bool false] (by kernel_rfl) (by kernel_rfl) ⟨congrArg Value.bool (bneF (c_49)), trivial⟩ ?_
              refine XS_nil ?_
              refine X_cond false rfl ?_
              refine X_skip ?_
              refine X_region ?_
              refine XL_run 2 [(86, .eq (.int .i64 ((k : Int) + 1)))] [(0, .slice A a.length c), (1, .slice A' b.length c'), (2, .slice A2 ps.length c2), (41, .slice A2 ps.length c2), (42, .int .i64 (ps.length : Int)), (43, .int .i64 ((k : Int) + 1))] wd_31 [Value.int .i64 (IntKind.i64.wrap ((k : Int) + 1)) = Value.int .i64 ((k : Int) + 1)] (by kernel_rfl) ⟨wr_i64 (by omega) (by omega), trivial⟩ ?_
              refine XL_nil ?_
              refine ⟨(k + 1), by kernel_rfl, ?_, ?_⟩
              · (try simp only [hz] at *)
                refine ⟨by omega, fun q hq => ?_, (bt (bg (bt HB2 hb_23) hg_28 (HB2).size) hb_32)⟩
                by_cases e : q = k
                · subst e; exact ⟨c_49, by omega⟩
                · exact hO q (by omega)
              · (try dsimp only); omega
            · refine XS_run 2 [(83, .eq (.bool true))] [.bool true, .bool true] [(0, .slice A a.length c), (1, .slice A' b.length c'), (2, .slice A2 ps.length c2), (41, .slice A2 ps.length c2), (42, .int .i64 (ps.length : Int)), (43, .int .i64 (k : Int)), (84, .bool true)] [Value.bool (rd a ((ps.getD k (0, 0)).1) != rd b ((ps.getD k (0, 0)).2)) = Value.bool true] (by kernel_rfl) (by kernel_rfl) ⟨congrArg Value.bool (bneT (c_49)), trivial⟩ ?_
              refine XS_nil ?_
              refine X_cond true rfl ?_
              refine X_seq ?_
              refine X_region ?_
              refine XL_run 2 [(85, .load (.iface 51 (.pointer (some (errAt es 9)))))] [(6, .iface 51 (.pointer (some (errAt es 9))))] wd_31 [LoadsAs Tryd.prog 27 (⟨2, 0, none⟩) (.iface 51 (.pointer (some (errAt es 9)))) wd_31] (by kernel_rfl) ⟨loads1 rfl (((bt (bg (bt HB2 hb_23) hg_28 (HB2).size) hb_32).cell (World.block_lt_of_cell? _ _ (hE.load 9 2 (by decide) (by decide) rfl))).trans (hE.load 9 2 (by decide) (by decide) rfl)), trivial⟩ ?_
              refine XL_nil ?_
              refine X_ret ?_
              refine RX.ret_ok (P := Tryd.prog) (fn := Tryd.f17) (N := 87) (R := R_) [.iface 51 (.pointer (some (errAt es 9)))] (by kernel_rfl) (hR_ _ _ ?_)
              (try simp only [hz] at *)
              rw [chk_9 hQ k (by omega) (fun h => by obtain ⟨h1, h2⟩ := h; first | omega | exact absurd h1 c_49)]
              exact ⟨rfl, (bt (bg (bt HB2 hb_23) hg_28 (HB2).size) hb_32)⟩
      · refine XS_run 27 [(49, .eq (.bool false)), (75, .load (.int .i64 ((ps.getD k (0, 0)).1)))] [.bool false, .bool false, undef, undef, undef, undef, undef, undef, undef, undef, undef, undef, undef, undef, undef, undef, undef, undef, undef, undef, undef, undef, .bool false, .bool false, .slice A a.length c, .pointer (some ⟨w2.heap.size, 0, none⟩), .int .i64 ((ps.getD k (0, 0)).1)] [(0, .slice A a.length c), (1, .slice A' b.length c'), (2, .slice A2 ps.length c2), (10, .pointer (some ⟨w2.heap.size, 0, none⟩)), (41, .slice A2 ps.length c2), (42, .int .i64 (ps.length : Int)), (43, .int .i64 (k : Int)), (72, .bool false), (73, .slice A a.length c), (75, .int .i64 ((ps.getD k (0, 0)).1))] [Value.bool (decide ((k : Int) > 0)) = Value.bool false, LoadsAs Tryd.prog 3 (⟨w2.heap.size, 0, none⟩) (.int .i64 ((ps.getD k (0, 0)).1)) wd_31] (by kernel_rfl) (by kernel_rfl) ⟨congrArg Value.bool (decide_eq_false (c_34)), loads1 rfl (Blk.cell (Blk.below hk_29 hb_32) 0 _ rfl), trivial⟩ ?_
        obtain ⟨ad_50, ha_51, hc_52⟩ := Kd.atI (Kd.C_below ha (bt (bg (bt HB2 hb_23) hg_28 (HB2).size) hb_32)) (i := (ps.getD k (0, 0)).1) (by have h := hQ k (by omega); unfold InR at h; omega) (by have h := hQ k (by omega); unfold InR at h; omega)
        refine XS_run 5 [(76, .idx ad_50), (77, .load (.int .i64 (rd a ((ps.getD k (0, 0)).1)))), (80, .load (.int .i64 ((ps.getD k (0, 0)).2)))] [.pointer (some (ad_50.add (((ps.getD k (0, 0)).1).toNat * 1))), .int .i64 (rd a ((ps.getD k (0, 0)).1)), .slice A' b.length c', .pointer (some ⟨w2.heap.size, 1, none⟩), .int .i64 ((ps.getD k (0, 0)).2)] [(0, .slice A a.length c), (1, .slice A' b.length c'), (2, .slice A2 ps.length c2), (41, .slice A2 ps.length c2), (42, .int .i64 (ps.length : Int)), (43, .int .i64 (k : Int)), (72, .bool false), (77, .int .i64 (rd a ((ps.getD k (0, 0)).1))), (78, .slice A' b.length c'), (80, .int .i64 ((ps.getD k (0, 0)).2))] [A = some ad_50, (0 : Int) ≤ (ps.getD k (0, 0)).1, (ps.getD k (0, 0)).1 < (a.length : Int), LoadsAs Tryd.prog 3 (ad_50.add (((ps.getD k (0, 0)).1).toNat * 1)) (.int .i64 (rd a ((ps.getD k (0, 0)).1))) wd_31, LoadsAs Tryd.prog 3 (⟨w2.heap.size, 1, none⟩) (.int .i64 ((ps.getD k (0, 0)).2)) wd_31] (by kernel_rfl) (by kernel_rfl) ⟨ha_51, (by have h := hQ k (by omega); unfold InR at h; omega), (by have h := hQ k (by omega); unfold InR at h; omega), loads1 rfl (elem_cell hc_52 0 _ rfl), loads1 rfl (Blk.cell (Blk.below hk_29 hb_32) 1 _ rfl), trivial⟩ ?_
        obtain ⟨ad_53, ha_54, hc_55⟩ := Kd.atI (Kd.C_below hb (bt (bg (bt HB2 hb_23) hg_28 (HB2).size) hb_32)) (i := (ps.getD k (0, 0)).2) (by have h := hQ k (by omega); unfold InR at h; omega) (by have h := hQ k (by omega); unfold InR at h; omega)
        refine XS_run 2 [(81, .idx ad_53), (82, .load (.int .i64 (rd b ((ps.getD k (0, 0)).2))))] [.pointer (some (ad_53.add (((ps.getD k (0, 0)).2).toNat * 1))), .int .i64 (rd b ((ps.getD k (0, 0)).2))] [(0, .slice A a.length c), (1, .slice A' b.length c'), (2, .slice A2 ps.length c2), (41, .slice A2 ps.length c2), (42, .int .i64 (ps.length : Int)), (43, .int .i64 (k : Int)), (72, .bool false), (77, .int .i64 (rd a ((ps.getD k (0, 0)).1))), (82, .int .i64 (rd b ((ps.getD k (0, 0)).2)))] [A' = some ad_53, (0 : Int) ≤ (ps.getD k (0, 0)).2, (ps.getD k (0, 0)).2 < (b.length : Int), LoadsAs Tryd.prog 3 (ad_53.add (((ps.getD k (0, 0)).2).toNat * 1)) (.int .i64 (rd b ((ps.getD k (0, 0)).2))) wd_31] (by kernel_rfl) (by kernel_rfl) ⟨ha_54, (by have h := hQ k (by omega); unfold InR at h; omega), (by have h := hQ k (by omega); unfold InR at h; omega), loads1 rfl (elem_cell hc_55 0 _ rfl), trivial⟩ ?_
        by_cases c_56 : rd a ((ps.getD k (0, 0)).1) = rd b ((ps.getD k (0, 0)).2)
        · refine XS_run 2 [(83, .eq (.bool false))] [.bool false, .bool false] [(0, .slice A a.length c), (1, .slice A' b.length c'), (2, .slice A2 ps.length c2), (41, .slice A2 ps.length c2), (42, .int .i64 (ps.length : Int)), (43, .int .i64 (k : Int)), (84, .bool false)] [Value.bool (rd a ((ps.getD k (0, 0)).1) != rd b ((ps.getD k (0, 0)).2)) = Value.bool false] (by kernel_rfl) (by kernel_rfl) ⟨congrArg Value.bool (bneF (c_56)), trivial⟩ ?_
          refine XS_nil ?_
          refine X_cond false rfl ?_
          refine X_skip ?_
          refine X_region ?_
          refine XL_run 2 [(86, .eq (.int .i64 ((k : Int) + 1)))] [(0, .slice A a.length c), (1, .slice A' b.length c'), (2, .slice A2 ps.length c2), (41, .slice A2 ps.length c2), (42, .int .i64 (ps.length : Int)), (43, .int .i64 ((k : Int) + 1))] wd_31 [Value.int .i64 (IntKind.i64.wrap ((k : Int) + 1)) = Value.int .i64 ((k : Int) + 1)] (by kernel_rfl) ⟨wr_i64 (by omega) (by omega), trivial⟩ ?_
          refine XL_nil ?_
          refine ⟨(k + 1), by kernel_rfl, ?_, ?_⟩
          · (try simp only [hz] at *)
            refine ⟨by omega, fun q hq => ?_, (bt (bg (bt HB2 hb_23) hg_28 (HB2).size) hb_32)⟩
            by_cases e : q = k
            · subst e; exact ⟨c_56, by omega⟩
            · exact hO q (by omega)
          · (try dsimp only); omega
        · refine XS_run 2 [(83, .eq (.bool true))] [.bool true, .bool true] [(0, .slice A a.length c), (1, .slice A' b.length c'), (2, .slice A2 ps.length c2), (41, .slice A2 ps.length c2), (42, .int .i64 (ps.length : Int)), (43, .int .i64 (k : Int)), (84, .bool true)] [Value.bool (rd a ((ps.getD k (0, 0)).1) != rd b ((ps.getD k (0, 0)).2)) = Value.bool true] (by kernel_rfl) (by kernel_rfl) ⟨congrArg Value.bool (bneT (c_56)), trivial⟩ ?_
          refine XS_nil ?_
          refine X_cond true rfl ?_
          refine X_seq ?_
          refine X_region ?_
          refine XL_run 2 [(85, .load (.iface 51 (.pointer (some (errAt es 9)))))] [(6, .iface 51 (.pointer (some (errAt es 9))))] wd_31 [LoadsAs Tryd.prog 27 (⟨2, 0, none⟩) (.iface 51 (.pointer (some (errAt es 9)))) wd_31] (by kernel_rfl) ⟨loads1 rfl (((bt (bg (bt HB2 hb_23) hg_28 (HB2).size) hb_32).cell (World.block_lt_of_cell? _ _ (hE.load 9 2 (by decide) (by decide) rfl))).trans (hE.load 9 2 (by decide) (by decide) rfl)), trivial⟩ ?_
          refine XL_nil ?_
          refine X_ret ?_
          refine RX.ret_ok (P := Tryd.prog) (fn := Tryd.f17) (N := 87) (R := R_) [.iface 51 (.pointer (some (errAt es 9)))] (by kernel_rfl) (hR_ _ _ ?_)
          (try simp only [hz] at *)
          rw [chk_9 hQ k (by omega) (fun h => by obtain ⟨h1, h2⟩ := h; first | omega | exact absurd h1 c_56)]
          exact ⟨rfl, (bt (bg (bt HB2 hb_23) hg_28 (HB2).size) hb_32)⟩
    · refine XL_run 1 [(44, .eq (.bool false))] [(0, .slice A a.length c), (1, .slice A' b.length c'), (2, .slice A2 ps.length c2), (41, .slice A2 ps.length c2), (42, .int .i64 (ps.length : Int)), (43, .int .i64 (k : Int)), (44, .bool false)] w2 [Value.bool (decide ((k : Int) < (ps.length : Int))) = Value.bool false] (by kernel_rfl) ⟨congrArg Value.bool (decide_eq_false (c_18)), trivial⟩ ?_
      refine XL_nil ?_
      refine X_seq ?_
      refine X_cond false rfl ?_
      refine X_exit ?_
      refine X_seq ?_
      refine X_region ?_
      refine XL_run 1 [] [(6, .nilIface)] w2 [] (by kernel_rfl) trivial ?_
      refine XL_nil ?_
      refine X_ret ?_
      refine RX.ret_ok (P := Tryd.prog) (fn := Tryd.f17) (N := 87) (R := R_) [.nilIface] (by kernel_rfl) (hR_ _ _ ?_)
      obtain rfl : k = ps.length := by omega
      rw [chk_0 hQ hO]
      exact ⟨rfl, HB2⟩
theorem lawLong_any (A A' : Option Addr) (c c' n m : Nat) (w : World) :
    Calls Tryd.prog 9 #[.slice A n c, .slice A' m c'] w fun e w' => ∃ bo, e = .returned (.bool bo) ∧ w = w' := by
  refine RX.enter Tryd.func9 rfl 21 rfl [(0, .slice A n c), (1, .slice A' m c')] rfl (by kernel_rfl) (fun R_ hR_ => ?_)
  refine X_seq ?_
  refine X_region ?_
  refine XL_run 1 [] [(0, .slice A n c), (1, .slice A' m c')] w [] (by kernel_rfl) trivial ?_
  refine XL_nil ?_
  refine X_seq ?_
  refine X_region ?_
  refine XL_run 2 [] [(0, .slice A n c), (1, .slice A' m c'), (6, .int .i64 (n : Int))] w [] (by kernel_rfl) trivial ?_
  by_cases c_1 : (n : Int) ≤ 1024
  · refine XL_run 4 [(7, .eq (.bool true))] [(0, .slice A n c), (1, .slice A' m c'), (8, .bool true), (10, .int .i64 (m : Int))] w [Value.bool (decide ((n : Int) ≤ 1024)) = Value.bool true] (by kernel_rfl) ⟨congrArg Value.bool (decide_eq_true (c_1)), trivial⟩ ?_
    by_cases c_2 : (m : Int) ≤ 1024
    · refine XL_run 8 [(11, .eq (.bool true)), (18, .eq (.int .i64 ((n : Int) * (m : Int))))] [(13, .bool true), (18, .int .i64 ((n : Int) * (m : Int)))] w [Value.bool (decide ((m : Int) ≤ 1024)) = Value.bool true, Value.int .i64 (IntKind.i64.wrap ((n : Int) * (m : Int))) = Value.int .i64 ((n : Int) * (m : Int))] (by kernel_rfl) ⟨congrArg Value.bool (decide_eq_true (c_2)), wr_i64 (by have h1 := Nat.mul_le_mul (show n ≤ 1024 by omega) (show m ≤ 1024 by omega); have h2 : ((n * m : Nat) : Int) = (n : Int) * (m : Int) := Int.natCast_mul n m; omega) (by have h1 := Nat.mul_le_mul (show n ≤ 1024 by omega) (show m ≤ 1024 by omega); have h2 : ((n * m : Nat) : Int) = (n : Int) * (m : Int) := Int.natCast_mul n m; omega), trivial⟩ ?_
      by_cases c_3 : (n : Int) * (m : Int) > 90000
      · refine XL_run 3 [(19, .eq (.bool true))] [(4, .bool true)] w [Value.bool (decide ((n : Int) * (m : Int) > 90000)) = Value.bool true] (by kernel_rfl) ⟨congrArg Value.bool (decide_eq_true (c_3)), trivial⟩ ?_
        refine XL_nil ?_
        refine X_ret ?_
        refine RX.ret_ok (P := Tryd.prog) (fn := Tryd.f9) (N := 21) (R := R_) [.bool true] (by kernel_rfl) (hR_ _ _ ?_)
        exact ⟨_, rfl, rfl⟩
      · refine XL_run 3 [(19, .eq (.bool false))] [(4, .bool false)] w [Value.bool (decide ((n : Int) * (m : Int) > 90000)) = Value.bool false] (by kernel_rfl) ⟨congrArg Value.bool (decide_eq_false (c_3)), trivial⟩ ?_
        refine XL_nil ?_
        refine X_ret ?_
        refine RX.ret_ok (P := Tryd.prog) (fn := Tryd.f9) (N := 21) (R := R_) [.bool false] (by kernel_rfl) (hR_ _ _ ?_)
        exact ⟨_, rfl, rfl⟩
    · refine XL_run 11 [(11, .eq (.bool false))] [(4, .bool false)] w [Value.bool (decide ((m : Int) ≤ 1024)) = Value.bool false] (by kernel_rfl) ⟨congrArg Value.bool (decide_eq_false (c_2)), trivial⟩ ?_
      refine XL_nil ?_
      refine X_ret ?_
      refine RX.ret_ok (P := Tryd.prog) (fn := Tryd.f9) (N := 21) (R := R_) [.bool false] (by kernel_rfl) (hR_ _ _ ?_)
      exact ⟨_, rfl, rfl⟩
  · refine XL_run 15 [(7, .eq (.bool false))] [(4, .bool false)] w [Value.bool (decide ((n : Int) ≤ 1024)) = Value.bool false] (by kernel_rfl) ⟨congrArg Value.bool (decide_eq_false (c_1)), trivial⟩ ?_
    refine XL_nil ?_
    refine X_ret ?_
    refine RX.ret_ok (P := Tryd.prog) (fn := Tryd.f9) (N := 21) (R := R_) [.bool false] (by kernel_rfl) (hR_ _ _ ?_)
    exact ⟨_, rfl, rfl⟩
theorem same_any (A A' : Option Addr) (c c' : Nat) (xs : List Int) (w : World) (hx : (Kd.int .i64).C w A xs.length xs) (hy : (Kd.int .i64).C w A' xs.length xs) :
    Calls Tryd.prog 15 #[.slice A xs.length c, .slice A' xs.length c'] w fun e w' => e = .returned (.bool true) ∧ Below w.heap.size w w' := by
  have hpl : xs.length ≤ 9223372036854775807 := hx.2.1
  refine RX.enter Tryd.func15 rfl 26 rfl [(0, .slice A xs.length c), (1, .slice A' xs.length c')] rfl (by kernel_rfl) (fun R_ hR_ => ?_)
  refine X_seq ?_
  refine X_region ?_
  refine XL_run 1 [] [(0, .slice A xs.length c), (1, .slice A' xs.length c')] w [] (by kernel_rfl) trivial ?_
  refine XL_nil ?_
  refine X_seq ?_
  refine X_seq ?_
  refine X_region ?_
  refine XL_run 5 [(10, .eq (.bool false))] [(0, .slice A xs.length c), (1, .slice A' xs.length c'), (10, .bool false)] w [Value.bool ((xs.length : Int) != (xs.length : Int)) = Value.bool false] (by kernel_rfl) ⟨congrArg Value.bool (bneF rfl), trivial⟩ ?_
  refine XL_nil ?_
  refine X_cond false rfl ?_
  refine X_skip ?_
  refine X_seq ?_
  refine X_seq ?_
  refine X_region ?_
  refine XL_run 3 [] [(0, .slice A xs.length c), (1, .slice A' xs.length c'), (12, .int .i64 (xs.length : Int)), (13, .int .i64 0)] w [] (by kernel_rfl) trivial ?_
  refine XL_nil ?_
  refine X_block ?_
  refine X_loop (ι := Nat) (fun i => [(0, .slice A xs.length c), (1, .slice A' xs.length c'), (12, .int .i64 (xs.length : Int)), (13, .int .i64 (i : Int))]) (fun i wl => i ≤ xs.length ∧ Below w.heap.size w wl) (fun i => xs.length - i) 0 ⟨by omega, (Below.refl _ _)⟩ (by kernel_rfl) ?_
  rintro i wl ⟨hi, HB⟩
  refine X_seq ?_
  refine X_region ?_
  by_cases c_1 : (i : Int) < (xs.length : Int)
  · refine XL_run 1 [(14, .eq (.bool true))] [(0, .slice A xs.length c), (1, .slice A' xs.length c'), (12, .int .i64 (xs.length : Int)), (13, .int .i64 (i : Int)), (14, .bool true)] wl [Value.bool (decide ((i : Int) < (xs.length : Int))) = Value.bool true] (by kernel_rfl) ⟨congrArg Value.bool (decide_eq_true (c_1)), trivial⟩ ?_
    refine XL_nil ?_
    refine X_seq ?_
    refine X_cond true rfl ?_
    refine X_skip ?_
    refine X_seq ?_
    refine X_block ?_
    refine X_seq ?_
    refine X_region ?_
    refine XL_run 2 [] [(0, .slice A xs.length c), (1, .slice A' xs.length c'), (5, .int .i64 (i : Int)), (12, .int .i64 (xs.length : Int)), (13, .int .i64 (i : Int))] wl [] (by kernel_rfl) trivial ?_
    refine XL_nil ?_
    refine X_seq ?_
    refine X_still (by kernel_rfl) (by kernel_rfl) (fun wd_2 hb_3 hh_4 => ?_)
    refine XS_run 2 [] [.slice A xs.length c, .int .i64 (i : Int)] [(0, .slice A xs.length c), (1, .slice A' xs.length c'), (5, .int .i64 (i : Int)), (12, .int .i64 (xs.length : Int)), (13, .int .i64 (i : Int)), (16, .slice A xs.length c), (17, .int .i64 (i : Int))] [] (by kernel_rfl) (by kernel_rfl) trivial ?_
    obtain ⟨ad_5, ha_6, hc_7⟩ := Kd.atI (Kd.C_below hx (bt HB hb_3)) (i := (i : Int)) (by omega) (by omega)
    refine XS_run 4 [(18, .idx ad_5), (19, .load (.int .i64 (rd xs (i : Int))))] [.pointer (some (ad_5.add ((i : Int).toNat * 1))), .int .i64 (rd xs (i : Int)), .slice A' xs.length c', .int .i64 (i : Int)] [(0, .slice A xs.length c), (1, .slice A' xs.length c'), (12, .int .i64 (xs.length : Int)), (13, .int .i64 (i : Int)), (19, .int .i64 (rd xs (i : Int))), (20, .slice A' xs.length c'), (21, .int .i64 (i : Int))] [A = some ad_5, (0 : Int) ≤ (i : Int), (i : Int) < (xs.length : Int), LoadsAs Tryd.prog 3 (ad_5.add ((i : Int).toNat * 1)) (.int .i64 (rd xs (i : Int))) wd_2] (by kernel_rfl) (by kernel_rfl) ⟨ha_6, (by omega), (by omega), loads1 rfl (elem_cell hc_7 0 _ rfl), trivial⟩ ?_
    obtain ⟨ad_8, ha_9, hc_10⟩ := Kd.atI (Kd.C_below hy (bt HB hb_3)) (i := (i : Int)) (by omega) (by omega)
    refine XS_run 3 [(22, .idx ad_8), (23, .load (.int .i64 (rd xs (i : Int)))), (24, .eq (.bool false))] [.pointer (some (ad_8.add ((i : Int).toNat * 1))), .int .i64 (rd xs (i : Int)), .bool false] [(0, .slice A xs.length c), (1, .slice A' xs.length c'), (12, .int .i64 (xs.length : Int)), (13, .int .i64 (i : Int)), (24, .bool false)] [A' = some ad_8, (0 : Int) ≤ (i : Int), (i : Int) < (xs.length : Int), LoadsAs Tryd.prog 3 (ad_8.add ((i : Int).toNat * 1)) (.int .i64 (rd xs (i : Int))) wd_2, Value.bool (rd xs (i : Int) != rd xs (i : Int)) = Value.bool false] (by kernel_rfl) (by kernel_rfl) ⟨ha_9, (by omega), (by omega), loads1 rfl (elem_cell hc_10 0 _ rfl), congrArg Value.bool (bneF rfl), trivial⟩ ?_
    refine XS_nil ?_
    refine X_cond false rfl ?_
    refine X_skip ?_
    refine X_region ?_
    refine XL_run 2 [(25, .eq (.int .i64 ((i : Int) + 1)))] [(0, .slice A xs.length c), (1, .slice A' xs.length c'), (12, .int .i64 (xs.length : Int)), (13, .int .i64 ((i : Int) + 1))] wd_2 [Value.int .i64 (IntKind.i64.wrap ((i : Int) + 1)) = Value.int .i64 ((i : Int) + 1)] (by kernel_rfl) ⟨wr_i64 (by omega) (by omega), trivial⟩ ?_
    refine XL_nil ?_
    refine ⟨(i + 1), by kernel_rfl, ?_, ?_⟩
    · exact ⟨by omega, (bt HB hb_3)⟩
    · (try dsimp only); omega
  · refine XL_run 1 [(14, .eq (.bool false))] [(0, .slice A xs.length c), (1, .slice A' xs.length c'), (12, .int .i64 (xs.length : Int)), (13, .int .i64 (i : Int)), (14, .bool false)] wl [Value.bool (decide ((i : Int) < (xs.length : Int))) = Value.bool false] (by kernel_rfl) ⟨congrArg Value.bool (decide_eq_false (c_1)), trivial⟩ ?_
    refine XL_nil ?_
    refine X_seq ?_
    refine X_cond false rfl ?_
    refine X_exit ?_
    refine X_seq ?_
    refine X_region ?_
    refine XL_run 1 [] [(4, .bool true)] wl [] (by kernel_rfl) trivial ?_
    refine XL_nil ?_
    refine X_ret ?_
    refine RX.ret_ok (P := Tryd.prog) (fn := Tryd.f15) (N := 26) (R := R_) [.bool true] (by kernel_rfl) (hR_ _ _ ?_)
    exact ⟨rfl, HB⟩
theorem turned_any (A : Option Addr) (c : Nat) (xs : List Int) (w : World) (hx : (Kd.int .i64).C w A xs.length xs) (hl : xs.length ≤ 1000000) :
    Calls Tryd.prog 18 #[.slice A xs.length c] w fun e w' => ∃ A1 c1, e = .returned (.slice A1 xs.reverse.length c1) ∧ (Kd.int .i64).R 3 w' w.heap.size (OkFrom w.heap.size) (.slice A1 xs.reverse.length c1) xs.reverse ∧ Below w.heap.size w w' := by
  refine RX.enter Tryd.func18 rfl 21 rfl [(0, .slice A xs.length c)] rfl (by kernel_rfl) (fun R_ hR_ => ?_)
  refine X_seq ?_
  refine X_region ?_
  refine XL_run 1 [] [(0, .slice A xs.length c)] w [] (by kernel_rfl) trivial ?_
  refine XL_nil ?_
  refine X_seq ?_
  refine X_region ?_
  refine XL_run 1 [] [(0, .slice A xs.length c), (5, .slice (some ⟨w.heap.size, 0, none⟩) 0 0)] (w.alloc (.cells #[] 3)) [] (by kernel_rfl) trivial ?_
  obtain ⟨w_1, hw_5, hb_2, hk_3, hz_4⟩ := new_world w #[] 3
  rw [hw_5]
  refine XL_run 1 [] [(0, .slice A xs.length c), (3, .slice (some ⟨w.heap.size, 0, none⟩) 0 0)] w_1 [] (by kernel_rfl) trivial ?_
  refine XL_nil ?_
  refine X_seq ?_
  refine X_seq ?_
  refine X_region ?_
  refine XL_run 4 [(8, .eq (.int .i64 ((xs.length : Int) - 1)))] [(0, .slice A xs.length c), (3, .slice (some ⟨w.heap.size, 0, none⟩) 0 0), (4, .int .i64 ((xs.length : Int) - 1))] w_1 [Value.int .i64 (IntKind.i64.wrap ((xs.length : Int) - 1)) = Value.int .i64 ((xs.length : Int) - 1)] (by kernel_rfl) ⟨wr_i64 (by omega) (by omega), trivial⟩ ?_
  refine XL_nil ?_
  refine X_block ?_
  have hr_6 := Kd.R_litB (Kd.int .i64) (W := w) (e := 3) (cs := #[]) [] hk_3 (repsInt []) (Nat.le_of_ble_eq_true (by kernel_rfl))
  refine X_loop (ι := Int × List Int × Option Addr × Nat) (fun ⟨k, ys, A1, c1⟩ => [(0, .slice A xs.length c), (3, .slice A1 ys.length c1), (4, .int .i64 k)]) (fun ⟨k, ys, A1, c1⟩ wl => -1 ≤ k ∧ k < xs.length ∧ ys = (xs.drop (k + 1).toNat).reverse ∧ (Kd.int .i64).R 3 wl w.heap.size (OkFrom w.heap.size) (.slice A1 ys.length c1) ys ∧ Below w.heap.size w wl) (fun ⟨k, ys, A1, c1⟩ => (k + 1).toNat) ⟨(xs.length : Int) - 1, [], (some ⟨w.heap.size, 0, none⟩), 0⟩ ⟨by omega, by omega, by rw [List.drop_of_length_le (by omega)]; rfl, hr_6, hb_2⟩ (by kernel_rfl) ?_
  rintro ⟨k, ys, A1, c1⟩ wl ⟨hk1, hk2, hys, HR, HB⟩
  refine X_seq ?_
  refine X_seq ?_
  refine X_region ?_
  refine XL_run 1 [] [(0, .slice A xs.length c), (3, .slice A1 ys.length c1), (4, .int .i64 k), (9, .int .i64 k)] wl [] (by kernel_rfl) trivial ?_
  by_cases c_7 : k ≥ 0
  · refine XL_run 1 [(10, .eq (.bool true))] [(0, .slice A xs.length c), (3, .slice A1 ys.length c1), (4, .int .i64 k), (10, .bool true)] wl [Value.bool (decide (k ≥ 0)) = Value.bool true] (by kernel_rfl) ⟨congrArg Value.bool (decide_eq_true (c_7)), trivial⟩ ?_
    refine XL_nil ?_
    refine X_cond true rfl ?_
    refine X_skip ?_
    refine X_seq ?_
    refine X_block ?_
    refine X_region ?_
    refine XL_run 3 [] [(0, .slice A xs.length c), (4, .int .i64 k), (13, .slice A1 ys.length c1), (14, .slice A xs.length c), (15, .int .i64 k)] wl [] (by kernel_rfl) trivial ?_
    obtain ⟨ad_8, ha_9, hc_10⟩ := Kd.atI (Kd.C_below hx HB) (i := k) (by omega) (by omega)
    refine XL_run 3 [(16, .idx ad_8), (17, .load (.int .i64 (rd xs k)))] [(0, .slice A xs.length c), (4, .int .i64 k), (13, .slice A1 ys.length c1), (18, .slice (some ⟨wl.heap.size, 0, none⟩) 1 1)] (wl.alloc (.cells #[.int .i64 (rd xs k)] 3)) [A = some ad_8, (0 : Int) ≤ k, k < (xs.length : Int), LoadsAs Tryd.prog 3 (ad_8.add (k.toNat * 1)) (.int .i64 (rd xs k)) wl] (by kernel_rfl) ⟨ha_9, (by omega), (by omega), loads1 rfl (elem_cell hc_10 0 _ rfl), trivial⟩ ?_
    obtain ⟨w_11, hw_15, hb_12, hk_13, hz_14⟩ := new_world wl #[.int .i64 (rd xs k)] 3
    rw [hw_15]
    rw [← hw_15]
    refine XL_append (Kd.int .i64) rfl rfl rfl w.heap.size 3 (.int .i64 0) 8 Tryd.underlying22 info3 rfl (by decide) (by omega) ys (rd xs k) [.int .i64 (rd xs k)] (fun _ => False) (by kernel_rfl) rfl (fun _ h => h.elim) HR (HB).size (by rw [hys]; simp; omega) ?_
    intro A_16 c_17 w_18 hr_19 hc_20 hg_21 hl_22 ha_23
    refine XL_run 1 [] [(0, .slice A xs.length c), (3, .slice A_16 ((ys ++ [rd xs k]).length) c_17), (4, .int .i64 k)] w_18 [] (by kernel_rfl) trivial ?_
    refine XL_nil ?_
    refine X_region ?_
    refine XL_run 3 [(12, .eq (.int .i64 (k - 1)))] [(0, .slice A xs.length c), (3, .slice A_16 ((ys ++ [rd xs k]).length) c_17), (4, .int .i64 (k - 1))] w_18 [Value.int .i64 (IntKind.i64.wrap (k - 1)) = Value.int .i64 (k - 1)] (by kernel_rfl) ⟨wr_i64 (by omega) (by omega), trivial⟩ ?_
    refine XL_nil ?_
    refine ⟨⟨k - 1, (ys ++ [rd xs k]), A_16, c_17⟩, by kernel_rfl, ?_, ?_⟩
    · exact ⟨by omega, by omega, by rw [show (k - 1 + 1).toNat = k.toNat from by omega, hys, show (k + 1).toNat = k.toNat + 1 from by omega]; exact rev_snoc xs k.toNat (by omega), hr_19, (bgo HB hg_21 hl_22 (Nat.le_refl _))⟩
    · (try dsimp only); omega
  · refine XL_run 1 [(10, .eq (.bool false))] [(0, .slice A xs.length c), (3, .slice A1 ys.length c1), (4, .int .i64 k), (10, .bool false)] wl [Value.bool (decide (k ≥ 0)) = Value.bool false] (by kernel_rfl) ⟨congrArg Value.bool (decide_eq_false (c_7)), trivial⟩ ?_
    refine XL_nil ?_
    refine X_cond false rfl ?_
    refine X_exit ?_
    refine X_seq ?_
    refine X_region ?_
    refine XL_run 2 [] [(2, .slice A1 ys.length c1)] wl [] (by kernel_rfl) trivial ?_
    refine XL_nil ?_
    refine X_ret ?_
    refine RX.ret_ok (P := Tryd.prog) (fn := Tryd.f18) (N := 21) (R := R_) [.slice A1 ys.length c1] (by kernel_rfl) (hR_ _ _ ?_)
    obtain rfl : k = -1 := by omega
    obtain rfl : ys = xs.reverse := by rw [hys]; rfl
    exact ⟨_, _, rfl, HR, HB⟩
end Go.Proofs.YtmhkeojbjliieaaDoor
