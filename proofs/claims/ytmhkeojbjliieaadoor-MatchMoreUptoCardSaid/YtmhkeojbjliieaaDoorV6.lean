/- What the laws' beginnings answer. Condition: Errs. -/
import Derived.Test.YtmhkeojbjliieaaDoorV5
import Derived.Test.YtmhkeojbjliieaaDoorV3
import Derived.Test.YtmhkeojbjliieaaDoorWEqStruct
set_option linter.unusedVariables false
set_option linter.unusedSimpArgs false
set_option maxRecDepth 100000
namespace Go.Proofs.YtmhkeojbjliieaaDoor
open Go.RowKit Go.Proofs.YtmhkeojbjliieaaDoorW.PrintWords MM RX
theorem ent7 : Ent Tryd.prog 7 := ent_of Tryd.func7 (by kernel_rfl) rfl
theorem ent8 : Ent Tryd.prog 8 := ent_of Tryd.func8 (by kernel_rfl) rfl
theorem match_n (A A' : Option Addr) (c c' n m : Nat) (a b : List Int) (w : World) (ha : (Kd.int .i64).C w A n a) (hb : (Kd.int .i64).C w A' m b) (hn : n ≤ 1024) (hm : m ≤ 1024) : Calls Tryd.prog 10 #[.slice A n c, .slice A' m c'] w fun e w' => ∃ ps A1 c1, e = .returned (.tuple #[.slice A1 ps.length c1, .nilIface]) ∧ kPair.R 35 w' w.heap.size (OkFrom w.heap.size) (.slice A1 ps.length c1) ps ∧
      Mt a b ps ∧ ps.length = Lm a b ∧ Below w.heap.size w w' := by
  obtain rfl := ha.1
  obtain rfl := hb.1
  exact match_ok A A' c c' a b w ha hb hn hm
theorem length_n (A A' : Option Addr) (c c' n m : Nat) (a b : List Int) (w : World) (ha : (Kd.int .i64).C w A n a) (hb : (Kd.int .i64).C w A' m b) (hn : n ≤ 1024) (hm : m ≤ 1024) : Calls Tryd.prog 11 #[.slice A n c, .slice A' m c'] w fun e w' => e = .returned (.tuple #[.int .i64 (Lm a b : Int), .nilIface]) ∧ Below w.heap.size w w' := by
  obtain rfl := ha.1
  obtain rfl := hb.1
  exact length_ok A A' c c' a b w ha hb hn hm
theorem edits_n (A A' : Option Addr) (c c' n m : Nat) (a b : List Int) (w : World) (ha : (Kd.int .i64).C w A n a) (hb : (Kd.int .i64).C w A' m b) (hn : n ≤ 1024) (hm : m ≤ 1024) : Calls Tryd.prog 12 #[.slice A n c, .slice A' m c'] w fun e w' => e = .returned (.tuple #[.int .i64 (dist a b : Int), .nilIface]) ∧ Below w.heap.size w w' := by
  obtain rfl := ha.1
  obtain rfl := hb.1
  exact edits_ok A A' c c' a b w ha hb hn hm
theorem refLength_n (A A' : Option Addr) (c c' n m : Nat) (a b : List Int) (w : World) (ha : (Kd.int .i64).C w A n a) (hb : (Kd.int .i64).C w A' m b) (hn : n ≤ 1024) (hm : m ≤ 1024) : Calls Tryd.prog 13 #[.slice A n c, .slice A' m c'] w fun e w' => e = .returned (.int .i64 (Lm a b : Int)) ∧ Below w.heap.size w w' := by
  obtain rfl := ha.1
  obtain rfl := hb.1
  exact refLength_any A A' c c' a b w ha hb hn hm
theorem check_n (A A' A2 : Option Addr) (c c' c2 n m k : Nat) (a b : List Int) (ps : List (Int × Int)) (w : World) (ha : (Kd.int .i64).C w A n a) (hb : (Kd.int .i64).C w A' m b) (hp : kPair.C w A2 k ps) (es : List Addr) (hE : Errs w es) : Calls Tryd.prog 17 #[.slice A n c, .slice A' m c', .slice A2 k c2] w fun e w' => e = .returned (errV es (chk a b ps)) ∧ Below w.heap.size w w' := by
  obtain rfl := ha.1
  obtain rfl := hb.1
  obtain rfl := hp.1
  exact check_any A A' A2 c c' c2 a b ps w ha hb hp es hE
theorem refCheck_n (A A' A2 : Option Addr) (c c' c2 n m k : Nat) (a b : List Int) (ps : List (Int × Int)) (w : World) (ha : (Kd.int .i64).C w A n a) (hb : (Kd.int .i64).C w A' m b) (hp : kPair.C w A2 k ps) : Calls Tryd.prog 14 #[.slice A n c, .slice A' m c', .slice A2 k c2] w fun e w' => e = .returned (.int .i64 (chk a b ps : Int)) ∧ Below w.heap.size w w' := by
  obtain rfl := ha.1
  obtain rfl := hb.1
  obtain rfl := hp.1
  exact refCheck_any A A' A2 c c' c2 a b ps w ha hb hp
theorem lives_all : ((List.range 4).all fun x1 => (List.range 3).all fun y1 => (List.range 4).all fun x2 => (List.range 3).all fun y2 => !(decide (x1 < x2) && decide (y1 < y2) && decide (([1, 2, 3, 4] : List Int).getD x1 0 = ([2, 4, 1] : List Int).getD y1 0) && decide (([1, 2, 3, 4] : List Int).getD x2 0 = ([2, 4, 1] : List Int).getD y2 0)) || (decide (x1 = 1) && decide (y1 = 0) && decide (x2 = 3) && decide (y2 = 1))) = true := by decide
theorem lives_nat (x1 y1 x2 y2 : Nat) (h1 : x1 < 4) (h2 : y1 < 3) (h3 : x2 < 4) (h4 : y2 < 3) (h5 : x1 < x2) (h6 : y1 < y2) (h7 : ([1, 2, 3, 4] : List Int).getD x1 0 = ([2, 4, 1] : List Int).getD y1 0) (h8 : ([1, 2, 3, 4] : List Int).getD x2 0 = ([2, 4, 1] : List Int).getD y2 0) : x1 = 1 ∧ y1 = 0 ∧ x2 = 3 ∧ y2 = 1 := by
  have k := List.all_eq_true.1 (List.all_eq_true.1 (List.all_eq_true.1 (List.all_eq_true.1 lives_all x1 (List.mem_range.2 h1)) y1 (List.mem_range.2 h2)) x2 (List.mem_range.2 h3)) y2 (List.mem_range.2 h4)
  simp only [decide_eq_true h5, decide_eq_true h6, decide_eq_true h7, decide_eq_true h8, Bool.and_self, Bool.not_true, Bool.false_or, Bool.and_eq_true, decide_eq_true_eq] at k
  exact ⟨k.1.1.1, k.1.1.2, k.1.2, k.2⟩
theorem pair_eql (x y u v : Int) (w : World) : (Op.equalIn 10000 35 (.agg #[.int .i64 x, .int .i64 y]) (.agg #[.int .i64 u, .int .i64 v])).run Tryd.prog w = .ok ((x == u) && (y == v)) w := by
  refine eqA_of (d := 9999) Tryd.underlying35 (by kernel_rfl) ?_
  exact eqf_cons (a := .int .i64 x) (b := .int .i64 u) rfl (by kernel_rfl) (by kernel_rfl) (run_equalIn_int _ _ _ _ _ _ _ Tryd.underlying3) (eqf_last (a := .int .i64 y) (b := .int .i64 v) rfl (by kernel_rfl) (by kernel_rfl) (run_equalIn_int _ _ _ _ _ _ _ Tryd.underlying3))
theorem pair_eq_same (x y u v : Int) (w : World) (h1 : x = u) (h2 : y = v) : (binOp .eql 35 (.agg #[.int .i64 x, .int .i64 y]) (.agg #[.int .i64 u, .int .i64 v])).run Tryd.prog w = .ok (.bool true) w := by
  subst h1; subst h2
  rw [run_eql_struct, pair_eql]
  simp
theorem pair_ne_same (x y u v : Int) (w : World) (h1 : x = u) (h2 : y = v) : (binOp .neq 35 (.agg #[.int .i64 x, .int .i64 y]) (.agg #[.int .i64 u, .int .i64 v])).run Tryd.prog w = .ok (.bool false) w := by
  subst h1; subst h2
  rw [run_neq_struct, pair_eql]
  simp
theorem lives_ps {ps : List (Int × Int)} (h : Mt [1, 2, 3, 4] [2, 4, 1] ps) (hl : ps.length = Lm [1, 2, 3, 4] [2, 4, 1]) : ps = [(1, 0), (3, 1)] := by
  have hl : ps.length = 2 := hl
  match ps, hl, h with
  | [p, q], _, h =>
    obtain ⟨h1, h2⟩ := h
    simp only [List.pairwise_cons, List.mem_cons, List.not_mem_nil, or_false, forall_eq] at h1
    obtain ⟨p1, p2, p3, p4, p5⟩ := h2 p (by simp)
    obtain ⟨q1, q2, q3, q4, q5⟩ := h2 q (by simp)
    simp only [List.length_cons, List.length_nil] at p2 p4 q2 q4
    have := lives_nat p.1.toNat p.2.toNat q.1.toNat q.2.toNat (by omega) (by omega) (by omega) (by omega) (by omega) (by omega) p5 q5
    have e1 : p = (1, 0) := Prod.ext (by show p.1 = 1; omega) (by show p.2 = 0; omega)
    have e2 : q = (3, 1) := Prod.ext (by show q.1 = 3; omega) (by show q.2 = 1; omega)
    rw [e1, e2]
theorem lives_any (es : List Addr) (w : World) (hE : Errs w es) : Calls Tryd.prog 7 #[] w fun e w' => e = .returned (.bool true) ∧ Below w.heap.size w w' := by
  refine RX.enter Tryd.func7 rfl 64 rfl [] rfl (by kernel_rfl) (fun R_ hR_ => ?_)
  refine X_seq ?_
  refine X_region ?_
  refine XL_run 1 [] [] w [] (by kernel_rfl) trivial ?_
  refine XL_nil ?_
  refine X_seq ?_
  refine X_region ?_
  refine XL_run 1 [] [(8, .slice (some ⟨w.heap.size, 0, none⟩) 4 4)] (w.alloc (.cells #[.int .i64 1, .int .i64 2, .int .i64 3, .int .i64 4] 3)) [] (by kernel_rfl) trivial ?_
  obtain ⟨w_1, hw_5, hb_2, hk_3, hz_4⟩ := new_world w #[.int .i64 1, .int .i64 2, .int .i64 3, .int .i64 4] 3
  rw [hw_5]
  refine XL_run 1 [] [(8, .slice (some ⟨w.heap.size, 0, none⟩) 4 4), (9, .slice (some ⟨w_1.heap.size, 0, none⟩) 3 3)] (w_1.alloc (.cells #[.int .i64 2, .int .i64 4, .int .i64 1] 3)) [] (by kernel_rfl) trivial ?_
  obtain ⟨w_6, hw_10, hb_7, hk_8, hz_9⟩ := new_world w_1 #[.int .i64 2, .int .i64 4, .int .i64 1] 3
  rw [hw_10]
  have hr_11 := Kd.R_litB (Kd.int .i64) (W := w) (e := 3) (cs := #[.int .i64 1, .int .i64 2, .int .i64 3, .int .i64 4]) [1, 2, 3, 4] hk_3 (repsInt [1, 2, 3, 4]) (Nat.le_of_ble_eq_true (by kernel_rfl))
  have hr_12 := Kd.R_litB (Kd.int .i64) (W := w_1) (e := 3) (cs := #[.int .i64 2, .int .i64 4, .int .i64 1]) [2, 4, 1] hk_8 (repsInt [2, 4, 1]) (Nat.le_of_ble_eq_true (by kernel_rfl))
  refine XL_call 10 rfl rfl rfl ent10 [.slice (some ⟨w.heap.size, 0, none⟩) 4 4, .slice (some ⟨w_1.heap.size, 0, none⟩) 3 3] (by kernel_rfl) (match_n _ _ _ _ _ _ ([1, 2, 3, 4]) ([2, 4, 1]) _ (Kd.R_C (Kd.R_below hr_11 hb_7)) (Kd.R_C hr_12) (by omega) (by omega)) ?_
  rintro e w_19 ⟨ps_13, A_14, c_15, rfl, HR_16, HM_17, HL_18, hb_20⟩; refine ⟨_, rfl, ?_⟩
  obtain rfl := lives_ps HM_17 HL_18
  refine XL_run 5 [] [(1, .slice A_14 2 c_15), (2, .nilIface)] w_19 [] (by kernel_rfl) trivial ?_
  refine XL_nil ?_
  refine X_seq ?_
  refine X_region ?_
  refine XL_run 1 [] [(1, .slice A_14 2 c_15), (2, .nilIface), (14, .slice (some ⟨w_19.heap.size, 0, none⟩) 2 2)] (w_19.alloc (.cells #[.int .i64 1, .int .i64 2] 3)) [] (by kernel_rfl) trivial ?_
  obtain ⟨w_21, hw_25, hb_22, hk_23, hz_24⟩ := new_world w_19 #[.int .i64 1, .int .i64 2] 3
  rw [hw_25]
  refine XL_run 1 [] [(1, .slice A_14 2 c_15), (2, .nilIface), (14, .slice (some ⟨w_19.heap.size, 0, none⟩) 2 2), (15, .slice (some ⟨w_21.heap.size, 0, none⟩) 2 2)] (w_21.alloc (.cells #[.int .i64 2, .int .i64 1] 3)) [] (by kernel_rfl) trivial ?_
  obtain ⟨w_26, hw_30, hb_27, hk_28, hz_29⟩ := new_world w_21 #[.int .i64 2, .int .i64 1] 3
  rw [hw_30]
  have hr_31 := Kd.R_litB (Kd.int .i64) (W := w_19) (e := 3) (cs := #[.int .i64 1, .int .i64 2]) [1, 2] hk_23 (repsInt [1, 2]) (Nat.le_of_ble_eq_true (by kernel_rfl))
  have hr_32 := Kd.R_litB (Kd.int .i64) (W := w_21) (e := 3) (cs := #[.int .i64 2, .int .i64 1]) [2, 1] hk_28 (repsInt [2, 1]) (Nat.le_of_ble_eq_true (by kernel_rfl))
  refine XL_call 11 rfl rfl rfl ent11 [.slice (some ⟨w_19.heap.size, 0, none⟩) 2 2, .slice (some ⟨w_21.heap.size, 0, none⟩) 2 2] (by kernel_rfl) (length_n _ _ _ _ _ _ ([1, 2]) ([2, 1]) _ (Kd.R_C (Kd.R_below hr_31 hb_27)) (Kd.R_C hr_32) (by omega) (by omega)) ?_
  rintro e w_33 ⟨rfl, hb_34⟩; refine ⟨_, rfl, ?_⟩
  refine XL_run 5 [] [(1, .slice A_14 2 c_15), (2, .nilIface), (3, .int .i64 1), (4, .nilIface)] w_33 [] (by kernel_rfl) trivial ?_
  refine XL_nil ?_
  refine X_seq ?_
  refine X_region ?_
  refine XL_run 1 [] [(1, .slice A_14 2 c_15), (2, .nilIface), (3, .int .i64 1), (4, .nilIface), (20, .slice (some ⟨w_33.heap.size, 0, none⟩) 4 4)] (w_33.alloc (.cells #[.int .i64 1, .int .i64 2, .int .i64 3, .int .i64 4] 3)) [] (by kernel_rfl) trivial ?_
  obtain ⟨w_35, hw_39, hb_36, hk_37, hz_38⟩ := new_world w_33 #[.int .i64 1, .int .i64 2, .int .i64 3, .int .i64 4] 3
  rw [hw_39]
  refine XL_run 1 [] [(1, .slice A_14 2 c_15), (2, .nilIface), (3, .int .i64 1), (4, .nilIface), (20, .slice (some ⟨w_33.heap.size, 0, none⟩) 4 4), (21, .slice (some ⟨w_35.heap.size, 0, none⟩) 3 3)] (w_35.alloc (.cells #[.int .i64 2, .int .i64 4, .int .i64 1] 3)) [] (by kernel_rfl) trivial ?_
  obtain ⟨w_40, hw_44, hb_41, hk_42, hz_43⟩ := new_world w_35 #[.int .i64 2, .int .i64 4, .int .i64 1] 3
  rw [hw_44]
  have hr_45 := Kd.R_litB (Kd.int .i64) (W := w_33) (e := 3) (cs := #[.int .i64 1, .int .i64 2, .int .i64 3, .int .i64 4]) [1, 2, 3, 4] hk_37 (repsInt [1, 2, 3, 4]) (Nat.le_of_ble_eq_true (by kernel_rfl))
  have hr_46 := Kd.R_litB (Kd.int .i64) (W := w_35) (e := 3) (cs := #[.int .i64 2, .int .i64 4, .int .i64 1]) [2, 4, 1] hk_42 (repsInt [2, 4, 1]) (Nat.le_of_ble_eq_true (by kernel_rfl))
  refine XL_call 12 rfl rfl rfl ent12 [.slice (some ⟨w_33.heap.size, 0, none⟩) 4 4, .slice (some ⟨w_35.heap.size, 0, none⟩) 3 3] (by kernel_rfl) (edits_n _ _ _ _ _ _ ([1, 2, 3, 4]) ([2, 4, 1]) _ (Kd.R_C (Kd.R_below hr_45 hb_41)) (Kd.R_C hr_46) (by omega) (by omega)) ?_
  rintro e w_47 ⟨rfl, hb_48⟩; refine ⟨_, rfl, ?_⟩
  refine XL_run 5 [] [(1, .slice A_14 2 c_15), (2, .nilIface), (3, .int .i64 1), (4, .nilIface), (5, .int .i64 3), (6, .nilIface)] w_47 [] (by kernel_rfl) trivial ?_
  refine XL_nil ?_
  refine X_seq ?_
  refine X_region ?_
  refine XL_run 9 [] [(1, .slice A_14 2 c_15), (3, .int .i64 1), (4, .nilIface), (5, .int .i64 3), (6, .nilIface), (32, .bool true), (33, .slice A_14 2 c_15)] w_47 [] (by kernel_rfl) trivial ?_
  obtain ⟨ad_49, ha_50, hc_51⟩ := Kd.atPair (Kd.R_C (Kd.R_below HR_16 (bt (bt (bt (bt (bt hb_22 hb_27) hb_34) hb_36) hb_41) hb_48))) (i := (1 : Int)) (by decide) (by decide)
  replace hc_51 : CellsAt w_47 (ad_49.add ((1 : Int).toNat * 2)) [.int .i64 (([(1, 0), (3, 1)]).getD 1 (0, 0)).1, .int .i64 (([(1, 0), (3, 1)]).getD 1 (0, 0)).2] := hc_51
  refine XL_run 23 [(34, .idx ad_49), (35, .load (.agg #[.int .i64 ((([(1, 0), (3, 1)]).getD 1 (0, 0)).1), .int .i64 ((([(1, 0), (3, 1)]).getD 1 (0, 0)).2)])), (37, .as (.bool true))] [(1, .slice A_14 2 c_15), (55, .bool true), (56, .slice (some ⟨w_47.heap.size, 0, none⟩) 1 1)] (w_47.alloc (.cells #[.int .i64 1] 3)) [A_14 = some ad_49, (0 : Int) ≤ 1, 1 < (2 : Int), LoadsAs Tryd.prog 35 (ad_49.add ((1 : Int).toNat * 2)) (.agg #[.int .i64 ((([(1, 0), (3, 1)]).getD 1 (0, 0)).1), .int .i64 ((([(1, 0), (3, 1)]).getD 1 (0, 0)).2)]) w_47, RunsAs Tryd.prog [(35, .agg #[.int .i64 ((([(1, 0), (3, 1)]).getD 1 (0, 0)).1), .int .i64 ((([(1, 0), (3, 1)]).getD 1 (0, 0)).2)]), (36, .agg #[.int .i64 3, .int .i64 1])] (Go.Op.binOp Go.BinOp.eql 35 (Go.Operand.tmp 35) (Go.Operand.tmp 36) 35) 4 (.bool true) w_47] (by kernel_rfl) ⟨ha_50, (by decide), (by decide), loadsE rfl rfl hc_51 0 ⟨by kernel_rfl, by kernel_rfl⟩, runs_bin rfl rfl (run_eqGuard_agg _ _ _ _ _ _ _ (by kernel_rfl)) (pair_eq_same _ _ _ _ _ rfl rfl), trivial⟩ ?_
  obtain ⟨w_52, hw_56, hb_53, hk_54, hz_55⟩ := new_world w_47 #[.int .i64 1] 3
  rw [hw_56]
  refine XL_run 1 [] [(1, .slice A_14 2 c_15), (55, .bool true), (56, .slice (some ⟨w_47.heap.size, 0, none⟩) 1 1), (57, .slice (some ⟨w_52.heap.size, 0, none⟩) 1 1)] (w_52.alloc (.cells #[.int .i64 2] 3)) [] (by kernel_rfl) trivial ?_
  obtain ⟨w_57, hw_61, hb_58, hk_59, hz_60⟩ := new_world w_52 #[.int .i64 2] 3
  rw [hw_61]
  have hC_62 := RX.Kd.C_take (m := 1) (Kd.R_C (Kd.R_below HR_16 (bt (bt (bt (bt (bt (bt (bt hb_22 hb_27) hb_34) hb_36) hb_41) hb_48) hb_53) hb_58))) (by first | omega | (simp; done) | (simp; omega))
  refine XL_run 2 [(59, .as (.slice A_14 1 c_15))] [(55, .bool true), (56, .slice (some ⟨w_47.heap.size, 0, none⟩) 1 1), (57, .slice (some ⟨w_52.heap.size, 0, none⟩) 1 1), (59, .slice A_14 1 c_15)] w_57 [RunsAs Tryd.prog [(58, .slice A_14 2 c_15)] (Go.Op.slice 25 (Go.Operand.tmp 58) none (some (Go.Operand.const (Go.Value.int Go.IntKind.i64 1))) none) 25 (.slice A_14 1 c_15) w_57] (by kernel_rfl) ⟨runs_slice_h (h := 1) rfl rfl rfl rfl (by omega) (by have h := (RX.Kd.R_len (Kd.R_below HR_16 (bt (bt (bt (bt (bt (bt (bt hb_22 hb_27) hb_34) hb_36) hb_41) hb_48) hb_53) hb_58))).2; (try simp only [List.length_append, List.length_cons, List.length_nil] at h); omega), trivial⟩ ?_
  have hr_63 := Kd.R_litB (Kd.int .i64) (W := w_47) (e := 3) (cs := #[.int .i64 1]) [1] hk_54 (repsInt [1]) (Nat.le_of_ble_eq_true (by kernel_rfl))
  have hr_64 := Kd.R_litB (Kd.int .i64) (W := w_52) (e := 3) (cs := #[.int .i64 2]) [2] hk_59 (repsInt [2]) (Nat.le_of_ble_eq_true (by kernel_rfl))
  refine XL_call 17 rfl rfl rfl ent17 [.slice (some ⟨w_47.heap.size, 0, none⟩) 1 1, .slice (some ⟨w_52.heap.size, 0, none⟩) 1 1, .slice A_14 1 c_15] (by kernel_rfl) (check_n _ _ _ _ _ _ _ _ _ ([1]) ([2]) (List.take 1 ([(1, 0), (3, 1)])) _ (Kd.R_C (Kd.R_below hr_63 hb_58)) (Kd.R_C hr_64) hC_62 es (hE.below (bt (bt (bt (bt (bt (bt (bt (bt (bt (bt hb_2 hb_7) hb_20) hb_22) hb_27) hb_34) hb_36) hb_41) hb_48) hb_53) hb_58))) ?_
  rintro e w_65 ⟨rfl, hb_66⟩; refine ⟨_, rfl, ?_⟩
  rw [show errV es (chk ([1]) ([2]) (List.take 1 ([(1, 0), (3, 1)]))) = .iface 51 (.pointer (some (errAt es 12))) from by rw [show chk ([1]) ([2]) (List.take 1 ([(1, 0), (3, 1)])) = 12 from by decide]; rfl]
  refine XL_call 16 rfl rfl rfl ent16 [.iface 51 (.pointer (some (errAt es 12)))] (by kernel_rfl) (num_err es 12 (by omega) (by omega) _ (hE.below (bt (bt (bt (bt (bt (bt (bt (bt (bt (bt (bt hb_2 hb_7) hb_20) hb_22) hb_27) hb_34) hb_36) hb_41) hb_48) hb_53) hb_58) hb_66))) ?_
  rintro e w_67 ⟨rfl, hb_68⟩; refine ⟨_, rfl, ?_⟩
  refine XL_run 3 [] [(0, .bool true)] w_67 [] (by kernel_rfl) trivial ?_
  refine XL_nil ?_
  refine X_ret ?_
  refine RX.ret_ok (P := Tryd.prog) (fn := Tryd.f7) (N := 64) (R := R_) [.bool true] (by kernel_rfl) (hR_ _ _ ?_)
  exact ⟨rfl, (bt (bt (bt (bt (bt (bt (bt (bt (bt (bt (bt (bt hb_2 hb_7) hb_20) hb_22) hb_27) hb_34) hb_36) hb_41) hb_48) hb_53) hb_58) hb_66) hb_68)⟩
theorem refused_any (A A' : Option Addr) (c c' n m : Nat) (es : List Addr) (w : World) (hE : Errs w es) (hl : 1024 < n ∨ 1024 < m) (hn : n ≤ 1000000000000) (hm : m ≤ 1000000000000) :
    Calls Tryd.prog 8 #[.slice A n c, .slice A' m c'] w fun e w' => e = .returned (.bool true) ∧ Below w.heap.size w w' := by
  refine RX.enter Tryd.func8 rfl 59 rfl [(0, .slice A n c), (1, .slice A' m c')] rfl (by kernel_rfl) (fun R_ hR_ => ?_)
  refine X_seq ?_
  refine X_region ?_
  refine XL_run 1 [] [(0, .slice A n c), (1, .slice A' m c')] w [] (by kernel_rfl) trivial ?_
  refine XL_nil ?_
  refine X_seq ?_
  refine X_region ?_
  refine XL_run 2 [] [(0, .slice A n c), (1, .slice A' m c'), (13, .slice A n c), (14, .slice A' m c')] w [] (by kernel_rfl) trivial ?_
  refine XL_call 10 rfl rfl rfl ent10 [.slice A n c, .slice A' m c'] (by kernel_rfl) (match_err _ _ _ _ _ _ _ es (hE.below (Below.refl _ _)) (by omega)) ?_
  rintro e w_1 ⟨rfl, hb_2⟩; refine ⟨_, rfl, ?_⟩
  refine XL_run 5 [] [(0, .slice A n c), (1, .slice A' m c'), (5, .slice none 0 0), (6, .iface 51 (.pointer (some (errAt es 10))))] w_1 [] (by kernel_rfl) trivial ?_
  refine XL_nil ?_
  refine X_seq ?_
  refine X_region ?_
  refine XL_run 2 [] [(0, .slice A n c), (1, .slice A' m c'), (5, .slice none 0 0), (6, .iface 51 (.pointer (some (errAt es 10)))), (19, .slice A n c), (20, .slice A' m c')] w_1 [] (by kernel_rfl) trivial ?_
  refine XL_call 11 rfl rfl rfl ent11 [.slice A n c, .slice A' m c'] (by kernel_rfl) (length_err _ _ _ _ _ _ _ es (hE.below hb_2) (by omega) hn hm) ?_
  rintro e w_3 ⟨rfl, hb_4⟩; refine ⟨_, rfl, ?_⟩
  refine XL_run 5 [] [(0, .slice A n c), (1, .slice A' m c'), (5, .slice none 0 0), (6, .iface 51 (.pointer (some (errAt es 10)))), (7, .int .i64 0), (8, .iface 51 (.pointer (some (errAt es 10))))] w_3 [] (by kernel_rfl) trivial ?_
  refine XL_nil ?_
  refine X_seq ?_
  refine X_region ?_
  refine XL_run 2 [] [(5, .slice none 0 0), (6, .iface 51 (.pointer (some (errAt es 10)))), (7, .int .i64 0), (8, .iface 51 (.pointer (some (errAt es 10)))), (25, .slice A n c), (26, .slice A' m c')] w_3 [] (by kernel_rfl) trivial ?_
  refine XL_call 12 rfl rfl rfl ent12 [.slice A n c, .slice A' m c'] (by kernel_rfl) (edits_err _ _ _ _ _ _ _ es (hE.below (bt hb_2 hb_4)) (by omega)) ?_
  rintro e w_5 ⟨rfl, hb_6⟩; refine ⟨_, rfl, ?_⟩
  refine XL_run 5 [] [(5, .slice none 0 0), (6, .iface 51 (.pointer (some (errAt es 10)))), (7, .int .i64 0), (8, .iface 51 (.pointer (some (errAt es 10)))), (9, .int .i64 0), (10, .iface 51 (.pointer (some (errAt es 10))))] w_5 [] (by kernel_rfl) trivial ?_
  refine XL_nil ?_
  refine X_seq ?_
  refine X_region ?_
  refine XL_run 1 [] [(5, .slice none 0 0), (6, .iface 51 (.pointer (some (errAt es 10)))), (7, .int .i64 0), (8, .iface 51 (.pointer (some (errAt es 10)))), (9, .int .i64 0), (10, .iface 51 (.pointer (some (errAt es 10)))), (11, .int .i64 10)] w_5 [] (by kernel_rfl) trivial ?_
  refine XL_nil ?_
  refine X_seq ?_
  refine X_region ?_
  refine XL_run 1 [] [(5, .slice none 0 0), (7, .int .i64 0), (8, .iface 51 (.pointer (some (errAt es 10)))), (9, .int .i64 0), (10, .iface 51 (.pointer (some (errAt es 10)))), (11, .int .i64 10), (30, .iface 51 (.pointer (some (errAt es 10))))] w_5 [] (by kernel_rfl) trivial ?_
  refine XL_call 16 rfl rfl rfl ent16 [.iface 51 (.pointer (some (errAt es 10)))] (by kernel_rfl) (num_err es 10 (by omega) (by omega) _ (hE.below (bt (bt hb_2 hb_4) hb_6))) ?_
  rintro e w_7 ⟨rfl, hb_8⟩; refine ⟨_, rfl, ?_⟩
  refine XL_run 4 [] [(5, .slice none 0 0), (7, .int .i64 0), (9, .int .i64 0), (10, .iface 51 (.pointer (some (errAt es 10)))), (11, .int .i64 10), (34, .bool true), (35, .iface 51 (.pointer (some (errAt es 10))))] w_7 [] (by kernel_rfl) trivial ?_
  refine XL_call 16 rfl rfl rfl ent16 [.iface 51 (.pointer (some (errAt es 10)))] (by kernel_rfl) (num_err es 10 (by omega) (by omega) _ (hE.below (bt (bt (bt hb_2 hb_4) hb_6) hb_8))) ?_
  rintro e w_9 ⟨rfl, hb_10⟩; refine ⟨_, rfl, ?_⟩
  refine XL_run 5 [] [(5, .slice none 0 0), (7, .int .i64 0), (9, .int .i64 0), (11, .int .i64 10), (40, .bool true), (41, .iface 51 (.pointer (some (errAt es 10))))] w_9 [] (by kernel_rfl) trivial ?_
  refine XL_call 16 rfl rfl rfl ent16 [.iface 51 (.pointer (some (errAt es 10)))] (by kernel_rfl) (num_err es 10 (by omega) (by omega) _ (hE.below (bt (bt (bt (bt hb_2 hb_4) hb_6) hb_8) hb_10))) ?_
  rintro e w_11 ⟨rfl, hb_12⟩; refine ⟨_, rfl, ?_⟩
  refine XL_run 17 [] [(4, .bool true)] w_11 [] (by kernel_rfl) trivial ?_
  refine XL_nil ?_
  refine X_ret ?_
  refine RX.ret_ok (P := Tryd.prog) (fn := Tryd.f8) (N := 59) (R := R_) [.bool true] (by kernel_rfl) (hR_ _ _ ?_)
  exact ⟨rfl, (bt (bt (bt (bt (bt hb_2 hb_4) hb_6) hb_8) hb_10) hb_12)⟩
end Go.Proofs.YtmhkeojbjliieaaDoor
