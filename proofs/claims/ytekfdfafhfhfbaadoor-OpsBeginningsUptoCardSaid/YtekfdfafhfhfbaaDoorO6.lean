/- OpsBeginnings returns true. Conditions: sizes, the tables of utf8, the errors' variables. -/
import Derived.Test.YtekfdfafhfhfbaaDoorO4a
import Derived.Test.YtekfdfafhfhfbaaDoorAn3
set_option linter.unusedVariables false
set_option linter.unusedSimpArgs false
set_option maxRecDepth 100000
namespace Go.Proofs.YtekfdfafhfhfbaaDoor
open Go Go.RowKit Go.Proofs.YtekfdfafhfhfbaaDoorW.PrintWords RX
theorem ent5 : Ent Tryd.prog 5 := ent_of Tryd.func5 (by kernel_rfl) rfl
theorem run_rem {t : TypeId} {k : IntKind} {a b : Int} (hb : b ≠ 0) (w : World) : (binOp .rem t (.int k a) (.int k b)).run Tryd.prog w = .ok (.int k (Int.tmod a b)) w := by
  rw [binOp_rem]
  simp [Op.intDiv, hb]
theorem tm_bd {x y : Int} (hx : 0 ≤ x) (hy : 0 < y) : 0 ≤ x.tmod y ∧ x.tmod y < y := by
  rw [Int.tmod_eq_emod_of_nonneg hx]
  exact ⟨Int.emod_nonneg _ (by omega), Int.emod_lt_of_pos _ hy⟩
theorem u64_nonneg (x : Int) : 0 ≤ IntKind.u64.wrap x := by rw [IntKind.wrap_u64]; omega
theorem tm_nat (x : Int) (n : Nat) : ∃ q : Nat, Int.tmod (IntKind.u64.wrap x) ((n : Int) + 1) = (q : Int) ∧ q ≤ n := by
  obtain ⟨h0, h1⟩ := tm_bd (u64_nonneg x) (show (0 : Int) < (n : Int) + 1 by omega)
  exact ⟨_, (Int.toNat_of_nonneg h0).symm, by omega⟩
theorem sz_take {xs : List OpA} (h : ∀ i, i < xs.length → opSz (xs.getD i op0)) (q : Nat) : ∀ i, i < (xs.take q).length → opSz ((xs.take q).getD i op0) := by
  intro i hi
  rw [List.length_take] at hi
  rw [getD_take (by omega)]
  exact h i (by omega)
theorem sz_twice {xs : List OpA} (h : ∀ i, i < xs.length → opSz (xs.getD i op0)) {q : Nat} (hq : q < xs.length) : ∀ i, i < (twice xs q).length → opSz ((twice xs q).getD i op0) := by
  intro i hi
  rw [twice_len hq] at hi
  rw [twice_get hq]
  split
  · exact h i (by omega)
  · exact h _ (by omega)
set_option maxHeartbeats 8000000 in
theorem opsBeg_any (A : Option Addr) (c : Nat) (xs : List OpA) (k : Int) (w : World) (hx : kOp.C w A xs.length xs) (hxc : xs.length ≤ c) (hn : xs.length ≤ 1048576) (hz : ∀ i, i < xs.length → opSz (xs.getD i op0)) (hk0 : -9223372036854775808 ≤ k) (hk1 : k ≤ 9223372036854775807) (hT : Tabs w) (es : List Addr) (hO : ErrsO w es) : Calls Tryd.prog 5 #[.slice A xs.length c, .int .i64 k] w fun e w' => e = .returned (.bool true) ∧ Below w.heap.size w w' := by
  have hpl : xs.length ≤ 9223372036854775807 := hx.2.1
  refine RX.enter Tryd.func5 rfl 107 rfl [(0, .slice A xs.length c), (1, .int .i64 k)] rfl (by kernel_rfl) (fun R_ hR_ => ?_)
  refine X_seq ?_
  refine X_region ?_
  refine XL_run 1 [] [(0, .slice A xs.length c), (1, .int .i64 k)] w [] (by kernel_rfl) trivial ?_
  refine XL_nil ?_
  refine X_seq ?_
  refine X_seq ?_
  refine X_region ?_
  refine XL_call 15 rfl rfl rfl ent15 [] (by kernel_rfl) (fixed_any _ (hT.below (Below.refl _ _)) es (hO.below (Below.refl _ _))) ?_
  rintro e w_1 ⟨rfl, hb_2⟩; refine ⟨_, rfl, ?_⟩
  refine XL_run 1 [] [(0, .slice A xs.length c), (1, .int .i64 k), (13, .bool false)] w_1 [] (by kernel_rfl) trivial ?_
  refine XL_nil ?_
  refine X_cond false rfl ?_
  refine X_skip ?_
  refine X_seq ?_
  refine X_seq ?_
  refine X_region ?_
  refine XL_run 1 [] [(0, .slice A xs.length c), (1, .int .i64 k), (14, .slice A xs.length c)] w_1 [] (by kernel_rfl) trivial ?_
  refine XL_call 22 rfl rfl rfl ent22 [.slice A xs.length c] (by kernel_rfl) (ocan_any A c xs w_1 (Kd.C_below hx hb_2) (by omega) hz (hT.below hb_2) es (hO.below hb_2)) ?_
  rintro e w_3 ⟨rfl, hb_4⟩; refine ⟨_, rfl, ?_⟩
  by_cases c_5 : canP xs = true
  · rw [show (canP xs : Bool) = true from by simpa using c_5]
    refine XL_run 1 [] [(0, .slice A xs.length c), (1, .int .i64 k), (16, .bool false)] w_3 [] (by kernel_rfl) trivial ?_
    refine XL_nil ?_
    refine X_cond false rfl ?_
    refine X_skip ?_
    refine X_seq ?_
    refine X_region ?_
    obtain ⟨q, hqe, hq⟩ := tm_nat k xs.length
    have hlH : (List.take q xs).length = q := by rw [List.length_take]; omega
    refine XL_run 9 [(21, .eq (.int .i64 ((xs.length : Int) + 1))), (22, .eq (.int .u64 ((xs.length : Int) + 1))), (23, .as (.int .u64 (q : Int))), (24, .eq (.int .i64 (q : Int)))] [(0, .slice A xs.length c), (1, .int .i64 (q : Int))] w_3 [Value.int .i64 (IntKind.i64.wrap ((xs.length : Int) + 1)) = Value.int .i64 ((xs.length : Int) + 1), Value.int .u64 (IntKind.u64.wrap ((xs.length : Int) + 1)) = Value.int .u64 ((xs.length : Int) + 1), RunsAs Tryd.prog [(18, .int .u64 (IntKind.u64.wrap (k))), (22, .int .u64 ((xs.length : Int) + 1))] (Go.Op.binOp Go.BinOp.rem 41 (Go.Operand.tmp 18) (Go.Operand.tmp 22) 41) 41 (.int .u64 (q : Int)) w_3, Value.int .i64 (IntKind.i64.wrap ((q : Int))) = Value.int .i64 (q : Int)] (by kernel_rfl) ⟨wr_i64 (by omega) (by omega), wr_u64 (by omega) (by omega), runs_bin rfl rfl rfl (by have h_ := run_rem (t := 41) (k := .u64) (a := (IntKind.u64.wrap (k))) (b := ((xs.length : Int) + 1)) (by omega) w_3; rwa [hqe] at h_), wr_i64 (by omega) (by omega), trivial⟩ ?_
    refine XL_nil ?_
    refine X_seq ?_
    refine X_region ?_
    have hC_6 := RX.Kd.C_take (m := q) (Kd.C_below hx (bt hb_2 hb_4)) (by first | omega | (simp; done) | (simp; omega))
    refine XL_run 4 [(27, .as (.slice A q c))] [(0, .slice A xs.length c), (1, .int .i64 (q : Int)), (5, .slice A q c)] w_3 [RunsAs Tryd.prog [(25, .slice A xs.length c), (26, .int .i64 (q : Int))] (Go.Op.slice 22 (Go.Operand.tmp 25) none (some (Go.Operand.tmp 26)) none) 22 (.slice A q c) w_3] (by kernel_rfl) ⟨runs_slice_h (h := (q : Int)) rfl rfl rfl rfl (by omega) (by omega), trivial⟩ ?_
    refine XL_nil ?_
    refine X_seq ?_
    refine X_region ?_
    refine XL_run 1 [] [(0, .slice A xs.length c), (1, .int .i64 (q : Int)), (5, .slice A q c), (28, .int .i64 (q : Int))] w_3 [] (by kernel_rfl) trivial ?_
    by_cases c_7 : (q : Int) > 0
    · refine XL_run 5 [(29, .eq (.bool true)), (33, .eq (.int .i64 ((q : Int) - 1)))] [(0, .slice A xs.length c), (1, .int .i64 (q : Int)), (5, .slice A q c), (30, .bool true), (31, .slice A q c), (33, .int .i64 ((q : Int) - 1))] w_3 [Value.bool (decide ((q : Int) > 0)) = Value.bool true, Value.int .i64 (IntKind.i64.wrap ((q : Int) - 1)) = Value.int .i64 ((q : Int) - 1)] (by kernel_rfl) ⟨congrArg Value.bool (decide_eq_true (c_7)), wr_i64 (by omega) (by omega), trivial⟩ ?_
      obtain ⟨ad_8, B_11, c_12, ha_9, hc_10, hl_13, hC_14⟩ := Kd.atOp hC_6 (i := (q : Int) - 1) (by omega) (by omega)
      replace hc_10 : CellsAt w_3 (ad_8.add (((q : Int) - 1).toNat * 7)) [.int .i64 (((List.take q xs).getD ((q : Int) - 1).toNat op0).kind), .string (((List.take q xs).getD ((q : Int) - 1).toNat op0).text), .int .i64 (((List.take q xs).getD ((q : Int) - 1).toNat op0).vk), .int .i64 (((List.take q xs).getD ((q : Int) - 1).toNat op0).vn), .string (((List.take q xs).getD ((q : Int) - 1).toNat op0).vt), .int .i64 (((List.take q xs).getD ((q : Int) - 1).toNat op0).count), .slice B_11 (((List.take q xs).getD ((q : Int) - 1).toNat op0).attrs.length) c_12] := hc_10
      replace hl_13 : ((List.take q xs).getD ((q : Int) - 1).toNat op0).attrs.length ≤ c_12 := hl_13
      replace hC_14 : kAttr.C w_3 B_11 (((List.take q xs).getD ((q : Int) - 1).toNat op0).attrs.length) ((List.take q xs).getD ((q : Int) - 1).toNat op0).attrs := hC_14
      refine XL_run 3 [(34, .idx ad_8), (36, .load (.int .i64 (((List.take q xs).getD ((q : Int) - 1).toNat op0).kind)))] [(0, .slice A xs.length c), (1, .int .i64 (q : Int)), (5, .slice A q c), (30, .bool true), (36, .int .i64 (((List.take q xs).getD ((q : Int) - 1).toNat op0).kind))] w_3 [A = some ad_8, (0 : Int) ≤ (q : Int) - 1, (q : Int) - 1 < (q : Int), LoadsAs Tryd.prog 3 (ad_8.add (((q : Int) - 1).toNat * 7)) (.int .i64 (((List.take q xs).getD ((q : Int) - 1).toNat op0).kind)) w_3] (by kernel_rfl) ⟨ha_9, (by omega), (by omega), loads1 rfl (elem_cell hc_10 0 _ rfl), trivial⟩ ?_
      by_cases c_15 : ((List.take q xs).getD ((q : Int) - 1).toNat op0).kind = 3
      · refine XL_run 6 [(37, .eq (.bool true)), (42, .eq (.int .i64 ((q : Int) - 1)))] [(0, .slice A xs.length c), (1, .int .i64 (q : Int)), (5, .slice A q c), (39, .bool true), (40, .slice A q c), (42, .int .i64 ((q : Int) - 1))] w_3 [Value.bool (((List.take q xs).getD ((q : Int) - 1).toNat op0).kind == 3) = Value.bool true, Value.int .i64 (IntKind.i64.wrap ((q : Int) - 1)) = Value.int .i64 ((q : Int) - 1)] (by kernel_rfl) ⟨congrArg Value.bool (beq_iff_eq.2 (c_15)), wr_i64 (by omega) (by omega), trivial⟩ ?_
        obtain ⟨ad_16, B_19, c_20, ha_17, hc_18, hl_21, hC_22⟩ := Kd.atOp hC_6 (i := (q : Int) - 1) (by omega) (by omega)
        replace hc_18 : CellsAt w_3 (ad_16.add (((q : Int) - 1).toNat * 7)) [.int .i64 (((List.take q xs).getD ((q : Int) - 1).toNat op0).kind), .string (((List.take q xs).getD ((q : Int) - 1).toNat op0).text), .int .i64 (((List.take q xs).getD ((q : Int) - 1).toNat op0).vk), .int .i64 (((List.take q xs).getD ((q : Int) - 1).toNat op0).vn), .string (((List.take q xs).getD ((q : Int) - 1).toNat op0).vt), .int .i64 (((List.take q xs).getD ((q : Int) - 1).toNat op0).count), .slice B_19 (((List.take q xs).getD ((q : Int) - 1).toNat op0).attrs.length) c_20] := hc_18
        replace hl_21 : ((List.take q xs).getD ((q : Int) - 1).toNat op0).attrs.length ≤ c_20 := hl_21
        replace hC_22 : kAttr.C w_3 B_19 (((List.take q xs).getD ((q : Int) - 1).toNat op0).attrs.length) ((List.take q xs).getD ((q : Int) - 1).toNat op0).attrs := hC_22
        refine XL_run 4 [(43, .idx ad_16), (45, .load (.slice B_19 (((List.take q xs).getD ((q : Int) - 1).toNat op0).attrs.length) c_20))] [(0, .slice A xs.length c), (1, .int .i64 (q : Int)), (5, .slice A q c), (39, .bool true), (46, .int .i64 (((List.take q xs).getD ((q : Int) - 1).toNat op0).attrs.length : Int))] w_3 [A = some ad_16, (0 : Int) ≤ (q : Int) - 1, (q : Int) - 1 < (q : Int), LoadsAs Tryd.prog 31 ((ad_16.add (((q : Int) - 1).toNat * 7)).add 6) (.slice B_19 (((List.take q xs).getD ((q : Int) - 1).toNat op0).attrs.length) c_20) w_3] (by kernel_rfl) ⟨ha_17, (by omega), (by omega), loads1 rfl (elem_cell hc_18 6 _ rfl), trivial⟩ ?_
        by_cases c_23 : (((List.take q xs).getD ((q : Int) - 1).toNat op0).attrs.length : Int) = 0
        · refine XL_run 3 [(47, .eq (.bool true))] [(0, .slice A xs.length c), (1, .int .i64 (q : Int)), (5, .slice A q c), (6, .bool true)] w_3 [Value.bool ((((List.take q xs).getD ((q : Int) - 1).toNat op0).attrs.length : Int) == 0) = Value.bool true] (by kernel_rfl) ⟨congrArg Value.bool (beq_iff_eq.2 (c_23)), trivial⟩ ?_
          refine XL_nil ?_
          refine X_seq ?_
          refine X_seq ?_
          refine X_region ?_
          have hzq : ((q : Int) - 1).toNat = q - 1 := by omega
          have hct := Can_take ((canP_iff xs).1 c_5) q hq
          rw [hzq] at c_15
          rw [hzq] at c_23
          have hpt : 0 < q ∧ plainR (xs.getD (q - 1) op0) := ⟨by omega, by rw [← getD_take (show q - 1 < q by omega)]; exact ⟨by omega, by omega⟩⟩
          refine XL_run 1 [] [(0, .slice A xs.length c), (1, .int .i64 (q : Int)), (6, .bool true), (49, .slice A q c)] w_3 [] (by kernel_rfl) trivial ?_
          refine XL_call 22 rfl rfl rfl ent22 [.slice A q c] (by kernel_rfl) (by have h_ := ocan_any A c (List.take q xs) w_3 (by rw [show (List.take q xs).length = q from (by rw [List.length_take]; omega)]; exact hC_6) (by omega) (sz_take hz q) (hT.below (bt hb_2 hb_4)) es (hO.below (bt hb_2 hb_4)); rw [show (List.take q xs).length = q from (by rw [List.length_take]; omega)] at h_; exact h_) ?_
          rintro e w_24 ⟨rfl, hb_25⟩; refine ⟨_, rfl, ?_⟩
          refine XL_run 1 [] [(0, .slice A xs.length c), (1, .int .i64 (q : Int)), (50, .bool (canP (List.take q xs))), (51, .bool true)] w_24 [] (by kernel_rfl) trivial ?_
          by_cases c_26 : canP (List.take q xs) = true
          · exact absurd ((canP_iff _).1 c_26) (fun h_ => hct.1 h_ hpt)
          · rw [show (canP (List.take q xs) : Bool) = false from by simpa using c_26]
            refine XL_run 1 [] [(0, .slice A xs.length c), (1, .int .i64 (q : Int)), (52, .bool false)] w_24 [] (by kernel_rfl) trivial ?_
            refine XL_nil ?_
            refine X_cond false rfl ?_
            refine X_skip ?_
            refine X_seq ?_
            refine X_seq ?_
            refine X_region ?_
            refine XL_run 3 [] [(0, .slice A xs.length c), (1, .int .i64 (q : Int)), (53, .int .i64 (q : Int)), (55, .int .i64 (xs.length : Int))] w_24 [] (by kernel_rfl) trivial ?_
            by_cases c_27 : (q : Int) = (xs.length : Int)
            · refine XL_run 1 [(56, .eq (.bool true))] [(0, .slice A xs.length c), (1, .int .i64 (q : Int)), (56, .bool true)] w_24 [Value.bool ((q : Int) == (xs.length : Int)) = Value.bool true] (by kernel_rfl) ⟨congrArg Value.bool (beq_iff_eq.2 (c_27)), trivial⟩ ?_
              refine XL_nil ?_
              refine X_cond true rfl ?_
              refine X_seq ?_
              refine X_region ?_
              refine XL_run 1 [] [(4, .bool true)] w_24 [] (by kernel_rfl) trivial ?_
              refine XL_nil ?_
              refine X_ret ?_
              refine RX.ret_ok (P := Tryd.prog) (fn := Tryd.f5) (N := 107) (R := R_) [.bool true] (by kernel_rfl) (hR_ _ _ ?_)
              exact ⟨rfl, (bt (bt hb_2 hb_4) hb_25)⟩
            · refine XL_run 1 [(56, .eq (.bool false))] [(0, .slice A xs.length c), (1, .int .i64 (q : Int)), (56, .bool false)] w_24 [Value.bool ((q : Int) == (xs.length : Int)) = Value.bool false] (by kernel_rfl) ⟨congrArg Value.bool (beq_eq_false_iff_ne.2 (c_27)), trivial⟩ ?_
              refine XL_nil ?_
              refine X_cond false rfl ?_
              refine X_skip ?_
              refine X_seq ?_
              refine X_grow [] 15 #[false, false, false, false, false, false, false, false, false, false, false, false, false, false, false] (by kernel_rfl) (by kernel_rfl) (by kernel_rfl) (fun wd_28 hb_29 hh_30 => ?_)
              have hql : q < xs.length := by omega
              have htl : (twice xs q).length = xs.length + 1 := twice_len hql
              have hdl : (List.drop q xs).length = xs.length - q := List.length_drop ..
              have hl1 : ((List.take q xs) ++ [(xs.getD q op0)]).length = q + 1 := by rw [List.length_append, hlH]; rfl
              have hC_31 := RX.Kd.C_take (m := q) (Kd.C_below hx (bt (bt (bt hb_2 hb_4) hb_25) hb_29)) (by first | omega | (simp; done) | (simp; omega))
              refine XB_run (fuel' := 10) (Below.refl _ _) [0, 1, 2, 4, 5] [(59, .as (.slice A q c))] [.slice A xs.length c, .int .i64 (q : Int), .slice A q c, .slice A xs.length c, .int .i64 (q : Int)] #[true, true, true, false, true, true, false, false, false, false, false, false, false, false, false] [(0, .slice A xs.length c), (1, .int .i64 (q : Int)), (59, .slice A q c), (61, .slice A xs.length c), (62, .int .i64 (q : Int))] (fun w_ => [RunsAs Tryd.prog [(57, .slice A xs.length c), (58, .int .i64 (q : Int))] (Go.Op.slice 22 (Go.Operand.tmp 57) none (some (Go.Operand.tmp 58)) none) 22 (.slice A q c) w_]) (fun _ _ _ _ h => h) (fun w_ => by kernel_rfl) rfl (fun w_ hC_ => ⟨runs_slice_h (h := (q : Int)) rfl rfl rfl rfl (by omega) (by omega), trivial⟩) ?_
              obtain ⟨ad_32, B_35, c_36, ha_33, hc_34, hl_37, hC_38⟩ := Kd.atOp hx (i := (q : Int)) (by omega) (by omega)
              replace hc_34 : CellsAt w (ad_32.add ((q : Int).toNat * 7)) [.int .i64 ((xs.getD q op0).kind), .string ((xs.getD q op0).text), .int .i64 ((xs.getD q op0).vk), .int .i64 ((xs.getD q op0).vn), .string ((xs.getD q op0).vt), .int .i64 ((xs.getD q op0).count), .slice B_35 ((xs.getD q op0).attrs.length) c_36] := hc_34
              replace hl_37 : (xs.getD q op0).attrs.length ≤ c_36 := hl_37
              replace hC_38 : kAttr.C w B_35 ((xs.getD q op0).attrs.length) (xs.getD q op0).attrs := hC_38
              obtain ⟨A_39, hA_40⟩ : ∃ A_, (if c = q then A else A.map (·.add (q * 7))) = A_ := ⟨_, rfl⟩
              have hC_41 : kOp.C w A_39 (xs.length - q) (xs.drop q) := by have h := RX.Kd.C_drop hx (k := q) (cap := c) (by omega) (by omega); first | (rw [← hA_40]; exact h)
              refine XB_run (fuel' := 5) (Below.refl _ _) [6, 7, 10, 11, 12] [(63, .idx ad_32), (64, .load (.agg #[.int .i64 ((xs.getD q op0).kind), .string ((xs.getD q op0).text), .int .i64 ((xs.getD q op0).vk), .int .i64 ((xs.getD q op0).vn), .string ((xs.getD q op0).vt), .int .i64 ((xs.getD q op0).count), .slice B_35 ((xs.getD q op0).attrs.length) c_36])), (69, .as (.slice A_39 (xs.length - q) (c - q)))] [.pointer (some (ad_32.add ((q : Int).toNat * 7))), .agg #[.int .i64 ((xs.getD q op0).kind), .string ((xs.getD q op0).text), .int .i64 ((xs.getD q op0).vk), .int .i64 ((xs.getD q op0).vn), .string ((xs.getD q op0).vt), .int .i64 ((xs.getD q op0).count), .slice B_35 ((xs.getD q op0).attrs.length) c_36], .slice A xs.length c, .int .i64 (q : Int), .slice A_39 (xs.length - q) (c - q)] #[true, true, true, false, true, true, true, true, false, false, true, true, true, false, false] [(0, .slice A xs.length c), (1, .int .i64 (q : Int)), (59, .slice A q c), (64, .agg #[.int .i64 ((xs.getD q op0).kind), .string ((xs.getD q op0).text), .int .i64 ((xs.getD q op0).vk), .int .i64 ((xs.getD q op0).vn), .string ((xs.getD q op0).vt), .int .i64 ((xs.getD q op0).count), .slice B_35 ((xs.getD q op0).attrs.length) c_36]), (69, .slice A_39 (xs.length - q) (c - q))] (fun w_ => [A = some ad_32, (0 : Int) ≤ (q : Int), (q : Int) < (xs.length : Int), LoadsAs Tryd.prog 33 (ad_32.add ((q : Int).toNat * 7)) (.agg #[.int .i64 ((xs.getD q op0).kind), .string ((xs.getD q op0).text), .int .i64 ((xs.getD q op0).vk), .int .i64 ((xs.getD q op0).vn), .string ((xs.getD q op0).vt), .int .i64 ((xs.getD q op0).count), .slice B_35 ((xs.getD q op0).attrs.length) c_36]) w_, RunsAs Tryd.prog [(67, .slice A xs.length c), (68, .int .i64 (q : Int))] (Go.Op.slice 22 (Go.Operand.tmp 67) (some (Go.Operand.tmp 68)) none none) 22 (.slice A_39 (xs.length - q) (c - q)) w_]) (fun _ _ _ _ h => h) (fun w_ => by kernel_rfl) rfl (fun w_ hC_ => ⟨ha_33, (by omega), (by omega), loadsE rfl rfl (cells_below hc_34 (bt (bt (bt (bt hb_2 hb_4) hb_25) hb_29) hC_)) 0 ⟨by kernel_rfl, by kernel_rfl⟩, (hA_40 ▸ runs_slice_l (h := (q : Int)) rfl rfl rfl rfl (by omega) (by omega) (by omega)), trivial⟩) ?_
              refine XB_two (fuel' := 4) 3 8 #[true, true, true, true, true, true, true, true, false, false, true, true, true, false, false] #[true, true, true, false, true, true, true, true, true, false, true, true, true, false, false] _ _ rfl rfl (by kernel_rfl) (by kernel_rfl) (by kernel_rfl) rfl ?_ ?_
              · refine XL_call 16 rfl rfl rfl ent16 [.slice A q c] (by kernel_rfl) (by have h_ := ocopied_any A c (List.take q xs) wd_28 (by rw [show (List.take q xs).length = q from (by rw [List.length_take]; omega)]; exact hC_31) (by omega) (sz_take hz q); rw [show (List.take q xs).length = q from (by rw [List.length_take]; omega)] at h_; exact h_) ?_
                rintro e w_44 ⟨A_42, c_43, rfl, hl_46, hr_47, hb_45⟩; refine ⟨_, rfl, ?_⟩
                refine XL_nil ?_
                refine ⟨hb_45, ?_⟩
                refine XB_mid (fuel' := 3) 8 #[true, true, true, true, true, true, true, true, true, false, true, true, true, false, false] _ rfl (by kernel_rfl) (by kernel_rfl) rfl ?_
                refine XL_run 1 [] [(0, .slice A xs.length c), (1, .int .i64 (q : Int)), (60, .slice A_42 q c_43), (65, .slice (some ⟨w_44.heap.size, 0, none⟩) 1 1), (69, .slice A_39 (xs.length - q) (c - q))] (w_44.alloc (.cells #[.int .i64 ((xs.getD q op0).kind), .string ((xs.getD q op0).text), .int .i64 ((xs.getD q op0).vk), .int .i64 ((xs.getD q op0).vn), .string ((xs.getD q op0).vt), .int .i64 ((xs.getD q op0).count), .slice B_35 ((xs.getD q op0).attrs.length) c_36] 33)) [] (by kernel_rfl) trivial ?_
                obtain ⟨w_48, hw_52, hb_49, hk_50, hz_51⟩ := new_world w_44 #[.int .i64 ((xs.getD q op0).kind), .string ((xs.getD q op0).text), .int .i64 ((xs.getD q op0).vk), .int .i64 ((xs.getD q op0).vn), .string ((xs.getD q op0).vt), .int .i64 ((xs.getD q op0).count), .slice B_35 ((xs.getD q op0).attrs.length) c_36] 33
                rw [hw_52]
                refine XL_nil ?_
                refine ⟨(bt hb_45 hb_49), ?_⟩
                refine XB_mid (fuel' := 2) 9 #[true, true, true, true, true, true, true, true, true, true, true, true, true, false, false] _ rfl (by kernel_rfl) (by kernel_rfl) rfl ?_
                have hR_53 := Kd.R_litB (kRaw 7) (W := w_44) (e := 33) (cs := #[.int .i64 ((xs.getD q op0).kind), .string ((xs.getD q op0).text), .int .i64 ((xs.getD q op0).vk), .int .i64 ((xs.getD q op0).vn), .string ((xs.getD q op0).vt), .int .i64 ((xs.getD q op0).count), .slice B_35 ((xs.getD q op0).attrs.length) c_36]) [[.int .i64 ((xs.getD q op0).kind), .string ((xs.getD q op0).text), .int .i64 ((xs.getD q op0).vk), .int .i64 ((xs.getD q op0).vn), .string ((xs.getD q op0).vt), .int .i64 ((xs.getD q op0).count), .slice B_35 ((xs.getD q op0).attrs.length) c_36]] hk_50 (raw1 _ rfl (by kernel_rfl)) (Nat.le_of_ble_eq_true (by kernel_rfl))
                refine XL_appendMix (d := kOp) (W0 := wd_28) (c' := 1) (m := 1) op0 rfl rfl rfl 33 (.agg #[.int .i64 0, .string ByteArray.empty, .int .i64 0, .int .i64 0, .string ByteArray.empty, .int .i64 0, .slice none 0 0]) 88 Tryd.underlying22 info33 rfl (by decide) (by omega) (List.take q xs) ([(xs.getD q op0)]) [[.int .i64 ((xs.getD q op0).kind), .string ((xs.getD q op0).text), .int .i64 ((xs.getD q op0).vk), .int .i64 ((xs.getD q op0).vn), .string ((xs.getD q op0).vt), .int .i64 ((xs.getD q op0).count), .slice B_35 ((xs.getD q op0).attrs.length) c_36]] (by kernel_rfl) (Mix.of_R (Kd.R_below hr_47 hb_49)) (Kd.R_C hR_53) rfl (fun i_ hi_ => by have h_ : i_ = 0 := (by omega); subst h_; exact (kOp_K_of (x := xs.getD q op0) hl_37 (Kd.C_below hC_38 (bt (bt (bt hb_2 hb_4) hb_25) hb_29)))) ((bt hb_45 hb_49)).size (by omega) ?_
                intro A_54 c_55 w_56 hm_57 hg_58 hl_59
                have hB_61 : Below wd_28.heap.size wd_28 w_56 := (bgo (bt hb_45 hb_49) hg_58 hl_59 (Nat.le_refl _))
                have hC_60 : kOp.C w_56 A_54 ((List.take q xs) ++ [(xs.getD q op0)]).length ((List.take q xs) ++ [(xs.getD q op0)]) := Mix.C hB_61 hm_57
                refine XL_nil ?_
                refine ⟨hB_61, ?_⟩
                refine XB_mid (fuel' := 1) 13 #[true, true, true, true, true, true, true, true, true, true, true, true, true, true, false] _ rfl (by kernel_rfl) (by kernel_rfl) rfl ?_
                obtain ⟨vs_62, hC_63, hK_64⟩ := Kd.C_raw (d := kOp) op0 (Kd.C_below hC_41 (bt (bt (bt hb_2 hb_4) hb_25) hb_29))
                refine XL_appendMix (d := kOp) (W0 := wd_28) (c' := (c - q)) (m := (xs.length - q)) op0 rfl rfl rfl 33 (.agg #[.int .i64 0, .string ByteArray.empty, .int .i64 0, .int .i64 0, .string ByteArray.empty, .int .i64 0, .slice none 0 0]) 88 Tryd.underlying22 info33 rfl (by decide) (by omega) ((List.take q xs) ++ [(xs.getD q op0)]) (xs.drop q) vs_62 (by kernel_rfl) hm_57 (Kd.C_below hC_63 hB_61) hdl hK_64 (hB_61).size (by omega) ?_
                intro A_65 c_66 w_67 hm_68 hg_69 hl_70
                have hC_71 : kOp.C w_67 A_65 (((List.take q xs) ++ [(xs.getD q op0)]) ++ (xs.drop q)).length (((List.take q xs) ++ [(xs.getD q op0)]) ++ (xs.drop q)) := Mix.C (bgo hB_61 hg_69 hl_70 (Nat.le_refl _)) hm_68
                refine XL_nil ?_
                refine ⟨(bgo hB_61 hg_69 hl_70 (Nat.le_refl _)), ?_⟩
                refine XB_run (fuel' := 0) (bgo hB_61 hg_69 hl_70 (Nat.le_refl _)) [14] [] [.slice A_65 ((((List.take q xs) ++ [(xs.getD q op0)]) ++ (xs.drop q)).length) c_66] #[true, true, true, true, true, true, true, true, true, true, true, true, true, true, true] [(0, .slice A xs.length c), (1, .int .i64 (q : Int)), (7, .slice A_65 ((((List.take q xs) ++ [(xs.getD q op0)]) ++ (xs.drop q)).length) c_66)] (fun w_ => []) (fun _ _ _ _ h => h) (fun w_ => by kernel_rfl) rfl (fun w_ hC_ => trivial) ?_
                refine XB_done (by kernel_rfl) ?_
                refine X_seq ?_
                refine X_region ?_
                have htwd : (((List.take q xs) ++ [(xs.getD q op0)]) ++ (xs.drop q)) = twice xs q := rfl
                have hcw := Can_twice ((canP_iff xs).1 c_5) q hql
                have hpw := lenP_pos (((List.take q xs) ++ [(xs.getD q op0)]) ++ (xs.drop q))
                rw [← htwd] at hcw htl
                have hck := Can_check ((canP_iff xs).1 c_5) hql
                refine XL_run 1 [] [(0, .slice A xs.length c), (1, .int .i64 (q : Int)), (7, .slice A_65 ((((List.take q xs) ++ [(xs.getD q op0)]) ++ (xs.drop q)).length) c_66), (72, .slice A_65 ((((List.take q xs) ++ [(xs.getD q op0)]) ++ (xs.drop q)).length) c_66)] w_67 [] (by kernel_rfl) trivial ?_
                have hB_72 : Below w.heap.size w w_67 := (bgo (bgo (bt (bt (bt (bt (bt hb_2 hb_4) hb_25) hb_29) hb_45) hb_49) hg_58 hl_59 ((bt (bt (bt hb_2 hb_4) hb_25) hb_29)).size) hg_69 hl_70 ((bt (bt (bt hb_2 hb_4) hb_25) hb_29)).size)
                refine XL_call 20 rfl rfl rfl ent20 [.slice A_65 ((((List.take q xs) ++ [(xs.getD q op0)]) ++ (xs.drop q)).length) c_66] (by kernel_rfl) (olen_any A_65 c_66 (((List.take q xs) ++ [(xs.getD q op0)]) ++ (xs.drop q)) w_67 hC_71 (by omega) (sz_twice hz hql) (hT.below hB_72) es (hO.below hB_72)) ?_
                rintro e w_73 ⟨rfl, hb_74⟩; refine ⟨_, rfl, ?_⟩
                refine XL_run 7 [] [(0, .slice A xs.length c), (1, .int .i64 (q : Int)), (7, .slice A_65 ((((List.take q xs) ++ [(xs.getD q op0)]) ++ (xs.drop q)).length) c_66), (8, .int .i64 ((lenP (((List.take q xs) ++ [(xs.getD q op0)]) ++ (xs.drop q))).1)), (9, .int .i64 ((lenP (((List.take q xs) ++ [(xs.getD q op0)]) ++ (xs.drop q))).2.1)), (10, errV es ((lenP (((List.take q xs) ++ [(xs.getD q op0)]) ++ (xs.drop q))).2.2))] w_73 [] (by kernel_rfl) trivial ?_
                refine XL_nil ?_
                refine X_seq ?_
                refine X_region ?_
                refine XL_run 1 [] [(0, .slice A xs.length c), (1, .int .i64 (q : Int)), (7, .slice A_65 ((((List.take q xs) ++ [(xs.getD q op0)]) ++ (xs.drop q)).length) c_66), (8, .int .i64 ((lenP (((List.take q xs) ++ [(xs.getD q op0)]) ++ (xs.drop q))).1)), (9, .int .i64 ((lenP (((List.take q xs) ++ [(xs.getD q op0)]) ++ (xs.drop q))).2.1)), (77, errV es ((lenP (((List.take q xs) ++ [(xs.getD q op0)]) ++ (xs.drop q))).2.2))] w_73 [] (by kernel_rfl) trivial ?_
                by_cases c_75 : (lenP (((List.take q xs) ++ [(xs.getD q op0)]) ++ (xs.drop q))).2.2 = 0
                · rw [show errV es ((lenP (((List.take q xs) ++ [(xs.getD q op0)]) ++ (xs.drop q))).2.2) = .nilIface from by rw [c_75]; rfl]
                  refine XL_run 10 [(81, .eq (.bool true)), (85, .eq (.bool true))] [(0, .slice A xs.length c), (1, .int .i64 (q : Int)), (7, .slice A_65 ((((List.take q xs) ++ [(xs.getD q op0)]) ++ (xs.drop q)).length) c_66), (11, .bool true)] w_73 [Value.bool (decide ((lenP (((List.take q xs) ++ [(xs.getD q op0)]) ++ (xs.drop q))).1 ≥ 0)) = Value.bool true, Value.bool (decide ((lenP (((List.take q xs) ++ [(xs.getD q op0)]) ++ (xs.drop q))).2.1 ≥ 0)) = Value.bool true] (by kernel_rfl) ⟨congrArg Value.bool (decide_eq_true ((by omega))), congrArg Value.bool (decide_eq_true ((by omega))), trivial⟩ ?_
                  refine XL_nil ?_
                  refine X_seq ?_
                  refine X_region ?_
                  refine XL_run 1 [] [(0, .slice A xs.length c), (1, .int .i64 (q : Int)), (11, .bool true), (87, .slice A_65 ((((List.take q xs) ++ [(xs.getD q op0)]) ++ (xs.drop q)).length) c_66)] w_73 [] (by kernel_rfl) trivial ?_
                  refine XL_call 22 rfl rfl rfl ent22 [.slice A_65 ((((List.take q xs) ++ [(xs.getD q op0)]) ++ (xs.drop q)).length) c_66] (by kernel_rfl) (ocan_any A_65 c_66 (((List.take q xs) ++ [(xs.getD q op0)]) ++ (xs.drop q)) w_73 (Kd.C_below hC_71 hb_74) (by omega) (sz_twice hz hql) (hT.below (bt hB_72 hb_74)) es (hO.below (bt hB_72 hb_74))) ?_
                  rintro e w_76 ⟨rfl, hb_77⟩; refine ⟨_, rfl, ?_⟩
                  refine XL_run 4 [] [(0, .slice A xs.length c), (1, .int .i64 (q : Int)), (88, .bool (canP (((List.take q xs) ++ [(xs.getD q op0)]) ++ (xs.drop q)))), (90, .bool true), (91, .slice A xs.length c), (92, .int .i64 (q : Int))] w_76 [] (by kernel_rfl) trivial ?_
                  obtain ⟨ad_78, B_81, c_82, ha_79, hc_80, hl_83, hC_84⟩ := Kd.atOp hx (i := (q : Int)) (by omega) (by omega)
                  replace hc_80 : CellsAt w (ad_78.add ((q : Int).toNat * 7)) [.int .i64 ((xs.getD q op0).kind), .string ((xs.getD q op0).text), .int .i64 ((xs.getD q op0).vk), .int .i64 ((xs.getD q op0).vn), .string ((xs.getD q op0).vt), .int .i64 ((xs.getD q op0).count), .slice B_81 ((xs.getD q op0).attrs.length) c_82] := hc_80
                  replace hl_83 : (xs.getD q op0).attrs.length ≤ c_82 := hl_83
                  replace hC_84 : kAttr.C w B_81 ((xs.getD q op0).attrs.length) (xs.getD q op0).attrs := hC_84
                  refine XL_run 3 [(93, .idx ad_78), (95, .load (.int .i64 ((xs.getD q op0).kind)))] [(0, .slice A xs.length c), (1, .int .i64 (q : Int)), (88, .bool (canP (((List.take q xs) ++ [(xs.getD q op0)]) ++ (xs.drop q)))), (90, .bool true), (95, .int .i64 ((xs.getD q op0).kind))] w_76 [A = some ad_78, (0 : Int) ≤ (q : Int), (q : Int) < (xs.length : Int), LoadsAs Tryd.prog 3 (ad_78.add ((q : Int).toNat * 7)) (.int .i64 ((xs.getD q op0).kind)) w_76] (by kernel_rfl) ⟨ha_79, (by omega), (by omega), loads1 rfl (elem_cell (cells_below hc_80 (bt (bt hB_72 hb_74) hb_77)) 0 _ rfl), trivial⟩ ?_
                  by_cases c_85 : (xs.getD q op0).kind = 2
                  · refine XL_run 2 [(96, .eq (.bool true))] [(0, .slice A xs.length c), (1, .int .i64 (q : Int)), (88, .bool (canP (((List.take q xs) ++ [(xs.getD q op0)]) ++ (xs.drop q)))), (97, .bool true)] w_76 [Value.bool ((xs.getD q op0).kind == 2) = Value.bool true] (by kernel_rfl) ⟨congrArg Value.bool (beq_iff_eq.2 (c_85)), trivial⟩ ?_
                    by_cases c_86 : canP (((List.take q xs) ++ [(xs.getD q op0)]) ++ (xs.drop q)) = true
                    · rw [show (canP (((List.take q xs) ++ [(xs.getD q op0)]) ++ (xs.drop q)) : Bool) = true from by simpa using c_86]
                      refine XL_run 4 [] [(99, .bool true), (100, .slice A xs.length c), (101, .int .i64 (q : Int))] w_76 [] (by kernel_rfl) trivial ?_
                      obtain ⟨ad_87, B_90, c_91, ha_88, hc_89, hl_92, hC_93⟩ := Kd.atOp hx (i := (q : Int)) (by omega) (by omega)
                      replace hc_89 : CellsAt w (ad_87.add ((q : Int).toNat * 7)) [.int .i64 ((xs.getD q op0).kind), .string ((xs.getD q op0).text), .int .i64 ((xs.getD q op0).vk), .int .i64 ((xs.getD q op0).vn), .string ((xs.getD q op0).vt), .int .i64 ((xs.getD q op0).count), .slice B_90 ((xs.getD q op0).attrs.length) c_91] := hc_89
                      replace hl_92 : (xs.getD q op0).attrs.length ≤ c_91 := hl_92
                      replace hC_93 : kAttr.C w B_90 ((xs.getD q op0).attrs.length) (xs.getD q op0).attrs := hC_93
                      refine XL_run 2 [(102, .idx ad_87), (103, .load (.agg #[.int .i64 ((xs.getD q op0).kind), .string ((xs.getD q op0).text), .int .i64 ((xs.getD q op0).vk), .int .i64 ((xs.getD q op0).vn), .string ((xs.getD q op0).vt), .int .i64 ((xs.getD q op0).count), .slice B_90 ((xs.getD q op0).attrs.length) c_91]))] [(99, .bool true), (103, .agg #[.int .i64 ((xs.getD q op0).kind), .string ((xs.getD q op0).text), .int .i64 ((xs.getD q op0).vk), .int .i64 ((xs.getD q op0).vn), .string ((xs.getD q op0).vt), .int .i64 ((xs.getD q op0).count), .slice B_90 ((xs.getD q op0).attrs.length) c_91])] w_76 [A = some ad_87, (0 : Int) ≤ (q : Int), (q : Int) < (xs.length : Int), LoadsAs Tryd.prog 33 (ad_87.add ((q : Int).toNat * 7)) (.agg #[.int .i64 ((xs.getD q op0).kind), .string ((xs.getD q op0).text), .int .i64 ((xs.getD q op0).vk), .int .i64 ((xs.getD q op0).vn), .string ((xs.getD q op0).vt), .int .i64 ((xs.getD q op0).count), .slice B_90 ((xs.getD q op0).attrs.length) c_91]) w_76] (by kernel_rfl) ⟨ha_88, (by omega), (by omega), loadsE rfl rfl (cells_below hc_89 (bt (bt hB_72 hb_74) hb_77)) 0 ⟨by kernel_rfl, by kernel_rfl⟩, trivial⟩ ?_
                      refine XL_call 18 rfl rfl rfl ent18 [.agg #[.int .i64 ((xs.getD q op0).kind), .string ((xs.getD q op0).text), .int .i64 ((xs.getD q op0).vk), .int .i64 ((xs.getD q op0).vn), .string ((xs.getD q op0).vt), .int .i64 ((xs.getD q op0).count), .slice B_90 ((xs.getD q op0).attrs.length) c_91]] (by kernel_rfl) (ocheck_any (xs.getD q op0) _ _ _ (Kd.C_below hC_93 (bt (bt hB_72 hb_74) hb_77)) (hz q hql) (hT.below (bt (bt hB_72 hb_74) hb_77)) es (hO.below (bt (bt hB_72 hb_74) hb_77))) ?_
                      rintro e w_94 ⟨rfl, hb_95⟩; refine ⟨_, rfl, ?_⟩
                      by_cases c_96 : (pErr (xs.getD q op0)) = 0
                      · rw [show errV es (pErr (xs.getD q op0)) = .nilIface from by rw [c_96]; rfl]
                        refine XL_run 3 [] [(4, .bool true)] w_94 [] (by kernel_rfl) trivial ?_
                        refine XL_nil ?_
                        refine X_ret ?_
                        refine RX.ret_ok (P := Tryd.prog) (fn := Tryd.f5) (N := 107) (R := R_) [.bool true] (by kernel_rfl) (hR_ _ _ ?_)
                        exact ⟨rfl, (bt (bt (bt hB_72 hb_74) hb_77) hb_95)⟩
                      · exact absurd hck c_96
                    · exact absurd ((canP_iff _).2 (hcw.2 ⟨c_75, c_85⟩)) c_86
                  · refine XL_run 2 [(96, .eq (.bool false))] [(0, .slice A xs.length c), (1, .int .i64 (q : Int)), (88, .bool (canP (((List.take q xs) ++ [(xs.getD q op0)]) ++ (xs.drop q)))), (97, .bool false)] w_76 [Value.bool ((xs.getD q op0).kind == 2) = Value.bool false] (by kernel_rfl) ⟨congrArg Value.bool (beq_eq_false_iff_ne.2 (c_85)), trivial⟩ ?_
                    by_cases c_97 : canP (((List.take q xs) ++ [(xs.getD q op0)]) ++ (xs.drop q)) = true
                    · exfalso
                      have h1_ := hcw.1 ((canP_iff _).1 c_97)
                      exact c_85 h1_.2
                    · rw [show (canP (((List.take q xs) ++ [(xs.getD q op0)]) ++ (xs.drop q)) : Bool) = false from by simpa using c_97]
                      refine XL_run 4 [] [(99, .bool true), (100, .slice A xs.length c), (101, .int .i64 (q : Int))] w_76 [] (by kernel_rfl) trivial ?_
                      obtain ⟨ad_98, B_101, c_102, ha_99, hc_100, hl_103, hC_104⟩ := Kd.atOp hx (i := (q : Int)) (by omega) (by omega)
                      replace hc_100 : CellsAt w (ad_98.add ((q : Int).toNat * 7)) [.int .i64 ((xs.getD q op0).kind), .string ((xs.getD q op0).text), .int .i64 ((xs.getD q op0).vk), .int .i64 ((xs.getD q op0).vn), .string ((xs.getD q op0).vt), .int .i64 ((xs.getD q op0).count), .slice B_101 ((xs.getD q op0).attrs.length) c_102] := hc_100
                      replace hl_103 : (xs.getD q op0).attrs.length ≤ c_102 := hl_103
                      replace hC_104 : kAttr.C w B_101 ((xs.getD q op0).attrs.length) (xs.getD q op0).attrs := hC_104
                      refine XL_run 2 [(102, .idx ad_98), (103, .load (.agg #[.int .i64 ((xs.getD q op0).kind), .string ((xs.getD q op0).text), .int .i64 ((xs.getD q op0).vk), .int .i64 ((xs.getD q op0).vn), .string ((xs.getD q op0).vt), .int .i64 ((xs.getD q op0).count), .slice B_101 ((xs.getD q op0).attrs.length) c_102]))] [(99, .bool true), (103, .agg #[.int .i64 ((xs.getD q op0).kind), .string ((xs.getD q op0).text), .int .i64 ((xs.getD q op0).vk), .int .i64 ((xs.getD q op0).vn), .string ((xs.getD q op0).vt), .int .i64 ((xs.getD q op0).count), .slice B_101 ((xs.getD q op0).attrs.length) c_102])] w_76 [A = some ad_98, (0 : Int) ≤ (q : Int), (q : Int) < (xs.length : Int), LoadsAs Tryd.prog 33 (ad_98.add ((q : Int).toNat * 7)) (.agg #[.int .i64 ((xs.getD q op0).kind), .string ((xs.getD q op0).text), .int .i64 ((xs.getD q op0).vk), .int .i64 ((xs.getD q op0).vn), .string ((xs.getD q op0).vt), .int .i64 ((xs.getD q op0).count), .slice B_101 ((xs.getD q op0).attrs.length) c_102]) w_76] (by kernel_rfl) ⟨ha_99, (by omega), (by omega), loadsE rfl rfl (cells_below hc_100 (bt (bt hB_72 hb_74) hb_77)) 0 ⟨by kernel_rfl, by kernel_rfl⟩, trivial⟩ ?_
                      refine XL_call 18 rfl rfl rfl ent18 [.agg #[.int .i64 ((xs.getD q op0).kind), .string ((xs.getD q op0).text), .int .i64 ((xs.getD q op0).vk), .int .i64 ((xs.getD q op0).vn), .string ((xs.getD q op0).vt), .int .i64 ((xs.getD q op0).count), .slice B_101 ((xs.getD q op0).attrs.length) c_102]] (by kernel_rfl) (ocheck_any (xs.getD q op0) _ _ _ (Kd.C_below hC_104 (bt (bt hB_72 hb_74) hb_77)) (hz q hql) (hT.below (bt (bt hB_72 hb_74) hb_77)) es (hO.below (bt (bt hB_72 hb_74) hb_77))) ?_
                      rintro e w_105 ⟨rfl, hb_106⟩; refine ⟨_, rfl, ?_⟩
                      by_cases c_107 : (pErr (xs.getD q op0)) = 0
                      · rw [show errV es (pErr (xs.getD q op0)) = .nilIface from by rw [c_107]; rfl]
                        refine XL_run 3 [] [(4, .bool true)] w_105 [] (by kernel_rfl) trivial ?_
                        refine XL_nil ?_
                        refine X_ret ?_
                        refine RX.ret_ok (P := Tryd.prog) (fn := Tryd.f5) (N := 107) (R := R_) [.bool true] (by kernel_rfl) (hR_ _ _ ?_)
                        exact ⟨rfl, (bt (bt (bt hB_72 hb_74) hb_77) hb_106)⟩
                      · exact absurd hck c_107
                · rw [errV_pos es ((lenP (((List.take q xs) ++ [(xs.getD q op0)]) ++ (xs.drop q))).2.2) (Nat.pos_of_ne_zero c_75)]
                  refine XL_run 10 [] [(0, .slice A xs.length c), (1, .int .i64 (q : Int)), (7, .slice A_65 ((((List.take q xs) ++ [(xs.getD q op0)]) ++ (xs.drop q)).length) c_66), (11, .bool false)] w_73 [] (by kernel_rfl) trivial ?_
                  refine XL_nil ?_
                  refine X_seq ?_
                  refine X_region ?_
                  refine XL_run 1 [] [(0, .slice A xs.length c), (1, .int .i64 (q : Int)), (11, .bool false), (87, .slice A_65 ((((List.take q xs) ++ [(xs.getD q op0)]) ++ (xs.drop q)).length) c_66)] w_73 [] (by kernel_rfl) trivial ?_
                  refine XL_call 22 rfl rfl rfl ent22 [.slice A_65 ((((List.take q xs) ++ [(xs.getD q op0)]) ++ (xs.drop q)).length) c_66] (by kernel_rfl) (ocan_any A_65 c_66 (((List.take q xs) ++ [(xs.getD q op0)]) ++ (xs.drop q)) w_73 (Kd.C_below hC_71 hb_74) (by omega) (sz_twice hz hql) (hT.below (bt hB_72 hb_74)) es (hO.below (bt hB_72 hb_74))) ?_
                  rintro e w_108 ⟨rfl, hb_109⟩; refine ⟨_, rfl, ?_⟩
                  refine XL_run 9 [] [(0, .slice A xs.length c), (1, .int .i64 (q : Int)), (88, .bool (canP (((List.take q xs) ++ [(xs.getD q op0)]) ++ (xs.drop q)))), (97, .bool false)] w_108 [] (by kernel_rfl) trivial ?_
                  by_cases c_110 : canP (((List.take q xs) ++ [(xs.getD q op0)]) ++ (xs.drop q)) = true
                  · exact absurd (hcw.1 ((canP_iff _).1 c_110)).1 c_75
                  · rw [show (canP (((List.take q xs) ++ [(xs.getD q op0)]) ++ (xs.drop q)) : Bool) = false from by simpa using c_110]
                    refine XL_run 4 [] [(99, .bool true), (100, .slice A xs.length c), (101, .int .i64 (q : Int))] w_108 [] (by kernel_rfl) trivial ?_
                    obtain ⟨ad_111, B_114, c_115, ha_112, hc_113, hl_116, hC_117⟩ := Kd.atOp hx (i := (q : Int)) (by omega) (by omega)
                    replace hc_113 : CellsAt w (ad_111.add ((q : Int).toNat * 7)) [.int .i64 ((xs.getD q op0).kind), .string ((xs.getD q op0).text), .int .i64 ((xs.getD q op0).vk), .int .i64 ((xs.getD q op0).vn), .string ((xs.getD q op0).vt), .int .i64 ((xs.getD q op0).count), .slice B_114 ((xs.getD q op0).attrs.length) c_115] := hc_113
                    replace hl_116 : (xs.getD q op0).attrs.length ≤ c_115 := hl_116
                    replace hC_117 : kAttr.C w B_114 ((xs.getD q op0).attrs.length) (xs.getD q op0).attrs := hC_117
                    refine XL_run 2 [(102, .idx ad_111), (103, .load (.agg #[.int .i64 ((xs.getD q op0).kind), .string ((xs.getD q op0).text), .int .i64 ((xs.getD q op0).vk), .int .i64 ((xs.getD q op0).vn), .string ((xs.getD q op0).vt), .int .i64 ((xs.getD q op0).count), .slice B_114 ((xs.getD q op0).attrs.length) c_115]))] [(99, .bool true), (103, .agg #[.int .i64 ((xs.getD q op0).kind), .string ((xs.getD q op0).text), .int .i64 ((xs.getD q op0).vk), .int .i64 ((xs.getD q op0).vn), .string ((xs.getD q op0).vt), .int .i64 ((xs.getD q op0).count), .slice B_114 ((xs.getD q op0).attrs.length) c_115])] w_108 [A = some ad_111, (0 : Int) ≤ (q : Int), (q : Int) < (xs.length : Int), LoadsAs Tryd.prog 33 (ad_111.add ((q : Int).toNat * 7)) (.agg #[.int .i64 ((xs.getD q op0).kind), .string ((xs.getD q op0).text), .int .i64 ((xs.getD q op0).vk), .int .i64 ((xs.getD q op0).vn), .string ((xs.getD q op0).vt), .int .i64 ((xs.getD q op0).count), .slice B_114 ((xs.getD q op0).attrs.length) c_115]) w_108] (by kernel_rfl) ⟨ha_112, (by omega), (by omega), loadsE rfl rfl (cells_below hc_113 (bt (bt hB_72 hb_74) hb_109)) 0 ⟨by kernel_rfl, by kernel_rfl⟩, trivial⟩ ?_
                    refine XL_call 18 rfl rfl rfl ent18 [.agg #[.int .i64 ((xs.getD q op0).kind), .string ((xs.getD q op0).text), .int .i64 ((xs.getD q op0).vk), .int .i64 ((xs.getD q op0).vn), .string ((xs.getD q op0).vt), .int .i64 ((xs.getD q op0).count), .slice B_114 ((xs.getD q op0).attrs.length) c_115]] (by kernel_rfl) (ocheck_any (xs.getD q op0) _ _ _ (Kd.C_below hC_117 (bt (bt hB_72 hb_74) hb_109)) (hz q hql) (hT.below (bt (bt hB_72 hb_74) hb_109)) es (hO.below (bt (bt hB_72 hb_74) hb_109))) ?_
                    rintro e w_118 ⟨rfl, hb_119⟩; refine ⟨_, rfl, ?_⟩
                    by_cases c_120 : (pErr (xs.getD q op0)) = 0
                    · rw [show errV es (pErr (xs.getD q op0)) = .nilIface from by rw [c_120]; rfl]
                      refine XL_run 3 [] [(4, .bool true)] w_118 [] (by kernel_rfl) trivial ?_
                      refine XL_nil ?_
                      refine X_ret ?_
                      refine RX.ret_ok (P := Tryd.prog) (fn := Tryd.f5) (N := 107) (R := R_) [.bool true] (by kernel_rfl) (hR_ _ _ ?_)
                      exact ⟨rfl, (bt (bt (bt hB_72 hb_74) hb_109) hb_119)⟩
                    · exact absurd hck c_120
              · refine XL_run 1 [] [(0, .slice A xs.length c), (1, .int .i64 (q : Int)), (59, .slice A q c), (65, .slice (some ⟨wd_28.heap.size, 0, none⟩) 1 1), (69, .slice A_39 (xs.length - q) (c - q))] (wd_28.alloc (.cells #[.int .i64 ((xs.getD q op0).kind), .string ((xs.getD q op0).text), .int .i64 ((xs.getD q op0).vk), .int .i64 ((xs.getD q op0).vn), .string ((xs.getD q op0).vt), .int .i64 ((xs.getD q op0).count), .slice B_35 ((xs.getD q op0).attrs.length) c_36] 33)) [] (by kernel_rfl) trivial ?_
                obtain ⟨w_121, hw_125, hb_122, hk_123, hz_124⟩ := new_world wd_28 #[.int .i64 ((xs.getD q op0).kind), .string ((xs.getD q op0).text), .int .i64 ((xs.getD q op0).vk), .int .i64 ((xs.getD q op0).vn), .string ((xs.getD q op0).vt), .int .i64 ((xs.getD q op0).count), .slice B_35 ((xs.getD q op0).attrs.length) c_36] 33
                rw [hw_125]
                refine XL_nil ?_
                refine ⟨hb_122, ?_⟩
                refine XB_mid (fuel' := 3) 3 #[true, true, true, true, true, true, true, true, true, false, true, true, true, false, false] _ rfl (by kernel_rfl) (by kernel_rfl) rfl ?_
                refine XL_call 16 rfl rfl rfl ent16 [.slice A q c] (by kernel_rfl) (by have h_ := ocopied_any A c (List.take q xs) w_121 (by rw [show (List.take q xs).length = q from (by rw [List.length_take]; omega)]; exact (Kd.C_below hC_31 hb_122)) (by omega) (sz_take hz q); rw [show (List.take q xs).length = q from (by rw [List.length_take]; omega)] at h_; exact h_) ?_
                rintro e w_128 ⟨A_126, c_127, rfl, hl_130, hr_131, hb_129⟩; refine ⟨_, rfl, ?_⟩
                refine XL_nil ?_
                refine ⟨(bt hb_122 hb_129), ?_⟩
                refine XB_mid (fuel' := 2) 9 #[true, true, true, true, true, true, true, true, true, true, true, true, true, false, false] _ rfl (by kernel_rfl) (by kernel_rfl) rfl ?_
                have hB_132 : Below w.heap.size w w_121 := (bt (bt (bt (bt hb_2 hb_4) hb_25) hb_29) hb_122)
                have hR_133 := Kd.R_litB (kRaw 7) (W := wd_28) (e := 33) (cs := #[.int .i64 ((xs.getD q op0).kind), .string ((xs.getD q op0).text), .int .i64 ((xs.getD q op0).vk), .int .i64 ((xs.getD q op0).vn), .string ((xs.getD q op0).vt), .int .i64 ((xs.getD q op0).count), .slice B_35 ((xs.getD q op0).attrs.length) c_36]) [[.int .i64 ((xs.getD q op0).kind), .string ((xs.getD q op0).text), .int .i64 ((xs.getD q op0).vk), .int .i64 ((xs.getD q op0).vn), .string ((xs.getD q op0).vt), .int .i64 ((xs.getD q op0).count), .slice B_35 ((xs.getD q op0).attrs.length) c_36]] hk_123 (raw1 _ rfl (by kernel_rfl)) (Nat.le_of_ble_eq_true (by kernel_rfl))
                refine XL_appendMix (d := kOp) (W0 := w_121) (c' := 1) (m := 1) op0 rfl rfl rfl 33 (.agg #[.int .i64 0, .string ByteArray.empty, .int .i64 0, .int .i64 0, .string ByteArray.empty, .int .i64 0, .slice none 0 0]) 88 Tryd.underlying22 info33 rfl (by decide) (by omega) (List.take q xs) ([(xs.getD q op0)]) [[.int .i64 ((xs.getD q op0).kind), .string ((xs.getD q op0).text), .int .i64 ((xs.getD q op0).vk), .int .i64 ((xs.getD q op0).vn), .string ((xs.getD q op0).vt), .int .i64 ((xs.getD q op0).count), .slice B_35 ((xs.getD q op0).attrs.length) c_36]] (by kernel_rfl) (Mix.of_R hr_131) (Kd.C_below (Kd.R_C hR_133) hb_129) rfl (fun i_ hi_ => by have h_ : i_ = 0 := (by omega); subst h_; exact (kOp_K_of (x := xs.getD q op0) hl_37 (Kd.C_below hC_38 hB_132))) (hb_129).size (by omega) ?_
                intro A_134 c_135 w_136 hm_137 hg_138 hl_139
                have hB_141 : Below w_121.heap.size w_121 w_136 := (bgo hb_129 hg_138 hl_139 (Nat.le_refl _))
                have hC_140 : kOp.C w_136 A_134 ((List.take q xs) ++ [(xs.getD q op0)]).length ((List.take q xs) ++ [(xs.getD q op0)]) := Mix.C hB_141 hm_137
                refine XL_nil ?_
                have hB_142 : Below wd_28.heap.size wd_28 w_136 := (bgo (bt hb_122 hb_129) hg_138 hl_139 (hb_122).size)
                refine ⟨hB_142, ?_⟩
                refine XB_mid (fuel' := 1) 13 #[true, true, true, true, true, true, true, true, true, true, true, true, true, true, false] _ rfl (by kernel_rfl) (by kernel_rfl) rfl ?_
                obtain ⟨vs_143, hC_144, hK_145⟩ := Kd.C_raw (d := kOp) op0 (Kd.C_below hC_41 hB_132)
                refine XL_appendMix (d := kOp) (W0 := w_121) (c' := (c - q)) (m := (xs.length - q)) op0 rfl rfl rfl 33 (.agg #[.int .i64 0, .string ByteArray.empty, .int .i64 0, .int .i64 0, .string ByteArray.empty, .int .i64 0, .slice none 0 0]) 88 Tryd.underlying22 info33 rfl (by decide) (by omega) ((List.take q xs) ++ [(xs.getD q op0)]) (xs.drop q) vs_143 (by kernel_rfl) hm_137 (Kd.C_below hC_144 hB_141) hdl hK_145 (hB_141).size (by omega) ?_
                intro A_146 c_147 w_148 hm_149 hg_150 hl_151
                have hB_153 : Below w_121.heap.size w_121 w_148 := (bgo hB_141 hg_150 hl_151 (Nat.le_refl _))
                have hC_152 : kOp.C w_148 A_146 (((List.take q xs) ++ [(xs.getD q op0)]) ++ (xs.drop q)).length (((List.take q xs) ++ [(xs.getD q op0)]) ++ (xs.drop q)) := Mix.C hB_153 hm_149
                refine XL_nil ?_
                refine ⟨(bgo hB_142 hg_150 hl_151 (hb_122).size), ?_⟩
                refine XB_run (fuel' := 0) (bgo hB_142 hg_150 hl_151 (hb_122).size) [14] [] [.slice A_146 ((((List.take q xs) ++ [(xs.getD q op0)]) ++ (xs.drop q)).length) c_147] #[true, true, true, true, true, true, true, true, true, true, true, true, true, true, true] [(0, .slice A xs.length c), (1, .int .i64 (q : Int)), (7, .slice A_146 ((((List.take q xs) ++ [(xs.getD q op0)]) ++ (xs.drop q)).length) c_147)] (fun w_ => []) (fun _ _ _ _ h => h) (fun w_ => by kernel_rfl) rfl (fun w_ hC_ => trivial) ?_
                refine XB_done (by kernel_rfl) ?_
                refine X_seq ?_
                refine X_region ?_
                have htwd : (((List.take q xs) ++ [(xs.getD q op0)]) ++ (xs.drop q)) = twice xs q := rfl
                have hcw := Can_twice ((canP_iff xs).1 c_5) q hql
                have hpw := lenP_pos (((List.take q xs) ++ [(xs.getD q op0)]) ++ (xs.drop q))
                rw [← htwd] at hcw htl
                have hck := Can_check ((canP_iff xs).1 c_5) hql
                refine XL_run 1 [] [(0, .slice A xs.length c), (1, .int .i64 (q : Int)), (7, .slice A_146 ((((List.take q xs) ++ [(xs.getD q op0)]) ++ (xs.drop q)).length) c_147), (72, .slice A_146 ((((List.take q xs) ++ [(xs.getD q op0)]) ++ (xs.drop q)).length) c_147)] w_148 [] (by kernel_rfl) trivial ?_
                have hB_154 : Below w.heap.size w w_148 := (bgo (bgo (bt hB_132 hb_129) hg_138 hl_139 (hB_132).size) hg_150 hl_151 (hB_132).size)
                refine XL_call 20 rfl rfl rfl ent20 [.slice A_146 ((((List.take q xs) ++ [(xs.getD q op0)]) ++ (xs.drop q)).length) c_147] (by kernel_rfl) (olen_any A_146 c_147 (((List.take q xs) ++ [(xs.getD q op0)]) ++ (xs.drop q)) w_148 hC_152 (by omega) (sz_twice hz hql) (hT.below hB_154) es (hO.below hB_154)) ?_
                rintro e w_155 ⟨rfl, hb_156⟩; refine ⟨_, rfl, ?_⟩
                refine XL_run 7 [] [(0, .slice A xs.length c), (1, .int .i64 (q : Int)), (7, .slice A_146 ((((List.take q xs) ++ [(xs.getD q op0)]) ++ (xs.drop q)).length) c_147), (8, .int .i64 ((lenP (((List.take q xs) ++ [(xs.getD q op0)]) ++ (xs.drop q))).1)), (9, .int .i64 ((lenP (((List.take q xs) ++ [(xs.getD q op0)]) ++ (xs.drop q))).2.1)), (10, errV es ((lenP (((List.take q xs) ++ [(xs.getD q op0)]) ++ (xs.drop q))).2.2))] w_155 [] (by kernel_rfl) trivial ?_
                refine XL_nil ?_
                refine X_seq ?_
                refine X_region ?_
                refine XL_run 1 [] [(0, .slice A xs.length c), (1, .int .i64 (q : Int)), (7, .slice A_146 ((((List.take q xs) ++ [(xs.getD q op0)]) ++ (xs.drop q)).length) c_147), (8, .int .i64 ((lenP (((List.take q xs) ++ [(xs.getD q op0)]) ++ (xs.drop q))).1)), (9, .int .i64 ((lenP (((List.take q xs) ++ [(xs.getD q op0)]) ++ (xs.drop q))).2.1)), (77, errV es ((lenP (((List.take q xs) ++ [(xs.getD q op0)]) ++ (xs.drop q))).2.2))] w_155 [] (by kernel_rfl) trivial ?_
                by_cases c_157 : (lenP (((List.take q xs) ++ [(xs.getD q op0)]) ++ (xs.drop q))).2.2 = 0
                · rw [show errV es ((lenP (((List.take q xs) ++ [(xs.getD q op0)]) ++ (xs.drop q))).2.2) = .nilIface from by rw [c_157]; rfl]
                  refine XL_run 10 [(81, .eq (.bool true)), (85, .eq (.bool true))] [(0, .slice A xs.length c), (1, .int .i64 (q : Int)), (7, .slice A_146 ((((List.take q xs) ++ [(xs.getD q op0)]) ++ (xs.drop q)).length) c_147), (11, .bool true)] w_155 [Value.bool (decide ((lenP (((List.take q xs) ++ [(xs.getD q op0)]) ++ (xs.drop q))).1 ≥ 0)) = Value.bool true, Value.bool (decide ((lenP (((List.take q xs) ++ [(xs.getD q op0)]) ++ (xs.drop q))).2.1 ≥ 0)) = Value.bool true] (by kernel_rfl) ⟨congrArg Value.bool (decide_eq_true ((by omega))), congrArg Value.bool (decide_eq_true ((by omega))), trivial⟩ ?_
                  refine XL_nil ?_
                  refine X_seq ?_
                  refine X_region ?_
                  refine XL_run 1 [] [(0, .slice A xs.length c), (1, .int .i64 (q : Int)), (11, .bool true), (87, .slice A_146 ((((List.take q xs) ++ [(xs.getD q op0)]) ++ (xs.drop q)).length) c_147)] w_155 [] (by kernel_rfl) trivial ?_
                  refine XL_call 22 rfl rfl rfl ent22 [.slice A_146 ((((List.take q xs) ++ [(xs.getD q op0)]) ++ (xs.drop q)).length) c_147] (by kernel_rfl) (ocan_any A_146 c_147 (((List.take q xs) ++ [(xs.getD q op0)]) ++ (xs.drop q)) w_155 (Kd.C_below hC_152 hb_156) (by omega) (sz_twice hz hql) (hT.below (bt hB_154 hb_156)) es (hO.below (bt hB_154 hb_156))) ?_
                  rintro e w_158 ⟨rfl, hb_159⟩; refine ⟨_, rfl, ?_⟩
                  refine XL_run 4 [] [(0, .slice A xs.length c), (1, .int .i64 (q : Int)), (88, .bool (canP (((List.take q xs) ++ [(xs.getD q op0)]) ++ (xs.drop q)))), (90, .bool true), (91, .slice A xs.length c), (92, .int .i64 (q : Int))] w_158 [] (by kernel_rfl) trivial ?_
                  obtain ⟨ad_160, B_163, c_164, ha_161, hc_162, hl_165, hC_166⟩ := Kd.atOp hx (i := (q : Int)) (by omega) (by omega)
                  replace hc_162 : CellsAt w (ad_160.add ((q : Int).toNat * 7)) [.int .i64 ((xs.getD q op0).kind), .string ((xs.getD q op0).text), .int .i64 ((xs.getD q op0).vk), .int .i64 ((xs.getD q op0).vn), .string ((xs.getD q op0).vt), .int .i64 ((xs.getD q op0).count), .slice B_163 ((xs.getD q op0).attrs.length) c_164] := hc_162
                  replace hl_165 : (xs.getD q op0).attrs.length ≤ c_164 := hl_165
                  replace hC_166 : kAttr.C w B_163 ((xs.getD q op0).attrs.length) (xs.getD q op0).attrs := hC_166
                  refine XL_run 3 [(93, .idx ad_160), (95, .load (.int .i64 ((xs.getD q op0).kind)))] [(0, .slice A xs.length c), (1, .int .i64 (q : Int)), (88, .bool (canP (((List.take q xs) ++ [(xs.getD q op0)]) ++ (xs.drop q)))), (90, .bool true), (95, .int .i64 ((xs.getD q op0).kind))] w_158 [A = some ad_160, (0 : Int) ≤ (q : Int), (q : Int) < (xs.length : Int), LoadsAs Tryd.prog 3 (ad_160.add ((q : Int).toNat * 7)) (.int .i64 ((xs.getD q op0).kind)) w_158] (by kernel_rfl) ⟨ha_161, (by omega), (by omega), loads1 rfl (elem_cell (cells_below hc_162 (bt (bt hB_154 hb_156) hb_159)) 0 _ rfl), trivial⟩ ?_
                  by_cases c_167 : (xs.getD q op0).kind = 2
                  · refine XL_run 2 [(96, .eq (.bool true))] [(0, .slice A xs.length c), (1, .int .i64 (q : Int)), (88, .bool (canP (((List.take q xs) ++ [(xs.getD q op0)]) ++ (xs.drop q)))), (97, .bool true)] w_158 [Value.bool ((xs.getD q op0).kind == 2) = Value.bool true] (by kernel_rfl) ⟨congrArg Value.bool (beq_iff_eq.2 (c_167)), trivial⟩ ?_
                    by_cases c_168 : canP (((List.take q xs) ++ [(xs.getD q op0)]) ++ (xs.drop q)) = true
                    · rw [show (canP (((List.take q xs) ++ [(xs.getD q op0)]) ++ (xs.drop q)) : Bool) = true from by simpa using c_168]
                      refine XL_run 4 [] [(99, .bool true), (100, .slice A xs.length c), (101, .int .i64 (q : Int))] w_158 [] (by kernel_rfl) trivial ?_
                      obtain ⟨ad_169, B_172, c_173, ha_170, hc_171, hl_174, hC_175⟩ := Kd.atOp hx (i := (q : Int)) (by omega) (by omega)
                      replace hc_171 : CellsAt w (ad_169.add ((q : Int).toNat * 7)) [.int .i64 ((xs.getD q op0).kind), .string ((xs.getD q op0).text), .int .i64 ((xs.getD q op0).vk), .int .i64 ((xs.getD q op0).vn), .string ((xs.getD q op0).vt), .int .i64 ((xs.getD q op0).count), .slice B_172 ((xs.getD q op0).attrs.length) c_173] := hc_171
                      replace hl_174 : (xs.getD q op0).attrs.length ≤ c_173 := hl_174
                      replace hC_175 : kAttr.C w B_172 ((xs.getD q op0).attrs.length) (xs.getD q op0).attrs := hC_175
                      refine XL_run 2 [(102, .idx ad_169), (103, .load (.agg #[.int .i64 ((xs.getD q op0).kind), .string ((xs.getD q op0).text), .int .i64 ((xs.getD q op0).vk), .int .i64 ((xs.getD q op0).vn), .string ((xs.getD q op0).vt), .int .i64 ((xs.getD q op0).count), .slice B_172 ((xs.getD q op0).attrs.length) c_173]))] [(99, .bool true), (103, .agg #[.int .i64 ((xs.getD q op0).kind), .string ((xs.getD q op0).text), .int .i64 ((xs.getD q op0).vk), .int .i64 ((xs.getD q op0).vn), .string ((xs.getD q op0).vt), .int .i64 ((xs.getD q op0).count), .slice B_172 ((xs.getD q op0).attrs.length) c_173])] w_158 [A = some ad_169, (0 : Int) ≤ (q : Int), (q : Int) < (xs.length : Int), LoadsAs Tryd.prog 33 (ad_169.add ((q : Int).toNat * 7)) (.agg #[.int .i64 ((xs.getD q op0).kind), .string ((xs.getD q op0).text), .int .i64 ((xs.getD q op0).vk), .int .i64 ((xs.getD q op0).vn), .string ((xs.getD q op0).vt), .int .i64 ((xs.getD q op0).count), .slice B_172 ((xs.getD q op0).attrs.length) c_173]) w_158] (by kernel_rfl) ⟨ha_170, (by omega), (by omega), loadsE rfl rfl (cells_below hc_171 (bt (bt hB_154 hb_156) hb_159)) 0 ⟨by kernel_rfl, by kernel_rfl⟩, trivial⟩ ?_
                      refine XL_call 18 rfl rfl rfl ent18 [.agg #[.int .i64 ((xs.getD q op0).kind), .string ((xs.getD q op0).text), .int .i64 ((xs.getD q op0).vk), .int .i64 ((xs.getD q op0).vn), .string ((xs.getD q op0).vt), .int .i64 ((xs.getD q op0).count), .slice B_172 ((xs.getD q op0).attrs.length) c_173]] (by kernel_rfl) (ocheck_any (xs.getD q op0) _ _ _ (Kd.C_below hC_175 (bt (bt hB_154 hb_156) hb_159)) (hz q hql) (hT.below (bt (bt hB_154 hb_156) hb_159)) es (hO.below (bt (bt hB_154 hb_156) hb_159))) ?_
                      rintro e w_176 ⟨rfl, hb_177⟩; refine ⟨_, rfl, ?_⟩
                      by_cases c_178 : (pErr (xs.getD q op0)) = 0
                      · rw [show errV es (pErr (xs.getD q op0)) = .nilIface from by rw [c_178]; rfl]
                        refine XL_run 3 [] [(4, .bool true)] w_176 [] (by kernel_rfl) trivial ?_
                        refine XL_nil ?_
                        refine X_ret ?_
                        refine RX.ret_ok (P := Tryd.prog) (fn := Tryd.f5) (N := 107) (R := R_) [.bool true] (by kernel_rfl) (hR_ _ _ ?_)
                        have hB_179 : Below w.heap.size w w_176 := (bt (bt (bt hB_154 hb_156) hb_159) hb_177)
                        exact ⟨rfl, hB_179⟩
                      · exact absurd hck c_178
                    · exact absurd ((canP_iff _).2 (hcw.2 ⟨c_157, c_167⟩)) c_168
                  · refine XL_run 2 [(96, .eq (.bool false))] [(0, .slice A xs.length c), (1, .int .i64 (q : Int)), (88, .bool (canP (((List.take q xs) ++ [(xs.getD q op0)]) ++ (xs.drop q)))), (97, .bool false)] w_158 [Value.bool ((xs.getD q op0).kind == 2) = Value.bool false] (by kernel_rfl) ⟨congrArg Value.bool (beq_eq_false_iff_ne.2 (c_167)), trivial⟩ ?_
                    by_cases c_180 : canP (((List.take q xs) ++ [(xs.getD q op0)]) ++ (xs.drop q)) = true
                    · exfalso
                      have h1_ := hcw.1 ((canP_iff _).1 c_180)
                      exact c_167 h1_.2
                    · rw [show (canP (((List.take q xs) ++ [(xs.getD q op0)]) ++ (xs.drop q)) : Bool) = false from by simpa using c_180]
                      refine XL_run 4 [] [(99, .bool true), (100, .slice A xs.length c), (101, .int .i64 (q : Int))] w_158 [] (by kernel_rfl) trivial ?_
                      obtain ⟨ad_181, B_184, c_185, ha_182, hc_183, hl_186, hC_187⟩ := Kd.atOp hx (i := (q : Int)) (by omega) (by omega)
                      replace hc_183 : CellsAt w (ad_181.add ((q : Int).toNat * 7)) [.int .i64 ((xs.getD q op0).kind), .string ((xs.getD q op0).text), .int .i64 ((xs.getD q op0).vk), .int .i64 ((xs.getD q op0).vn), .string ((xs.getD q op0).vt), .int .i64 ((xs.getD q op0).count), .slice B_184 ((xs.getD q op0).attrs.length) c_185] := hc_183
                      replace hl_186 : (xs.getD q op0).attrs.length ≤ c_185 := hl_186
                      replace hC_187 : kAttr.C w B_184 ((xs.getD q op0).attrs.length) (xs.getD q op0).attrs := hC_187
                      refine XL_run 2 [(102, .idx ad_181), (103, .load (.agg #[.int .i64 ((xs.getD q op0).kind), .string ((xs.getD q op0).text), .int .i64 ((xs.getD q op0).vk), .int .i64 ((xs.getD q op0).vn), .string ((xs.getD q op0).vt), .int .i64 ((xs.getD q op0).count), .slice B_184 ((xs.getD q op0).attrs.length) c_185]))] [(99, .bool true), (103, .agg #[.int .i64 ((xs.getD q op0).kind), .string ((xs.getD q op0).text), .int .i64 ((xs.getD q op0).vk), .int .i64 ((xs.getD q op0).vn), .string ((xs.getD q op0).vt), .int .i64 ((xs.getD q op0).count), .slice B_184 ((xs.getD q op0).attrs.length) c_185])] w_158 [A = some ad_181, (0 : Int) ≤ (q : Int), (q : Int) < (xs.length : Int), LoadsAs Tryd.prog 33 (ad_181.add ((q : Int).toNat * 7)) (.agg #[.int .i64 ((xs.getD q op0).kind), .string ((xs.getD q op0).text), .int .i64 ((xs.getD q op0).vk), .int .i64 ((xs.getD q op0).vn), .string ((xs.getD q op0).vt), .int .i64 ((xs.getD q op0).count), .slice B_184 ((xs.getD q op0).attrs.length) c_185]) w_158] (by kernel_rfl) ⟨ha_182, (by omega), (by omega), loadsE rfl rfl (cells_below hc_183 (bt (bt hB_154 hb_156) hb_159)) 0 ⟨by kernel_rfl, by kernel_rfl⟩, trivial⟩ ?_
                      refine XL_call 18 rfl rfl rfl ent18 [.agg #[.int .i64 ((xs.getD q op0).kind), .string ((xs.getD q op0).text), .int .i64 ((xs.getD q op0).vk), .int .i64 ((xs.getD q op0).vn), .string ((xs.getD q op0).vt), .int .i64 ((xs.getD q op0).count), .slice B_184 ((xs.getD q op0).attrs.length) c_185]] (by kernel_rfl) (ocheck_any (xs.getD q op0) _ _ _ (Kd.C_below hC_187 (bt (bt hB_154 hb_156) hb_159)) (hz q hql) (hT.below (bt (bt hB_154 hb_156) hb_159)) es (hO.below (bt (bt hB_154 hb_156) hb_159))) ?_
                      rintro e w_188 ⟨rfl, hb_189⟩; refine ⟨_, rfl, ?_⟩
                      by_cases c_190 : (pErr (xs.getD q op0)) = 0
                      · rw [show errV es (pErr (xs.getD q op0)) = .nilIface from by rw [c_190]; rfl]
                        refine XL_run 3 [] [(4, .bool true)] w_188 [] (by kernel_rfl) trivial ?_
                        refine XL_nil ?_
                        refine X_ret ?_
                        refine RX.ret_ok (P := Tryd.prog) (fn := Tryd.f5) (N := 107) (R := R_) [.bool true] (by kernel_rfl) (hR_ _ _ ?_)
                        have hB_191 : Below w.heap.size w w_188 := (bt (bt (bt hB_154 hb_156) hb_159) hb_189)
                        exact ⟨rfl, hB_191⟩
                      · exact absurd hck c_190
                · rw [errV_pos es ((lenP (((List.take q xs) ++ [(xs.getD q op0)]) ++ (xs.drop q))).2.2) (Nat.pos_of_ne_zero c_157)]
                  refine XL_run 10 [] [(0, .slice A xs.length c), (1, .int .i64 (q : Int)), (7, .slice A_146 ((((List.take q xs) ++ [(xs.getD q op0)]) ++ (xs.drop q)).length) c_147), (11, .bool false)] w_155 [] (by kernel_rfl) trivial ?_
                  refine XL_nil ?_
                  refine X_seq ?_
                  refine X_region ?_
                  refine XL_run 1 [] [(0, .slice A xs.length c), (1, .int .i64 (q : Int)), (11, .bool false), (87, .slice A_146 ((((List.take q xs) ++ [(xs.getD q op0)]) ++ (xs.drop q)).length) c_147)] w_155 [] (by kernel_rfl) trivial ?_
                  refine XL_call 22 rfl rfl rfl ent22 [.slice A_146 ((((List.take q xs) ++ [(xs.getD q op0)]) ++ (xs.drop q)).length) c_147] (by kernel_rfl) (ocan_any A_146 c_147 (((List.take q xs) ++ [(xs.getD q op0)]) ++ (xs.drop q)) w_155 (Kd.C_below hC_152 hb_156) (by omega) (sz_twice hz hql) (hT.below (bt hB_154 hb_156)) es (hO.below (bt hB_154 hb_156))) ?_
                  rintro e w_192 ⟨rfl, hb_193⟩; refine ⟨_, rfl, ?_⟩
                  refine XL_run 9 [] [(0, .slice A xs.length c), (1, .int .i64 (q : Int)), (88, .bool (canP (((List.take q xs) ++ [(xs.getD q op0)]) ++ (xs.drop q)))), (97, .bool false)] w_192 [] (by kernel_rfl) trivial ?_
                  by_cases c_194 : canP (((List.take q xs) ++ [(xs.getD q op0)]) ++ (xs.drop q)) = true
                  · exact absurd (hcw.1 ((canP_iff _).1 c_194)).1 c_157
                  · rw [show (canP (((List.take q xs) ++ [(xs.getD q op0)]) ++ (xs.drop q)) : Bool) = false from by simpa using c_194]
                    refine XL_run 4 [] [(99, .bool true), (100, .slice A xs.length c), (101, .int .i64 (q : Int))] w_192 [] (by kernel_rfl) trivial ?_
                    obtain ⟨ad_195, B_198, c_199, ha_196, hc_197, hl_200, hC_201⟩ := Kd.atOp hx (i := (q : Int)) (by omega) (by omega)
                    replace hc_197 : CellsAt w (ad_195.add ((q : Int).toNat * 7)) [.int .i64 ((xs.getD q op0).kind), .string ((xs.getD q op0).text), .int .i64 ((xs.getD q op0).vk), .int .i64 ((xs.getD q op0).vn), .string ((xs.getD q op0).vt), .int .i64 ((xs.getD q op0).count), .slice B_198 ((xs.getD q op0).attrs.length) c_199] := hc_197
                    replace hl_200 : (xs.getD q op0).attrs.length ≤ c_199 := hl_200
                    replace hC_201 : kAttr.C w B_198 ((xs.getD q op0).attrs.length) (xs.getD q op0).attrs := hC_201
                    refine XL_run 2 [(102, .idx ad_195), (103, .load (.agg #[.int .i64 ((xs.getD q op0).kind), .string ((xs.getD q op0).text), .int .i64 ((xs.getD q op0).vk), .int .i64 ((xs.getD q op0).vn), .string ((xs.getD q op0).vt), .int .i64 ((xs.getD q op0).count), .slice B_198 ((xs.getD q op0).attrs.length) c_199]))] [(99, .bool true), (103, .agg #[.int .i64 ((xs.getD q op0).kind), .string ((xs.getD q op0).text), .int .i64 ((xs.getD q op0).vk), .int .i64 ((xs.getD q op0).vn), .string ((xs.getD q op0).vt), .int .i64 ((xs.getD q op0).count), .slice B_198 ((xs.getD q op0).attrs.length) c_199])] w_192 [A = some ad_195, (0 : Int) ≤ (q : Int), (q : Int) < (xs.length : Int), LoadsAs Tryd.prog 33 (ad_195.add ((q : Int).toNat * 7)) (.agg #[.int .i64 ((xs.getD q op0).kind), .string ((xs.getD q op0).text), .int .i64 ((xs.getD q op0).vk), .int .i64 ((xs.getD q op0).vn), .string ((xs.getD q op0).vt), .int .i64 ((xs.getD q op0).count), .slice B_198 ((xs.getD q op0).attrs.length) c_199]) w_192] (by kernel_rfl) ⟨ha_196, (by omega), (by omega), loadsE rfl rfl (cells_below hc_197 (bt (bt hB_154 hb_156) hb_193)) 0 ⟨by kernel_rfl, by kernel_rfl⟩, trivial⟩ ?_
                    refine XL_call 18 rfl rfl rfl ent18 [.agg #[.int .i64 ((xs.getD q op0).kind), .string ((xs.getD q op0).text), .int .i64 ((xs.getD q op0).vk), .int .i64 ((xs.getD q op0).vn), .string ((xs.getD q op0).vt), .int .i64 ((xs.getD q op0).count), .slice B_198 ((xs.getD q op0).attrs.length) c_199]] (by kernel_rfl) (ocheck_any (xs.getD q op0) _ _ _ (Kd.C_below hC_201 (bt (bt hB_154 hb_156) hb_193)) (hz q hql) (hT.below (bt (bt hB_154 hb_156) hb_193)) es (hO.below (bt (bt hB_154 hb_156) hb_193))) ?_
                    rintro e w_202 ⟨rfl, hb_203⟩; refine ⟨_, rfl, ?_⟩
                    by_cases c_204 : (pErr (xs.getD q op0)) = 0
                    · rw [show errV es (pErr (xs.getD q op0)) = .nilIface from by rw [c_204]; rfl]
                      refine XL_run 3 [] [(4, .bool true)] w_202 [] (by kernel_rfl) trivial ?_
                      refine XL_nil ?_
                      refine X_ret ?_
                      refine RX.ret_ok (P := Tryd.prog) (fn := Tryd.f5) (N := 107) (R := R_) [.bool true] (by kernel_rfl) (hR_ _ _ ?_)
                      have hB_205 : Below w.heap.size w w_202 := (bt (bt (bt hB_154 hb_156) hb_193) hb_203)
                      exact ⟨rfl, hB_205⟩
                    · exact absurd hck c_204
        · refine XL_run 3 [(47, .eq (.bool false))] [(0, .slice A xs.length c), (1, .int .i64 (q : Int)), (5, .slice A q c), (6, .bool false)] w_3 [Value.bool ((((List.take q xs).getD ((q : Int) - 1).toNat op0).attrs.length : Int) == 0) = Value.bool false] (by kernel_rfl) ⟨congrArg Value.bool (beq_eq_false_iff_ne.2 (c_23)), trivial⟩ ?_
          refine XL_nil ?_
          refine X_seq ?_
          refine X_seq ?_
          refine X_region ?_
          have hzq : ((q : Int) - 1).toNat = q - 1 := by omega
          have hct := Can_take ((canP_iff xs).1 c_5) q hq
          rw [hzq] at c_15
          rw [hzq] at c_23
          have hpf : ¬ (0 < q ∧ plainR (xs.getD (q - 1) op0)) := fun h_ => by have h0_ := h_.1; have h1_ := h_.2; rw [← getD_take (show q - 1 < q by omega)] at h1_; have h2_ := h1_.1; have h3_ := h1_.2; omega
          refine XL_run 1 [] [(0, .slice A xs.length c), (1, .int .i64 (q : Int)), (6, .bool false), (49, .slice A q c)] w_3 [] (by kernel_rfl) trivial ?_
          refine XL_call 22 rfl rfl rfl ent22 [.slice A q c] (by kernel_rfl) (by have h_ := ocan_any A c (List.take q xs) w_3 (by rw [show (List.take q xs).length = q from (by rw [List.length_take]; omega)]; exact hC_6) (by omega) (sz_take hz q) (hT.below (bt hb_2 hb_4)) es (hO.below (bt hb_2 hb_4)); rw [show (List.take q xs).length = q from (by rw [List.length_take]; omega)] at h_; exact h_) ?_
          rintro e w_206 ⟨rfl, hb_207⟩; refine ⟨_, rfl, ?_⟩
          refine XL_run 1 [] [(0, .slice A xs.length c), (1, .int .i64 (q : Int)), (50, .bool (canP (List.take q xs))), (51, .bool false)] w_206 [] (by kernel_rfl) trivial ?_
          by_cases c_208 : canP (List.take q xs) = true
          · rw [show (canP (List.take q xs) : Bool) = true from by simpa using c_208]
            refine XL_run 1 [] [(0, .slice A xs.length c), (1, .int .i64 (q : Int)), (52, .bool false)] w_206 [] (by kernel_rfl) trivial ?_
            refine XL_nil ?_
            refine X_cond false rfl ?_
            refine X_skip ?_
            refine X_seq ?_
            refine X_seq ?_
            refine X_region ?_
            refine XL_run 3 [] [(0, .slice A xs.length c), (1, .int .i64 (q : Int)), (53, .int .i64 (q : Int)), (55, .int .i64 (xs.length : Int))] w_206 [] (by kernel_rfl) trivial ?_
            by_cases c_209 : (q : Int) = (xs.length : Int)
            · refine XL_run 1 [(56, .eq (.bool true))] [(0, .slice A xs.length c), (1, .int .i64 (q : Int)), (56, .bool true)] w_206 [Value.bool ((q : Int) == (xs.length : Int)) = Value.bool true] (by kernel_rfl) ⟨congrArg Value.bool (beq_iff_eq.2 (c_209)), trivial⟩ ?_
              refine XL_nil ?_
              refine X_cond true rfl ?_
              refine X_seq ?_
              refine X_region ?_
              refine XL_run 1 [] [(4, .bool true)] w_206 [] (by kernel_rfl) trivial ?_
              refine XL_nil ?_
              refine X_ret ?_
              refine RX.ret_ok (P := Tryd.prog) (fn := Tryd.f5) (N := 107) (R := R_) [.bool true] (by kernel_rfl) (hR_ _ _ ?_)
              exact ⟨rfl, (bt (bt hb_2 hb_4) hb_207)⟩
            · refine XL_run 1 [(56, .eq (.bool false))] [(0, .slice A xs.length c), (1, .int .i64 (q : Int)), (56, .bool false)] w_206 [Value.bool ((q : Int) == (xs.length : Int)) = Value.bool false] (by kernel_rfl) ⟨congrArg Value.bool (beq_eq_false_iff_ne.2 (c_209)), trivial⟩ ?_
              refine XL_nil ?_
              refine X_cond false rfl ?_
              refine X_skip ?_
              refine X_seq ?_
              refine X_grow [] 15 #[false, false, false, false, false, false, false, false, false, false, false, false, false, false, false] (by kernel_rfl) (by kernel_rfl) (by kernel_rfl) (fun wd_210 hb_211 hh_212 => ?_)
              have hql : q < xs.length := by omega
              have htl : (twice xs q).length = xs.length + 1 := twice_len hql
              have hdl : (List.drop q xs).length = xs.length - q := List.length_drop ..
              have hl1 : ((List.take q xs) ++ [(xs.getD q op0)]).length = q + 1 := by rw [List.length_append, hlH]; rfl
              have hC_213 := RX.Kd.C_take (m := q) (Kd.C_below hx (bt (bt (bt hb_2 hb_4) hb_207) hb_211)) (by first | omega | (simp; done) | (simp; omega))
              refine XB_run (fuel' := 10) (Below.refl _ _) [0, 1, 2, 4, 5] [(59, .as (.slice A q c))] [.slice A xs.length c, .int .i64 (q : Int), .slice A q c, .slice A xs.length c, .int .i64 (q : Int)] #[true, true, true, false, true, true, false, false, false, false, false, false, false, false, false] [(0, .slice A xs.length c), (1, .int .i64 (q : Int)), (59, .slice A q c), (61, .slice A xs.length c), (62, .int .i64 (q : Int))] (fun w_ => [RunsAs Tryd.prog [(57, .slice A xs.length c), (58, .int .i64 (q : Int))] (Go.Op.slice 22 (Go.Operand.tmp 57) none (some (Go.Operand.tmp 58)) none) 22 (.slice A q c) w_]) (fun _ _ _ _ h => h) (fun w_ => by kernel_rfl) rfl (fun w_ hC_ => ⟨runs_slice_h (h := (q : Int)) rfl rfl rfl rfl (by omega) (by omega), trivial⟩) ?_
              obtain ⟨ad_214, B_217, c_218, ha_215, hc_216, hl_219, hC_220⟩ := Kd.atOp hx (i := (q : Int)) (by omega) (by omega)
              replace hc_216 : CellsAt w (ad_214.add ((q : Int).toNat * 7)) [.int .i64 ((xs.getD q op0).kind), .string ((xs.getD q op0).text), .int .i64 ((xs.getD q op0).vk), .int .i64 ((xs.getD q op0).vn), .string ((xs.getD q op0).vt), .int .i64 ((xs.getD q op0).count), .slice B_217 ((xs.getD q op0).attrs.length) c_218] := hc_216
              replace hl_219 : (xs.getD q op0).attrs.length ≤ c_218 := hl_219
              replace hC_220 : kAttr.C w B_217 ((xs.getD q op0).attrs.length) (xs.getD q op0).attrs := hC_220
              obtain ⟨A_221, hA_222⟩ : ∃ A_, (if c = q then A else A.map (·.add (q * 7))) = A_ := ⟨_, rfl⟩
              have hC_223 : kOp.C w A_221 (xs.length - q) (xs.drop q) := by have h := RX.Kd.C_drop hx (k := q) (cap := c) (by omega) (by omega); first | (rw [← hA_222]; exact h)
              refine XB_run (fuel' := 5) (Below.refl _ _) [6, 7, 10, 11, 12] [(63, .idx ad_214), (64, .load (.agg #[.int .i64 ((xs.getD q op0).kind), .string ((xs.getD q op0).text), .int .i64 ((xs.getD q op0).vk), .int .i64 ((xs.getD q op0).vn), .string ((xs.getD q op0).vt), .int .i64 ((xs.getD q op0).count), .slice B_217 ((xs.getD q op0).attrs.length) c_218])), (69, .as (.slice A_221 (xs.length - q) (c - q)))] [.pointer (some (ad_214.add ((q : Int).toNat * 7))), .agg #[.int .i64 ((xs.getD q op0).kind), .string ((xs.getD q op0).text), .int .i64 ((xs.getD q op0).vk), .int .i64 ((xs.getD q op0).vn), .string ((xs.getD q op0).vt), .int .i64 ((xs.getD q op0).count), .slice B_217 ((xs.getD q op0).attrs.length) c_218], .slice A xs.length c, .int .i64 (q : Int), .slice A_221 (xs.length - q) (c - q)] #[true, true, true, false, true, true, true, true, false, false, true, true, true, false, false] [(0, .slice A xs.length c), (1, .int .i64 (q : Int)), (59, .slice A q c), (64, .agg #[.int .i64 ((xs.getD q op0).kind), .string ((xs.getD q op0).text), .int .i64 ((xs.getD q op0).vk), .int .i64 ((xs.getD q op0).vn), .string ((xs.getD q op0).vt), .int .i64 ((xs.getD q op0).count), .slice B_217 ((xs.getD q op0).attrs.length) c_218]), (69, .slice A_221 (xs.length - q) (c - q))] (fun w_ => [A = some ad_214, (0 : Int) ≤ (q : Int), (q : Int) < (xs.length : Int), LoadsAs Tryd.prog 33 (ad_214.add ((q : Int).toNat * 7)) (.agg #[.int .i64 ((xs.getD q op0).kind), .string ((xs.getD q op0).text), .int .i64 ((xs.getD q op0).vk), .int .i64 ((xs.getD q op0).vn), .string ((xs.getD q op0).vt), .int .i64 ((xs.getD q op0).count), .slice B_217 ((xs.getD q op0).attrs.length) c_218]) w_, RunsAs Tryd.prog [(67, .slice A xs.length c), (68, .int .i64 (q : Int))] (Go.Op.slice 22 (Go.Operand.tmp 67) (some (Go.Operand.tmp 68)) none none) 22 (.slice A_221 (xs.length - q) (c - q)) w_]) (fun _ _ _ _ h => h) (fun w_ => by kernel_rfl) rfl (fun w_ hC_ => ⟨ha_215, (by omega), (by omega), loadsE rfl rfl (cells_below hc_216 (bt (bt (bt (bt hb_2 hb_4) hb_207) hb_211) hC_)) 0 ⟨by kernel_rfl, by kernel_rfl⟩, (hA_222 ▸ runs_slice_l (h := (q : Int)) rfl rfl rfl rfl (by omega) (by omega) (by omega)), trivial⟩) ?_
              refine XB_two (fuel' := 4) 3 8 #[true, true, true, true, true, true, true, true, false, false, true, true, true, false, false] #[true, true, true, false, true, true, true, true, true, false, true, true, true, false, false] _ _ rfl rfl (by kernel_rfl) (by kernel_rfl) (by kernel_rfl) rfl ?_ ?_
              · refine XL_call 16 rfl rfl rfl ent16 [.slice A q c] (by kernel_rfl) (by have h_ := ocopied_any A c (List.take q xs) wd_210 (by rw [show (List.take q xs).length = q from (by rw [List.length_take]; omega)]; exact hC_213) (by omega) (sz_take hz q); rw [show (List.take q xs).length = q from (by rw [List.length_take]; omega)] at h_; exact h_) ?_
                rintro e w_226 ⟨A_224, c_225, rfl, hl_228, hr_229, hb_227⟩; refine ⟨_, rfl, ?_⟩
                refine XL_nil ?_
                refine ⟨hb_227, ?_⟩
                refine XB_mid (fuel' := 3) 8 #[true, true, true, true, true, true, true, true, true, false, true, true, true, false, false] _ rfl (by kernel_rfl) (by kernel_rfl) rfl ?_
                refine XL_run 1 [] [(0, .slice A xs.length c), (1, .int .i64 (q : Int)), (60, .slice A_224 q c_225), (65, .slice (some ⟨w_226.heap.size, 0, none⟩) 1 1), (69, .slice A_221 (xs.length - q) (c - q))] (w_226.alloc (.cells #[.int .i64 ((xs.getD q op0).kind), .string ((xs.getD q op0).text), .int .i64 ((xs.getD q op0).vk), .int .i64 ((xs.getD q op0).vn), .string ((xs.getD q op0).vt), .int .i64 ((xs.getD q op0).count), .slice B_217 ((xs.getD q op0).attrs.length) c_218] 33)) [] (by kernel_rfl) trivial ?_
                obtain ⟨w_230, hw_234, hb_231, hk_232, hz_233⟩ := new_world w_226 #[.int .i64 ((xs.getD q op0).kind), .string ((xs.getD q op0).text), .int .i64 ((xs.getD q op0).vk), .int .i64 ((xs.getD q op0).vn), .string ((xs.getD q op0).vt), .int .i64 ((xs.getD q op0).count), .slice B_217 ((xs.getD q op0).attrs.length) c_218] 33
                rw [hw_234]
                refine XL_nil ?_
                refine ⟨(bt hb_227 hb_231), ?_⟩
                refine XB_mid (fuel' := 2) 9 #[true, true, true, true, true, true, true, true, true, true, true, true, true, false, false] _ rfl (by kernel_rfl) (by kernel_rfl) rfl ?_
                have hR_235 := Kd.R_litB (kRaw 7) (W := w_226) (e := 33) (cs := #[.int .i64 ((xs.getD q op0).kind), .string ((xs.getD q op0).text), .int .i64 ((xs.getD q op0).vk), .int .i64 ((xs.getD q op0).vn), .string ((xs.getD q op0).vt), .int .i64 ((xs.getD q op0).count), .slice B_217 ((xs.getD q op0).attrs.length) c_218]) [[.int .i64 ((xs.getD q op0).kind), .string ((xs.getD q op0).text), .int .i64 ((xs.getD q op0).vk), .int .i64 ((xs.getD q op0).vn), .string ((xs.getD q op0).vt), .int .i64 ((xs.getD q op0).count), .slice B_217 ((xs.getD q op0).attrs.length) c_218]] hk_232 (raw1 _ rfl (by kernel_rfl)) (Nat.le_of_ble_eq_true (by kernel_rfl))
                refine XL_appendMix (d := kOp) (W0 := wd_210) (c' := 1) (m := 1) op0 rfl rfl rfl 33 (.agg #[.int .i64 0, .string ByteArray.empty, .int .i64 0, .int .i64 0, .string ByteArray.empty, .int .i64 0, .slice none 0 0]) 88 Tryd.underlying22 info33 rfl (by decide) (by omega) (List.take q xs) ([(xs.getD q op0)]) [[.int .i64 ((xs.getD q op0).kind), .string ((xs.getD q op0).text), .int .i64 ((xs.getD q op0).vk), .int .i64 ((xs.getD q op0).vn), .string ((xs.getD q op0).vt), .int .i64 ((xs.getD q op0).count), .slice B_217 ((xs.getD q op0).attrs.length) c_218]] (by kernel_rfl) (Mix.of_R (Kd.R_below hr_229 hb_231)) (Kd.R_C hR_235) rfl (fun i_ hi_ => by have h_ : i_ = 0 := (by omega); subst h_; exact (kOp_K_of (x := xs.getD q op0) hl_219 (Kd.C_below hC_220 (bt (bt (bt hb_2 hb_4) hb_207) hb_211)))) ((bt hb_227 hb_231)).size (by omega) ?_
                intro A_236 c_237 w_238 hm_239 hg_240 hl_241
                have hB_243 : Below wd_210.heap.size wd_210 w_238 := (bgo (bt hb_227 hb_231) hg_240 hl_241 (Nat.le_refl _))
                have hC_242 : kOp.C w_238 A_236 ((List.take q xs) ++ [(xs.getD q op0)]).length ((List.take q xs) ++ [(xs.getD q op0)]) := Mix.C hB_243 hm_239
                refine XL_nil ?_
                refine ⟨hB_243, ?_⟩
                refine XB_mid (fuel' := 1) 13 #[true, true, true, true, true, true, true, true, true, true, true, true, true, true, false] _ rfl (by kernel_rfl) (by kernel_rfl) rfl ?_
                obtain ⟨vs_244, hC_245, hK_246⟩ := Kd.C_raw (d := kOp) op0 (Kd.C_below hC_223 (bt (bt (bt hb_2 hb_4) hb_207) hb_211))
                refine XL_appendMix (d := kOp) (W0 := wd_210) (c' := (c - q)) (m := (xs.length - q)) op0 rfl rfl rfl 33 (.agg #[.int .i64 0, .string ByteArray.empty, .int .i64 0, .int .i64 0, .string ByteArray.empty, .int .i64 0, .slice none 0 0]) 88 Tryd.underlying22 info33 rfl (by decide) (by omega) ((List.take q xs) ++ [(xs.getD q op0)]) (xs.drop q) vs_244 (by kernel_rfl) hm_239 (Kd.C_below hC_245 hB_243) hdl hK_246 (hB_243).size (by omega) ?_
                intro A_247 c_248 w_249 hm_250 hg_251 hl_252
                have hB_254 : Below wd_210.heap.size wd_210 w_249 := (bgo hB_243 hg_251 hl_252 (Nat.le_refl _))
                have hC_253 : kOp.C w_249 A_247 (((List.take q xs) ++ [(xs.getD q op0)]) ++ (xs.drop q)).length (((List.take q xs) ++ [(xs.getD q op0)]) ++ (xs.drop q)) := Mix.C hB_254 hm_250
                refine XL_nil ?_
                refine ⟨hB_254, ?_⟩
                refine XB_run (fuel' := 0) hB_254 [14] [] [.slice A_247 ((((List.take q xs) ++ [(xs.getD q op0)]) ++ (xs.drop q)).length) c_248] #[true, true, true, true, true, true, true, true, true, true, true, true, true, true, true] [(0, .slice A xs.length c), (1, .int .i64 (q : Int)), (7, .slice A_247 ((((List.take q xs) ++ [(xs.getD q op0)]) ++ (xs.drop q)).length) c_248)] (fun w_ => []) (fun _ _ _ _ h => h) (fun w_ => by kernel_rfl) rfl (fun w_ hC_ => trivial) ?_
                refine XB_done (by kernel_rfl) ?_
                refine X_seq ?_
                refine X_region ?_
                have htwd : (((List.take q xs) ++ [(xs.getD q op0)]) ++ (xs.drop q)) = twice xs q := rfl
                have hcw := Can_twice ((canP_iff xs).1 c_5) q hql
                have hpw := lenP_pos (((List.take q xs) ++ [(xs.getD q op0)]) ++ (xs.drop q))
                rw [← htwd] at hcw htl
                have hck := Can_check ((canP_iff xs).1 c_5) hql
                refine XL_run 1 [] [(0, .slice A xs.length c), (1, .int .i64 (q : Int)), (7, .slice A_247 ((((List.take q xs) ++ [(xs.getD q op0)]) ++ (xs.drop q)).length) c_248), (72, .slice A_247 ((((List.take q xs) ++ [(xs.getD q op0)]) ++ (xs.drop q)).length) c_248)] w_249 [] (by kernel_rfl) trivial ?_
                have hB_255 : Below w.heap.size w w_249 := (bgo (bgo (bt (bt (bt (bt (bt hb_2 hb_4) hb_207) hb_211) hb_227) hb_231) hg_240 hl_241 ((bt (bt (bt hb_2 hb_4) hb_207) hb_211)).size) hg_251 hl_252 ((bt (bt (bt hb_2 hb_4) hb_207) hb_211)).size)
                refine XL_call 20 rfl rfl rfl ent20 [.slice A_247 ((((List.take q xs) ++ [(xs.getD q op0)]) ++ (xs.drop q)).length) c_248] (by kernel_rfl) (olen_any A_247 c_248 (((List.take q xs) ++ [(xs.getD q op0)]) ++ (xs.drop q)) w_249 hC_253 (by omega) (sz_twice hz hql) (hT.below hB_255) es (hO.below hB_255)) ?_
                rintro e w_256 ⟨rfl, hb_257⟩; refine ⟨_, rfl, ?_⟩
                refine XL_run 7 [] [(0, .slice A xs.length c), (1, .int .i64 (q : Int)), (7, .slice A_247 ((((List.take q xs) ++ [(xs.getD q op0)]) ++ (xs.drop q)).length) c_248), (8, .int .i64 ((lenP (((List.take q xs) ++ [(xs.getD q op0)]) ++ (xs.drop q))).1)), (9, .int .i64 ((lenP (((List.take q xs) ++ [(xs.getD q op0)]) ++ (xs.drop q))).2.1)), (10, errV es ((lenP (((List.take q xs) ++ [(xs.getD q op0)]) ++ (xs.drop q))).2.2))] w_256 [] (by kernel_rfl) trivial ?_
                refine XL_nil ?_
                refine X_seq ?_
                refine X_region ?_
                refine XL_run 1 [] [(0, .slice A xs.length c), (1, .int .i64 (q : Int)), (7, .slice A_247 ((((List.take q xs) ++ [(xs.getD q op0)]) ++ (xs.drop q)).length) c_248), (8, .int .i64 ((lenP (((List.take q xs) ++ [(xs.getD q op0)]) ++ (xs.drop q))).1)), (9, .int .i64 ((lenP (((List.take q xs) ++ [(xs.getD q op0)]) ++ (xs.drop q))).2.1)), (77, errV es ((lenP (((List.take q xs) ++ [(xs.getD q op0)]) ++ (xs.drop q))).2.2))] w_256 [] (by kernel_rfl) trivial ?_
                by_cases c_258 : (lenP (((List.take q xs) ++ [(xs.getD q op0)]) ++ (xs.drop q))).2.2 = 0
                · rw [show errV es ((lenP (((List.take q xs) ++ [(xs.getD q op0)]) ++ (xs.drop q))).2.2) = .nilIface from by rw [c_258]; rfl]
                  refine XL_run 10 [(81, .eq (.bool true)), (85, .eq (.bool true))] [(0, .slice A xs.length c), (1, .int .i64 (q : Int)), (7, .slice A_247 ((((List.take q xs) ++ [(xs.getD q op0)]) ++ (xs.drop q)).length) c_248), (11, .bool true)] w_256 [Value.bool (decide ((lenP (((List.take q xs) ++ [(xs.getD q op0)]) ++ (xs.drop q))).1 ≥ 0)) = Value.bool true, Value.bool (decide ((lenP (((List.take q xs) ++ [(xs.getD q op0)]) ++ (xs.drop q))).2.1 ≥ 0)) = Value.bool true] (by kernel_rfl) ⟨congrArg Value.bool (decide_eq_true ((by omega))), congrArg Value.bool (decide_eq_true ((by omega))), trivial⟩ ?_
                  refine XL_nil ?_
                  refine X_seq ?_
                  refine X_region ?_
                  refine XL_run 1 [] [(0, .slice A xs.length c), (1, .int .i64 (q : Int)), (11, .bool true), (87, .slice A_247 ((((List.take q xs) ++ [(xs.getD q op0)]) ++ (xs.drop q)).length) c_248)] w_256 [] (by kernel_rfl) trivial ?_
                  refine XL_call 22 rfl rfl rfl ent22 [.slice A_247 ((((List.take q xs) ++ [(xs.getD q op0)]) ++ (xs.drop q)).length) c_248] (by kernel_rfl) (ocan_any A_247 c_248 (((List.take q xs) ++ [(xs.getD q op0)]) ++ (xs.drop q)) w_256 (Kd.C_below hC_253 hb_257) (by omega) (sz_twice hz hql) (hT.below (bt hB_255 hb_257)) es (hO.below (bt hB_255 hb_257))) ?_
                  rintro e w_259 ⟨rfl, hb_260⟩; refine ⟨_, rfl, ?_⟩
                  refine XL_run 4 [] [(0, .slice A xs.length c), (1, .int .i64 (q : Int)), (88, .bool (canP (((List.take q xs) ++ [(xs.getD q op0)]) ++ (xs.drop q)))), (90, .bool true), (91, .slice A xs.length c), (92, .int .i64 (q : Int))] w_259 [] (by kernel_rfl) trivial ?_
                  obtain ⟨ad_261, B_264, c_265, ha_262, hc_263, hl_266, hC_267⟩ := Kd.atOp hx (i := (q : Int)) (by omega) (by omega)
                  replace hc_263 : CellsAt w (ad_261.add ((q : Int).toNat * 7)) [.int .i64 ((xs.getD q op0).kind), .string ((xs.getD q op0).text), .int .i64 ((xs.getD q op0).vk), .int .i64 ((xs.getD q op0).vn), .string ((xs.getD q op0).vt), .int .i64 ((xs.getD q op0).count), .slice B_264 ((xs.getD q op0).attrs.length) c_265] := hc_263
                  replace hl_266 : (xs.getD q op0).attrs.length ≤ c_265 := hl_266
                  replace hC_267 : kAttr.C w B_264 ((xs.getD q op0).attrs.length) (xs.getD q op0).attrs := hC_267
                  refine XL_run 3 [(93, .idx ad_261), (95, .load (.int .i64 ((xs.getD q op0).kind)))] [(0, .slice A xs.length c), (1, .int .i64 (q : Int)), (88, .bool (canP (((List.take q xs) ++ [(xs.getD q op0)]) ++ (xs.drop q)))), (90, .bool true), (95, .int .i64 ((xs.getD q op0).kind))] w_259 [A = some ad_261, (0 : Int) ≤ (q : Int), (q : Int) < (xs.length : Int), LoadsAs Tryd.prog 3 (ad_261.add ((q : Int).toNat * 7)) (.int .i64 ((xs.getD q op0).kind)) w_259] (by kernel_rfl) ⟨ha_262, (by omega), (by omega), loads1 rfl (elem_cell (cells_below hc_263 (bt (bt hB_255 hb_257) hb_260)) 0 _ rfl), trivial⟩ ?_
                  by_cases c_268 : (xs.getD q op0).kind = 2
                  · refine XL_run 2 [(96, .eq (.bool true))] [(0, .slice A xs.length c), (1, .int .i64 (q : Int)), (88, .bool (canP (((List.take q xs) ++ [(xs.getD q op0)]) ++ (xs.drop q)))), (97, .bool true)] w_259 [Value.bool ((xs.getD q op0).kind == 2) = Value.bool true] (by kernel_rfl) ⟨congrArg Value.bool (beq_iff_eq.2 (c_268)), trivial⟩ ?_
                    by_cases c_269 : canP (((List.take q xs) ++ [(xs.getD q op0)]) ++ (xs.drop q)) = true
                    · rw [show (canP (((List.take q xs) ++ [(xs.getD q op0)]) ++ (xs.drop q)) : Bool) = true from by simpa using c_269]
                      refine XL_run 4 [] [(99, .bool true), (100, .slice A xs.length c), (101, .int .i64 (q : Int))] w_259 [] (by kernel_rfl) trivial ?_
                      obtain ⟨ad_270, B_273, c_274, ha_271, hc_272, hl_275, hC_276⟩ := Kd.atOp hx (i := (q : Int)) (by omega) (by omega)
                      replace hc_272 : CellsAt w (ad_270.add ((q : Int).toNat * 7)) [.int .i64 ((xs.getD q op0).kind), .string ((xs.getD q op0).text), .int .i64 ((xs.getD q op0).vk), .int .i64 ((xs.getD q op0).vn), .string ((xs.getD q op0).vt), .int .i64 ((xs.getD q op0).count), .slice B_273 ((xs.getD q op0).attrs.length) c_274] := hc_272
                      replace hl_275 : (xs.getD q op0).attrs.length ≤ c_274 := hl_275
                      replace hC_276 : kAttr.C w B_273 ((xs.getD q op0).attrs.length) (xs.getD q op0).attrs := hC_276
                      refine XL_run 2 [(102, .idx ad_270), (103, .load (.agg #[.int .i64 ((xs.getD q op0).kind), .string ((xs.getD q op0).text), .int .i64 ((xs.getD q op0).vk), .int .i64 ((xs.getD q op0).vn), .string ((xs.getD q op0).vt), .int .i64 ((xs.getD q op0).count), .slice B_273 ((xs.getD q op0).attrs.length) c_274]))] [(99, .bool true), (103, .agg #[.int .i64 ((xs.getD q op0).kind), .string ((xs.getD q op0).text), .int .i64 ((xs.getD q op0).vk), .int .i64 ((xs.getD q op0).vn), .string ((xs.getD q op0).vt), .int .i64 ((xs.getD q op0).count), .slice B_273 ((xs.getD q op0).attrs.length) c_274])] w_259 [A = some ad_270, (0 : Int) ≤ (q : Int), (q : Int) < (xs.length : Int), LoadsAs Tryd.prog 33 (ad_270.add ((q : Int).toNat * 7)) (.agg #[.int .i64 ((xs.getD q op0).kind), .string ((xs.getD q op0).text), .int .i64 ((xs.getD q op0).vk), .int .i64 ((xs.getD q op0).vn), .string ((xs.getD q op0).vt), .int .i64 ((xs.getD q op0).count), .slice B_273 ((xs.getD q op0).attrs.length) c_274]) w_259] (by kernel_rfl) ⟨ha_271, (by omega), (by omega), loadsE rfl rfl (cells_below hc_272 (bt (bt hB_255 hb_257) hb_260)) 0 ⟨by kernel_rfl, by kernel_rfl⟩, trivial⟩ ?_
                      refine XL_call 18 rfl rfl rfl ent18 [.agg #[.int .i64 ((xs.getD q op0).kind), .string ((xs.getD q op0).text), .int .i64 ((xs.getD q op0).vk), .int .i64 ((xs.getD q op0).vn), .string ((xs.getD q op0).vt), .int .i64 ((xs.getD q op0).count), .slice B_273 ((xs.getD q op0).attrs.length) c_274]] (by kernel_rfl) (ocheck_any (xs.getD q op0) _ _ _ (Kd.C_below hC_276 (bt (bt hB_255 hb_257) hb_260)) (hz q hql) (hT.below (bt (bt hB_255 hb_257) hb_260)) es (hO.below (bt (bt hB_255 hb_257) hb_260))) ?_
                      rintro e w_277 ⟨rfl, hb_278⟩; refine ⟨_, rfl, ?_⟩
                      by_cases c_279 : (pErr (xs.getD q op0)) = 0
                      · rw [show errV es (pErr (xs.getD q op0)) = .nilIface from by rw [c_279]; rfl]
                        refine XL_run 3 [] [(4, .bool true)] w_277 [] (by kernel_rfl) trivial ?_
                        refine XL_nil ?_
                        refine X_ret ?_
                        refine RX.ret_ok (P := Tryd.prog) (fn := Tryd.f5) (N := 107) (R := R_) [.bool true] (by kernel_rfl) (hR_ _ _ ?_)
                        have hB_280 : Below w.heap.size w w_277 := (bt (bt (bt hB_255 hb_257) hb_260) hb_278)
                        exact ⟨rfl, hB_280⟩
                      · exact absurd hck c_279
                    · exact absurd ((canP_iff _).2 (hcw.2 ⟨c_258, c_268⟩)) c_269
                  · refine XL_run 2 [(96, .eq (.bool false))] [(0, .slice A xs.length c), (1, .int .i64 (q : Int)), (88, .bool (canP (((List.take q xs) ++ [(xs.getD q op0)]) ++ (xs.drop q)))), (97, .bool false)] w_259 [Value.bool ((xs.getD q op0).kind == 2) = Value.bool false] (by kernel_rfl) ⟨congrArg Value.bool (beq_eq_false_iff_ne.2 (c_268)), trivial⟩ ?_
                    by_cases c_281 : canP (((List.take q xs) ++ [(xs.getD q op0)]) ++ (xs.drop q)) = true
                    · exfalso
                      have h1_ := hcw.1 ((canP_iff _).1 c_281)
                      exact c_268 h1_.2
                    · rw [show (canP (((List.take q xs) ++ [(xs.getD q op0)]) ++ (xs.drop q)) : Bool) = false from by simpa using c_281]
                      refine XL_run 4 [] [(99, .bool true), (100, .slice A xs.length c), (101, .int .i64 (q : Int))] w_259 [] (by kernel_rfl) trivial ?_
                      obtain ⟨ad_282, B_285, c_286, ha_283, hc_284, hl_287, hC_288⟩ := Kd.atOp hx (i := (q : Int)) (by omega) (by omega)
                      replace hc_284 : CellsAt w (ad_282.add ((q : Int).toNat * 7)) [.int .i64 ((xs.getD q op0).kind), .string ((xs.getD q op0).text), .int .i64 ((xs.getD q op0).vk), .int .i64 ((xs.getD q op0).vn), .string ((xs.getD q op0).vt), .int .i64 ((xs.getD q op0).count), .slice B_285 ((xs.getD q op0).attrs.length) c_286] := hc_284
                      replace hl_287 : (xs.getD q op0).attrs.length ≤ c_286 := hl_287
                      replace hC_288 : kAttr.C w B_285 ((xs.getD q op0).attrs.length) (xs.getD q op0).attrs := hC_288
                      refine XL_run 2 [(102, .idx ad_282), (103, .load (.agg #[.int .i64 ((xs.getD q op0).kind), .string ((xs.getD q op0).text), .int .i64 ((xs.getD q op0).vk), .int .i64 ((xs.getD q op0).vn), .string ((xs.getD q op0).vt), .int .i64 ((xs.getD q op0).count), .slice B_285 ((xs.getD q op0).attrs.length) c_286]))] [(99, .bool true), (103, .agg #[.int .i64 ((xs.getD q op0).kind), .string ((xs.getD q op0).text), .int .i64 ((xs.getD q op0).vk), .int .i64 ((xs.getD q op0).vn), .string ((xs.getD q op0).vt), .int .i64 ((xs.getD q op0).count), .slice B_285 ((xs.getD q op0).attrs.length) c_286])] w_259 [A = some ad_282, (0 : Int) ≤ (q : Int), (q : Int) < (xs.length : Int), LoadsAs Tryd.prog 33 (ad_282.add ((q : Int).toNat * 7)) (.agg #[.int .i64 ((xs.getD q op0).kind), .string ((xs.getD q op0).text), .int .i64 ((xs.getD q op0).vk), .int .i64 ((xs.getD q op0).vn), .string ((xs.getD q op0).vt), .int .i64 ((xs.getD q op0).count), .slice B_285 ((xs.getD q op0).attrs.length) c_286]) w_259] (by kernel_rfl) ⟨ha_283, (by omega), (by omega), loadsE rfl rfl (cells_below hc_284 (bt (bt hB_255 hb_257) hb_260)) 0 ⟨by kernel_rfl, by kernel_rfl⟩, trivial⟩ ?_
                      refine XL_call 18 rfl rfl rfl ent18 [.agg #[.int .i64 ((xs.getD q op0).kind), .string ((xs.getD q op0).text), .int .i64 ((xs.getD q op0).vk), .int .i64 ((xs.getD q op0).vn), .string ((xs.getD q op0).vt), .int .i64 ((xs.getD q op0).count), .slice B_285 ((xs.getD q op0).attrs.length) c_286]] (by kernel_rfl) (ocheck_any (xs.getD q op0) _ _ _ (Kd.C_below hC_288 (bt (bt hB_255 hb_257) hb_260)) (hz q hql) (hT.below (bt (bt hB_255 hb_257) hb_260)) es (hO.below (bt (bt hB_255 hb_257) hb_260))) ?_
                      rintro e w_289 ⟨rfl, hb_290⟩; refine ⟨_, rfl, ?_⟩
                      by_cases c_291 : (pErr (xs.getD q op0)) = 0
                      · rw [show errV es (pErr (xs.getD q op0)) = .nilIface from by rw [c_291]; rfl]
                        refine XL_run 3 [] [(4, .bool true)] w_289 [] (by kernel_rfl) trivial ?_
                        refine XL_nil ?_
                        refine X_ret ?_
                        refine RX.ret_ok (P := Tryd.prog) (fn := Tryd.f5) (N := 107) (R := R_) [.bool true] (by kernel_rfl) (hR_ _ _ ?_)
                        have hB_292 : Below w.heap.size w w_289 := (bt (bt (bt hB_255 hb_257) hb_260) hb_290)
                        exact ⟨rfl, hB_292⟩
                      · exact absurd hck c_291
                · rw [errV_pos es ((lenP (((List.take q xs) ++ [(xs.getD q op0)]) ++ (xs.drop q))).2.2) (Nat.pos_of_ne_zero c_258)]
                  refine XL_run 10 [] [(0, .slice A xs.length c), (1, .int .i64 (q : Int)), (7, .slice A_247 ((((List.take q xs) ++ [(xs.getD q op0)]) ++ (xs.drop q)).length) c_248), (11, .bool false)] w_256 [] (by kernel_rfl) trivial ?_
                  refine XL_nil ?_
                  refine X_seq ?_
                  refine X_region ?_
                  refine XL_run 1 [] [(0, .slice A xs.length c), (1, .int .i64 (q : Int)), (11, .bool false), (87, .slice A_247 ((((List.take q xs) ++ [(xs.getD q op0)]) ++ (xs.drop q)).length) c_248)] w_256 [] (by kernel_rfl) trivial ?_
                  refine XL_call 22 rfl rfl rfl ent22 [.slice A_247 ((((List.take q xs) ++ [(xs.getD q op0)]) ++ (xs.drop q)).length) c_248] (by kernel_rfl) (ocan_any A_247 c_248 (((List.take q xs) ++ [(xs.getD q op0)]) ++ (xs.drop q)) w_256 (Kd.C_below hC_253 hb_257) (by omega) (sz_twice hz hql) (hT.below (bt hB_255 hb_257)) es (hO.below (bt hB_255 hb_257))) ?_
                  rintro e w_293 ⟨rfl, hb_294⟩; refine ⟨_, rfl, ?_⟩
                  refine XL_run 9 [] [(0, .slice A xs.length c), (1, .int .i64 (q : Int)), (88, .bool (canP (((List.take q xs) ++ [(xs.getD q op0)]) ++ (xs.drop q)))), (97, .bool false)] w_293 [] (by kernel_rfl) trivial ?_
                  by_cases c_295 : canP (((List.take q xs) ++ [(xs.getD q op0)]) ++ (xs.drop q)) = true
                  · exact absurd (hcw.1 ((canP_iff _).1 c_295)).1 c_258
                  · rw [show (canP (((List.take q xs) ++ [(xs.getD q op0)]) ++ (xs.drop q)) : Bool) = false from by simpa using c_295]
                    refine XL_run 4 [] [(99, .bool true), (100, .slice A xs.length c), (101, .int .i64 (q : Int))] w_293 [] (by kernel_rfl) trivial ?_
                    obtain ⟨ad_296, B_299, c_300, ha_297, hc_298, hl_301, hC_302⟩ := Kd.atOp hx (i := (q : Int)) (by omega) (by omega)
                    replace hc_298 : CellsAt w (ad_296.add ((q : Int).toNat * 7)) [.int .i64 ((xs.getD q op0).kind), .string ((xs.getD q op0).text), .int .i64 ((xs.getD q op0).vk), .int .i64 ((xs.getD q op0).vn), .string ((xs.getD q op0).vt), .int .i64 ((xs.getD q op0).count), .slice B_299 ((xs.getD q op0).attrs.length) c_300] := hc_298
                    replace hl_301 : (xs.getD q op0).attrs.length ≤ c_300 := hl_301
                    replace hC_302 : kAttr.C w B_299 ((xs.getD q op0).attrs.length) (xs.getD q op0).attrs := hC_302
                    refine XL_run 2 [(102, .idx ad_296), (103, .load (.agg #[.int .i64 ((xs.getD q op0).kind), .string ((xs.getD q op0).text), .int .i64 ((xs.getD q op0).vk), .int .i64 ((xs.getD q op0).vn), .string ((xs.getD q op0).vt), .int .i64 ((xs.getD q op0).count), .slice B_299 ((xs.getD q op0).attrs.length) c_300]))] [(99, .bool true), (103, .agg #[.int .i64 ((xs.getD q op0).kind), .string ((xs.getD q op0).text), .int .i64 ((xs.getD q op0).vk), .int .i64 ((xs.getD q op0).vn), .string ((xs.getD q op0).vt), .int .i64 ((xs.getD q op0).count), .slice B_299 ((xs.getD q op0).attrs.length) c_300])] w_293 [A = some ad_296, (0 : Int) ≤ (q : Int), (q : Int) < (xs.length : Int), LoadsAs Tryd.prog 33 (ad_296.add ((q : Int).toNat * 7)) (.agg #[.int .i64 ((xs.getD q op0).kind), .string ((xs.getD q op0).text), .int .i64 ((xs.getD q op0).vk), .int .i64 ((xs.getD q op0).vn), .string ((xs.getD q op0).vt), .int .i64 ((xs.getD q op0).count), .slice B_299 ((xs.getD q op0).attrs.length) c_300]) w_293] (by kernel_rfl) ⟨ha_297, (by omega), (by omega), loadsE rfl rfl (cells_below hc_298 (bt (bt hB_255 hb_257) hb_294)) 0 ⟨by kernel_rfl, by kernel_rfl⟩, trivial⟩ ?_
                    refine XL_call 18 rfl rfl rfl ent18 [.agg #[.int .i64 ((xs.getD q op0).kind), .string ((xs.getD q op0).text), .int .i64 ((xs.getD q op0).vk), .int .i64 ((xs.getD q op0).vn), .string ((xs.getD q op0).vt), .int .i64 ((xs.getD q op0).count), .slice B_299 ((xs.getD q op0).attrs.length) c_300]] (by kernel_rfl) (ocheck_any (xs.getD q op0) _ _ _ (Kd.C_below hC_302 (bt (bt hB_255 hb_257) hb_294)) (hz q hql) (hT.below (bt (bt hB_255 hb_257) hb_294)) es (hO.below (bt (bt hB_255 hb_257) hb_294))) ?_
                    rintro e w_303 ⟨rfl, hb_304⟩; refine ⟨_, rfl, ?_⟩
                    by_cases c_305 : (pErr (xs.getD q op0)) = 0
                    · rw [show errV es (pErr (xs.getD q op0)) = .nilIface from by rw [c_305]; rfl]
                      refine XL_run 3 [] [(4, .bool true)] w_303 [] (by kernel_rfl) trivial ?_
                      refine XL_nil ?_
                      refine X_ret ?_
                      refine RX.ret_ok (P := Tryd.prog) (fn := Tryd.f5) (N := 107) (R := R_) [.bool true] (by kernel_rfl) (hR_ _ _ ?_)
                      have hB_306 : Below w.heap.size w w_303 := (bt (bt (bt hB_255 hb_257) hb_294) hb_304)
                      exact ⟨rfl, hB_306⟩
                    · exact absurd hck c_305
              · refine XL_run 1 [] [(0, .slice A xs.length c), (1, .int .i64 (q : Int)), (59, .slice A q c), (65, .slice (some ⟨wd_210.heap.size, 0, none⟩) 1 1), (69, .slice A_221 (xs.length - q) (c - q))] (wd_210.alloc (.cells #[.int .i64 ((xs.getD q op0).kind), .string ((xs.getD q op0).text), .int .i64 ((xs.getD q op0).vk), .int .i64 ((xs.getD q op0).vn), .string ((xs.getD q op0).vt), .int .i64 ((xs.getD q op0).count), .slice B_217 ((xs.getD q op0).attrs.length) c_218] 33)) [] (by kernel_rfl) trivial ?_
                obtain ⟨w_307, hw_311, hb_308, hk_309, hz_310⟩ := new_world wd_210 #[.int .i64 ((xs.getD q op0).kind), .string ((xs.getD q op0).text), .int .i64 ((xs.getD q op0).vk), .int .i64 ((xs.getD q op0).vn), .string ((xs.getD q op0).vt), .int .i64 ((xs.getD q op0).count), .slice B_217 ((xs.getD q op0).attrs.length) c_218] 33
                rw [hw_311]
                refine XL_nil ?_
                refine ⟨hb_308, ?_⟩
                refine XB_mid (fuel' := 3) 3 #[true, true, true, true, true, true, true, true, true, false, true, true, true, false, false] _ rfl (by kernel_rfl) (by kernel_rfl) rfl ?_
                refine XL_call 16 rfl rfl rfl ent16 [.slice A q c] (by kernel_rfl) (by have h_ := ocopied_any A c (List.take q xs) w_307 (by rw [show (List.take q xs).length = q from (by rw [List.length_take]; omega)]; exact (Kd.C_below hC_213 hb_308)) (by omega) (sz_take hz q); rw [show (List.take q xs).length = q from (by rw [List.length_take]; omega)] at h_; exact h_) ?_
                rintro e w_314 ⟨A_312, c_313, rfl, hl_316, hr_317, hb_315⟩; refine ⟨_, rfl, ?_⟩
                refine XL_nil ?_
                refine ⟨(bt hb_308 hb_315), ?_⟩
                refine XB_mid (fuel' := 2) 9 #[true, true, true, true, true, true, true, true, true, true, true, true, true, false, false] _ rfl (by kernel_rfl) (by kernel_rfl) rfl ?_
                have hB_318 : Below w.heap.size w w_307 := (bt (bt (bt (bt hb_2 hb_4) hb_207) hb_211) hb_308)
                have hR_319 := Kd.R_litB (kRaw 7) (W := wd_210) (e := 33) (cs := #[.int .i64 ((xs.getD q op0).kind), .string ((xs.getD q op0).text), .int .i64 ((xs.getD q op0).vk), .int .i64 ((xs.getD q op0).vn), .string ((xs.getD q op0).vt), .int .i64 ((xs.getD q op0).count), .slice B_217 ((xs.getD q op0).attrs.length) c_218]) [[.int .i64 ((xs.getD q op0).kind), .string ((xs.getD q op0).text), .int .i64 ((xs.getD q op0).vk), .int .i64 ((xs.getD q op0).vn), .string ((xs.getD q op0).vt), .int .i64 ((xs.getD q op0).count), .slice B_217 ((xs.getD q op0).attrs.length) c_218]] hk_309 (raw1 _ rfl (by kernel_rfl)) (Nat.le_of_ble_eq_true (by kernel_rfl))
                refine XL_appendMix (d := kOp) (W0 := w_307) (c' := 1) (m := 1) op0 rfl rfl rfl 33 (.agg #[.int .i64 0, .string ByteArray.empty, .int .i64 0, .int .i64 0, .string ByteArray.empty, .int .i64 0, .slice none 0 0]) 88 Tryd.underlying22 info33 rfl (by decide) (by omega) (List.take q xs) ([(xs.getD q op0)]) [[.int .i64 ((xs.getD q op0).kind), .string ((xs.getD q op0).text), .int .i64 ((xs.getD q op0).vk), .int .i64 ((xs.getD q op0).vn), .string ((xs.getD q op0).vt), .int .i64 ((xs.getD q op0).count), .slice B_217 ((xs.getD q op0).attrs.length) c_218]] (by kernel_rfl) (Mix.of_R hr_317) (Kd.C_below (Kd.R_C hR_319) hb_315) rfl (fun i_ hi_ => by have h_ : i_ = 0 := (by omega); subst h_; exact (kOp_K_of (x := xs.getD q op0) hl_219 (Kd.C_below hC_220 hB_318))) (hb_315).size (by omega) ?_
                intro A_320 c_321 w_322 hm_323 hg_324 hl_325
                have hB_327 : Below w_307.heap.size w_307 w_322 := (bgo hb_315 hg_324 hl_325 (Nat.le_refl _))
                have hC_326 : kOp.C w_322 A_320 ((List.take q xs) ++ [(xs.getD q op0)]).length ((List.take q xs) ++ [(xs.getD q op0)]) := Mix.C hB_327 hm_323
                refine XL_nil ?_
                have hB_328 : Below wd_210.heap.size wd_210 w_322 := (bgo (bt hb_308 hb_315) hg_324 hl_325 (hb_308).size)
                refine ⟨hB_328, ?_⟩
                refine XB_mid (fuel' := 1) 13 #[true, true, true, true, true, true, true, true, true, true, true, true, true, true, false] _ rfl (by kernel_rfl) (by kernel_rfl) rfl ?_
                obtain ⟨vs_329, hC_330, hK_331⟩ := Kd.C_raw (d := kOp) op0 (Kd.C_below hC_223 hB_318)
                refine XL_appendMix (d := kOp) (W0 := w_307) (c' := (c - q)) (m := (xs.length - q)) op0 rfl rfl rfl 33 (.agg #[.int .i64 0, .string ByteArray.empty, .int .i64 0, .int .i64 0, .string ByteArray.empty, .int .i64 0, .slice none 0 0]) 88 Tryd.underlying22 info33 rfl (by decide) (by omega) ((List.take q xs) ++ [(xs.getD q op0)]) (xs.drop q) vs_329 (by kernel_rfl) hm_323 (Kd.C_below hC_330 hB_327) hdl hK_331 (hB_327).size (by omega) ?_
                intro A_332 c_333 w_334 hm_335 hg_336 hl_337
                have hB_339 : Below w_307.heap.size w_307 w_334 := (bgo hB_327 hg_336 hl_337 (Nat.le_refl _))
                have hC_338 : kOp.C w_334 A_332 (((List.take q xs) ++ [(xs.getD q op0)]) ++ (xs.drop q)).length (((List.take q xs) ++ [(xs.getD q op0)]) ++ (xs.drop q)) := Mix.C hB_339 hm_335
                refine XL_nil ?_
                refine ⟨(bgo hB_328 hg_336 hl_337 (hb_308).size), ?_⟩
                refine XB_run (fuel' := 0) (bgo hB_328 hg_336 hl_337 (hb_308).size) [14] [] [.slice A_332 ((((List.take q xs) ++ [(xs.getD q op0)]) ++ (xs.drop q)).length) c_333] #[true, true, true, true, true, true, true, true, true, true, true, true, true, true, true] [(0, .slice A xs.length c), (1, .int .i64 (q : Int)), (7, .slice A_332 ((((List.take q xs) ++ [(xs.getD q op0)]) ++ (xs.drop q)).length) c_333)] (fun w_ => []) (fun _ _ _ _ h => h) (fun w_ => by kernel_rfl) rfl (fun w_ hC_ => trivial) ?_
                refine XB_done (by kernel_rfl) ?_
                refine X_seq ?_
                refine X_region ?_
                have htwd : (((List.take q xs) ++ [(xs.getD q op0)]) ++ (xs.drop q)) = twice xs q := rfl
                have hcw := Can_twice ((canP_iff xs).1 c_5) q hql
                have hpw := lenP_pos (((List.take q xs) ++ [(xs.getD q op0)]) ++ (xs.drop q))
                rw [← htwd] at hcw htl
                have hck := Can_check ((canP_iff xs).1 c_5) hql
                refine XL_run 1 [] [(0, .slice A xs.length c), (1, .int .i64 (q : Int)), (7, .slice A_332 ((((List.take q xs) ++ [(xs.getD q op0)]) ++ (xs.drop q)).length) c_333), (72, .slice A_332 ((((List.take q xs) ++ [(xs.getD q op0)]) ++ (xs.drop q)).length) c_333)] w_334 [] (by kernel_rfl) trivial ?_
                have hB_340 : Below w.heap.size w w_334 := (bgo (bgo (bt hB_318 hb_315) hg_324 hl_325 (hB_318).size) hg_336 hl_337 (hB_318).size)
                refine XL_call 20 rfl rfl rfl ent20 [.slice A_332 ((((List.take q xs) ++ [(xs.getD q op0)]) ++ (xs.drop q)).length) c_333] (by kernel_rfl) (olen_any A_332 c_333 (((List.take q xs) ++ [(xs.getD q op0)]) ++ (xs.drop q)) w_334 hC_338 (by omega) (sz_twice hz hql) (hT.below hB_340) es (hO.below hB_340)) ?_
                rintro e w_341 ⟨rfl, hb_342⟩; refine ⟨_, rfl, ?_⟩
                refine XL_run 7 [] [(0, .slice A xs.length c), (1, .int .i64 (q : Int)), (7, .slice A_332 ((((List.take q xs) ++ [(xs.getD q op0)]) ++ (xs.drop q)).length) c_333), (8, .int .i64 ((lenP (((List.take q xs) ++ [(xs.getD q op0)]) ++ (xs.drop q))).1)), (9, .int .i64 ((lenP (((List.take q xs) ++ [(xs.getD q op0)]) ++ (xs.drop q))).2.1)), (10, errV es ((lenP (((List.take q xs) ++ [(xs.getD q op0)]) ++ (xs.drop q))).2.2))] w_341 [] (by kernel_rfl) trivial ?_
                refine XL_nil ?_
                refine X_seq ?_
                refine X_region ?_
                refine XL_run 1 [] [(0, .slice A xs.length c), (1, .int .i64 (q : Int)), (7, .slice A_332 ((((List.take q xs) ++ [(xs.getD q op0)]) ++ (xs.drop q)).length) c_333), (8, .int .i64 ((lenP (((List.take q xs) ++ [(xs.getD q op0)]) ++ (xs.drop q))).1)), (9, .int .i64 ((lenP (((List.take q xs) ++ [(xs.getD q op0)]) ++ (xs.drop q))).2.1)), (77, errV es ((lenP (((List.take q xs) ++ [(xs.getD q op0)]) ++ (xs.drop q))).2.2))] w_341 [] (by kernel_rfl) trivial ?_
                by_cases c_343 : (lenP (((List.take q xs) ++ [(xs.getD q op0)]) ++ (xs.drop q))).2.2 = 0
                · rw [show errV es ((lenP (((List.take q xs) ++ [(xs.getD q op0)]) ++ (xs.drop q))).2.2) = .nilIface from by rw [c_343]; rfl]
                  refine XL_run 10 [(81, .eq (.bool true)), (85, .eq (.bool true))] [(0, .slice A xs.length c), (1, .int .i64 (q : Int)), (7, .slice A_332 ((((List.take q xs) ++ [(xs.getD q op0)]) ++ (xs.drop q)).length) c_333), (11, .bool true)] w_341 [Value.bool (decide ((lenP (((List.take q xs) ++ [(xs.getD q op0)]) ++ (xs.drop q))).1 ≥ 0)) = Value.bool true, Value.bool (decide ((lenP (((List.take q xs) ++ [(xs.getD q op0)]) ++ (xs.drop q))).2.1 ≥ 0)) = Value.bool true] (by kernel_rfl) ⟨congrArg Value.bool (decide_eq_true ((by omega))), congrArg Value.bool (decide_eq_true ((by omega))), trivial⟩ ?_
                  refine XL_nil ?_
                  refine X_seq ?_
                  refine X_region ?_
                  refine XL_run 1 [] [(0, .slice A xs.length c), (1, .int .i64 (q : Int)), (11, .bool true), (87, .slice A_332 ((((List.take q xs) ++ [(xs.getD q op0)]) ++ (xs.drop q)).length) c_333)] w_341 [] (by kernel_rfl) trivial ?_
                  refine XL_call 22 rfl rfl rfl ent22 [.slice A_332 ((((List.take q xs) ++ [(xs.getD q op0)]) ++ (xs.drop q)).length) c_333] (by kernel_rfl) (ocan_any A_332 c_333 (((List.take q xs) ++ [(xs.getD q op0)]) ++ (xs.drop q)) w_341 (Kd.C_below hC_338 hb_342) (by omega) (sz_twice hz hql) (hT.below (bt hB_340 hb_342)) es (hO.below (bt hB_340 hb_342))) ?_
                  rintro e w_344 ⟨rfl, hb_345⟩; refine ⟨_, rfl, ?_⟩
                  refine XL_run 4 [] [(0, .slice A xs.length c), (1, .int .i64 (q : Int)), (88, .bool (canP (((List.take q xs) ++ [(xs.getD q op0)]) ++ (xs.drop q)))), (90, .bool true), (91, .slice A xs.length c), (92, .int .i64 (q : Int))] w_344 [] (by kernel_rfl) trivial ?_
                  obtain ⟨ad_346, B_349, c_350, ha_347, hc_348, hl_351, hC_352⟩ := Kd.atOp hx (i := (q : Int)) (by omega) (by omega)
                  replace hc_348 : CellsAt w (ad_346.add ((q : Int).toNat * 7)) [.int .i64 ((xs.getD q op0).kind), .string ((xs.getD q op0).text), .int .i64 ((xs.getD q op0).vk), .int .i64 ((xs.getD q op0).vn), .string ((xs.getD q op0).vt), .int .i64 ((xs.getD q op0).count), .slice B_349 ((xs.getD q op0).attrs.length) c_350] := hc_348
                  replace hl_351 : (xs.getD q op0).attrs.length ≤ c_350 := hl_351
                  replace hC_352 : kAttr.C w B_349 ((xs.getD q op0).attrs.length) (xs.getD q op0).attrs := hC_352
                  refine XL_run 3 [(93, .idx ad_346), (95, .load (.int .i64 ((xs.getD q op0).kind)))] [(0, .slice A xs.length c), (1, .int .i64 (q : Int)), (88, .bool (canP (((List.take q xs) ++ [(xs.getD q op0)]) ++ (xs.drop q)))), (90, .bool true), (95, .int .i64 ((xs.getD q op0).kind))] w_344 [A = some ad_346, (0 : Int) ≤ (q : Int), (q : Int) < (xs.length : Int), LoadsAs Tryd.prog 3 (ad_346.add ((q : Int).toNat * 7)) (.int .i64 ((xs.getD q op0).kind)) w_344] (by kernel_rfl) ⟨ha_347, (by omega), (by omega), loads1 rfl (elem_cell (cells_below hc_348 (bt (bt hB_340 hb_342) hb_345)) 0 _ rfl), trivial⟩ ?_
                  by_cases c_353 : (xs.getD q op0).kind = 2
                  · refine XL_run 2 [(96, .eq (.bool true))] [(0, .slice A xs.length c), (1, .int .i64 (q : Int)), (88, .bool (canP (((List.take q xs) ++ [(xs.getD q op0)]) ++ (xs.drop q)))), (97, .bool true)] w_344 [Value.bool ((xs.getD q op0).kind == 2) = Value.bool true] (by kernel_rfl) ⟨congrArg Value.bool (beq_iff_eq.2 (c_353)), trivial⟩ ?_
                    by_cases c_354 : canP (((List.take q xs) ++ [(xs.getD q op0)]) ++ (xs.drop q)) = true
                    · rw [show (canP (((List.take q xs) ++ [(xs.getD q op0)]) ++ (xs.drop q)) : Bool) = true from by simpa using c_354]
                      refine XL_run 4 [] [(99, .bool true), (100, .slice A xs.length c), (101, .int .i64 (q : Int))] w_344 [] (by kernel_rfl) trivial ?_
                      obtain ⟨ad_355, B_358, c_359, ha_356, hc_357, hl_360, hC_361⟩ := Kd.atOp hx (i := (q : Int)) (by omega) (by omega)
                      replace hc_357 : CellsAt w (ad_355.add ((q : Int).toNat * 7)) [.int .i64 ((xs.getD q op0).kind), .string ((xs.getD q op0).text), .int .i64 ((xs.getD q op0).vk), .int .i64 ((xs.getD q op0).vn), .string ((xs.getD q op0).vt), .int .i64 ((xs.getD q op0).count), .slice B_358 ((xs.getD q op0).attrs.length) c_359] := hc_357
                      replace hl_360 : (xs.getD q op0).attrs.length ≤ c_359 := hl_360
                      replace hC_361 : kAttr.C w B_358 ((xs.getD q op0).attrs.length) (xs.getD q op0).attrs := hC_361
                      refine XL_run 2 [(102, .idx ad_355), (103, .load (.agg #[.int .i64 ((xs.getD q op0).kind), .string ((xs.getD q op0).text), .int .i64 ((xs.getD q op0).vk), .int .i64 ((xs.getD q op0).vn), .string ((xs.getD q op0).vt), .int .i64 ((xs.getD q op0).count), .slice B_358 ((xs.getD q op0).attrs.length) c_359]))] [(99, .bool true), (103, .agg #[.int .i64 ((xs.getD q op0).kind), .string ((xs.getD q op0).text), .int .i64 ((xs.getD q op0).vk), .int .i64 ((xs.getD q op0).vn), .string ((xs.getD q op0).vt), .int .i64 ((xs.getD q op0).count), .slice B_358 ((xs.getD q op0).attrs.length) c_359])] w_344 [A = some ad_355, (0 : Int) ≤ (q : Int), (q : Int) < (xs.length : Int), LoadsAs Tryd.prog 33 (ad_355.add ((q : Int).toNat * 7)) (.agg #[.int .i64 ((xs.getD q op0).kind), .string ((xs.getD q op0).text), .int .i64 ((xs.getD q op0).vk), .int .i64 ((xs.getD q op0).vn), .string ((xs.getD q op0).vt), .int .i64 ((xs.getD q op0).count), .slice B_358 ((xs.getD q op0).attrs.length) c_359]) w_344] (by kernel_rfl) ⟨ha_356, (by omega), (by omega), loadsE rfl rfl (cells_below hc_357 (bt (bt hB_340 hb_342) hb_345)) 0 ⟨by kernel_rfl, by kernel_rfl⟩, trivial⟩ ?_
                      refine XL_call 18 rfl rfl rfl ent18 [.agg #[.int .i64 ((xs.getD q op0).kind), .string ((xs.getD q op0).text), .int .i64 ((xs.getD q op0).vk), .int .i64 ((xs.getD q op0).vn), .string ((xs.getD q op0).vt), .int .i64 ((xs.getD q op0).count), .slice B_358 ((xs.getD q op0).attrs.length) c_359]] (by kernel_rfl) (ocheck_any (xs.getD q op0) _ _ _ (Kd.C_below hC_361 (bt (bt hB_340 hb_342) hb_345)) (hz q hql) (hT.below (bt (bt hB_340 hb_342) hb_345)) es (hO.below (bt (bt hB_340 hb_342) hb_345))) ?_
                      rintro e w_362 ⟨rfl, hb_363⟩; refine ⟨_, rfl, ?_⟩
                      by_cases c_364 : (pErr (xs.getD q op0)) = 0
                      · rw [show errV es (pErr (xs.getD q op0)) = .nilIface from by rw [c_364]; rfl]
                        refine XL_run 3 [] [(4, .bool true)] w_362 [] (by kernel_rfl) trivial ?_
                        refine XL_nil ?_
                        refine X_ret ?_
                        refine RX.ret_ok (P := Tryd.prog) (fn := Tryd.f5) (N := 107) (R := R_) [.bool true] (by kernel_rfl) (hR_ _ _ ?_)
                        have hB_365 : Below w.heap.size w w_362 := (bt (bt (bt hB_340 hb_342) hb_345) hb_363)
                        exact ⟨rfl, hB_365⟩
                      · exact absurd hck c_364
                    · exact absurd ((canP_iff _).2 (hcw.2 ⟨c_343, c_353⟩)) c_354
                  · refine XL_run 2 [(96, .eq (.bool false))] [(0, .slice A xs.length c), (1, .int .i64 (q : Int)), (88, .bool (canP (((List.take q xs) ++ [(xs.getD q op0)]) ++ (xs.drop q)))), (97, .bool false)] w_344 [Value.bool ((xs.getD q op0).kind == 2) = Value.bool false] (by kernel_rfl) ⟨congrArg Value.bool (beq_eq_false_iff_ne.2 (c_353)), trivial⟩ ?_
                    by_cases c_366 : canP (((List.take q xs) ++ [(xs.getD q op0)]) ++ (xs.drop q)) = true
                    · exfalso
                      have h1_ := hcw.1 ((canP_iff _).1 c_366)
                      exact c_353 h1_.2
                    · rw [show (canP (((List.take q xs) ++ [(xs.getD q op0)]) ++ (xs.drop q)) : Bool) = false from by simpa using c_366]
                      refine XL_run 4 [] [(99, .bool true), (100, .slice A xs.length c), (101, .int .i64 (q : Int))] w_344 [] (by kernel_rfl) trivial ?_
                      obtain ⟨ad_367, B_370, c_371, ha_368, hc_369, hl_372, hC_373⟩ := Kd.atOp hx (i := (q : Int)) (by omega) (by omega)
                      replace hc_369 : CellsAt w (ad_367.add ((q : Int).toNat * 7)) [.int .i64 ((xs.getD q op0).kind), .string ((xs.getD q op0).text), .int .i64 ((xs.getD q op0).vk), .int .i64 ((xs.getD q op0).vn), .string ((xs.getD q op0).vt), .int .i64 ((xs.getD q op0).count), .slice B_370 ((xs.getD q op0).attrs.length) c_371] := hc_369
                      replace hl_372 : (xs.getD q op0).attrs.length ≤ c_371 := hl_372
                      replace hC_373 : kAttr.C w B_370 ((xs.getD q op0).attrs.length) (xs.getD q op0).attrs := hC_373
                      refine XL_run 2 [(102, .idx ad_367), (103, .load (.agg #[.int .i64 ((xs.getD q op0).kind), .string ((xs.getD q op0).text), .int .i64 ((xs.getD q op0).vk), .int .i64 ((xs.getD q op0).vn), .string ((xs.getD q op0).vt), .int .i64 ((xs.getD q op0).count), .slice B_370 ((xs.getD q op0).attrs.length) c_371]))] [(99, .bool true), (103, .agg #[.int .i64 ((xs.getD q op0).kind), .string ((xs.getD q op0).text), .int .i64 ((xs.getD q op0).vk), .int .i64 ((xs.getD q op0).vn), .string ((xs.getD q op0).vt), .int .i64 ((xs.getD q op0).count), .slice B_370 ((xs.getD q op0).attrs.length) c_371])] w_344 [A = some ad_367, (0 : Int) ≤ (q : Int), (q : Int) < (xs.length : Int), LoadsAs Tryd.prog 33 (ad_367.add ((q : Int).toNat * 7)) (.agg #[.int .i64 ((xs.getD q op0).kind), .string ((xs.getD q op0).text), .int .i64 ((xs.getD q op0).vk), .int .i64 ((xs.getD q op0).vn), .string ((xs.getD q op0).vt), .int .i64 ((xs.getD q op0).count), .slice B_370 ((xs.getD q op0).attrs.length) c_371]) w_344] (by kernel_rfl) ⟨ha_368, (by omega), (by omega), loadsE rfl rfl (cells_below hc_369 (bt (bt hB_340 hb_342) hb_345)) 0 ⟨by kernel_rfl, by kernel_rfl⟩, trivial⟩ ?_
                      refine XL_call 18 rfl rfl rfl ent18 [.agg #[.int .i64 ((xs.getD q op0).kind), .string ((xs.getD q op0).text), .int .i64 ((xs.getD q op0).vk), .int .i64 ((xs.getD q op0).vn), .string ((xs.getD q op0).vt), .int .i64 ((xs.getD q op0).count), .slice B_370 ((xs.getD q op0).attrs.length) c_371]] (by kernel_rfl) (ocheck_any (xs.getD q op0) _ _ _ (Kd.C_below hC_373 (bt (bt hB_340 hb_342) hb_345)) (hz q hql) (hT.below (bt (bt hB_340 hb_342) hb_345)) es (hO.below (bt (bt hB_340 hb_342) hb_345))) ?_
                      rintro e w_374 ⟨rfl, hb_375⟩; refine ⟨_, rfl, ?_⟩
                      by_cases c_376 : (pErr (xs.getD q op0)) = 0
                      · rw [show errV es (pErr (xs.getD q op0)) = .nilIface from by rw [c_376]; rfl]
                        refine XL_run 3 [] [(4, .bool true)] w_374 [] (by kernel_rfl) trivial ?_
                        refine XL_nil ?_
                        refine X_ret ?_
                        refine RX.ret_ok (P := Tryd.prog) (fn := Tryd.f5) (N := 107) (R := R_) [.bool true] (by kernel_rfl) (hR_ _ _ ?_)
                        have hB_377 : Below w.heap.size w w_374 := (bt (bt (bt hB_340 hb_342) hb_345) hb_375)
                        exact ⟨rfl, hB_377⟩
                      · exact absurd hck c_376
                · rw [errV_pos es ((lenP (((List.take q xs) ++ [(xs.getD q op0)]) ++ (xs.drop q))).2.2) (Nat.pos_of_ne_zero c_343)]
                  refine XL_run 10 [] [(0, .slice A xs.length c), (1, .int .i64 (q : Int)), (7, .slice A_332 ((((List.take q xs) ++ [(xs.getD q op0)]) ++ (xs.drop q)).length) c_333), (11, .bool false)] w_341 [] (by kernel_rfl) trivial ?_
                  refine XL_nil ?_
                  refine X_seq ?_
                  refine X_region ?_
                  refine XL_run 1 [] [(0, .slice A xs.length c), (1, .int .i64 (q : Int)), (11, .bool false), (87, .slice A_332 ((((List.take q xs) ++ [(xs.getD q op0)]) ++ (xs.drop q)).length) c_333)] w_341 [] (by kernel_rfl) trivial ?_
                  refine XL_call 22 rfl rfl rfl ent22 [.slice A_332 ((((List.take q xs) ++ [(xs.getD q op0)]) ++ (xs.drop q)).length) c_333] (by kernel_rfl) (ocan_any A_332 c_333 (((List.take q xs) ++ [(xs.getD q op0)]) ++ (xs.drop q)) w_341 (Kd.C_below hC_338 hb_342) (by omega) (sz_twice hz hql) (hT.below (bt hB_340 hb_342)) es (hO.below (bt hB_340 hb_342))) ?_
                  rintro e w_378 ⟨rfl, hb_379⟩; refine ⟨_, rfl, ?_⟩
                  refine XL_run 9 [] [(0, .slice A xs.length c), (1, .int .i64 (q : Int)), (88, .bool (canP (((List.take q xs) ++ [(xs.getD q op0)]) ++ (xs.drop q)))), (97, .bool false)] w_378 [] (by kernel_rfl) trivial ?_
                  by_cases c_380 : canP (((List.take q xs) ++ [(xs.getD q op0)]) ++ (xs.drop q)) = true
                  · exact absurd (hcw.1 ((canP_iff _).1 c_380)).1 c_343
                  · rw [show (canP (((List.take q xs) ++ [(xs.getD q op0)]) ++ (xs.drop q)) : Bool) = false from by simpa using c_380]
                    refine XL_run 4 [] [(99, .bool true), (100, .slice A xs.length c), (101, .int .i64 (q : Int))] w_378 [] (by kernel_rfl) trivial ?_
                    obtain ⟨ad_381, B_384, c_385, ha_382, hc_383, hl_386, hC_387⟩ := Kd.atOp hx (i := (q : Int)) (by omega) (by omega)
                    replace hc_383 : CellsAt w (ad_381.add ((q : Int).toNat * 7)) [.int .i64 ((xs.getD q op0).kind), .string ((xs.getD q op0).text), .int .i64 ((xs.getD q op0).vk), .int .i64 ((xs.getD q op0).vn), .string ((xs.getD q op0).vt), .int .i64 ((xs.getD q op0).count), .slice B_384 ((xs.getD q op0).attrs.length) c_385] := hc_383
                    replace hl_386 : (xs.getD q op0).attrs.length ≤ c_385 := hl_386
                    replace hC_387 : kAttr.C w B_384 ((xs.getD q op0).attrs.length) (xs.getD q op0).attrs := hC_387
                    refine XL_run 2 [(102, .idx ad_381), (103, .load (.agg #[.int .i64 ((xs.getD q op0).kind), .string ((xs.getD q op0).text), .int .i64 ((xs.getD q op0).vk), .int .i64 ((xs.getD q op0).vn), .string ((xs.getD q op0).vt), .int .i64 ((xs.getD q op0).count), .slice B_384 ((xs.getD q op0).attrs.length) c_385]))] [(99, .bool true), (103, .agg #[.int .i64 ((xs.getD q op0).kind), .string ((xs.getD q op0).text), .int .i64 ((xs.getD q op0).vk), .int .i64 ((xs.getD q op0).vn), .string ((xs.getD q op0).vt), .int .i64 ((xs.getD q op0).count), .slice B_384 ((xs.getD q op0).attrs.length) c_385])] w_378 [A = some ad_381, (0 : Int) ≤ (q : Int), (q : Int) < (xs.length : Int), LoadsAs Tryd.prog 33 (ad_381.add ((q : Int).toNat * 7)) (.agg #[.int .i64 ((xs.getD q op0).kind), .string ((xs.getD q op0).text), .int .i64 ((xs.getD q op0).vk), .int .i64 ((xs.getD q op0).vn), .string ((xs.getD q op0).vt), .int .i64 ((xs.getD q op0).count), .slice B_384 ((xs.getD q op0).attrs.length) c_385]) w_378] (by kernel_rfl) ⟨ha_382, (by omega), (by omega), loadsE rfl rfl (cells_below hc_383 (bt (bt hB_340 hb_342) hb_379)) 0 ⟨by kernel_rfl, by kernel_rfl⟩, trivial⟩ ?_
                    refine XL_call 18 rfl rfl rfl ent18 [.agg #[.int .i64 ((xs.getD q op0).kind), .string ((xs.getD q op0).text), .int .i64 ((xs.getD q op0).vk), .int .i64 ((xs.getD q op0).vn), .string ((xs.getD q op0).vt), .int .i64 ((xs.getD q op0).count), .slice B_384 ((xs.getD q op0).attrs.length) c_385]] (by kernel_rfl) (ocheck_any (xs.getD q op0) _ _ _ (Kd.C_below hC_387 (bt (bt hB_340 hb_342) hb_379)) (hz q hql) (hT.below (bt (bt hB_340 hb_342) hb_379)) es (hO.below (bt (bt hB_340 hb_342) hb_379))) ?_
                    rintro e w_388 ⟨rfl, hb_389⟩; refine ⟨_, rfl, ?_⟩
                    by_cases c_390 : (pErr (xs.getD q op0)) = 0
                    · rw [show errV es (pErr (xs.getD q op0)) = .nilIface from by rw [c_390]; rfl]
                      refine XL_run 3 [] [(4, .bool true)] w_388 [] (by kernel_rfl) trivial ?_
                      refine XL_nil ?_
                      refine X_ret ?_
                      refine RX.ret_ok (P := Tryd.prog) (fn := Tryd.f5) (N := 107) (R := R_) [.bool true] (by kernel_rfl) (hR_ _ _ ?_)
                      have hB_391 : Below w.heap.size w w_388 := (bt (bt (bt hB_340 hb_342) hb_379) hb_389)
                      exact ⟨rfl, hB_391⟩
                    · exact absurd hck c_390
          · exact absurd ((canP_iff _).2 (hct.2 hpf)) c_208
      · refine XL_run 13 [(37, .eq (.bool false))] [(0, .slice A xs.length c), (1, .int .i64 (q : Int)), (5, .slice A q c), (6, .bool false)] w_3 [Value.bool (((List.take q xs).getD ((q : Int) - 1).toNat op0).kind == 3) = Value.bool false] (by kernel_rfl) ⟨congrArg Value.bool (beq_eq_false_iff_ne.2 (c_15)), trivial⟩ ?_
        refine XL_nil ?_
        refine X_seq ?_
        refine X_seq ?_
        refine X_region ?_
        have hzq : ((q : Int) - 1).toNat = q - 1 := by omega
        have hct := Can_take ((canP_iff xs).1 c_5) q hq
        rw [hzq] at c_15
        have hpf : ¬ (0 < q ∧ plainR (xs.getD (q - 1) op0)) := fun h_ => by have h0_ := h_.1; have h1_ := h_.2; rw [← getD_take (show q - 1 < q by omega)] at h1_; have h2_ := h1_.1; have h3_ := h1_.2; omega
        refine XL_run 1 [] [(0, .slice A xs.length c), (1, .int .i64 (q : Int)), (6, .bool false), (49, .slice A q c)] w_3 [] (by kernel_rfl) trivial ?_
        refine XL_call 22 rfl rfl rfl ent22 [.slice A q c] (by kernel_rfl) (by have h_ := ocan_any A c (List.take q xs) w_3 (by rw [show (List.take q xs).length = q from (by rw [List.length_take]; omega)]; exact hC_6) (by omega) (sz_take hz q) (hT.below (bt hb_2 hb_4)) es (hO.below (bt hb_2 hb_4)); rw [show (List.take q xs).length = q from (by rw [List.length_take]; omega)] at h_; exact h_) ?_
        rintro e w_392 ⟨rfl, hb_393⟩; refine ⟨_, rfl, ?_⟩
        refine XL_run 1 [] [(0, .slice A xs.length c), (1, .int .i64 (q : Int)), (50, .bool (canP (List.take q xs))), (51, .bool false)] w_392 [] (by kernel_rfl) trivial ?_
        by_cases c_394 : canP (List.take q xs) = true
        · rw [show (canP (List.take q xs) : Bool) = true from by simpa using c_394]
          refine XL_run 1 [] [(0, .slice A xs.length c), (1, .int .i64 (q : Int)), (52, .bool false)] w_392 [] (by kernel_rfl) trivial ?_
          refine XL_nil ?_
          refine X_cond false rfl ?_
          refine X_skip ?_
          refine X_seq ?_
          refine X_seq ?_
          refine X_region ?_
          refine XL_run 3 [] [(0, .slice A xs.length c), (1, .int .i64 (q : Int)), (53, .int .i64 (q : Int)), (55, .int .i64 (xs.length : Int))] w_392 [] (by kernel_rfl) trivial ?_
          by_cases c_395 : (q : Int) = (xs.length : Int)
          · refine XL_run 1 [(56, .eq (.bool true))] [(0, .slice A xs.length c), (1, .int .i64 (q : Int)), (56, .bool true)] w_392 [Value.bool ((q : Int) == (xs.length : Int)) = Value.bool true] (by kernel_rfl) ⟨congrArg Value.bool (beq_iff_eq.2 (c_395)), trivial⟩ ?_
            refine XL_nil ?_
            refine X_cond true rfl ?_
            refine X_seq ?_
            refine X_region ?_
            refine XL_run 1 [] [(4, .bool true)] w_392 [] (by kernel_rfl) trivial ?_
            refine XL_nil ?_
            refine X_ret ?_
            refine RX.ret_ok (P := Tryd.prog) (fn := Tryd.f5) (N := 107) (R := R_) [.bool true] (by kernel_rfl) (hR_ _ _ ?_)
            exact ⟨rfl, (bt (bt hb_2 hb_4) hb_393)⟩
          · refine XL_run 1 [(56, .eq (.bool false))] [(0, .slice A xs.length c), (1, .int .i64 (q : Int)), (56, .bool false)] w_392 [Value.bool ((q : Int) == (xs.length : Int)) = Value.bool false] (by kernel_rfl) ⟨congrArg Value.bool (beq_eq_false_iff_ne.2 (c_395)), trivial⟩ ?_
            refine XL_nil ?_
            refine X_cond false rfl ?_
            refine X_skip ?_
            refine X_seq ?_
            refine X_grow [] 15 #[false, false, false, false, false, false, false, false, false, false, false, false, false, false, false] (by kernel_rfl) (by kernel_rfl) (by kernel_rfl) (fun wd_396 hb_397 hh_398 => ?_)
            have hql : q < xs.length := by omega
            have htl : (twice xs q).length = xs.length + 1 := twice_len hql
            have hdl : (List.drop q xs).length = xs.length - q := List.length_drop ..
            have hl1 : ((List.take q xs) ++ [(xs.getD q op0)]).length = q + 1 := by rw [List.length_append, hlH]; rfl
            have hC_399 := RX.Kd.C_take (m := q) (Kd.C_below hx (bt (bt (bt hb_2 hb_4) hb_393) hb_397)) (by first | omega | (simp; done) | (simp; omega))
            refine XB_run (fuel' := 10) (Below.refl _ _) [0, 1, 2, 4, 5] [(59, .as (.slice A q c))] [.slice A xs.length c, .int .i64 (q : Int), .slice A q c, .slice A xs.length c, .int .i64 (q : Int)] #[true, true, true, false, true, true, false, false, false, false, false, false, false, false, false] [(0, .slice A xs.length c), (1, .int .i64 (q : Int)), (59, .slice A q c), (61, .slice A xs.length c), (62, .int .i64 (q : Int))] (fun w_ => [RunsAs Tryd.prog [(57, .slice A xs.length c), (58, .int .i64 (q : Int))] (Go.Op.slice 22 (Go.Operand.tmp 57) none (some (Go.Operand.tmp 58)) none) 22 (.slice A q c) w_]) (fun _ _ _ _ h => h) (fun w_ => by kernel_rfl) rfl (fun w_ hC_ => ⟨runs_slice_h (h := (q : Int)) rfl rfl rfl rfl (by omega) (by omega), trivial⟩) ?_
            obtain ⟨ad_400, B_403, c_404, ha_401, hc_402, hl_405, hC_406⟩ := Kd.atOp hx (i := (q : Int)) (by omega) (by omega)
            replace hc_402 : CellsAt w (ad_400.add ((q : Int).toNat * 7)) [.int .i64 ((xs.getD q op0).kind), .string ((xs.getD q op0).text), .int .i64 ((xs.getD q op0).vk), .int .i64 ((xs.getD q op0).vn), .string ((xs.getD q op0).vt), .int .i64 ((xs.getD q op0).count), .slice B_403 ((xs.getD q op0).attrs.length) c_404] := hc_402
            replace hl_405 : (xs.getD q op0).attrs.length ≤ c_404 := hl_405
            replace hC_406 : kAttr.C w B_403 ((xs.getD q op0).attrs.length) (xs.getD q op0).attrs := hC_406
            obtain ⟨A_407, hA_408⟩ : ∃ A_, (if c = q then A else A.map (·.add (q * 7))) = A_ := ⟨_, rfl⟩
            have hC_409 : kOp.C w A_407 (xs.length - q) (xs.drop q) := by have h := RX.Kd.C_drop hx (k := q) (cap := c) (by omega) (by omega); first | (rw [← hA_408]; exact h)
            refine XB_run (fuel' := 5) (Below.refl _ _) [6, 7, 10, 11, 12] [(63, .idx ad_400), (64, .load (.agg #[.int .i64 ((xs.getD q op0).kind), .string ((xs.getD q op0).text), .int .i64 ((xs.getD q op0).vk), .int .i64 ((xs.getD q op0).vn), .string ((xs.getD q op0).vt), .int .i64 ((xs.getD q op0).count), .slice B_403 ((xs.getD q op0).attrs.length) c_404])), (69, .as (.slice A_407 (xs.length - q) (c - q)))] [.pointer (some (ad_400.add ((q : Int).toNat * 7))), .agg #[.int .i64 ((xs.getD q op0).kind), .string ((xs.getD q op0).text), .int .i64 ((xs.getD q op0).vk), .int .i64 ((xs.getD q op0).vn), .string ((xs.getD q op0).vt), .int .i64 ((xs.getD q op0).count), .slice B_403 ((xs.getD q op0).attrs.length) c_404], .slice A xs.length c, .int .i64 (q : Int), .slice A_407 (xs.length - q) (c - q)] #[true, true, true, false, true, true, true, true, false, false, true, true, true, false, false] [(0, .slice A xs.length c), (1, .int .i64 (q : Int)), (59, .slice A q c), (64, .agg #[.int .i64 ((xs.getD q op0).kind), .string ((xs.getD q op0).text), .int .i64 ((xs.getD q op0).vk), .int .i64 ((xs.getD q op0).vn), .string ((xs.getD q op0).vt), .int .i64 ((xs.getD q op0).count), .slice B_403 ((xs.getD q op0).attrs.length) c_404]), (69, .slice A_407 (xs.length - q) (c - q))] (fun w_ => [A = some ad_400, (0 : Int) ≤ (q : Int), (q : Int) < (xs.length : Int), LoadsAs Tryd.prog 33 (ad_400.add ((q : Int).toNat * 7)) (.agg #[.int .i64 ((xs.getD q op0).kind), .string ((xs.getD q op0).text), .int .i64 ((xs.getD q op0).vk), .int .i64 ((xs.getD q op0).vn), .string ((xs.getD q op0).vt), .int .i64 ((xs.getD q op0).count), .slice B_403 ((xs.getD q op0).attrs.length) c_404]) w_, RunsAs Tryd.prog [(67, .slice A xs.length c), (68, .int .i64 (q : Int))] (Go.Op.slice 22 (Go.Operand.tmp 67) (some (Go.Operand.tmp 68)) none none) 22 (.slice A_407 (xs.length - q) (c - q)) w_]) (fun _ _ _ _ h => h) (fun w_ => by kernel_rfl) rfl (fun w_ hC_ => ⟨ha_401, (by omega), (by omega), loadsE rfl rfl (cells_below hc_402 (bt (bt (bt (bt hb_2 hb_4) hb_393) hb_397) hC_)) 0 ⟨by kernel_rfl, by kernel_rfl⟩, (hA_408 ▸ runs_slice_l (h := (q : Int)) rfl rfl rfl rfl (by omega) (by omega) (by omega)), trivial⟩) ?_
            refine XB_two (fuel' := 4) 3 8 #[true, true, true, true, true, true, true, true, false, false, true, true, true, false, false] #[true, true, true, false, true, true, true, true, true, false, true, true, true, false, false] _ _ rfl rfl (by kernel_rfl) (by kernel_rfl) (by kernel_rfl) rfl ?_ ?_
            · refine XL_call 16 rfl rfl rfl ent16 [.slice A q c] (by kernel_rfl) (by have h_ := ocopied_any A c (List.take q xs) wd_396 (by rw [show (List.take q xs).length = q from (by rw [List.length_take]; omega)]; exact hC_399) (by omega) (sz_take hz q); rw [show (List.take q xs).length = q from (by rw [List.length_take]; omega)] at h_; exact h_) ?_
              rintro e w_412 ⟨A_410, c_411, rfl, hl_414, hr_415, hb_413⟩; refine ⟨_, rfl, ?_⟩
              refine XL_nil ?_
              refine ⟨hb_413, ?_⟩
              refine XB_mid (fuel' := 3) 8 #[true, true, true, true, true, true, true, true, true, false, true, true, true, false, false] _ rfl (by kernel_rfl) (by kernel_rfl) rfl ?_
              refine XL_run 1 [] [(0, .slice A xs.length c), (1, .int .i64 (q : Int)), (60, .slice A_410 q c_411), (65, .slice (some ⟨w_412.heap.size, 0, none⟩) 1 1), (69, .slice A_407 (xs.length - q) (c - q))] (w_412.alloc (.cells #[.int .i64 ((xs.getD q op0).kind), .string ((xs.getD q op0).text), .int .i64 ((xs.getD q op0).vk), .int .i64 ((xs.getD q op0).vn), .string ((xs.getD q op0).vt), .int .i64 ((xs.getD q op0).count), .slice B_403 ((xs.getD q op0).attrs.length) c_404] 33)) [] (by kernel_rfl) trivial ?_
              obtain ⟨w_416, hw_420, hb_417, hk_418, hz_419⟩ := new_world w_412 #[.int .i64 ((xs.getD q op0).kind), .string ((xs.getD q op0).text), .int .i64 ((xs.getD q op0).vk), .int .i64 ((xs.getD q op0).vn), .string ((xs.getD q op0).vt), .int .i64 ((xs.getD q op0).count), .slice B_403 ((xs.getD q op0).attrs.length) c_404] 33
              rw [hw_420]
              refine XL_nil ?_
              refine ⟨(bt hb_413 hb_417), ?_⟩
              refine XB_mid (fuel' := 2) 9 #[true, true, true, true, true, true, true, true, true, true, true, true, true, false, false] _ rfl (by kernel_rfl) (by kernel_rfl) rfl ?_
              have hR_421 := Kd.R_litB (kRaw 7) (W := w_412) (e := 33) (cs := #[.int .i64 ((xs.getD q op0).kind), .string ((xs.getD q op0).text), .int .i64 ((xs.getD q op0).vk), .int .i64 ((xs.getD q op0).vn), .string ((xs.getD q op0).vt), .int .i64 ((xs.getD q op0).count), .slice B_403 ((xs.getD q op0).attrs.length) c_404]) [[.int .i64 ((xs.getD q op0).kind), .string ((xs.getD q op0).text), .int .i64 ((xs.getD q op0).vk), .int .i64 ((xs.getD q op0).vn), .string ((xs.getD q op0).vt), .int .i64 ((xs.getD q op0).count), .slice B_403 ((xs.getD q op0).attrs.length) c_404]] hk_418 (raw1 _ rfl (by kernel_rfl)) (Nat.le_of_ble_eq_true (by kernel_rfl))
              refine XL_appendMix (d := kOp) (W0 := wd_396) (c' := 1) (m := 1) op0 rfl rfl rfl 33 (.agg #[.int .i64 0, .string ByteArray.empty, .int .i64 0, .int .i64 0, .string ByteArray.empty, .int .i64 0, .slice none 0 0]) 88 Tryd.underlying22 info33 rfl (by decide) (by omega) (List.take q xs) ([(xs.getD q op0)]) [[.int .i64 ((xs.getD q op0).kind), .string ((xs.getD q op0).text), .int .i64 ((xs.getD q op0).vk), .int .i64 ((xs.getD q op0).vn), .string ((xs.getD q op0).vt), .int .i64 ((xs.getD q op0).count), .slice B_403 ((xs.getD q op0).attrs.length) c_404]] (by kernel_rfl) (Mix.of_R (Kd.R_below hr_415 hb_417)) (Kd.R_C hR_421) rfl (fun i_ hi_ => by have h_ : i_ = 0 := (by omega); subst h_; exact (kOp_K_of (x := xs.getD q op0) hl_405 (Kd.C_below hC_406 (bt (bt (bt hb_2 hb_4) hb_393) hb_397)))) ((bt hb_413 hb_417)).size (by omega) ?_
              intro A_422 c_423 w_424 hm_425 hg_426 hl_427
              have hB_429 : Below wd_396.heap.size wd_396 w_424 := (bgo (bt hb_413 hb_417) hg_426 hl_427 (Nat.le_refl _))
              have hC_428 : kOp.C w_424 A_422 ((List.take q xs) ++ [(xs.getD q op0)]).length ((List.take q xs) ++ [(xs.getD q op0)]) := Mix.C hB_429 hm_425
              refine XL_nil ?_
              refine ⟨hB_429, ?_⟩
              refine XB_mid (fuel' := 1) 13 #[true, true, true, true, true, true, true, true, true, true, true, true, true, true, false] _ rfl (by kernel_rfl) (by kernel_rfl) rfl ?_
              obtain ⟨vs_430, hC_431, hK_432⟩ := Kd.C_raw (d := kOp) op0 (Kd.C_below hC_409 (bt (bt (bt hb_2 hb_4) hb_393) hb_397))
              refine XL_appendMix (d := kOp) (W0 := wd_396) (c' := (c - q)) (m := (xs.length - q)) op0 rfl rfl rfl 33 (.agg #[.int .i64 0, .string ByteArray.empty, .int .i64 0, .int .i64 0, .string ByteArray.empty, .int .i64 0, .slice none 0 0]) 88 Tryd.underlying22 info33 rfl (by decide) (by omega) ((List.take q xs) ++ [(xs.getD q op0)]) (xs.drop q) vs_430 (by kernel_rfl) hm_425 (Kd.C_below hC_431 hB_429) hdl hK_432 (hB_429).size (by omega) ?_
              intro A_433 c_434 w_435 hm_436 hg_437 hl_438
              have hB_440 : Below wd_396.heap.size wd_396 w_435 := (bgo hB_429 hg_437 hl_438 (Nat.le_refl _))
              have hC_439 : kOp.C w_435 A_433 (((List.take q xs) ++ [(xs.getD q op0)]) ++ (xs.drop q)).length (((List.take q xs) ++ [(xs.getD q op0)]) ++ (xs.drop q)) := Mix.C hB_440 hm_436
              refine XL_nil ?_
              refine ⟨hB_440, ?_⟩
              refine XB_run (fuel' := 0) hB_440 [14] [] [.slice A_433 ((((List.take q xs) ++ [(xs.getD q op0)]) ++ (xs.drop q)).length) c_434] #[true, true, true, true, true, true, true, true, true, true, true, true, true, true, true] [(0, .slice A xs.length c), (1, .int .i64 (q : Int)), (7, .slice A_433 ((((List.take q xs) ++ [(xs.getD q op0)]) ++ (xs.drop q)).length) c_434)] (fun w_ => []) (fun _ _ _ _ h => h) (fun w_ => by kernel_rfl) rfl (fun w_ hC_ => trivial) ?_
              refine XB_done (by kernel_rfl) ?_
              refine X_seq ?_
              refine X_region ?_
              have htwd : (((List.take q xs) ++ [(xs.getD q op0)]) ++ (xs.drop q)) = twice xs q := rfl
              have hcw := Can_twice ((canP_iff xs).1 c_5) q hql
              have hpw := lenP_pos (((List.take q xs) ++ [(xs.getD q op0)]) ++ (xs.drop q))
              rw [← htwd] at hcw htl
              have hck := Can_check ((canP_iff xs).1 c_5) hql
              refine XL_run 1 [] [(0, .slice A xs.length c), (1, .int .i64 (q : Int)), (7, .slice A_433 ((((List.take q xs) ++ [(xs.getD q op0)]) ++ (xs.drop q)).length) c_434), (72, .slice A_433 ((((List.take q xs) ++ [(xs.getD q op0)]) ++ (xs.drop q)).length) c_434)] w_435 [] (by kernel_rfl) trivial ?_
              have hB_441 : Below w.heap.size w w_435 := (bgo (bgo (bt (bt (bt (bt (bt hb_2 hb_4) hb_393) hb_397) hb_413) hb_417) hg_426 hl_427 ((bt (bt (bt hb_2 hb_4) hb_393) hb_397)).size) hg_437 hl_438 ((bt (bt (bt hb_2 hb_4) hb_393) hb_397)).size)
              refine XL_call 20 rfl rfl rfl ent20 [.slice A_433 ((((List.take q xs) ++ [(xs.getD q op0)]) ++ (xs.drop q)).length) c_434] (by kernel_rfl) (olen_any A_433 c_434 (((List.take q xs) ++ [(xs.getD q op0)]) ++ (xs.drop q)) w_435 hC_439 (by omega) (sz_twice hz hql) (hT.below hB_441) es (hO.below hB_441)) ?_
              rintro e w_442 ⟨rfl, hb_443⟩; refine ⟨_, rfl, ?_⟩
              refine XL_run 7 [] [(0, .slice A xs.length c), (1, .int .i64 (q : Int)), (7, .slice A_433 ((((List.take q xs) ++ [(xs.getD q op0)]) ++ (xs.drop q)).length) c_434), (8, .int .i64 ((lenP (((List.take q xs) ++ [(xs.getD q op0)]) ++ (xs.drop q))).1)), (9, .int .i64 ((lenP (((List.take q xs) ++ [(xs.getD q op0)]) ++ (xs.drop q))).2.1)), (10, errV es ((lenP (((List.take q xs) ++ [(xs.getD q op0)]) ++ (xs.drop q))).2.2))] w_442 [] (by kernel_rfl) trivial ?_
              refine XL_nil ?_
              refine X_seq ?_
              refine X_region ?_
              refine XL_run 1 [] [(0, .slice A xs.length c), (1, .int .i64 (q : Int)), (7, .slice A_433 ((((List.take q xs) ++ [(xs.getD q op0)]) ++ (xs.drop q)).length) c_434), (8, .int .i64 ((lenP (((List.take q xs) ++ [(xs.getD q op0)]) ++ (xs.drop q))).1)), (9, .int .i64 ((lenP (((List.take q xs) ++ [(xs.getD q op0)]) ++ (xs.drop q))).2.1)), (77, errV es ((lenP (((List.take q xs) ++ [(xs.getD q op0)]) ++ (xs.drop q))).2.2))] w_442 [] (by kernel_rfl) trivial ?_
              by_cases c_444 : (lenP (((List.take q xs) ++ [(xs.getD q op0)]) ++ (xs.drop q))).2.2 = 0
              · rw [show errV es ((lenP (((List.take q xs) ++ [(xs.getD q op0)]) ++ (xs.drop q))).2.2) = .nilIface from by rw [c_444]; rfl]
                refine XL_run 10 [(81, .eq (.bool true)), (85, .eq (.bool true))] [(0, .slice A xs.length c), (1, .int .i64 (q : Int)), (7, .slice A_433 ((((List.take q xs) ++ [(xs.getD q op0)]) ++ (xs.drop q)).length) c_434), (11, .bool true)] w_442 [Value.bool (decide ((lenP (((List.take q xs) ++ [(xs.getD q op0)]) ++ (xs.drop q))).1 ≥ 0)) = Value.bool true, Value.bool (decide ((lenP (((List.take q xs) ++ [(xs.getD q op0)]) ++ (xs.drop q))).2.1 ≥ 0)) = Value.bool true] (by kernel_rfl) ⟨congrArg Value.bool (decide_eq_true ((by omega))), congrArg Value.bool (decide_eq_true ((by omega))), trivial⟩ ?_
                refine XL_nil ?_
                refine X_seq ?_
                refine X_region ?_
                refine XL_run 1 [] [(0, .slice A xs.length c), (1, .int .i64 (q : Int)), (11, .bool true), (87, .slice A_433 ((((List.take q xs) ++ [(xs.getD q op0)]) ++ (xs.drop q)).length) c_434)] w_442 [] (by kernel_rfl) trivial ?_
                refine XL_call 22 rfl rfl rfl ent22 [.slice A_433 ((((List.take q xs) ++ [(xs.getD q op0)]) ++ (xs.drop q)).length) c_434] (by kernel_rfl) (ocan_any A_433 c_434 (((List.take q xs) ++ [(xs.getD q op0)]) ++ (xs.drop q)) w_442 (Kd.C_below hC_439 hb_443) (by omega) (sz_twice hz hql) (hT.below (bt hB_441 hb_443)) es (hO.below (bt hB_441 hb_443))) ?_
                rintro e w_445 ⟨rfl, hb_446⟩; refine ⟨_, rfl, ?_⟩
                refine XL_run 4 [] [(0, .slice A xs.length c), (1, .int .i64 (q : Int)), (88, .bool (canP (((List.take q xs) ++ [(xs.getD q op0)]) ++ (xs.drop q)))), (90, .bool true), (91, .slice A xs.length c), (92, .int .i64 (q : Int))] w_445 [] (by kernel_rfl) trivial ?_
                obtain ⟨ad_447, B_450, c_451, ha_448, hc_449, hl_452, hC_453⟩ := Kd.atOp hx (i := (q : Int)) (by omega) (by omega)
                replace hc_449 : CellsAt w (ad_447.add ((q : Int).toNat * 7)) [.int .i64 ((xs.getD q op0).kind), .string ((xs.getD q op0).text), .int .i64 ((xs.getD q op0).vk), .int .i64 ((xs.getD q op0).vn), .string ((xs.getD q op0).vt), .int .i64 ((xs.getD q op0).count), .slice B_450 ((xs.getD q op0).attrs.length) c_451] := hc_449
                replace hl_452 : (xs.getD q op0).attrs.length ≤ c_451 := hl_452
                replace hC_453 : kAttr.C w B_450 ((xs.getD q op0).attrs.length) (xs.getD q op0).attrs := hC_453
                refine XL_run 3 [(93, .idx ad_447), (95, .load (.int .i64 ((xs.getD q op0).kind)))] [(0, .slice A xs.length c), (1, .int .i64 (q : Int)), (88, .bool (canP (((List.take q xs) ++ [(xs.getD q op0)]) ++ (xs.drop q)))), (90, .bool true), (95, .int .i64 ((xs.getD q op0).kind))] w_445 [A = some ad_447, (0 : Int) ≤ (q : Int), (q : Int) < (xs.length : Int), LoadsAs Tryd.prog 3 (ad_447.add ((q : Int).toNat * 7)) (.int .i64 ((xs.getD q op0).kind)) w_445] (by kernel_rfl) ⟨ha_448, (by omega), (by omega), loads1 rfl (elem_cell (cells_below hc_449 (bt (bt hB_441 hb_443) hb_446)) 0 _ rfl), trivial⟩ ?_
                by_cases c_454 : (xs.getD q op0).kind = 2
                · refine XL_run 2 [(96, .eq (.bool true))] [(0, .slice A xs.length c), (1, .int .i64 (q : Int)), (88, .bool (canP (((List.take q xs) ++ [(xs.getD q op0)]) ++ (xs.drop q)))), (97, .bool true)] w_445 [Value.bool ((xs.getD q op0).kind == 2) = Value.bool true] (by kernel_rfl) ⟨congrArg Value.bool (beq_iff_eq.2 (c_454)), trivial⟩ ?_
                  by_cases c_455 : canP (((List.take q xs) ++ [(xs.getD q op0)]) ++ (xs.drop q)) = true
                  · rw [show (canP (((List.take q xs) ++ [(xs.getD q op0)]) ++ (xs.drop q)) : Bool) = true from by simpa using c_455]
                    refine XL_run 4 [] [(99, .bool true), (100, .slice A xs.length c), (101, .int .i64 (q : Int))] w_445 [] (by kernel_rfl) trivial ?_
                    obtain ⟨ad_456, B_459, c_460, ha_457, hc_458, hl_461, hC_462⟩ := Kd.atOp hx (i := (q : Int)) (by omega) (by omega)
                    replace hc_458 : CellsAt w (ad_456.add ((q : Int).toNat * 7)) [.int .i64 ((xs.getD q op0).kind), .string ((xs.getD q op0).text), .int .i64 ((xs.getD q op0).vk), .int .i64 ((xs.getD q op0).vn), .string ((xs.getD q op0).vt), .int .i64 ((xs.getD q op0).count), .slice B_459 ((xs.getD q op0).attrs.length) c_460] := hc_458
                    replace hl_461 : (xs.getD q op0).attrs.length ≤ c_460 := hl_461
                    replace hC_462 : kAttr.C w B_459 ((xs.getD q op0).attrs.length) (xs.getD q op0).attrs := hC_462
                    refine XL_run 2 [(102, .idx ad_456), (103, .load (.agg #[.int .i64 ((xs.getD q op0).kind), .string ((xs.getD q op0).text), .int .i64 ((xs.getD q op0).vk), .int .i64 ((xs.getD q op0).vn), .string ((xs.getD q op0).vt), .int .i64 ((xs.getD q op0).count), .slice B_459 ((xs.getD q op0).attrs.length) c_460]))] [(99, .bool true), (103, .agg #[.int .i64 ((xs.getD q op0).kind), .string ((xs.getD q op0).text), .int .i64 ((xs.getD q op0).vk), .int .i64 ((xs.getD q op0).vn), .string ((xs.getD q op0).vt), .int .i64 ((xs.getD q op0).count), .slice B_459 ((xs.getD q op0).attrs.length) c_460])] w_445 [A = some ad_456, (0 : Int) ≤ (q : Int), (q : Int) < (xs.length : Int), LoadsAs Tryd.prog 33 (ad_456.add ((q : Int).toNat * 7)) (.agg #[.int .i64 ((xs.getD q op0).kind), .string ((xs.getD q op0).text), .int .i64 ((xs.getD q op0).vk), .int .i64 ((xs.getD q op0).vn), .string ((xs.getD q op0).vt), .int .i64 ((xs.getD q op0).count), .slice B_459 ((xs.getD q op0).attrs.length) c_460]) w_445] (by kernel_rfl) ⟨ha_457, (by omega), (by omega), loadsE rfl rfl (cells_below hc_458 (bt (bt hB_441 hb_443) hb_446)) 0 ⟨by kernel_rfl, by kernel_rfl⟩, trivial⟩ ?_
                    refine XL_call 18 rfl rfl rfl ent18 [.agg #[.int .i64 ((xs.getD q op0).kind), .string ((xs.getD q op0).text), .int .i64 ((xs.getD q op0).vk), .int .i64 ((xs.getD q op0).vn), .string ((xs.getD q op0).vt), .int .i64 ((xs.getD q op0).count), .slice B_459 ((xs.getD q op0).attrs.length) c_460]] (by kernel_rfl) (ocheck_any (xs.getD q op0) _ _ _ (Kd.C_below hC_462 (bt (bt hB_441 hb_443) hb_446)) (hz q hql) (hT.below (bt (bt hB_441 hb_443) hb_446)) es (hO.below (bt (bt hB_441 hb_443) hb_446))) ?_
                    rintro e w_463 ⟨rfl, hb_464⟩; refine ⟨_, rfl, ?_⟩
                    by_cases c_465 : (pErr (xs.getD q op0)) = 0
                    · rw [show errV es (pErr (xs.getD q op0)) = .nilIface from by rw [c_465]; rfl]
                      refine XL_run 3 [] [(4, .bool true)] w_463 [] (by kernel_rfl) trivial ?_
                      refine XL_nil ?_
                      refine X_ret ?_
                      refine RX.ret_ok (P := Tryd.prog) (fn := Tryd.f5) (N := 107) (R := R_) [.bool true] (by kernel_rfl) (hR_ _ _ ?_)
                      have hB_466 : Below w.heap.size w w_463 := (bt (bt (bt hB_441 hb_443) hb_446) hb_464)
                      exact ⟨rfl, hB_466⟩
                    · exact absurd hck c_465
                  · exact absurd ((canP_iff _).2 (hcw.2 ⟨c_444, c_454⟩)) c_455
                · refine XL_run 2 [(96, .eq (.bool false))] [(0, .slice A xs.length c), (1, .int .i64 (q : Int)), (88, .bool (canP (((List.take q xs) ++ [(xs.getD q op0)]) ++ (xs.drop q)))), (97, .bool false)] w_445 [Value.bool ((xs.getD q op0).kind == 2) = Value.bool false] (by kernel_rfl) ⟨congrArg Value.bool (beq_eq_false_iff_ne.2 (c_454)), trivial⟩ ?_
                  by_cases c_467 : canP (((List.take q xs) ++ [(xs.getD q op0)]) ++ (xs.drop q)) = true
                  · exfalso
                    have h1_ := hcw.1 ((canP_iff _).1 c_467)
                    exact c_454 h1_.2
                  · rw [show (canP (((List.take q xs) ++ [(xs.getD q op0)]) ++ (xs.drop q)) : Bool) = false from by simpa using c_467]
                    refine XL_run 4 [] [(99, .bool true), (100, .slice A xs.length c), (101, .int .i64 (q : Int))] w_445 [] (by kernel_rfl) trivial ?_
                    obtain ⟨ad_468, B_471, c_472, ha_469, hc_470, hl_473, hC_474⟩ := Kd.atOp hx (i := (q : Int)) (by omega) (by omega)
                    replace hc_470 : CellsAt w (ad_468.add ((q : Int).toNat * 7)) [.int .i64 ((xs.getD q op0).kind), .string ((xs.getD q op0).text), .int .i64 ((xs.getD q op0).vk), .int .i64 ((xs.getD q op0).vn), .string ((xs.getD q op0).vt), .int .i64 ((xs.getD q op0).count), .slice B_471 ((xs.getD q op0).attrs.length) c_472] := hc_470
                    replace hl_473 : (xs.getD q op0).attrs.length ≤ c_472 := hl_473
                    replace hC_474 : kAttr.C w B_471 ((xs.getD q op0).attrs.length) (xs.getD q op0).attrs := hC_474
                    refine XL_run 2 [(102, .idx ad_468), (103, .load (.agg #[.int .i64 ((xs.getD q op0).kind), .string ((xs.getD q op0).text), .int .i64 ((xs.getD q op0).vk), .int .i64 ((xs.getD q op0).vn), .string ((xs.getD q op0).vt), .int .i64 ((xs.getD q op0).count), .slice B_471 ((xs.getD q op0).attrs.length) c_472]))] [(99, .bool true), (103, .agg #[.int .i64 ((xs.getD q op0).kind), .string ((xs.getD q op0).text), .int .i64 ((xs.getD q op0).vk), .int .i64 ((xs.getD q op0).vn), .string ((xs.getD q op0).vt), .int .i64 ((xs.getD q op0).count), .slice B_471 ((xs.getD q op0).attrs.length) c_472])] w_445 [A = some ad_468, (0 : Int) ≤ (q : Int), (q : Int) < (xs.length : Int), LoadsAs Tryd.prog 33 (ad_468.add ((q : Int).toNat * 7)) (.agg #[.int .i64 ((xs.getD q op0).kind), .string ((xs.getD q op0).text), .int .i64 ((xs.getD q op0).vk), .int .i64 ((xs.getD q op0).vn), .string ((xs.getD q op0).vt), .int .i64 ((xs.getD q op0).count), .slice B_471 ((xs.getD q op0).attrs.length) c_472]) w_445] (by kernel_rfl) ⟨ha_469, (by omega), (by omega), loadsE rfl rfl (cells_below hc_470 (bt (bt hB_441 hb_443) hb_446)) 0 ⟨by kernel_rfl, by kernel_rfl⟩, trivial⟩ ?_
                    refine XL_call 18 rfl rfl rfl ent18 [.agg #[.int .i64 ((xs.getD q op0).kind), .string ((xs.getD q op0).text), .int .i64 ((xs.getD q op0).vk), .int .i64 ((xs.getD q op0).vn), .string ((xs.getD q op0).vt), .int .i64 ((xs.getD q op0).count), .slice B_471 ((xs.getD q op0).attrs.length) c_472]] (by kernel_rfl) (ocheck_any (xs.getD q op0) _ _ _ (Kd.C_below hC_474 (bt (bt hB_441 hb_443) hb_446)) (hz q hql) (hT.below (bt (bt hB_441 hb_443) hb_446)) es (hO.below (bt (bt hB_441 hb_443) hb_446))) ?_
                    rintro e w_475 ⟨rfl, hb_476⟩; refine ⟨_, rfl, ?_⟩
                    by_cases c_477 : (pErr (xs.getD q op0)) = 0
                    · rw [show errV es (pErr (xs.getD q op0)) = .nilIface from by rw [c_477]; rfl]
                      refine XL_run 3 [] [(4, .bool true)] w_475 [] (by kernel_rfl) trivial ?_
                      refine XL_nil ?_
                      refine X_ret ?_
                      refine RX.ret_ok (P := Tryd.prog) (fn := Tryd.f5) (N := 107) (R := R_) [.bool true] (by kernel_rfl) (hR_ _ _ ?_)
                      have hB_478 : Below w.heap.size w w_475 := (bt (bt (bt hB_441 hb_443) hb_446) hb_476)
                      exact ⟨rfl, hB_478⟩
                    · exact absurd hck c_477
              · rw [errV_pos es ((lenP (((List.take q xs) ++ [(xs.getD q op0)]) ++ (xs.drop q))).2.2) (Nat.pos_of_ne_zero c_444)]
                refine XL_run 10 [] [(0, .slice A xs.length c), (1, .int .i64 (q : Int)), (7, .slice A_433 ((((List.take q xs) ++ [(xs.getD q op0)]) ++ (xs.drop q)).length) c_434), (11, .bool false)] w_442 [] (by kernel_rfl) trivial ?_
                refine XL_nil ?_
                refine X_seq ?_
                refine X_region ?_
                refine XL_run 1 [] [(0, .slice A xs.length c), (1, .int .i64 (q : Int)), (11, .bool false), (87, .slice A_433 ((((List.take q xs) ++ [(xs.getD q op0)]) ++ (xs.drop q)).length) c_434)] w_442 [] (by kernel_rfl) trivial ?_
                refine XL_call 22 rfl rfl rfl ent22 [.slice A_433 ((((List.take q xs) ++ [(xs.getD q op0)]) ++ (xs.drop q)).length) c_434] (by kernel_rfl) (ocan_any A_433 c_434 (((List.take q xs) ++ [(xs.getD q op0)]) ++ (xs.drop q)) w_442 (Kd.C_below hC_439 hb_443) (by omega) (sz_twice hz hql) (hT.below (bt hB_441 hb_443)) es (hO.below (bt hB_441 hb_443))) ?_
                rintro e w_479 ⟨rfl, hb_480⟩; refine ⟨_, rfl, ?_⟩
                refine XL_run 9 [] [(0, .slice A xs.length c), (1, .int .i64 (q : Int)), (88, .bool (canP (((List.take q xs) ++ [(xs.getD q op0)]) ++ (xs.drop q)))), (97, .bool false)] w_479 [] (by kernel_rfl) trivial ?_
                by_cases c_481 : canP (((List.take q xs) ++ [(xs.getD q op0)]) ++ (xs.drop q)) = true
                · exact absurd (hcw.1 ((canP_iff _).1 c_481)).1 c_444
                · rw [show (canP (((List.take q xs) ++ [(xs.getD q op0)]) ++ (xs.drop q)) : Bool) = false from by simpa using c_481]
                  refine XL_run 4 [] [(99, .bool true), (100, .slice A xs.length c), (101, .int .i64 (q : Int))] w_479 [] (by kernel_rfl) trivial ?_
                  obtain ⟨ad_482, B_485, c_486, ha_483, hc_484, hl_487, hC_488⟩ := Kd.atOp hx (i := (q : Int)) (by omega) (by omega)
                  replace hc_484 : CellsAt w (ad_482.add ((q : Int).toNat * 7)) [.int .i64 ((xs.getD q op0).kind), .string ((xs.getD q op0).text), .int .i64 ((xs.getD q op0).vk), .int .i64 ((xs.getD q op0).vn), .string ((xs.getD q op0).vt), .int .i64 ((xs.getD q op0).count), .slice B_485 ((xs.getD q op0).attrs.length) c_486] := hc_484
                  replace hl_487 : (xs.getD q op0).attrs.length ≤ c_486 := hl_487
                  replace hC_488 : kAttr.C w B_485 ((xs.getD q op0).attrs.length) (xs.getD q op0).attrs := hC_488
                  refine XL_run 2 [(102, .idx ad_482), (103, .load (.agg #[.int .i64 ((xs.getD q op0).kind), .string ((xs.getD q op0).text), .int .i64 ((xs.getD q op0).vk), .int .i64 ((xs.getD q op0).vn), .string ((xs.getD q op0).vt), .int .i64 ((xs.getD q op0).count), .slice B_485 ((xs.getD q op0).attrs.length) c_486]))] [(99, .bool true), (103, .agg #[.int .i64 ((xs.getD q op0).kind), .string ((xs.getD q op0).text), .int .i64 ((xs.getD q op0).vk), .int .i64 ((xs.getD q op0).vn), .string ((xs.getD q op0).vt), .int .i64 ((xs.getD q op0).count), .slice B_485 ((xs.getD q op0).attrs.length) c_486])] w_479 [A = some ad_482, (0 : Int) ≤ (q : Int), (q : Int) < (xs.length : Int), LoadsAs Tryd.prog 33 (ad_482.add ((q : Int).toNat * 7)) (.agg #[.int .i64 ((xs.getD q op0).kind), .string ((xs.getD q op0).text), .int .i64 ((xs.getD q op0).vk), .int .i64 ((xs.getD q op0).vn), .string ((xs.getD q op0).vt), .int .i64 ((xs.getD q op0).count), .slice B_485 ((xs.getD q op0).attrs.length) c_486]) w_479] (by kernel_rfl) ⟨ha_483, (by omega), (by omega), loadsE rfl rfl (cells_below hc_484 (bt (bt hB_441 hb_443) hb_480)) 0 ⟨by kernel_rfl, by kernel_rfl⟩, trivial⟩ ?_
                  refine XL_call 18 rfl rfl rfl ent18 [.agg #[.int .i64 ((xs.getD q op0).kind), .string ((xs.getD q op0).text), .int .i64 ((xs.getD q op0).vk), .int .i64 ((xs.getD q op0).vn), .string ((xs.getD q op0).vt), .int .i64 ((xs.getD q op0).count), .slice B_485 ((xs.getD q op0).attrs.length) c_486]] (by kernel_rfl) (ocheck_any (xs.getD q op0) _ _ _ (Kd.C_below hC_488 (bt (bt hB_441 hb_443) hb_480)) (hz q hql) (hT.below (bt (bt hB_441 hb_443) hb_480)) es (hO.below (bt (bt hB_441 hb_443) hb_480))) ?_
                  rintro e w_489 ⟨rfl, hb_490⟩; refine ⟨_, rfl, ?_⟩
                  by_cases c_491 : (pErr (xs.getD q op0)) = 0
                  · rw [show errV es (pErr (xs.getD q op0)) = .nilIface from by rw [c_491]; rfl]
                    refine XL_run 3 [] [(4, .bool true)] w_489 [] (by kernel_rfl) trivial ?_
                    refine XL_nil ?_
                    refine X_ret ?_
                    refine RX.ret_ok (P := Tryd.prog) (fn := Tryd.f5) (N := 107) (R := R_) [.bool true] (by kernel_rfl) (hR_ _ _ ?_)
                    have hB_492 : Below w.heap.size w w_489 := (bt (bt (bt hB_441 hb_443) hb_480) hb_490)
                    exact ⟨rfl, hB_492⟩
                  · exact absurd hck c_491
            · refine XL_run 1 [] [(0, .slice A xs.length c), (1, .int .i64 (q : Int)), (59, .slice A q c), (65, .slice (some ⟨wd_396.heap.size, 0, none⟩) 1 1), (69, .slice A_407 (xs.length - q) (c - q))] (wd_396.alloc (.cells #[.int .i64 ((xs.getD q op0).kind), .string ((xs.getD q op0).text), .int .i64 ((xs.getD q op0).vk), .int .i64 ((xs.getD q op0).vn), .string ((xs.getD q op0).vt), .int .i64 ((xs.getD q op0).count), .slice B_403 ((xs.getD q op0).attrs.length) c_404] 33)) [] (by kernel_rfl) trivial ?_
              obtain ⟨w_493, hw_497, hb_494, hk_495, hz_496⟩ := new_world wd_396 #[.int .i64 ((xs.getD q op0).kind), .string ((xs.getD q op0).text), .int .i64 ((xs.getD q op0).vk), .int .i64 ((xs.getD q op0).vn), .string ((xs.getD q op0).vt), .int .i64 ((xs.getD q op0).count), .slice B_403 ((xs.getD q op0).attrs.length) c_404] 33
              rw [hw_497]
              refine XL_nil ?_
              refine ⟨hb_494, ?_⟩
              refine XB_mid (fuel' := 3) 3 #[true, true, true, true, true, true, true, true, true, false, true, true, true, false, false] _ rfl (by kernel_rfl) (by kernel_rfl) rfl ?_
              refine XL_call 16 rfl rfl rfl ent16 [.slice A q c] (by kernel_rfl) (by have h_ := ocopied_any A c (List.take q xs) w_493 (by rw [show (List.take q xs).length = q from (by rw [List.length_take]; omega)]; exact (Kd.C_below hC_399 hb_494)) (by omega) (sz_take hz q); rw [show (List.take q xs).length = q from (by rw [List.length_take]; omega)] at h_; exact h_) ?_
              rintro e w_500 ⟨A_498, c_499, rfl, hl_502, hr_503, hb_501⟩; refine ⟨_, rfl, ?_⟩
              refine XL_nil ?_
              refine ⟨(bt hb_494 hb_501), ?_⟩
              refine XB_mid (fuel' := 2) 9 #[true, true, true, true, true, true, true, true, true, true, true, true, true, false, false] _ rfl (by kernel_rfl) (by kernel_rfl) rfl ?_
              have hB_504 : Below w.heap.size w w_493 := (bt (bt (bt (bt hb_2 hb_4) hb_393) hb_397) hb_494)
              have hR_505 := Kd.R_litB (kRaw 7) (W := wd_396) (e := 33) (cs := #[.int .i64 ((xs.getD q op0).kind), .string ((xs.getD q op0).text), .int .i64 ((xs.getD q op0).vk), .int .i64 ((xs.getD q op0).vn), .string ((xs.getD q op0).vt), .int .i64 ((xs.getD q op0).count), .slice B_403 ((xs.getD q op0).attrs.length) c_404]) [[.int .i64 ((xs.getD q op0).kind), .string ((xs.getD q op0).text), .int .i64 ((xs.getD q op0).vk), .int .i64 ((xs.getD q op0).vn), .string ((xs.getD q op0).vt), .int .i64 ((xs.getD q op0).count), .slice B_403 ((xs.getD q op0).attrs.length) c_404]] hk_495 (raw1 _ rfl (by kernel_rfl)) (Nat.le_of_ble_eq_true (by kernel_rfl))
              refine XL_appendMix (d := kOp) (W0 := w_493) (c' := 1) (m := 1) op0 rfl rfl rfl 33 (.agg #[.int .i64 0, .string ByteArray.empty, .int .i64 0, .int .i64 0, .string ByteArray.empty, .int .i64 0, .slice none 0 0]) 88 Tryd.underlying22 info33 rfl (by decide) (by omega) (List.take q xs) ([(xs.getD q op0)]) [[.int .i64 ((xs.getD q op0).kind), .string ((xs.getD q op0).text), .int .i64 ((xs.getD q op0).vk), .int .i64 ((xs.getD q op0).vn), .string ((xs.getD q op0).vt), .int .i64 ((xs.getD q op0).count), .slice B_403 ((xs.getD q op0).attrs.length) c_404]] (by kernel_rfl) (Mix.of_R hr_503) (Kd.C_below (Kd.R_C hR_505) hb_501) rfl (fun i_ hi_ => by have h_ : i_ = 0 := (by omega); subst h_; exact (kOp_K_of (x := xs.getD q op0) hl_405 (Kd.C_below hC_406 hB_504))) (hb_501).size (by omega) ?_
              intro A_506 c_507 w_508 hm_509 hg_510 hl_511
              have hB_513 : Below w_493.heap.size w_493 w_508 := (bgo hb_501 hg_510 hl_511 (Nat.le_refl _))
              have hC_512 : kOp.C w_508 A_506 ((List.take q xs) ++ [(xs.getD q op0)]).length ((List.take q xs) ++ [(xs.getD q op0)]) := Mix.C hB_513 hm_509
              refine XL_nil ?_
              have hB_514 : Below wd_396.heap.size wd_396 w_508 := (bgo (bt hb_494 hb_501) hg_510 hl_511 (hb_494).size)
              refine ⟨hB_514, ?_⟩
              refine XB_mid (fuel' := 1) 13 #[true, true, true, true, true, true, true, true, true, true, true, true, true, true, false] _ rfl (by kernel_rfl) (by kernel_rfl) rfl ?_
              obtain ⟨vs_515, hC_516, hK_517⟩ := Kd.C_raw (d := kOp) op0 (Kd.C_below hC_409 hB_504)
              refine XL_appendMix (d := kOp) (W0 := w_493) (c' := (c - q)) (m := (xs.length - q)) op0 rfl rfl rfl 33 (.agg #[.int .i64 0, .string ByteArray.empty, .int .i64 0, .int .i64 0, .string ByteArray.empty, .int .i64 0, .slice none 0 0]) 88 Tryd.underlying22 info33 rfl (by decide) (by omega) ((List.take q xs) ++ [(xs.getD q op0)]) (xs.drop q) vs_515 (by kernel_rfl) hm_509 (Kd.C_below hC_516 hB_513) hdl hK_517 (hB_513).size (by omega) ?_
              intro A_518 c_519 w_520 hm_521 hg_522 hl_523
              have hB_525 : Below w_493.heap.size w_493 w_520 := (bgo hB_513 hg_522 hl_523 (Nat.le_refl _))
              have hC_524 : kOp.C w_520 A_518 (((List.take q xs) ++ [(xs.getD q op0)]) ++ (xs.drop q)).length (((List.take q xs) ++ [(xs.getD q op0)]) ++ (xs.drop q)) := Mix.C hB_525 hm_521
              refine XL_nil ?_
              refine ⟨(bgo hB_514 hg_522 hl_523 (hb_494).size), ?_⟩
              refine XB_run (fuel' := 0) (bgo hB_514 hg_522 hl_523 (hb_494).size) [14] [] [.slice A_518 ((((List.take q xs) ++ [(xs.getD q op0)]) ++ (xs.drop q)).length) c_519] #[true, true, true, true, true, true, true, true, true, true, true, true, true, true, true] [(0, .slice A xs.length c), (1, .int .i64 (q : Int)), (7, .slice A_518 ((((List.take q xs) ++ [(xs.getD q op0)]) ++ (xs.drop q)).length) c_519)] (fun w_ => []) (fun _ _ _ _ h => h) (fun w_ => by kernel_rfl) rfl (fun w_ hC_ => trivial) ?_
              refine XB_done (by kernel_rfl) ?_
              refine X_seq ?_
              refine X_region ?_
              have htwd : (((List.take q xs) ++ [(xs.getD q op0)]) ++ (xs.drop q)) = twice xs q := rfl
              have hcw := Can_twice ((canP_iff xs).1 c_5) q hql
              have hpw := lenP_pos (((List.take q xs) ++ [(xs.getD q op0)]) ++ (xs.drop q))
              rw [← htwd] at hcw htl
              have hck := Can_check ((canP_iff xs).1 c_5) hql
              refine XL_run 1 [] [(0, .slice A xs.length c), (1, .int .i64 (q : Int)), (7, .slice A_518 ((((List.take q xs) ++ [(xs.getD q op0)]) ++ (xs.drop q)).length) c_519), (72, .slice A_518 ((((List.take q xs) ++ [(xs.getD q op0)]) ++ (xs.drop q)).length) c_519)] w_520 [] (by kernel_rfl) trivial ?_
              have hB_526 : Below w.heap.size w w_520 := (bgo (bgo (bt hB_504 hb_501) hg_510 hl_511 (hB_504).size) hg_522 hl_523 (hB_504).size)
              refine XL_call 20 rfl rfl rfl ent20 [.slice A_518 ((((List.take q xs) ++ [(xs.getD q op0)]) ++ (xs.drop q)).length) c_519] (by kernel_rfl) (olen_any A_518 c_519 (((List.take q xs) ++ [(xs.getD q op0)]) ++ (xs.drop q)) w_520 hC_524 (by omega) (sz_twice hz hql) (hT.below hB_526) es (hO.below hB_526)) ?_
              rintro e w_527 ⟨rfl, hb_528⟩; refine ⟨_, rfl, ?_⟩
              refine XL_run 7 [] [(0, .slice A xs.length c), (1, .int .i64 (q : Int)), (7, .slice A_518 ((((List.take q xs) ++ [(xs.getD q op0)]) ++ (xs.drop q)).length) c_519), (8, .int .i64 ((lenP (((List.take q xs) ++ [(xs.getD q op0)]) ++ (xs.drop q))).1)), (9, .int .i64 ((lenP (((List.take q xs) ++ [(xs.getD q op0)]) ++ (xs.drop q))).2.1)), (10, errV es ((lenP (((List.take q xs) ++ [(xs.getD q op0)]) ++ (xs.drop q))).2.2))] w_527 [] (by kernel_rfl) trivial ?_
              refine XL_nil ?_
              refine X_seq ?_
              refine X_region ?_
              refine XL_run 1 [] [(0, .slice A xs.length c), (1, .int .i64 (q : Int)), (7, .slice A_518 ((((List.take q xs) ++ [(xs.getD q op0)]) ++ (xs.drop q)).length) c_519), (8, .int .i64 ((lenP (((List.take q xs) ++ [(xs.getD q op0)]) ++ (xs.drop q))).1)), (9, .int .i64 ((lenP (((List.take q xs) ++ [(xs.getD q op0)]) ++ (xs.drop q))).2.1)), (77, errV es ((lenP (((List.take q xs) ++ [(xs.getD q op0)]) ++ (xs.drop q))).2.2))] w_527 [] (by kernel_rfl) trivial ?_
              by_cases c_529 : (lenP (((List.take q xs) ++ [(xs.getD q op0)]) ++ (xs.drop q))).2.2 = 0
              · rw [show errV es ((lenP (((List.take q xs) ++ [(xs.getD q op0)]) ++ (xs.drop q))).2.2) = .nilIface from by rw [c_529]; rfl]
                refine XL_run 10 [(81, .eq (.bool true)), (85, .eq (.bool true))] [(0, .slice A xs.length c), (1, .int .i64 (q : Int)), (7, .slice A_518 ((((List.take q xs) ++ [(xs.getD q op0)]) ++ (xs.drop q)).length) c_519), (11, .bool true)] w_527 [Value.bool (decide ((lenP (((List.take q xs) ++ [(xs.getD q op0)]) ++ (xs.drop q))).1 ≥ 0)) = Value.bool true, Value.bool (decide ((lenP (((List.take q xs) ++ [(xs.getD q op0)]) ++ (xs.drop q))).2.1 ≥ 0)) = Value.bool true] (by kernel_rfl) ⟨congrArg Value.bool (decide_eq_true ((by omega))), congrArg Value.bool (decide_eq_true ((by omega))), trivial⟩ ?_
                refine XL_nil ?_
                refine X_seq ?_
                refine X_region ?_
                refine XL_run 1 [] [(0, .slice A xs.length c), (1, .int .i64 (q : Int)), (11, .bool true), (87, .slice A_518 ((((List.take q xs) ++ [(xs.getD q op0)]) ++ (xs.drop q)).length) c_519)] w_527 [] (by kernel_rfl) trivial ?_
                refine XL_call 22 rfl rfl rfl ent22 [.slice A_518 ((((List.take q xs) ++ [(xs.getD q op0)]) ++ (xs.drop q)).length) c_519] (by kernel_rfl) (ocan_any A_518 c_519 (((List.take q xs) ++ [(xs.getD q op0)]) ++ (xs.drop q)) w_527 (Kd.C_below hC_524 hb_528) (by omega) (sz_twice hz hql) (hT.below (bt hB_526 hb_528)) es (hO.below (bt hB_526 hb_528))) ?_
                rintro e w_530 ⟨rfl, hb_531⟩; refine ⟨_, rfl, ?_⟩
                refine XL_run 4 [] [(0, .slice A xs.length c), (1, .int .i64 (q : Int)), (88, .bool (canP (((List.take q xs) ++ [(xs.getD q op0)]) ++ (xs.drop q)))), (90, .bool true), (91, .slice A xs.length c), (92, .int .i64 (q : Int))] w_530 [] (by kernel_rfl) trivial ?_
                obtain ⟨ad_532, B_535, c_536, ha_533, hc_534, hl_537, hC_538⟩ := Kd.atOp hx (i := (q : Int)) (by omega) (by omega)
                replace hc_534 : CellsAt w (ad_532.add ((q : Int).toNat * 7)) [.int .i64 ((xs.getD q op0).kind), .string ((xs.getD q op0).text), .int .i64 ((xs.getD q op0).vk), .int .i64 ((xs.getD q op0).vn), .string ((xs.getD q op0).vt), .int .i64 ((xs.getD q op0).count), .slice B_535 ((xs.getD q op0).attrs.length) c_536] := hc_534
                replace hl_537 : (xs.getD q op0).attrs.length ≤ c_536 := hl_537
                replace hC_538 : kAttr.C w B_535 ((xs.getD q op0).attrs.length) (xs.getD q op0).attrs := hC_538
                refine XL_run 3 [(93, .idx ad_532), (95, .load (.int .i64 ((xs.getD q op0).kind)))] [(0, .slice A xs.length c), (1, .int .i64 (q : Int)), (88, .bool (canP (((List.take q xs) ++ [(xs.getD q op0)]) ++ (xs.drop q)))), (90, .bool true), (95, .int .i64 ((xs.getD q op0).kind))] w_530 [A = some ad_532, (0 : Int) ≤ (q : Int), (q : Int) < (xs.length : Int), LoadsAs Tryd.prog 3 (ad_532.add ((q : Int).toNat * 7)) (.int .i64 ((xs.getD q op0).kind)) w_530] (by kernel_rfl) ⟨ha_533, (by omega), (by omega), loads1 rfl (elem_cell (cells_below hc_534 (bt (bt hB_526 hb_528) hb_531)) 0 _ rfl), trivial⟩ ?_
                by_cases c_539 : (xs.getD q op0).kind = 2
                · refine XL_run 2 [(96, .eq (.bool true))] [(0, .slice A xs.length c), (1, .int .i64 (q : Int)), (88, .bool (canP (((List.take q xs) ++ [(xs.getD q op0)]) ++ (xs.drop q)))), (97, .bool true)] w_530 [Value.bool ((xs.getD q op0).kind == 2) = Value.bool true] (by kernel_rfl) ⟨congrArg Value.bool (beq_iff_eq.2 (c_539)), trivial⟩ ?_
                  by_cases c_540 : canP (((List.take q xs) ++ [(xs.getD q op0)]) ++ (xs.drop q)) = true
                  · rw [show (canP (((List.take q xs) ++ [(xs.getD q op0)]) ++ (xs.drop q)) : Bool) = true from by simpa using c_540]
                    refine XL_run 4 [] [(99, .bool true), (100, .slice A xs.length c), (101, .int .i64 (q : Int))] w_530 [] (by kernel_rfl) trivial ?_
                    obtain ⟨ad_541, B_544, c_545, ha_542, hc_543, hl_546, hC_547⟩ := Kd.atOp hx (i := (q : Int)) (by omega) (by omega)
                    replace hc_543 : CellsAt w (ad_541.add ((q : Int).toNat * 7)) [.int .i64 ((xs.getD q op0).kind), .string ((xs.getD q op0).text), .int .i64 ((xs.getD q op0).vk), .int .i64 ((xs.getD q op0).vn), .string ((xs.getD q op0).vt), .int .i64 ((xs.getD q op0).count), .slice B_544 ((xs.getD q op0).attrs.length) c_545] := hc_543
                    replace hl_546 : (xs.getD q op0).attrs.length ≤ c_545 := hl_546
                    replace hC_547 : kAttr.C w B_544 ((xs.getD q op0).attrs.length) (xs.getD q op0).attrs := hC_547
                    refine XL_run 2 [(102, .idx ad_541), (103, .load (.agg #[.int .i64 ((xs.getD q op0).kind), .string ((xs.getD q op0).text), .int .i64 ((xs.getD q op0).vk), .int .i64 ((xs.getD q op0).vn), .string ((xs.getD q op0).vt), .int .i64 ((xs.getD q op0).count), .slice B_544 ((xs.getD q op0).attrs.length) c_545]))] [(99, .bool true), (103, .agg #[.int .i64 ((xs.getD q op0).kind), .string ((xs.getD q op0).text), .int .i64 ((xs.getD q op0).vk), .int .i64 ((xs.getD q op0).vn), .string ((xs.getD q op0).vt), .int .i64 ((xs.getD q op0).count), .slice B_544 ((xs.getD q op0).attrs.length) c_545])] w_530 [A = some ad_541, (0 : Int) ≤ (q : Int), (q : Int) < (xs.length : Int), LoadsAs Tryd.prog 33 (ad_541.add ((q : Int).toNat * 7)) (.agg #[.int .i64 ((xs.getD q op0).kind), .string ((xs.getD q op0).text), .int .i64 ((xs.getD q op0).vk), .int .i64 ((xs.getD q op0).vn), .string ((xs.getD q op0).vt), .int .i64 ((xs.getD q op0).count), .slice B_544 ((xs.getD q op0).attrs.length) c_545]) w_530] (by kernel_rfl) ⟨ha_542, (by omega), (by omega), loadsE rfl rfl (cells_below hc_543 (bt (bt hB_526 hb_528) hb_531)) 0 ⟨by kernel_rfl, by kernel_rfl⟩, trivial⟩ ?_
                    refine XL_call 18 rfl rfl rfl ent18 [.agg #[.int .i64 ((xs.getD q op0).kind), .string ((xs.getD q op0).text), .int .i64 ((xs.getD q op0).vk), .int .i64 ((xs.getD q op0).vn), .string ((xs.getD q op0).vt), .int .i64 ((xs.getD q op0).count), .slice B_544 ((xs.getD q op0).attrs.length) c_545]] (by kernel_rfl) (ocheck_any (xs.getD q op0) _ _ _ (Kd.C_below hC_547 (bt (bt hB_526 hb_528) hb_531)) (hz q hql) (hT.below (bt (bt hB_526 hb_528) hb_531)) es (hO.below (bt (bt hB_526 hb_528) hb_531))) ?_
                    rintro e w_548 ⟨rfl, hb_549⟩; refine ⟨_, rfl, ?_⟩
                    by_cases c_550 : (pErr (xs.getD q op0)) = 0
                    · rw [show errV es (pErr (xs.getD q op0)) = .nilIface from by rw [c_550]; rfl]
                      refine XL_run 3 [] [(4, .bool true)] w_548 [] (by kernel_rfl) trivial ?_
                      refine XL_nil ?_
                      refine X_ret ?_
                      refine RX.ret_ok (P := Tryd.prog) (fn := Tryd.f5) (N := 107) (R := R_) [.bool true] (by kernel_rfl) (hR_ _ _ ?_)
                      have hB_551 : Below w.heap.size w w_548 := (bt (bt (bt hB_526 hb_528) hb_531) hb_549)
                      exact ⟨rfl, hB_551⟩
                    · exact absurd hck c_550
                  · exact absurd ((canP_iff _).2 (hcw.2 ⟨c_529, c_539⟩)) c_540
                · refine XL_run 2 [(96, .eq (.bool false))] [(0, .slice A xs.length c), (1, .int .i64 (q : Int)), (88, .bool (canP (((List.take q xs) ++ [(xs.getD q op0)]) ++ (xs.drop q)))), (97, .bool false)] w_530 [Value.bool ((xs.getD q op0).kind == 2) = Value.bool false] (by kernel_rfl) ⟨congrArg Value.bool (beq_eq_false_iff_ne.2 (c_539)), trivial⟩ ?_
                  by_cases c_552 : canP (((List.take q xs) ++ [(xs.getD q op0)]) ++ (xs.drop q)) = true
                  · exfalso
                    have h1_ := hcw.1 ((canP_iff _).1 c_552)
                    exact c_539 h1_.2
                  · rw [show (canP (((List.take q xs) ++ [(xs.getD q op0)]) ++ (xs.drop q)) : Bool) = false from by simpa using c_552]
                    refine XL_run 4 [] [(99, .bool true), (100, .slice A xs.length c), (101, .int .i64 (q : Int))] w_530 [] (by kernel_rfl) trivial ?_
                    obtain ⟨ad_553, B_556, c_557, ha_554, hc_555, hl_558, hC_559⟩ := Kd.atOp hx (i := (q : Int)) (by omega) (by omega)
                    replace hc_555 : CellsAt w (ad_553.add ((q : Int).toNat * 7)) [.int .i64 ((xs.getD q op0).kind), .string ((xs.getD q op0).text), .int .i64 ((xs.getD q op0).vk), .int .i64 ((xs.getD q op0).vn), .string ((xs.getD q op0).vt), .int .i64 ((xs.getD q op0).count), .slice B_556 ((xs.getD q op0).attrs.length) c_557] := hc_555
                    replace hl_558 : (xs.getD q op0).attrs.length ≤ c_557 := hl_558
                    replace hC_559 : kAttr.C w B_556 ((xs.getD q op0).attrs.length) (xs.getD q op0).attrs := hC_559
                    refine XL_run 2 [(102, .idx ad_553), (103, .load (.agg #[.int .i64 ((xs.getD q op0).kind), .string ((xs.getD q op0).text), .int .i64 ((xs.getD q op0).vk), .int .i64 ((xs.getD q op0).vn), .string ((xs.getD q op0).vt), .int .i64 ((xs.getD q op0).count), .slice B_556 ((xs.getD q op0).attrs.length) c_557]))] [(99, .bool true), (103, .agg #[.int .i64 ((xs.getD q op0).kind), .string ((xs.getD q op0).text), .int .i64 ((xs.getD q op0).vk), .int .i64 ((xs.getD q op0).vn), .string ((xs.getD q op0).vt), .int .i64 ((xs.getD q op0).count), .slice B_556 ((xs.getD q op0).attrs.length) c_557])] w_530 [A = some ad_553, (0 : Int) ≤ (q : Int), (q : Int) < (xs.length : Int), LoadsAs Tryd.prog 33 (ad_553.add ((q : Int).toNat * 7)) (.agg #[.int .i64 ((xs.getD q op0).kind), .string ((xs.getD q op0).text), .int .i64 ((xs.getD q op0).vk), .int .i64 ((xs.getD q op0).vn), .string ((xs.getD q op0).vt), .int .i64 ((xs.getD q op0).count), .slice B_556 ((xs.getD q op0).attrs.length) c_557]) w_530] (by kernel_rfl) ⟨ha_554, (by omega), (by omega), loadsE rfl rfl (cells_below hc_555 (bt (bt hB_526 hb_528) hb_531)) 0 ⟨by kernel_rfl, by kernel_rfl⟩, trivial⟩ ?_
                    refine XL_call 18 rfl rfl rfl ent18 [.agg #[.int .i64 ((xs.getD q op0).kind), .string ((xs.getD q op0).text), .int .i64 ((xs.getD q op0).vk), .int .i64 ((xs.getD q op0).vn), .string ((xs.getD q op0).vt), .int .i64 ((xs.getD q op0).count), .slice B_556 ((xs.getD q op0).attrs.length) c_557]] (by kernel_rfl) (ocheck_any (xs.getD q op0) _ _ _ (Kd.C_below hC_559 (bt (bt hB_526 hb_528) hb_531)) (hz q hql) (hT.below (bt (bt hB_526 hb_528) hb_531)) es (hO.below (bt (bt hB_526 hb_528) hb_531))) ?_
                    rintro e w_560 ⟨rfl, hb_561⟩; refine ⟨_, rfl, ?_⟩
                    by_cases c_562 : (pErr (xs.getD q op0)) = 0
                    · rw [show errV es (pErr (xs.getD q op0)) = .nilIface from by rw [c_562]; rfl]
                      refine XL_run 3 [] [(4, .bool true)] w_560 [] (by kernel_rfl) trivial ?_
                      refine XL_nil ?_
                      refine X_ret ?_
                      refine RX.ret_ok (P := Tryd.prog) (fn := Tryd.f5) (N := 107) (R := R_) [.bool true] (by kernel_rfl) (hR_ _ _ ?_)
                      have hB_563 : Below w.heap.size w w_560 := (bt (bt (bt hB_526 hb_528) hb_531) hb_561)
                      exact ⟨rfl, hB_563⟩
                    · exact absurd hck c_562
              · rw [errV_pos es ((lenP (((List.take q xs) ++ [(xs.getD q op0)]) ++ (xs.drop q))).2.2) (Nat.pos_of_ne_zero c_529)]
                refine XL_run 10 [] [(0, .slice A xs.length c), (1, .int .i64 (q : Int)), (7, .slice A_518 ((((List.take q xs) ++ [(xs.getD q op0)]) ++ (xs.drop q)).length) c_519), (11, .bool false)] w_527 [] (by kernel_rfl) trivial ?_
                refine XL_nil ?_
                refine X_seq ?_
                refine X_region ?_
                refine XL_run 1 [] [(0, .slice A xs.length c), (1, .int .i64 (q : Int)), (11, .bool false), (87, .slice A_518 ((((List.take q xs) ++ [(xs.getD q op0)]) ++ (xs.drop q)).length) c_519)] w_527 [] (by kernel_rfl) trivial ?_
                refine XL_call 22 rfl rfl rfl ent22 [.slice A_518 ((((List.take q xs) ++ [(xs.getD q op0)]) ++ (xs.drop q)).length) c_519] (by kernel_rfl) (ocan_any A_518 c_519 (((List.take q xs) ++ [(xs.getD q op0)]) ++ (xs.drop q)) w_527 (Kd.C_below hC_524 hb_528) (by omega) (sz_twice hz hql) (hT.below (bt hB_526 hb_528)) es (hO.below (bt hB_526 hb_528))) ?_
                rintro e w_564 ⟨rfl, hb_565⟩; refine ⟨_, rfl, ?_⟩
                refine XL_run 9 [] [(0, .slice A xs.length c), (1, .int .i64 (q : Int)), (88, .bool (canP (((List.take q xs) ++ [(xs.getD q op0)]) ++ (xs.drop q)))), (97, .bool false)] w_564 [] (by kernel_rfl) trivial ?_
                by_cases c_566 : canP (((List.take q xs) ++ [(xs.getD q op0)]) ++ (xs.drop q)) = true
                · exact absurd (hcw.1 ((canP_iff _).1 c_566)).1 c_529
                · rw [show (canP (((List.take q xs) ++ [(xs.getD q op0)]) ++ (xs.drop q)) : Bool) = false from by simpa using c_566]
                  refine XL_run 4 [] [(99, .bool true), (100, .slice A xs.length c), (101, .int .i64 (q : Int))] w_564 [] (by kernel_rfl) trivial ?_
                  obtain ⟨ad_567, B_570, c_571, ha_568, hc_569, hl_572, hC_573⟩ := Kd.atOp hx (i := (q : Int)) (by omega) (by omega)
                  replace hc_569 : CellsAt w (ad_567.add ((q : Int).toNat * 7)) [.int .i64 ((xs.getD q op0).kind), .string ((xs.getD q op0).text), .int .i64 ((xs.getD q op0).vk), .int .i64 ((xs.getD q op0).vn), .string ((xs.getD q op0).vt), .int .i64 ((xs.getD q op0).count), .slice B_570 ((xs.getD q op0).attrs.length) c_571] := hc_569
                  replace hl_572 : (xs.getD q op0).attrs.length ≤ c_571 := hl_572
                  replace hC_573 : kAttr.C w B_570 ((xs.getD q op0).attrs.length) (xs.getD q op0).attrs := hC_573
                  refine XL_run 2 [(102, .idx ad_567), (103, .load (.agg #[.int .i64 ((xs.getD q op0).kind), .string ((xs.getD q op0).text), .int .i64 ((xs.getD q op0).vk), .int .i64 ((xs.getD q op0).vn), .string ((xs.getD q op0).vt), .int .i64 ((xs.getD q op0).count), .slice B_570 ((xs.getD q op0).attrs.length) c_571]))] [(99, .bool true), (103, .agg #[.int .i64 ((xs.getD q op0).kind), .string ((xs.getD q op0).text), .int .i64 ((xs.getD q op0).vk), .int .i64 ((xs.getD q op0).vn), .string ((xs.getD q op0).vt), .int .i64 ((xs.getD q op0).count), .slice B_570 ((xs.getD q op0).attrs.length) c_571])] w_564 [A = some ad_567, (0 : Int) ≤ (q : Int), (q : Int) < (xs.length : Int), LoadsAs Tryd.prog 33 (ad_567.add ((q : Int).toNat * 7)) (.agg #[.int .i64 ((xs.getD q op0).kind), .string ((xs.getD q op0).text), .int .i64 ((xs.getD q op0).vk), .int .i64 ((xs.getD q op0).vn), .string ((xs.getD q op0).vt), .int .i64 ((xs.getD q op0).count), .slice B_570 ((xs.getD q op0).attrs.length) c_571]) w_564] (by kernel_rfl) ⟨ha_568, (by omega), (by omega), loadsE rfl rfl (cells_below hc_569 (bt (bt hB_526 hb_528) hb_565)) 0 ⟨by kernel_rfl, by kernel_rfl⟩, trivial⟩ ?_
                  refine XL_call 18 rfl rfl rfl ent18 [.agg #[.int .i64 ((xs.getD q op0).kind), .string ((xs.getD q op0).text), .int .i64 ((xs.getD q op0).vk), .int .i64 ((xs.getD q op0).vn), .string ((xs.getD q op0).vt), .int .i64 ((xs.getD q op0).count), .slice B_570 ((xs.getD q op0).attrs.length) c_571]] (by kernel_rfl) (ocheck_any (xs.getD q op0) _ _ _ (Kd.C_below hC_573 (bt (bt hB_526 hb_528) hb_565)) (hz q hql) (hT.below (bt (bt hB_526 hb_528) hb_565)) es (hO.below (bt (bt hB_526 hb_528) hb_565))) ?_
                  rintro e w_574 ⟨rfl, hb_575⟩; refine ⟨_, rfl, ?_⟩
                  by_cases c_576 : (pErr (xs.getD q op0)) = 0
                  · rw [show errV es (pErr (xs.getD q op0)) = .nilIface from by rw [c_576]; rfl]
                    refine XL_run 3 [] [(4, .bool true)] w_574 [] (by kernel_rfl) trivial ?_
                    refine XL_nil ?_
                    refine X_ret ?_
                    refine RX.ret_ok (P := Tryd.prog) (fn := Tryd.f5) (N := 107) (R := R_) [.bool true] (by kernel_rfl) (hR_ _ _ ?_)
                    have hB_577 : Below w.heap.size w w_574 := (bt (bt (bt hB_526 hb_528) hb_565) hb_575)
                    exact ⟨rfl, hB_577⟩
                  · exact absurd hck c_576
        · exact absurd ((canP_iff _).2 (hct.2 hpf)) c_394
    · refine XL_run 21 [(29, .eq (.bool false))] [(0, .slice A xs.length c), (1, .int .i64 (q : Int)), (5, .slice A q c), (6, .bool false)] w_3 [Value.bool (decide ((q : Int) > 0)) = Value.bool false] (by kernel_rfl) ⟨congrArg Value.bool (decide_eq_false (c_7)), trivial⟩ ?_
      refine XL_nil ?_
      refine X_seq ?_
      refine X_seq ?_
      refine X_region ?_
      have hzq : ((q : Int) - 1).toNat = q - 1 := by omega
      have hct := Can_take ((canP_iff xs).1 c_5) q hq
      have hpf : ¬ (0 < q ∧ plainR (xs.getD (q - 1) op0)) := fun h_ => by have h0_ := h_.1; have h1_ := h_.2; rw [← getD_take (show q - 1 < q by omega)] at h1_; have h2_ := h1_.1; have h3_ := h1_.2; omega
      refine XL_run 1 [] [(0, .slice A xs.length c), (1, .int .i64 (q : Int)), (6, .bool false), (49, .slice A q c)] w_3 [] (by kernel_rfl) trivial ?_
      refine XL_call 22 rfl rfl rfl ent22 [.slice A q c] (by kernel_rfl) (by have h_ := ocan_any A c (List.take q xs) w_3 (by rw [show (List.take q xs).length = q from (by rw [List.length_take]; omega)]; exact hC_6) (by omega) (sz_take hz q) (hT.below (bt hb_2 hb_4)) es (hO.below (bt hb_2 hb_4)); rw [show (List.take q xs).length = q from (by rw [List.length_take]; omega)] at h_; exact h_) ?_
      rintro e w_578 ⟨rfl, hb_579⟩; refine ⟨_, rfl, ?_⟩
      refine XL_run 1 [] [(0, .slice A xs.length c), (1, .int .i64 (q : Int)), (50, .bool (canP (List.take q xs))), (51, .bool false)] w_578 [] (by kernel_rfl) trivial ?_
      by_cases c_580 : canP (List.take q xs) = true
      · rw [show (canP (List.take q xs) : Bool) = true from by simpa using c_580]
        refine XL_run 1 [] [(0, .slice A xs.length c), (1, .int .i64 (q : Int)), (52, .bool false)] w_578 [] (by kernel_rfl) trivial ?_
        refine XL_nil ?_
        refine X_cond false rfl ?_
        refine X_skip ?_
        refine X_seq ?_
        refine X_seq ?_
        refine X_region ?_
        refine XL_run 3 [] [(0, .slice A xs.length c), (1, .int .i64 (q : Int)), (53, .int .i64 (q : Int)), (55, .int .i64 (xs.length : Int))] w_578 [] (by kernel_rfl) trivial ?_
        by_cases c_581 : (q : Int) = (xs.length : Int)
        · refine XL_run 1 [(56, .eq (.bool true))] [(0, .slice A xs.length c), (1, .int .i64 (q : Int)), (56, .bool true)] w_578 [Value.bool ((q : Int) == (xs.length : Int)) = Value.bool true] (by kernel_rfl) ⟨congrArg Value.bool (beq_iff_eq.2 (c_581)), trivial⟩ ?_
          refine XL_nil ?_
          refine X_cond true rfl ?_
          refine X_seq ?_
          refine X_region ?_
          refine XL_run 1 [] [(4, .bool true)] w_578 [] (by kernel_rfl) trivial ?_
          refine XL_nil ?_
          refine X_ret ?_
          refine RX.ret_ok (P := Tryd.prog) (fn := Tryd.f5) (N := 107) (R := R_) [.bool true] (by kernel_rfl) (hR_ _ _ ?_)
          exact ⟨rfl, (bt (bt hb_2 hb_4) hb_579)⟩
        · refine XL_run 1 [(56, .eq (.bool false))] [(0, .slice A xs.length c), (1, .int .i64 (q : Int)), (56, .bool false)] w_578 [Value.bool ((q : Int) == (xs.length : Int)) = Value.bool false] (by kernel_rfl) ⟨congrArg Value.bool (beq_eq_false_iff_ne.2 (c_581)), trivial⟩ ?_
          refine XL_nil ?_
          refine X_cond false rfl ?_
          refine X_skip ?_
          refine X_seq ?_
          refine X_grow [] 15 #[false, false, false, false, false, false, false, false, false, false, false, false, false, false, false] (by kernel_rfl) (by kernel_rfl) (by kernel_rfl) (fun wd_582 hb_583 hh_584 => ?_)
          have hql : q < xs.length := by omega
          have htl : (twice xs q).length = xs.length + 1 := twice_len hql
          have hdl : (List.drop q xs).length = xs.length - q := List.length_drop ..
          have hl1 : ((List.take q xs) ++ [(xs.getD q op0)]).length = q + 1 := by rw [List.length_append, hlH]; rfl
          have hC_585 := RX.Kd.C_take (m := q) (Kd.C_below hx (bt (bt (bt hb_2 hb_4) hb_579) hb_583)) (by first | omega | (simp; done) | (simp; omega))
          refine XB_run (fuel' := 10) (Below.refl _ _) [0, 1, 2, 4, 5] [(59, .as (.slice A q c))] [.slice A xs.length c, .int .i64 (q : Int), .slice A q c, .slice A xs.length c, .int .i64 (q : Int)] #[true, true, true, false, true, true, false, false, false, false, false, false, false, false, false] [(0, .slice A xs.length c), (1, .int .i64 (q : Int)), (59, .slice A q c), (61, .slice A xs.length c), (62, .int .i64 (q : Int))] (fun w_ => [RunsAs Tryd.prog [(57, .slice A xs.length c), (58, .int .i64 (q : Int))] (Go.Op.slice 22 (Go.Operand.tmp 57) none (some (Go.Operand.tmp 58)) none) 22 (.slice A q c) w_]) (fun _ _ _ _ h => h) (fun w_ => by kernel_rfl) rfl (fun w_ hC_ => ⟨runs_slice_h (h := (q : Int)) rfl rfl rfl rfl (by omega) (by omega), trivial⟩) ?_
          obtain ⟨ad_586, B_589, c_590, ha_587, hc_588, hl_591, hC_592⟩ := Kd.atOp hx (i := (q : Int)) (by omega) (by omega)
          replace hc_588 : CellsAt w (ad_586.add ((q : Int).toNat * 7)) [.int .i64 ((xs.getD q op0).kind), .string ((xs.getD q op0).text), .int .i64 ((xs.getD q op0).vk), .int .i64 ((xs.getD q op0).vn), .string ((xs.getD q op0).vt), .int .i64 ((xs.getD q op0).count), .slice B_589 ((xs.getD q op0).attrs.length) c_590] := hc_588
          replace hl_591 : (xs.getD q op0).attrs.length ≤ c_590 := hl_591
          replace hC_592 : kAttr.C w B_589 ((xs.getD q op0).attrs.length) (xs.getD q op0).attrs := hC_592
          obtain ⟨A_593, hA_594⟩ : ∃ A_, (if c = q then A else A.map (·.add (q * 7))) = A_ := ⟨_, rfl⟩
          have hC_595 : kOp.C w A_593 (xs.length - q) (xs.drop q) := by have h := RX.Kd.C_drop hx (k := q) (cap := c) (by omega) (by omega); first | (rw [← hA_594]; exact h)
          refine XB_run (fuel' := 5) (Below.refl _ _) [6, 7, 10, 11, 12] [(63, .idx ad_586), (64, .load (.agg #[.int .i64 ((xs.getD q op0).kind), .string ((xs.getD q op0).text), .int .i64 ((xs.getD q op0).vk), .int .i64 ((xs.getD q op0).vn), .string ((xs.getD q op0).vt), .int .i64 ((xs.getD q op0).count), .slice B_589 ((xs.getD q op0).attrs.length) c_590])), (69, .as (.slice A_593 (xs.length - q) (c - q)))] [.pointer (some (ad_586.add ((q : Int).toNat * 7))), .agg #[.int .i64 ((xs.getD q op0).kind), .string ((xs.getD q op0).text), .int .i64 ((xs.getD q op0).vk), .int .i64 ((xs.getD q op0).vn), .string ((xs.getD q op0).vt), .int .i64 ((xs.getD q op0).count), .slice B_589 ((xs.getD q op0).attrs.length) c_590], .slice A xs.length c, .int .i64 (q : Int), .slice A_593 (xs.length - q) (c - q)] #[true, true, true, false, true, true, true, true, false, false, true, true, true, false, false] [(0, .slice A xs.length c), (1, .int .i64 (q : Int)), (59, .slice A q c), (64, .agg #[.int .i64 ((xs.getD q op0).kind), .string ((xs.getD q op0).text), .int .i64 ((xs.getD q op0).vk), .int .i64 ((xs.getD q op0).vn), .string ((xs.getD q op0).vt), .int .i64 ((xs.getD q op0).count), .slice B_589 ((xs.getD q op0).attrs.length) c_590]), (69, .slice A_593 (xs.length - q) (c - q))] (fun w_ => [A = some ad_586, (0 : Int) ≤ (q : Int), (q : Int) < (xs.length : Int), LoadsAs Tryd.prog 33 (ad_586.add ((q : Int).toNat * 7)) (.agg #[.int .i64 ((xs.getD q op0).kind), .string ((xs.getD q op0).text), .int .i64 ((xs.getD q op0).vk), .int .i64 ((xs.getD q op0).vn), .string ((xs.getD q op0).vt), .int .i64 ((xs.getD q op0).count), .slice B_589 ((xs.getD q op0).attrs.length) c_590]) w_, RunsAs Tryd.prog [(67, .slice A xs.length c), (68, .int .i64 (q : Int))] (Go.Op.slice 22 (Go.Operand.tmp 67) (some (Go.Operand.tmp 68)) none none) 22 (.slice A_593 (xs.length - q) (c - q)) w_]) (fun _ _ _ _ h => h) (fun w_ => by kernel_rfl) rfl (fun w_ hC_ => ⟨ha_587, (by omega), (by omega), loadsE rfl rfl (cells_below hc_588 (bt (bt (bt (bt hb_2 hb_4) hb_579) hb_583) hC_)) 0 ⟨by kernel_rfl, by kernel_rfl⟩, (hA_594 ▸ runs_slice_l (h := (q : Int)) rfl rfl rfl rfl (by omega) (by omega) (by omega)), trivial⟩) ?_
          refine XB_two (fuel' := 4) 3 8 #[true, true, true, true, true, true, true, true, false, false, true, true, true, false, false] #[true, true, true, false, true, true, true, true, true, false, true, true, true, false, false] _ _ rfl rfl (by kernel_rfl) (by kernel_rfl) (by kernel_rfl) rfl ?_ ?_
          · refine XL_call 16 rfl rfl rfl ent16 [.slice A q c] (by kernel_rfl) (by have h_ := ocopied_any A c (List.take q xs) wd_582 (by rw [show (List.take q xs).length = q from (by rw [List.length_take]; omega)]; exact hC_585) (by omega) (sz_take hz q); rw [show (List.take q xs).length = q from (by rw [List.length_take]; omega)] at h_; exact h_) ?_
            rintro e w_598 ⟨A_596, c_597, rfl, hl_600, hr_601, hb_599⟩; refine ⟨_, rfl, ?_⟩
            refine XL_nil ?_
            refine ⟨hb_599, ?_⟩
            refine XB_mid (fuel' := 3) 8 #[true, true, true, true, true, true, true, true, true, false, true, true, true, false, false] _ rfl (by kernel_rfl) (by kernel_rfl) rfl ?_
            refine XL_run 1 [] [(0, .slice A xs.length c), (1, .int .i64 (q : Int)), (60, .slice A_596 q c_597), (65, .slice (some ⟨w_598.heap.size, 0, none⟩) 1 1), (69, .slice A_593 (xs.length - q) (c - q))] (w_598.alloc (.cells #[.int .i64 ((xs.getD q op0).kind), .string ((xs.getD q op0).text), .int .i64 ((xs.getD q op0).vk), .int .i64 ((xs.getD q op0).vn), .string ((xs.getD q op0).vt), .int .i64 ((xs.getD q op0).count), .slice B_589 ((xs.getD q op0).attrs.length) c_590] 33)) [] (by kernel_rfl) trivial ?_
            obtain ⟨w_602, hw_606, hb_603, hk_604, hz_605⟩ := new_world w_598 #[.int .i64 ((xs.getD q op0).kind), .string ((xs.getD q op0).text), .int .i64 ((xs.getD q op0).vk), .int .i64 ((xs.getD q op0).vn), .string ((xs.getD q op0).vt), .int .i64 ((xs.getD q op0).count), .slice B_589 ((xs.getD q op0).attrs.length) c_590] 33
            rw [hw_606]
            refine XL_nil ?_
            refine ⟨(bt hb_599 hb_603), ?_⟩
            refine XB_mid (fuel' := 2) 9 #[true, true, true, true, true, true, true, true, true, true, true, true, true, false, false] _ rfl (by kernel_rfl) (by kernel_rfl) rfl ?_
            have hR_607 := Kd.R_litB (kRaw 7) (W := w_598) (e := 33) (cs := #[.int .i64 ((xs.getD q op0).kind), .string ((xs.getD q op0).text), .int .i64 ((xs.getD q op0).vk), .int .i64 ((xs.getD q op0).vn), .string ((xs.getD q op0).vt), .int .i64 ((xs.getD q op0).count), .slice B_589 ((xs.getD q op0).attrs.length) c_590]) [[.int .i64 ((xs.getD q op0).kind), .string ((xs.getD q op0).text), .int .i64 ((xs.getD q op0).vk), .int .i64 ((xs.getD q op0).vn), .string ((xs.getD q op0).vt), .int .i64 ((xs.getD q op0).count), .slice B_589 ((xs.getD q op0).attrs.length) c_590]] hk_604 (raw1 _ rfl (by kernel_rfl)) (Nat.le_of_ble_eq_true (by kernel_rfl))
            refine XL_appendMix (d := kOp) (W0 := wd_582) (c' := 1) (m := 1) op0 rfl rfl rfl 33 (.agg #[.int .i64 0, .string ByteArray.empty, .int .i64 0, .int .i64 0, .string ByteArray.empty, .int .i64 0, .slice none 0 0]) 88 Tryd.underlying22 info33 rfl (by decide) (by omega) (List.take q xs) ([(xs.getD q op0)]) [[.int .i64 ((xs.getD q op0).kind), .string ((xs.getD q op0).text), .int .i64 ((xs.getD q op0).vk), .int .i64 ((xs.getD q op0).vn), .string ((xs.getD q op0).vt), .int .i64 ((xs.getD q op0).count), .slice B_589 ((xs.getD q op0).attrs.length) c_590]] (by kernel_rfl) (Mix.of_R (Kd.R_below hr_601 hb_603)) (Kd.R_C hR_607) rfl (fun i_ hi_ => by have h_ : i_ = 0 := (by omega); subst h_; exact (kOp_K_of (x := xs.getD q op0) hl_591 (Kd.C_below hC_592 (bt (bt (bt hb_2 hb_4) hb_579) hb_583)))) ((bt hb_599 hb_603)).size (by omega) ?_
            intro A_608 c_609 w_610 hm_611 hg_612 hl_613
            have hB_615 : Below wd_582.heap.size wd_582 w_610 := (bgo (bt hb_599 hb_603) hg_612 hl_613 (Nat.le_refl _))
            have hC_614 : kOp.C w_610 A_608 ((List.take q xs) ++ [(xs.getD q op0)]).length ((List.take q xs) ++ [(xs.getD q op0)]) := Mix.C hB_615 hm_611
            refine XL_nil ?_
            refine ⟨hB_615, ?_⟩
            refine XB_mid (fuel' := 1) 13 #[true, true, true, true, true, true, true, true, true, true, true, true, true, true, false] _ rfl (by kernel_rfl) (by kernel_rfl) rfl ?_
            obtain ⟨vs_616, hC_617, hK_618⟩ := Kd.C_raw (d := kOp) op0 (Kd.C_below hC_595 (bt (bt (bt hb_2 hb_4) hb_579) hb_583))
            refine XL_appendMix (d := kOp) (W0 := wd_582) (c' := (c - q)) (m := (xs.length - q)) op0 rfl rfl rfl 33 (.agg #[.int .i64 0, .string ByteArray.empty, .int .i64 0, .int .i64 0, .string ByteArray.empty, .int .i64 0, .slice none 0 0]) 88 Tryd.underlying22 info33 rfl (by decide) (by omega) ((List.take q xs) ++ [(xs.getD q op0)]) (xs.drop q) vs_616 (by kernel_rfl) hm_611 (Kd.C_below hC_617 hB_615) hdl hK_618 (hB_615).size (by omega) ?_
            intro A_619 c_620 w_621 hm_622 hg_623 hl_624
            have hB_626 : Below wd_582.heap.size wd_582 w_621 := (bgo hB_615 hg_623 hl_624 (Nat.le_refl _))
            have hC_625 : kOp.C w_621 A_619 (((List.take q xs) ++ [(xs.getD q op0)]) ++ (xs.drop q)).length (((List.take q xs) ++ [(xs.getD q op0)]) ++ (xs.drop q)) := Mix.C hB_626 hm_622
            refine XL_nil ?_
            refine ⟨hB_626, ?_⟩
            refine XB_run (fuel' := 0) hB_626 [14] [] [.slice A_619 ((((List.take q xs) ++ [(xs.getD q op0)]) ++ (xs.drop q)).length) c_620] #[true, true, true, true, true, true, true, true, true, true, true, true, true, true, true] [(0, .slice A xs.length c), (1, .int .i64 (q : Int)), (7, .slice A_619 ((((List.take q xs) ++ [(xs.getD q op0)]) ++ (xs.drop q)).length) c_620)] (fun w_ => []) (fun _ _ _ _ h => h) (fun w_ => by kernel_rfl) rfl (fun w_ hC_ => trivial) ?_
            refine XB_done (by kernel_rfl) ?_
            refine X_seq ?_
            refine X_region ?_
            have htwd : (((List.take q xs) ++ [(xs.getD q op0)]) ++ (xs.drop q)) = twice xs q := rfl
            have hcw := Can_twice ((canP_iff xs).1 c_5) q hql
            have hpw := lenP_pos (((List.take q xs) ++ [(xs.getD q op0)]) ++ (xs.drop q))
            rw [← htwd] at hcw htl
            have hck := Can_check ((canP_iff xs).1 c_5) hql
            refine XL_run 1 [] [(0, .slice A xs.length c), (1, .int .i64 (q : Int)), (7, .slice A_619 ((((List.take q xs) ++ [(xs.getD q op0)]) ++ (xs.drop q)).length) c_620), (72, .slice A_619 ((((List.take q xs) ++ [(xs.getD q op0)]) ++ (xs.drop q)).length) c_620)] w_621 [] (by kernel_rfl) trivial ?_
            have hB_627 : Below w.heap.size w w_621 := (bgo (bgo (bt (bt (bt (bt (bt hb_2 hb_4) hb_579) hb_583) hb_599) hb_603) hg_612 hl_613 ((bt (bt (bt hb_2 hb_4) hb_579) hb_583)).size) hg_623 hl_624 ((bt (bt (bt hb_2 hb_4) hb_579) hb_583)).size)
            refine XL_call 20 rfl rfl rfl ent20 [.slice A_619 ((((List.take q xs) ++ [(xs.getD q op0)]) ++ (xs.drop q)).length) c_620] (by kernel_rfl) (olen_any A_619 c_620 (((List.take q xs) ++ [(xs.getD q op0)]) ++ (xs.drop q)) w_621 hC_625 (by omega) (sz_twice hz hql) (hT.below hB_627) es (hO.below hB_627)) ?_
            rintro e w_628 ⟨rfl, hb_629⟩; refine ⟨_, rfl, ?_⟩
            refine XL_run 7 [] [(0, .slice A xs.length c), (1, .int .i64 (q : Int)), (7, .slice A_619 ((((List.take q xs) ++ [(xs.getD q op0)]) ++ (xs.drop q)).length) c_620), (8, .int .i64 ((lenP (((List.take q xs) ++ [(xs.getD q op0)]) ++ (xs.drop q))).1)), (9, .int .i64 ((lenP (((List.take q xs) ++ [(xs.getD q op0)]) ++ (xs.drop q))).2.1)), (10, errV es ((lenP (((List.take q xs) ++ [(xs.getD q op0)]) ++ (xs.drop q))).2.2))] w_628 [] (by kernel_rfl) trivial ?_
            refine XL_nil ?_
            refine X_seq ?_
            refine X_region ?_
            refine XL_run 1 [] [(0, .slice A xs.length c), (1, .int .i64 (q : Int)), (7, .slice A_619 ((((List.take q xs) ++ [(xs.getD q op0)]) ++ (xs.drop q)).length) c_620), (8, .int .i64 ((lenP (((List.take q xs) ++ [(xs.getD q op0)]) ++ (xs.drop q))).1)), (9, .int .i64 ((lenP (((List.take q xs) ++ [(xs.getD q op0)]) ++ (xs.drop q))).2.1)), (77, errV es ((lenP (((List.take q xs) ++ [(xs.getD q op0)]) ++ (xs.drop q))).2.2))] w_628 [] (by kernel_rfl) trivial ?_
            by_cases c_630 : (lenP (((List.take q xs) ++ [(xs.getD q op0)]) ++ (xs.drop q))).2.2 = 0
            · rw [show errV es ((lenP (((List.take q xs) ++ [(xs.getD q op0)]) ++ (xs.drop q))).2.2) = .nilIface from by rw [c_630]; rfl]
              refine XL_run 10 [(81, .eq (.bool true)), (85, .eq (.bool true))] [(0, .slice A xs.length c), (1, .int .i64 (q : Int)), (7, .slice A_619 ((((List.take q xs) ++ [(xs.getD q op0)]) ++ (xs.drop q)).length) c_620), (11, .bool true)] w_628 [Value.bool (decide ((lenP (((List.take q xs) ++ [(xs.getD q op0)]) ++ (xs.drop q))).1 ≥ 0)) = Value.bool true, Value.bool (decide ((lenP (((List.take q xs) ++ [(xs.getD q op0)]) ++ (xs.drop q))).2.1 ≥ 0)) = Value.bool true] (by kernel_rfl) ⟨congrArg Value.bool (decide_eq_true ((by omega))), congrArg Value.bool (decide_eq_true ((by omega))), trivial⟩ ?_
              refine XL_nil ?_
              refine X_seq ?_
              refine X_region ?_
              refine XL_run 1 [] [(0, .slice A xs.length c), (1, .int .i64 (q : Int)), (11, .bool true), (87, .slice A_619 ((((List.take q xs) ++ [(xs.getD q op0)]) ++ (xs.drop q)).length) c_620)] w_628 [] (by kernel_rfl) trivial ?_
              refine XL_call 22 rfl rfl rfl ent22 [.slice A_619 ((((List.take q xs) ++ [(xs.getD q op0)]) ++ (xs.drop q)).length) c_620] (by kernel_rfl) (ocan_any A_619 c_620 (((List.take q xs) ++ [(xs.getD q op0)]) ++ (xs.drop q)) w_628 (Kd.C_below hC_625 hb_629) (by omega) (sz_twice hz hql) (hT.below (bt hB_627 hb_629)) es (hO.below (bt hB_627 hb_629))) ?_
              rintro e w_631 ⟨rfl, hb_632⟩; refine ⟨_, rfl, ?_⟩
              refine XL_run 4 [] [(0, .slice A xs.length c), (1, .int .i64 (q : Int)), (88, .bool (canP (((List.take q xs) ++ [(xs.getD q op0)]) ++ (xs.drop q)))), (90, .bool true), (91, .slice A xs.length c), (92, .int .i64 (q : Int))] w_631 [] (by kernel_rfl) trivial ?_
              obtain ⟨ad_633, B_636, c_637, ha_634, hc_635, hl_638, hC_639⟩ := Kd.atOp hx (i := (q : Int)) (by omega) (by omega)
              replace hc_635 : CellsAt w (ad_633.add ((q : Int).toNat * 7)) [.int .i64 ((xs.getD q op0).kind), .string ((xs.getD q op0).text), .int .i64 ((xs.getD q op0).vk), .int .i64 ((xs.getD q op0).vn), .string ((xs.getD q op0).vt), .int .i64 ((xs.getD q op0).count), .slice B_636 ((xs.getD q op0).attrs.length) c_637] := hc_635
              replace hl_638 : (xs.getD q op0).attrs.length ≤ c_637 := hl_638
              replace hC_639 : kAttr.C w B_636 ((xs.getD q op0).attrs.length) (xs.getD q op0).attrs := hC_639
              refine XL_run 3 [(93, .idx ad_633), (95, .load (.int .i64 ((xs.getD q op0).kind)))] [(0, .slice A xs.length c), (1, .int .i64 (q : Int)), (88, .bool (canP (((List.take q xs) ++ [(xs.getD q op0)]) ++ (xs.drop q)))), (90, .bool true), (95, .int .i64 ((xs.getD q op0).kind))] w_631 [A = some ad_633, (0 : Int) ≤ (q : Int), (q : Int) < (xs.length : Int), LoadsAs Tryd.prog 3 (ad_633.add ((q : Int).toNat * 7)) (.int .i64 ((xs.getD q op0).kind)) w_631] (by kernel_rfl) ⟨ha_634, (by omega), (by omega), loads1 rfl (elem_cell (cells_below hc_635 (bt (bt hB_627 hb_629) hb_632)) 0 _ rfl), trivial⟩ ?_
              by_cases c_640 : (xs.getD q op0).kind = 2
              · refine XL_run 2 [(96, .eq (.bool true))] [(0, .slice A xs.length c), (1, .int .i64 (q : Int)), (88, .bool (canP (((List.take q xs) ++ [(xs.getD q op0)]) ++ (xs.drop q)))), (97, .bool true)] w_631 [Value.bool ((xs.getD q op0).kind == 2) = Value.bool true] (by kernel_rfl) ⟨congrArg Value.bool (beq_iff_eq.2 (c_640)), trivial⟩ ?_
                by_cases c_641 : canP (((List.take q xs) ++ [(xs.getD q op0)]) ++ (xs.drop q)) = true
                · rw [show (canP (((List.take q xs) ++ [(xs.getD q op0)]) ++ (xs.drop q)) : Bool) = true from by simpa using c_641]
                  refine XL_run 4 [] [(99, .bool true), (100, .slice A xs.length c), (101, .int .i64 (q : Int))] w_631 [] (by kernel_rfl) trivial ?_
                  obtain ⟨ad_642, B_645, c_646, ha_643, hc_644, hl_647, hC_648⟩ := Kd.atOp hx (i := (q : Int)) (by omega) (by omega)
                  replace hc_644 : CellsAt w (ad_642.add ((q : Int).toNat * 7)) [.int .i64 ((xs.getD q op0).kind), .string ((xs.getD q op0).text), .int .i64 ((xs.getD q op0).vk), .int .i64 ((xs.getD q op0).vn), .string ((xs.getD q op0).vt), .int .i64 ((xs.getD q op0).count), .slice B_645 ((xs.getD q op0).attrs.length) c_646] := hc_644
                  replace hl_647 : (xs.getD q op0).attrs.length ≤ c_646 := hl_647
                  replace hC_648 : kAttr.C w B_645 ((xs.getD q op0).attrs.length) (xs.getD q op0).attrs := hC_648
                  refine XL_run 2 [(102, .idx ad_642), (103, .load (.agg #[.int .i64 ((xs.getD q op0).kind), .string ((xs.getD q op0).text), .int .i64 ((xs.getD q op0).vk), .int .i64 ((xs.getD q op0).vn), .string ((xs.getD q op0).vt), .int .i64 ((xs.getD q op0).count), .slice B_645 ((xs.getD q op0).attrs.length) c_646]))] [(99, .bool true), (103, .agg #[.int .i64 ((xs.getD q op0).kind), .string ((xs.getD q op0).text), .int .i64 ((xs.getD q op0).vk), .int .i64 ((xs.getD q op0).vn), .string ((xs.getD q op0).vt), .int .i64 ((xs.getD q op0).count), .slice B_645 ((xs.getD q op0).attrs.length) c_646])] w_631 [A = some ad_642, (0 : Int) ≤ (q : Int), (q : Int) < (xs.length : Int), LoadsAs Tryd.prog 33 (ad_642.add ((q : Int).toNat * 7)) (.agg #[.int .i64 ((xs.getD q op0).kind), .string ((xs.getD q op0).text), .int .i64 ((xs.getD q op0).vk), .int .i64 ((xs.getD q op0).vn), .string ((xs.getD q op0).vt), .int .i64 ((xs.getD q op0).count), .slice B_645 ((xs.getD q op0).attrs.length) c_646]) w_631] (by kernel_rfl) ⟨ha_643, (by omega), (by omega), loadsE rfl rfl (cells_below hc_644 (bt (bt hB_627 hb_629) hb_632)) 0 ⟨by kernel_rfl, by kernel_rfl⟩, trivial⟩ ?_
                  refine XL_call 18 rfl rfl rfl ent18 [.agg #[.int .i64 ((xs.getD q op0).kind), .string ((xs.getD q op0).text), .int .i64 ((xs.getD q op0).vk), .int .i64 ((xs.getD q op0).vn), .string ((xs.getD q op0).vt), .int .i64 ((xs.getD q op0).count), .slice B_645 ((xs.getD q op0).attrs.length) c_646]] (by kernel_rfl) (ocheck_any (xs.getD q op0) _ _ _ (Kd.C_below hC_648 (bt (bt hB_627 hb_629) hb_632)) (hz q hql) (hT.below (bt (bt hB_627 hb_629) hb_632)) es (hO.below (bt (bt hB_627 hb_629) hb_632))) ?_
                  rintro e w_649 ⟨rfl, hb_650⟩; refine ⟨_, rfl, ?_⟩
                  by_cases c_651 : (pErr (xs.getD q op0)) = 0
                  · rw [show errV es (pErr (xs.getD q op0)) = .nilIface from by rw [c_651]; rfl]
                    refine XL_run 3 [] [(4, .bool true)] w_649 [] (by kernel_rfl) trivial ?_
                    refine XL_nil ?_
                    refine X_ret ?_
                    refine RX.ret_ok (P := Tryd.prog) (fn := Tryd.f5) (N := 107) (R := R_) [.bool true] (by kernel_rfl) (hR_ _ _ ?_)
                    have hB_652 : Below w.heap.size w w_649 := (bt (bt (bt hB_627 hb_629) hb_632) hb_650)
                    exact ⟨rfl, hB_652⟩
                  · exact absurd hck c_651
                · exact absurd ((canP_iff _).2 (hcw.2 ⟨c_630, c_640⟩)) c_641
              · refine XL_run 2 [(96, .eq (.bool false))] [(0, .slice A xs.length c), (1, .int .i64 (q : Int)), (88, .bool (canP (((List.take q xs) ++ [(xs.getD q op0)]) ++ (xs.drop q)))), (97, .bool false)] w_631 [Value.bool ((xs.getD q op0).kind == 2) = Value.bool false] (by kernel_rfl) ⟨congrArg Value.bool (beq_eq_false_iff_ne.2 (c_640)), trivial⟩ ?_
                by_cases c_653 : canP (((List.take q xs) ++ [(xs.getD q op0)]) ++ (xs.drop q)) = true
                · exfalso
                  have h1_ := hcw.1 ((canP_iff _).1 c_653)
                  exact c_640 h1_.2
                · rw [show (canP (((List.take q xs) ++ [(xs.getD q op0)]) ++ (xs.drop q)) : Bool) = false from by simpa using c_653]
                  refine XL_run 4 [] [(99, .bool true), (100, .slice A xs.length c), (101, .int .i64 (q : Int))] w_631 [] (by kernel_rfl) trivial ?_
                  obtain ⟨ad_654, B_657, c_658, ha_655, hc_656, hl_659, hC_660⟩ := Kd.atOp hx (i := (q : Int)) (by omega) (by omega)
                  replace hc_656 : CellsAt w (ad_654.add ((q : Int).toNat * 7)) [.int .i64 ((xs.getD q op0).kind), .string ((xs.getD q op0).text), .int .i64 ((xs.getD q op0).vk), .int .i64 ((xs.getD q op0).vn), .string ((xs.getD q op0).vt), .int .i64 ((xs.getD q op0).count), .slice B_657 ((xs.getD q op0).attrs.length) c_658] := hc_656
                  replace hl_659 : (xs.getD q op0).attrs.length ≤ c_658 := hl_659
                  replace hC_660 : kAttr.C w B_657 ((xs.getD q op0).attrs.length) (xs.getD q op0).attrs := hC_660
                  refine XL_run 2 [(102, .idx ad_654), (103, .load (.agg #[.int .i64 ((xs.getD q op0).kind), .string ((xs.getD q op0).text), .int .i64 ((xs.getD q op0).vk), .int .i64 ((xs.getD q op0).vn), .string ((xs.getD q op0).vt), .int .i64 ((xs.getD q op0).count), .slice B_657 ((xs.getD q op0).attrs.length) c_658]))] [(99, .bool true), (103, .agg #[.int .i64 ((xs.getD q op0).kind), .string ((xs.getD q op0).text), .int .i64 ((xs.getD q op0).vk), .int .i64 ((xs.getD q op0).vn), .string ((xs.getD q op0).vt), .int .i64 ((xs.getD q op0).count), .slice B_657 ((xs.getD q op0).attrs.length) c_658])] w_631 [A = some ad_654, (0 : Int) ≤ (q : Int), (q : Int) < (xs.length : Int), LoadsAs Tryd.prog 33 (ad_654.add ((q : Int).toNat * 7)) (.agg #[.int .i64 ((xs.getD q op0).kind), .string ((xs.getD q op0).text), .int .i64 ((xs.getD q op0).vk), .int .i64 ((xs.getD q op0).vn), .string ((xs.getD q op0).vt), .int .i64 ((xs.getD q op0).count), .slice B_657 ((xs.getD q op0).attrs.length) c_658]) w_631] (by kernel_rfl) ⟨ha_655, (by omega), (by omega), loadsE rfl rfl (cells_below hc_656 (bt (bt hB_627 hb_629) hb_632)) 0 ⟨by kernel_rfl, by kernel_rfl⟩, trivial⟩ ?_
                  refine XL_call 18 rfl rfl rfl ent18 [.agg #[.int .i64 ((xs.getD q op0).kind), .string ((xs.getD q op0).text), .int .i64 ((xs.getD q op0).vk), .int .i64 ((xs.getD q op0).vn), .string ((xs.getD q op0).vt), .int .i64 ((xs.getD q op0).count), .slice B_657 ((xs.getD q op0).attrs.length) c_658]] (by kernel_rfl) (ocheck_any (xs.getD q op0) _ _ _ (Kd.C_below hC_660 (bt (bt hB_627 hb_629) hb_632)) (hz q hql) (hT.below (bt (bt hB_627 hb_629) hb_632)) es (hO.below (bt (bt hB_627 hb_629) hb_632))) ?_
                  rintro e w_661 ⟨rfl, hb_662⟩; refine ⟨_, rfl, ?_⟩
                  by_cases c_663 : (pErr (xs.getD q op0)) = 0
                  · rw [show errV es (pErr (xs.getD q op0)) = .nilIface from by rw [c_663]; rfl]
                    refine XL_run 3 [] [(4, .bool true)] w_661 [] (by kernel_rfl) trivial ?_
                    refine XL_nil ?_
                    refine X_ret ?_
                    refine RX.ret_ok (P := Tryd.prog) (fn := Tryd.f5) (N := 107) (R := R_) [.bool true] (by kernel_rfl) (hR_ _ _ ?_)
                    have hB_664 : Below w.heap.size w w_661 := (bt (bt (bt hB_627 hb_629) hb_632) hb_662)
                    exact ⟨rfl, hB_664⟩
                  · exact absurd hck c_663
            · rw [errV_pos es ((lenP (((List.take q xs) ++ [(xs.getD q op0)]) ++ (xs.drop q))).2.2) (Nat.pos_of_ne_zero c_630)]
              refine XL_run 10 [] [(0, .slice A xs.length c), (1, .int .i64 (q : Int)), (7, .slice A_619 ((((List.take q xs) ++ [(xs.getD q op0)]) ++ (xs.drop q)).length) c_620), (11, .bool false)] w_628 [] (by kernel_rfl) trivial ?_
              refine XL_nil ?_
              refine X_seq ?_
              refine X_region ?_
              refine XL_run 1 [] [(0, .slice A xs.length c), (1, .int .i64 (q : Int)), (11, .bool false), (87, .slice A_619 ((((List.take q xs) ++ [(xs.getD q op0)]) ++ (xs.drop q)).length) c_620)] w_628 [] (by kernel_rfl) trivial ?_
              refine XL_call 22 rfl rfl rfl ent22 [.slice A_619 ((((List.take q xs) ++ [(xs.getD q op0)]) ++ (xs.drop q)).length) c_620] (by kernel_rfl) (ocan_any A_619 c_620 (((List.take q xs) ++ [(xs.getD q op0)]) ++ (xs.drop q)) w_628 (Kd.C_below hC_625 hb_629) (by omega) (sz_twice hz hql) (hT.below (bt hB_627 hb_629)) es (hO.below (bt hB_627 hb_629))) ?_
              rintro e w_665 ⟨rfl, hb_666⟩; refine ⟨_, rfl, ?_⟩
              refine XL_run 9 [] [(0, .slice A xs.length c), (1, .int .i64 (q : Int)), (88, .bool (canP (((List.take q xs) ++ [(xs.getD q op0)]) ++ (xs.drop q)))), (97, .bool false)] w_665 [] (by kernel_rfl) trivial ?_
              by_cases c_667 : canP (((List.take q xs) ++ [(xs.getD q op0)]) ++ (xs.drop q)) = true
              · exact absurd (hcw.1 ((canP_iff _).1 c_667)).1 c_630
              · rw [show (canP (((List.take q xs) ++ [(xs.getD q op0)]) ++ (xs.drop q)) : Bool) = false from by simpa using c_667]
                refine XL_run 4 [] [(99, .bool true), (100, .slice A xs.length c), (101, .int .i64 (q : Int))] w_665 [] (by kernel_rfl) trivial ?_
                obtain ⟨ad_668, B_671, c_672, ha_669, hc_670, hl_673, hC_674⟩ := Kd.atOp hx (i := (q : Int)) (by omega) (by omega)
                replace hc_670 : CellsAt w (ad_668.add ((q : Int).toNat * 7)) [.int .i64 ((xs.getD q op0).kind), .string ((xs.getD q op0).text), .int .i64 ((xs.getD q op0).vk), .int .i64 ((xs.getD q op0).vn), .string ((xs.getD q op0).vt), .int .i64 ((xs.getD q op0).count), .slice B_671 ((xs.getD q op0).attrs.length) c_672] := hc_670
                replace hl_673 : (xs.getD q op0).attrs.length ≤ c_672 := hl_673
                replace hC_674 : kAttr.C w B_671 ((xs.getD q op0).attrs.length) (xs.getD q op0).attrs := hC_674
                refine XL_run 2 [(102, .idx ad_668), (103, .load (.agg #[.int .i64 ((xs.getD q op0).kind), .string ((xs.getD q op0).text), .int .i64 ((xs.getD q op0).vk), .int .i64 ((xs.getD q op0).vn), .string ((xs.getD q op0).vt), .int .i64 ((xs.getD q op0).count), .slice B_671 ((xs.getD q op0).attrs.length) c_672]))] [(99, .bool true), (103, .agg #[.int .i64 ((xs.getD q op0).kind), .string ((xs.getD q op0).text), .int .i64 ((xs.getD q op0).vk), .int .i64 ((xs.getD q op0).vn), .string ((xs.getD q op0).vt), .int .i64 ((xs.getD q op0).count), .slice B_671 ((xs.getD q op0).attrs.length) c_672])] w_665 [A = some ad_668, (0 : Int) ≤ (q : Int), (q : Int) < (xs.length : Int), LoadsAs Tryd.prog 33 (ad_668.add ((q : Int).toNat * 7)) (.agg #[.int .i64 ((xs.getD q op0).kind), .string ((xs.getD q op0).text), .int .i64 ((xs.getD q op0).vk), .int .i64 ((xs.getD q op0).vn), .string ((xs.getD q op0).vt), .int .i64 ((xs.getD q op0).count), .slice B_671 ((xs.getD q op0).attrs.length) c_672]) w_665] (by kernel_rfl) ⟨ha_669, (by omega), (by omega), loadsE rfl rfl (cells_below hc_670 (bt (bt hB_627 hb_629) hb_666)) 0 ⟨by kernel_rfl, by kernel_rfl⟩, trivial⟩ ?_
                refine XL_call 18 rfl rfl rfl ent18 [.agg #[.int .i64 ((xs.getD q op0).kind), .string ((xs.getD q op0).text), .int .i64 ((xs.getD q op0).vk), .int .i64 ((xs.getD q op0).vn), .string ((xs.getD q op0).vt), .int .i64 ((xs.getD q op0).count), .slice B_671 ((xs.getD q op0).attrs.length) c_672]] (by kernel_rfl) (ocheck_any (xs.getD q op0) _ _ _ (Kd.C_below hC_674 (bt (bt hB_627 hb_629) hb_666)) (hz q hql) (hT.below (bt (bt hB_627 hb_629) hb_666)) es (hO.below (bt (bt hB_627 hb_629) hb_666))) ?_
                rintro e w_675 ⟨rfl, hb_676⟩; refine ⟨_, rfl, ?_⟩
                by_cases c_677 : (pErr (xs.getD q op0)) = 0
                · rw [show errV es (pErr (xs.getD q op0)) = .nilIface from by rw [c_677]; rfl]
                  refine XL_run 3 [] [(4, .bool true)] w_675 [] (by kernel_rfl) trivial ?_
                  refine XL_nil ?_
                  refine X_ret ?_
                  refine RX.ret_ok (P := Tryd.prog) (fn := Tryd.f5) (N := 107) (R := R_) [.bool true] (by kernel_rfl) (hR_ _ _ ?_)
                  have hB_678 : Below w.heap.size w w_675 := (bt (bt (bt hB_627 hb_629) hb_666) hb_676)
                  exact ⟨rfl, hB_678⟩
                · exact absurd hck c_677
          · refine XL_run 1 [] [(0, .slice A xs.length c), (1, .int .i64 (q : Int)), (59, .slice A q c), (65, .slice (some ⟨wd_582.heap.size, 0, none⟩) 1 1), (69, .slice A_593 (xs.length - q) (c - q))] (wd_582.alloc (.cells #[.int .i64 ((xs.getD q op0).kind), .string ((xs.getD q op0).text), .int .i64 ((xs.getD q op0).vk), .int .i64 ((xs.getD q op0).vn), .string ((xs.getD q op0).vt), .int .i64 ((xs.getD q op0).count), .slice B_589 ((xs.getD q op0).attrs.length) c_590] 33)) [] (by kernel_rfl) trivial ?_
            obtain ⟨w_679, hw_683, hb_680, hk_681, hz_682⟩ := new_world wd_582 #[.int .i64 ((xs.getD q op0).kind), .string ((xs.getD q op0).text), .int .i64 ((xs.getD q op0).vk), .int .i64 ((xs.getD q op0).vn), .string ((xs.getD q op0).vt), .int .i64 ((xs.getD q op0).count), .slice B_589 ((xs.getD q op0).attrs.length) c_590] 33
            rw [hw_683]
            refine XL_nil ?_
            refine ⟨hb_680, ?_⟩
            refine XB_mid (fuel' := 3) 3 #[true, true, true, true, true, true, true, true, true, false, true, true, true, false, false] _ rfl (by kernel_rfl) (by kernel_rfl) rfl ?_
            refine XL_call 16 rfl rfl rfl ent16 [.slice A q c] (by kernel_rfl) (by have h_ := ocopied_any A c (List.take q xs) w_679 (by rw [show (List.take q xs).length = q from (by rw [List.length_take]; omega)]; exact (Kd.C_below hC_585 hb_680)) (by omega) (sz_take hz q); rw [show (List.take q xs).length = q from (by rw [List.length_take]; omega)] at h_; exact h_) ?_
            rintro e w_686 ⟨A_684, c_685, rfl, hl_688, hr_689, hb_687⟩; refine ⟨_, rfl, ?_⟩
            refine XL_nil ?_
            refine ⟨(bt hb_680 hb_687), ?_⟩
            refine XB_mid (fuel' := 2) 9 #[true, true, true, true, true, true, true, true, true, true, true, true, true, false, false] _ rfl (by kernel_rfl) (by kernel_rfl) rfl ?_
            have hB_690 : Below w.heap.size w w_679 := (bt (bt (bt (bt hb_2 hb_4) hb_579) hb_583) hb_680)
            have hR_691 := Kd.R_litB (kRaw 7) (W := wd_582) (e := 33) (cs := #[.int .i64 ((xs.getD q op0).kind), .string ((xs.getD q op0).text), .int .i64 ((xs.getD q op0).vk), .int .i64 ((xs.getD q op0).vn), .string ((xs.getD q op0).vt), .int .i64 ((xs.getD q op0).count), .slice B_589 ((xs.getD q op0).attrs.length) c_590]) [[.int .i64 ((xs.getD q op0).kind), .string ((xs.getD q op0).text), .int .i64 ((xs.getD q op0).vk), .int .i64 ((xs.getD q op0).vn), .string ((xs.getD q op0).vt), .int .i64 ((xs.getD q op0).count), .slice B_589 ((xs.getD q op0).attrs.length) c_590]] hk_681 (raw1 _ rfl (by kernel_rfl)) (Nat.le_of_ble_eq_true (by kernel_rfl))
            refine XL_appendMix (d := kOp) (W0 := w_679) (c' := 1) (m := 1) op0 rfl rfl rfl 33 (.agg #[.int .i64 0, .string ByteArray.empty, .int .i64 0, .int .i64 0, .string ByteArray.empty, .int .i64 0, .slice none 0 0]) 88 Tryd.underlying22 info33 rfl (by decide) (by omega) (List.take q xs) ([(xs.getD q op0)]) [[.int .i64 ((xs.getD q op0).kind), .string ((xs.getD q op0).text), .int .i64 ((xs.getD q op0).vk), .int .i64 ((xs.getD q op0).vn), .string ((xs.getD q op0).vt), .int .i64 ((xs.getD q op0).count), .slice B_589 ((xs.getD q op0).attrs.length) c_590]] (by kernel_rfl) (Mix.of_R hr_689) (Kd.C_below (Kd.R_C hR_691) hb_687) rfl (fun i_ hi_ => by have h_ : i_ = 0 := (by omega); subst h_; exact (kOp_K_of (x := xs.getD q op0) hl_591 (Kd.C_below hC_592 hB_690))) (hb_687).size (by omega) ?_
            intro A_692 c_693 w_694 hm_695 hg_696 hl_697
            have hB_699 : Below w_679.heap.size w_679 w_694 := (bgo hb_687 hg_696 hl_697 (Nat.le_refl _))
            have hC_698 : kOp.C w_694 A_692 ((List.take q xs) ++ [(xs.getD q op0)]).length ((List.take q xs) ++ [(xs.getD q op0)]) := Mix.C hB_699 hm_695
            refine XL_nil ?_
            have hB_700 : Below wd_582.heap.size wd_582 w_694 := (bgo (bt hb_680 hb_687) hg_696 hl_697 (hb_680).size)
            refine ⟨hB_700, ?_⟩
            refine XB_mid (fuel' := 1) 13 #[true, true, true, true, true, true, true, true, true, true, true, true, true, true, false] _ rfl (by kernel_rfl) (by kernel_rfl) rfl ?_
            obtain ⟨vs_701, hC_702, hK_703⟩ := Kd.C_raw (d := kOp) op0 (Kd.C_below hC_595 hB_690)
            refine XL_appendMix (d := kOp) (W0 := w_679) (c' := (c - q)) (m := (xs.length - q)) op0 rfl rfl rfl 33 (.agg #[.int .i64 0, .string ByteArray.empty, .int .i64 0, .int .i64 0, .string ByteArray.empty, .int .i64 0, .slice none 0 0]) 88 Tryd.underlying22 info33 rfl (by decide) (by omega) ((List.take q xs) ++ [(xs.getD q op0)]) (xs.drop q) vs_701 (by kernel_rfl) hm_695 (Kd.C_below hC_702 hB_699) hdl hK_703 (hB_699).size (by omega) ?_
            intro A_704 c_705 w_706 hm_707 hg_708 hl_709
            have hB_711 : Below w_679.heap.size w_679 w_706 := (bgo hB_699 hg_708 hl_709 (Nat.le_refl _))
            have hC_710 : kOp.C w_706 A_704 (((List.take q xs) ++ [(xs.getD q op0)]) ++ (xs.drop q)).length (((List.take q xs) ++ [(xs.getD q op0)]) ++ (xs.drop q)) := Mix.C hB_711 hm_707
            refine XL_nil ?_
            refine ⟨(bgo hB_700 hg_708 hl_709 (hb_680).size), ?_⟩
            refine XB_run (fuel' := 0) (bgo hB_700 hg_708 hl_709 (hb_680).size) [14] [] [.slice A_704 ((((List.take q xs) ++ [(xs.getD q op0)]) ++ (xs.drop q)).length) c_705] #[true, true, true, true, true, true, true, true, true, true, true, true, true, true, true] [(0, .slice A xs.length c), (1, .int .i64 (q : Int)), (7, .slice A_704 ((((List.take q xs) ++ [(xs.getD q op0)]) ++ (xs.drop q)).length) c_705)] (fun w_ => []) (fun _ _ _ _ h => h) (fun w_ => by kernel_rfl) rfl (fun w_ hC_ => trivial) ?_
            refine XB_done (by kernel_rfl) ?_
            refine X_seq ?_
            refine X_region ?_
            have htwd : (((List.take q xs) ++ [(xs.getD q op0)]) ++ (xs.drop q)) = twice xs q := rfl
            have hcw := Can_twice ((canP_iff xs).1 c_5) q hql
            have hpw := lenP_pos (((List.take q xs) ++ [(xs.getD q op0)]) ++ (xs.drop q))
            rw [← htwd] at hcw htl
            have hck := Can_check ((canP_iff xs).1 c_5) hql
            refine XL_run 1 [] [(0, .slice A xs.length c), (1, .int .i64 (q : Int)), (7, .slice A_704 ((((List.take q xs) ++ [(xs.getD q op0)]) ++ (xs.drop q)).length) c_705), (72, .slice A_704 ((((List.take q xs) ++ [(xs.getD q op0)]) ++ (xs.drop q)).length) c_705)] w_706 [] (by kernel_rfl) trivial ?_
            have hB_712 : Below w.heap.size w w_706 := (bgo (bgo (bt hB_690 hb_687) hg_696 hl_697 (hB_690).size) hg_708 hl_709 (hB_690).size)
            refine XL_call 20 rfl rfl rfl ent20 [.slice A_704 ((((List.take q xs) ++ [(xs.getD q op0)]) ++ (xs.drop q)).length) c_705] (by kernel_rfl) (olen_any A_704 c_705 (((List.take q xs) ++ [(xs.getD q op0)]) ++ (xs.drop q)) w_706 hC_710 (by omega) (sz_twice hz hql) (hT.below hB_712) es (hO.below hB_712)) ?_
            rintro e w_713 ⟨rfl, hb_714⟩; refine ⟨_, rfl, ?_⟩
            refine XL_run 7 [] [(0, .slice A xs.length c), (1, .int .i64 (q : Int)), (7, .slice A_704 ((((List.take q xs) ++ [(xs.getD q op0)]) ++ (xs.drop q)).length) c_705), (8, .int .i64 ((lenP (((List.take q xs) ++ [(xs.getD q op0)]) ++ (xs.drop q))).1)), (9, .int .i64 ((lenP (((List.take q xs) ++ [(xs.getD q op0)]) ++ (xs.drop q))).2.1)), (10, errV es ((lenP (((List.take q xs) ++ [(xs.getD q op0)]) ++ (xs.drop q))).2.2))] w_713 [] (by kernel_rfl) trivial ?_
            refine XL_nil ?_
            refine X_seq ?_
            refine X_region ?_
            refine XL_run 1 [] [(0, .slice A xs.length c), (1, .int .i64 (q : Int)), (7, .slice A_704 ((((List.take q xs) ++ [(xs.getD q op0)]) ++ (xs.drop q)).length) c_705), (8, .int .i64 ((lenP (((List.take q xs) ++ [(xs.getD q op0)]) ++ (xs.drop q))).1)), (9, .int .i64 ((lenP (((List.take q xs) ++ [(xs.getD q op0)]) ++ (xs.drop q))).2.1)), (77, errV es ((lenP (((List.take q xs) ++ [(xs.getD q op0)]) ++ (xs.drop q))).2.2))] w_713 [] (by kernel_rfl) trivial ?_
            by_cases c_715 : (lenP (((List.take q xs) ++ [(xs.getD q op0)]) ++ (xs.drop q))).2.2 = 0
            · rw [show errV es ((lenP (((List.take q xs) ++ [(xs.getD q op0)]) ++ (xs.drop q))).2.2) = .nilIface from by rw [c_715]; rfl]
              refine XL_run 10 [(81, .eq (.bool true)), (85, .eq (.bool true))] [(0, .slice A xs.length c), (1, .int .i64 (q : Int)), (7, .slice A_704 ((((List.take q xs) ++ [(xs.getD q op0)]) ++ (xs.drop q)).length) c_705), (11, .bool true)] w_713 [Value.bool (decide ((lenP (((List.take q xs) ++ [(xs.getD q op0)]) ++ (xs.drop q))).1 ≥ 0)) = Value.bool true, Value.bool (decide ((lenP (((List.take q xs) ++ [(xs.getD q op0)]) ++ (xs.drop q))).2.1 ≥ 0)) = Value.bool true] (by kernel_rfl) ⟨congrArg Value.bool (decide_eq_true ((by omega))), congrArg Value.bool (decide_eq_true ((by omega))), trivial⟩ ?_
              refine XL_nil ?_
              refine X_seq ?_
              refine X_region ?_
              refine XL_run 1 [] [(0, .slice A xs.length c), (1, .int .i64 (q : Int)), (11, .bool true), (87, .slice A_704 ((((List.take q xs) ++ [(xs.getD q op0)]) ++ (xs.drop q)).length) c_705)] w_713 [] (by kernel_rfl) trivial ?_
              refine XL_call 22 rfl rfl rfl ent22 [.slice A_704 ((((List.take q xs) ++ [(xs.getD q op0)]) ++ (xs.drop q)).length) c_705] (by kernel_rfl) (ocan_any A_704 c_705 (((List.take q xs) ++ [(xs.getD q op0)]) ++ (xs.drop q)) w_713 (Kd.C_below hC_710 hb_714) (by omega) (sz_twice hz hql) (hT.below (bt hB_712 hb_714)) es (hO.below (bt hB_712 hb_714))) ?_
              rintro e w_716 ⟨rfl, hb_717⟩; refine ⟨_, rfl, ?_⟩
              refine XL_run 4 [] [(0, .slice A xs.length c), (1, .int .i64 (q : Int)), (88, .bool (canP (((List.take q xs) ++ [(xs.getD q op0)]) ++ (xs.drop q)))), (90, .bool true), (91, .slice A xs.length c), (92, .int .i64 (q : Int))] w_716 [] (by kernel_rfl) trivial ?_
              obtain ⟨ad_718, B_721, c_722, ha_719, hc_720, hl_723, hC_724⟩ := Kd.atOp hx (i := (q : Int)) (by omega) (by omega)
              replace hc_720 : CellsAt w (ad_718.add ((q : Int).toNat * 7)) [.int .i64 ((xs.getD q op0).kind), .string ((xs.getD q op0).text), .int .i64 ((xs.getD q op0).vk), .int .i64 ((xs.getD q op0).vn), .string ((xs.getD q op0).vt), .int .i64 ((xs.getD q op0).count), .slice B_721 ((xs.getD q op0).attrs.length) c_722] := hc_720
              replace hl_723 : (xs.getD q op0).attrs.length ≤ c_722 := hl_723
              replace hC_724 : kAttr.C w B_721 ((xs.getD q op0).attrs.length) (xs.getD q op0).attrs := hC_724
              refine XL_run 3 [(93, .idx ad_718), (95, .load (.int .i64 ((xs.getD q op0).kind)))] [(0, .slice A xs.length c), (1, .int .i64 (q : Int)), (88, .bool (canP (((List.take q xs) ++ [(xs.getD q op0)]) ++ (xs.drop q)))), (90, .bool true), (95, .int .i64 ((xs.getD q op0).kind))] w_716 [A = some ad_718, (0 : Int) ≤ (q : Int), (q : Int) < (xs.length : Int), LoadsAs Tryd.prog 3 (ad_718.add ((q : Int).toNat * 7)) (.int .i64 ((xs.getD q op0).kind)) w_716] (by kernel_rfl) ⟨ha_719, (by omega), (by omega), loads1 rfl (elem_cell (cells_below hc_720 (bt (bt hB_712 hb_714) hb_717)) 0 _ rfl), trivial⟩ ?_
              by_cases c_725 : (xs.getD q op0).kind = 2
              · refine XL_run 2 [(96, .eq (.bool true))] [(0, .slice A xs.length c), (1, .int .i64 (q : Int)), (88, .bool (canP (((List.take q xs) ++ [(xs.getD q op0)]) ++ (xs.drop q)))), (97, .bool true)] w_716 [Value.bool ((xs.getD q op0).kind == 2) = Value.bool true] (by kernel_rfl) ⟨congrArg Value.bool (beq_iff_eq.2 (c_725)), trivial⟩ ?_
                by_cases c_726 : canP (((List.take q xs) ++ [(xs.getD q op0)]) ++ (xs.drop q)) = true
                · rw [show (canP (((List.take q xs) ++ [(xs.getD q op0)]) ++ (xs.drop q)) : Bool) = true from by simpa using c_726]
                  refine XL_run 4 [] [(99, .bool true), (100, .slice A xs.length c), (101, .int .i64 (q : Int))] w_716 [] (by kernel_rfl) trivial ?_
                  obtain ⟨ad_727, B_730, c_731, ha_728, hc_729, hl_732, hC_733⟩ := Kd.atOp hx (i := (q : Int)) (by omega) (by omega)
                  replace hc_729 : CellsAt w (ad_727.add ((q : Int).toNat * 7)) [.int .i64 ((xs.getD q op0).kind), .string ((xs.getD q op0).text), .int .i64 ((xs.getD q op0).vk), .int .i64 ((xs.getD q op0).vn), .string ((xs.getD q op0).vt), .int .i64 ((xs.getD q op0).count), .slice B_730 ((xs.getD q op0).attrs.length) c_731] := hc_729
                  replace hl_732 : (xs.getD q op0).attrs.length ≤ c_731 := hl_732
                  replace hC_733 : kAttr.C w B_730 ((xs.getD q op0).attrs.length) (xs.getD q op0).attrs := hC_733
                  refine XL_run 2 [(102, .idx ad_727), (103, .load (.agg #[.int .i64 ((xs.getD q op0).kind), .string ((xs.getD q op0).text), .int .i64 ((xs.getD q op0).vk), .int .i64 ((xs.getD q op0).vn), .string ((xs.getD q op0).vt), .int .i64 ((xs.getD q op0).count), .slice B_730 ((xs.getD q op0).attrs.length) c_731]))] [(99, .bool true), (103, .agg #[.int .i64 ((xs.getD q op0).kind), .string ((xs.getD q op0).text), .int .i64 ((xs.getD q op0).vk), .int .i64 ((xs.getD q op0).vn), .string ((xs.getD q op0).vt), .int .i64 ((xs.getD q op0).count), .slice B_730 ((xs.getD q op0).attrs.length) c_731])] w_716 [A = some ad_727, (0 : Int) ≤ (q : Int), (q : Int) < (xs.length : Int), LoadsAs Tryd.prog 33 (ad_727.add ((q : Int).toNat * 7)) (.agg #[.int .i64 ((xs.getD q op0).kind), .string ((xs.getD q op0).text), .int .i64 ((xs.getD q op0).vk), .int .i64 ((xs.getD q op0).vn), .string ((xs.getD q op0).vt), .int .i64 ((xs.getD q op0).count), .slice B_730 ((xs.getD q op0).attrs.length) c_731]) w_716] (by kernel_rfl) ⟨ha_728, (by omega), (by omega), loadsE rfl rfl (cells_below hc_729 (bt (bt hB_712 hb_714) hb_717)) 0 ⟨by kernel_rfl, by kernel_rfl⟩, trivial⟩ ?_
                  refine XL_call 18 rfl rfl rfl ent18 [.agg #[.int .i64 ((xs.getD q op0).kind), .string ((xs.getD q op0).text), .int .i64 ((xs.getD q op0).vk), .int .i64 ((xs.getD q op0).vn), .string ((xs.getD q op0).vt), .int .i64 ((xs.getD q op0).count), .slice B_730 ((xs.getD q op0).attrs.length) c_731]] (by kernel_rfl) (ocheck_any (xs.getD q op0) _ _ _ (Kd.C_below hC_733 (bt (bt hB_712 hb_714) hb_717)) (hz q hql) (hT.below (bt (bt hB_712 hb_714) hb_717)) es (hO.below (bt (bt hB_712 hb_714) hb_717))) ?_
                  rintro e w_734 ⟨rfl, hb_735⟩; refine ⟨_, rfl, ?_⟩
                  by_cases c_736 : (pErr (xs.getD q op0)) = 0
                  · rw [show errV es (pErr (xs.getD q op0)) = .nilIface from by rw [c_736]; rfl]
                    refine XL_run 3 [] [(4, .bool true)] w_734 [] (by kernel_rfl) trivial ?_
                    refine XL_nil ?_
                    refine X_ret ?_
                    refine RX.ret_ok (P := Tryd.prog) (fn := Tryd.f5) (N := 107) (R := R_) [.bool true] (by kernel_rfl) (hR_ _ _ ?_)
                    have hB_737 : Below w.heap.size w w_734 := (bt (bt (bt hB_712 hb_714) hb_717) hb_735)
                    exact ⟨rfl, hB_737⟩
                  · exact absurd hck c_736
                · exact absurd ((canP_iff _).2 (hcw.2 ⟨c_715, c_725⟩)) c_726
              · refine XL_run 2 [(96, .eq (.bool false))] [(0, .slice A xs.length c), (1, .int .i64 (q : Int)), (88, .bool (canP (((List.take q xs) ++ [(xs.getD q op0)]) ++ (xs.drop q)))), (97, .bool false)] w_716 [Value.bool ((xs.getD q op0).kind == 2) = Value.bool false] (by kernel_rfl) ⟨congrArg Value.bool (beq_eq_false_iff_ne.2 (c_725)), trivial⟩ ?_
                by_cases c_738 : canP (((List.take q xs) ++ [(xs.getD q op0)]) ++ (xs.drop q)) = true
                · exfalso
                  have h1_ := hcw.1 ((canP_iff _).1 c_738)
                  exact c_725 h1_.2
                · rw [show (canP (((List.take q xs) ++ [(xs.getD q op0)]) ++ (xs.drop q)) : Bool) = false from by simpa using c_738]
                  refine XL_run 4 [] [(99, .bool true), (100, .slice A xs.length c), (101, .int .i64 (q : Int))] w_716 [] (by kernel_rfl) trivial ?_
                  obtain ⟨ad_739, B_742, c_743, ha_740, hc_741, hl_744, hC_745⟩ := Kd.atOp hx (i := (q : Int)) (by omega) (by omega)
                  replace hc_741 : CellsAt w (ad_739.add ((q : Int).toNat * 7)) [.int .i64 ((xs.getD q op0).kind), .string ((xs.getD q op0).text), .int .i64 ((xs.getD q op0).vk), .int .i64 ((xs.getD q op0).vn), .string ((xs.getD q op0).vt), .int .i64 ((xs.getD q op0).count), .slice B_742 ((xs.getD q op0).attrs.length) c_743] := hc_741
                  replace hl_744 : (xs.getD q op0).attrs.length ≤ c_743 := hl_744
                  replace hC_745 : kAttr.C w B_742 ((xs.getD q op0).attrs.length) (xs.getD q op0).attrs := hC_745
                  refine XL_run 2 [(102, .idx ad_739), (103, .load (.agg #[.int .i64 ((xs.getD q op0).kind), .string ((xs.getD q op0).text), .int .i64 ((xs.getD q op0).vk), .int .i64 ((xs.getD q op0).vn), .string ((xs.getD q op0).vt), .int .i64 ((xs.getD q op0).count), .slice B_742 ((xs.getD q op0).attrs.length) c_743]))] [(99, .bool true), (103, .agg #[.int .i64 ((xs.getD q op0).kind), .string ((xs.getD q op0).text), .int .i64 ((xs.getD q op0).vk), .int .i64 ((xs.getD q op0).vn), .string ((xs.getD q op0).vt), .int .i64 ((xs.getD q op0).count), .slice B_742 ((xs.getD q op0).attrs.length) c_743])] w_716 [A = some ad_739, (0 : Int) ≤ (q : Int), (q : Int) < (xs.length : Int), LoadsAs Tryd.prog 33 (ad_739.add ((q : Int).toNat * 7)) (.agg #[.int .i64 ((xs.getD q op0).kind), .string ((xs.getD q op0).text), .int .i64 ((xs.getD q op0).vk), .int .i64 ((xs.getD q op0).vn), .string ((xs.getD q op0).vt), .int .i64 ((xs.getD q op0).count), .slice B_742 ((xs.getD q op0).attrs.length) c_743]) w_716] (by kernel_rfl) ⟨ha_740, (by omega), (by omega), loadsE rfl rfl (cells_below hc_741 (bt (bt hB_712 hb_714) hb_717)) 0 ⟨by kernel_rfl, by kernel_rfl⟩, trivial⟩ ?_
                  refine XL_call 18 rfl rfl rfl ent18 [.agg #[.int .i64 ((xs.getD q op0).kind), .string ((xs.getD q op0).text), .int .i64 ((xs.getD q op0).vk), .int .i64 ((xs.getD q op0).vn), .string ((xs.getD q op0).vt), .int .i64 ((xs.getD q op0).count), .slice B_742 ((xs.getD q op0).attrs.length) c_743]] (by kernel_rfl) (ocheck_any (xs.getD q op0) _ _ _ (Kd.C_below hC_745 (bt (bt hB_712 hb_714) hb_717)) (hz q hql) (hT.below (bt (bt hB_712 hb_714) hb_717)) es (hO.below (bt (bt hB_712 hb_714) hb_717))) ?_
                  rintro e w_746 ⟨rfl, hb_747⟩; refine ⟨_, rfl, ?_⟩
                  by_cases c_748 : (pErr (xs.getD q op0)) = 0
                  · rw [show errV es (pErr (xs.getD q op0)) = .nilIface from by rw [c_748]; rfl]
                    refine XL_run 3 [] [(4, .bool true)] w_746 [] (by kernel_rfl) trivial ?_
                    refine XL_nil ?_
                    refine X_ret ?_
                    refine RX.ret_ok (P := Tryd.prog) (fn := Tryd.f5) (N := 107) (R := R_) [.bool true] (by kernel_rfl) (hR_ _ _ ?_)
                    have hB_749 : Below w.heap.size w w_746 := (bt (bt (bt hB_712 hb_714) hb_717) hb_747)
                    exact ⟨rfl, hB_749⟩
                  · exact absurd hck c_748
            · rw [errV_pos es ((lenP (((List.take q xs) ++ [(xs.getD q op0)]) ++ (xs.drop q))).2.2) (Nat.pos_of_ne_zero c_715)]
              refine XL_run 10 [] [(0, .slice A xs.length c), (1, .int .i64 (q : Int)), (7, .slice A_704 ((((List.take q xs) ++ [(xs.getD q op0)]) ++ (xs.drop q)).length) c_705), (11, .bool false)] w_713 [] (by kernel_rfl) trivial ?_
              refine XL_nil ?_
              refine X_seq ?_
              refine X_region ?_
              refine XL_run 1 [] [(0, .slice A xs.length c), (1, .int .i64 (q : Int)), (11, .bool false), (87, .slice A_704 ((((List.take q xs) ++ [(xs.getD q op0)]) ++ (xs.drop q)).length) c_705)] w_713 [] (by kernel_rfl) trivial ?_
              refine XL_call 22 rfl rfl rfl ent22 [.slice A_704 ((((List.take q xs) ++ [(xs.getD q op0)]) ++ (xs.drop q)).length) c_705] (by kernel_rfl) (ocan_any A_704 c_705 (((List.take q xs) ++ [(xs.getD q op0)]) ++ (xs.drop q)) w_713 (Kd.C_below hC_710 hb_714) (by omega) (sz_twice hz hql) (hT.below (bt hB_712 hb_714)) es (hO.below (bt hB_712 hb_714))) ?_
              rintro e w_750 ⟨rfl, hb_751⟩; refine ⟨_, rfl, ?_⟩
              refine XL_run 9 [] [(0, .slice A xs.length c), (1, .int .i64 (q : Int)), (88, .bool (canP (((List.take q xs) ++ [(xs.getD q op0)]) ++ (xs.drop q)))), (97, .bool false)] w_750 [] (by kernel_rfl) trivial ?_
              by_cases c_752 : canP (((List.take q xs) ++ [(xs.getD q op0)]) ++ (xs.drop q)) = true
              · exact absurd (hcw.1 ((canP_iff _).1 c_752)).1 c_715
              · rw [show (canP (((List.take q xs) ++ [(xs.getD q op0)]) ++ (xs.drop q)) : Bool) = false from by simpa using c_752]
                refine XL_run 4 [] [(99, .bool true), (100, .slice A xs.length c), (101, .int .i64 (q : Int))] w_750 [] (by kernel_rfl) trivial ?_
                obtain ⟨ad_753, B_756, c_757, ha_754, hc_755, hl_758, hC_759⟩ := Kd.atOp hx (i := (q : Int)) (by omega) (by omega)
                replace hc_755 : CellsAt w (ad_753.add ((q : Int).toNat * 7)) [.int .i64 ((xs.getD q op0).kind), .string ((xs.getD q op0).text), .int .i64 ((xs.getD q op0).vk), .int .i64 ((xs.getD q op0).vn), .string ((xs.getD q op0).vt), .int .i64 ((xs.getD q op0).count), .slice B_756 ((xs.getD q op0).attrs.length) c_757] := hc_755
                replace hl_758 : (xs.getD q op0).attrs.length ≤ c_757 := hl_758
                replace hC_759 : kAttr.C w B_756 ((xs.getD q op0).attrs.length) (xs.getD q op0).attrs := hC_759
                refine XL_run 2 [(102, .idx ad_753), (103, .load (.agg #[.int .i64 ((xs.getD q op0).kind), .string ((xs.getD q op0).text), .int .i64 ((xs.getD q op0).vk), .int .i64 ((xs.getD q op0).vn), .string ((xs.getD q op0).vt), .int .i64 ((xs.getD q op0).count), .slice B_756 ((xs.getD q op0).attrs.length) c_757]))] [(99, .bool true), (103, .agg #[.int .i64 ((xs.getD q op0).kind), .string ((xs.getD q op0).text), .int .i64 ((xs.getD q op0).vk), .int .i64 ((xs.getD q op0).vn), .string ((xs.getD q op0).vt), .int .i64 ((xs.getD q op0).count), .slice B_756 ((xs.getD q op0).attrs.length) c_757])] w_750 [A = some ad_753, (0 : Int) ≤ (q : Int), (q : Int) < (xs.length : Int), LoadsAs Tryd.prog 33 (ad_753.add ((q : Int).toNat * 7)) (.agg #[.int .i64 ((xs.getD q op0).kind), .string ((xs.getD q op0).text), .int .i64 ((xs.getD q op0).vk), .int .i64 ((xs.getD q op0).vn), .string ((xs.getD q op0).vt), .int .i64 ((xs.getD q op0).count), .slice B_756 ((xs.getD q op0).attrs.length) c_757]) w_750] (by kernel_rfl) ⟨ha_754, (by omega), (by omega), loadsE rfl rfl (cells_below hc_755 (bt (bt hB_712 hb_714) hb_751)) 0 ⟨by kernel_rfl, by kernel_rfl⟩, trivial⟩ ?_
                refine XL_call 18 rfl rfl rfl ent18 [.agg #[.int .i64 ((xs.getD q op0).kind), .string ((xs.getD q op0).text), .int .i64 ((xs.getD q op0).vk), .int .i64 ((xs.getD q op0).vn), .string ((xs.getD q op0).vt), .int .i64 ((xs.getD q op0).count), .slice B_756 ((xs.getD q op0).attrs.length) c_757]] (by kernel_rfl) (ocheck_any (xs.getD q op0) _ _ _ (Kd.C_below hC_759 (bt (bt hB_712 hb_714) hb_751)) (hz q hql) (hT.below (bt (bt hB_712 hb_714) hb_751)) es (hO.below (bt (bt hB_712 hb_714) hb_751))) ?_
                rintro e w_760 ⟨rfl, hb_761⟩; refine ⟨_, rfl, ?_⟩
                by_cases c_762 : (pErr (xs.getD q op0)) = 0
                · rw [show errV es (pErr (xs.getD q op0)) = .nilIface from by rw [c_762]; rfl]
                  refine XL_run 3 [] [(4, .bool true)] w_760 [] (by kernel_rfl) trivial ?_
                  refine XL_nil ?_
                  refine X_ret ?_
                  refine RX.ret_ok (P := Tryd.prog) (fn := Tryd.f5) (N := 107) (R := R_) [.bool true] (by kernel_rfl) (hR_ _ _ ?_)
                  have hB_763 : Below w.heap.size w w_760 := (bt (bt (bt hB_712 hb_714) hb_751) hb_761)
                  exact ⟨rfl, hB_763⟩
                · exact absurd hck c_762
      · exact absurd ((canP_iff _).2 (hct.2 hpf)) c_580
  · rw [show (canP xs : Bool) = false from by simpa using c_5]
    refine XL_run 1 [] [(0, .slice A xs.length c), (1, .int .i64 k), (16, .bool true)] w_3 [] (by kernel_rfl) trivial ?_
    refine XL_nil ?_
    refine X_cond true rfl ?_
    refine X_seq ?_
    refine X_region ?_
    refine XL_run 1 [] [(4, .bool true)] w_3 [] (by kernel_rfl) trivial ?_
    refine XL_nil ?_
    refine X_ret ?_
    refine RX.ret_ok (P := Tryd.prog) (fn := Tryd.f5) (N := 107) (R := R_) [.bool true] (by kernel_rfl) (hR_ _ _ ?_)
    exact ⟨rfl, (bt hb_2 hb_4)⟩
end Go.Proofs.YtekfdfafhfhfbaaDoor
