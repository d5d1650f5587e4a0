/- What match's inner functions answer. Conditions: bounds on lengths and numbers. -/
import Derived.Test.YtmhkeojbjliieaaDoorProg
import Derived.Test.YtmhkeojbjliieaaDoorMath
import Derived.Test.YtmhkeojbjliieaaDoorKd
set_option linter.unusedVariables false
set_option linter.unusedSimpArgs false
set_option maxRecDepth 100000
namespace Go.Proofs.YtmhkeojbjliieaaDoor
open Go.RowKit Go.Proofs.YtmhkeojbjliieaaDoorW.PrintWords MM RX
theorem ent26 : Ent Tryd.prog 26 := ent_of Tryd.func26 (by kernel_rfl) rfl
theorem ent21 : Ent Tryd.prog 21 := ent_of Tryd.func21 (by kernel_rfl) rfl
theorem at_any (pd pl : Addr) (A : Option Addr) (c : Nat) (xs : List Int) (k d : Int) (w : World) (hx : (Kd.int .i64).C w A xs.length xs)
    (hd : w.cell? pd = some (.int .i64 d)) (hl : w.cell? pl = some (.slice A xs.length c)) (hk : -2000000 ≤ k ∧ k ≤ 2000000) (hd' : 0 ≤ d ∧ d ≤ 2000000) :
    Calls Tryd.prog 26 #[.int .i64 k, .pointer (some pd), .pointer (some pl)] w fun e w' => e = .returned (.int .i64 (atP xs d k)) ∧ w = w' := by
  refine RX.enter Tryd.func26 rfl 22 rfl [(0, .int .i64 k), (1, .pointer (some pd)), (2, .pointer (some pl))] rfl (by kernel_rfl) (fun R_ hR_ => ?_)
  refine X_seq ?_
  refine X_region ?_
  refine XL_run 1 [] [(0, .int .i64 k), (1, .pointer (some pd)), (2, .pointer (some pl))] w [] (by kernel_rfl) trivial ?_
  refine XL_nil ?_
  refine X_seq ?_
  refine X_seq ?_
  refine X_region ?_
  refine XL_run 5 [(7, .load (.int .i64 d)), (8, .eq (.int .i64 (k + d))), (9, .eq (.int .i64 ((k + d) - 1)))] [(2, .pointer (some pl)), (5, .int .i64 ((k + d) - 1))] w [LoadsAs Tryd.prog 3 pd (.int .i64 d) w, Value.int .i64 (IntKind.i64.wrap (k + d)) = Value.int .i64 (k + d), Value.int .i64 (IntKind.i64.wrap ((k + d) - 1)) = Value.int .i64 ((k + d) - 1)] (by kernel_rfl) ⟨loads1 rfl hd, wr_i64 (by omega) (by omega), wr_i64 (by omega) (by omega), trivial⟩ ?_
  refine XL_nil ?_
  refine X_seq ?_
  refine X_region ?_
  refine XL_run 1 [] [(2, .pointer (some pl)), (5, .int .i64 ((k + d) - 1)), (10, .int .i64 ((k + d) - 1))] w [] (by kernel_rfl) trivial ?_
  by_cases c_1 : (k + d) - 1 ≥ 0
  · refine XL_run 5 [(11, .eq (.bool true)), (14, .load (.slice A xs.length c))] [(2, .pointer (some pl)), (5, .int .i64 ((k + d) - 1)), (12, .bool true), (13, .int .i64 ((k + d) - 1)), (15, .int .i64 (xs.length : Int))] w [Value.bool (decide ((k + d) - 1 ≥ 0)) = Value.bool true, LoadsAs Tryd.prog 22 pl (.slice A xs.length c) w] (by kernel_rfl) ⟨congrArg Value.bool (decide_eq_true (c_1)), loads1 rfl hl, trivial⟩ ?_
    by_cases c_2 : (k + d) - 1 < (xs.length : Int)
    · refine XL_run 2 [(16, .eq (.bool true))] [(2, .pointer (some pl)), (5, .int .i64 ((k + d) - 1)), (17, .bool true)] w [Value.bool (decide ((k + d) - 1 < (xs.length : Int))) = Value.bool true] (by kernel_rfl) ⟨congrArg Value.bool (decide_eq_true (c_2)), trivial⟩ ?_
      refine XL_nil ?_
      refine X_cond true rfl ?_
      refine X_seq ?_
      refine X_region ?_
      refine XL_run 2 [(18, .load (.slice A xs.length c))] [(18, .slice A xs.length c), (19, .int .i64 ((k + d) - 1))] w [LoadsAs Tryd.prog 22 pl (.slice A xs.length c) w] (by kernel_rfl) ⟨loads1 rfl hl, trivial⟩ ?_
      obtain ⟨ad_3, ha_4, hc_5⟩ := Kd.atI hx (i := (k + d) - 1) (by omega) (by omega)
      refine XL_run 3 [(20, .idx ad_3), (21, .load (.int .i64 (rd xs ((k + d) - 1))))] [(4, .int .i64 (rd xs ((k + d) - 1)))] w [A = some ad_3, (0 : Int) ≤ (k + d) - 1, (k + d) - 1 < (xs.length : Int), LoadsAs Tryd.prog 3 (ad_3.add (((k + d) - 1).toNat * 1)) (.int .i64 (rd xs ((k + d) - 1))) w] (by kernel_rfl) ⟨ha_4, (by omega), (by omega), loads1 rfl (elem_cell hc_5 0 _ rfl), trivial⟩ ?_
      refine XL_nil ?_
      refine X_ret ?_
      refine RX.ret_ok (P := Tryd.prog) (fn := Tryd.f26) (N := 22) (R := R_) [.int .i64 (rd xs ((k + d) - 1))] (by kernel_rfl) (hR_ _ _ ?_)
      exact ⟨ret_int (by unfold atP; first | (rw [if_neg (by omega)]; done) | (rw [if_pos (by omega)]; unfold rd; congr 1; omega)), rfl⟩
    · refine XL_run 2 [(16, .eq (.bool false))] [(2, .pointer (some pl)), (5, .int .i64 ((k + d) - 1)), (17, .bool false)] w [Value.bool (decide ((k + d) - 1 < (xs.length : Int))) = Value.bool false] (by kernel_rfl) ⟨congrArg Value.bool (decide_eq_false (c_2)), trivial⟩ ?_
      refine XL_nil ?_
      refine X_cond false rfl ?_
      refine X_skip ?_
      refine X_seq ?_
      refine X_region ?_
      refine XL_run 1 [] [(4, .int .i64 (-1))] w [] (by kernel_rfl) trivial ?_
      refine XL_nil ?_
      refine X_ret ?_
      refine RX.ret_ok (P := Tryd.prog) (fn := Tryd.f26) (N := 22) (R := R_) [.int .i64 (-1)] (by kernel_rfl) (hR_ _ _ ?_)
      exact ⟨ret_int (by unfold atP; first | (rw [if_neg (by omega)]; done) | (rw [if_pos (by omega)]; unfold rd; congr 1; omega)), rfl⟩
  · refine XL_run 7 [(11, .eq (.bool false))] [(2, .pointer (some pl)), (5, .int .i64 ((k + d) - 1)), (17, .bool false)] w [Value.bool (decide ((k + d) - 1 ≥ 0)) = Value.bool false] (by kernel_rfl) ⟨congrArg Value.bool (decide_eq_false (c_1)), trivial⟩ ?_
    refine XL_nil ?_
    refine X_cond false rfl ?_
    refine X_skip ?_
    refine X_seq ?_
    refine X_region ?_
    refine XL_run 1 [] [(4, .int .i64 (-1))] w [] (by kernel_rfl) trivial ?_
    refine XL_nil ?_
    refine X_ret ?_
    refine RX.ret_ok (P := Tryd.prog) (fn := Tryd.f26) (N := 22) (R := R_) [.int .i64 (-1)] (by kernel_rfl) (hR_ _ _ ?_)
    exact ⟨ret_int (by unfold atP; first | (rw [if_neg (by omega)]; done) | (rw [if_pos (by omega)]; unfold rd; congr 1; omega)), rfl⟩
theorem reach_any (A : Option Addr) (c : Nat) (xs : List Int) (d k n m : Int) (w : World) (hx : (Kd.int .i64).C w A xs.length xs) (hv : ∀ j, j < xs.length → -1 ≤ xs.getD j 0 ∧ xs.getD j 0 ≤ 1000000)
    (hk : -1000000 ≤ k ∧ k ≤ 1000000) (hd' : 0 ≤ d ∧ d ≤ 1000000) (hnm : 0 ≤ n ∧ n ≤ 1000000 ∧ 0 ≤ m ∧ m ≤ 1000000) :
    Calls Tryd.prog 21 #[.slice A xs.length c, .int .i64 d, .int .i64 k, .int .i64 n, .int .i64 m] w fun e w' => e = .returned (.int .i64 (reachP xs d k n m)) ∧ Below w.heap.size w w' := by
  obtain ⟨b1, b2⟩ := atP_bd xs d (k + 1) 1000000 (by omega) hv
  obtain ⟨b3, b4⟩ := atP_bd xs d (k - 1) 1000000 (by omega) hv
  refine RX.enter Tryd.func21 rfl 45 rfl [(0, .slice A xs.length c), (1, .int .i64 d), (2, .int .i64 k), (3, .int .i64 n), (4, .int .i64 m)] rfl (by kernel_rfl) (fun R_ hR_ => ?_)
  refine X_seq ?_
  refine X_region ?_
  refine XL_run 1 [] [(1, .int .i64 d), (2, .int .i64 k), (3, .int .i64 n), (4, .int .i64 m), (5, .pointer (some ⟨w.heap.size, 0, none⟩))] (w.alloc (.cells #[.slice A xs.length c] 22)) [] (by kernel_rfl) trivial ?_
  obtain ⟨w_1, hw_5, hb_2, hk_3, hz_4⟩ := new_world w #[.slice A xs.length c] 22
  rw [hw_5]
  refine XL_run 1 [] [(2, .int .i64 k), (3, .int .i64 n), (4, .int .i64 m), (5, .pointer (some ⟨w.heap.size, 0, none⟩)), (6, .pointer (some ⟨w_1.heap.size, 0, none⟩))] (w_1.alloc (.cells #[.int .i64 d] 3)) [] (by kernel_rfl) trivial ?_
  obtain ⟨w_6, hw_10, hb_7, hk_8, hz_9⟩ := new_world w_1 #[.int .i64 d] 3
  rw [hw_10]
  refine XL_run 1 [] [(2, .int .i64 k), (3, .int .i64 n), (4, .int .i64 m), (5, .pointer (some ⟨w.heap.size, 0, none⟩)), (6, .pointer (some ⟨w_1.heap.size, 0, none⟩))] w_6 [] (by kernel_rfl) trivial ?_
  refine XL_nil ?_
  refine X_seq ?_
  refine X_seq ?_
  refine X_region ?_
  refine XL_run 1 [(15, .load (.int .i64 d))] [(2, .int .i64 k), (3, .int .i64 n), (4, .int .i64 m), (5, .pointer (some ⟨w.heap.size, 0, none⟩)), (6, .pointer (some ⟨w_1.heap.size, 0, none⟩)), (15, .int .i64 d)] w_6 [LoadsAs Tryd.prog 3 (⟨w_1.heap.size, 0, none⟩) (.int .i64 d) w_6] (by kernel_rfl) ⟨loads1 rfl (Blk.cell hk_8 0 _ rfl), trivial⟩ ?_
  by_cases c_11 : d = 0
  · refine XL_run 1 [(16, .eq (.bool true))] [(2, .int .i64 k), (3, .int .i64 n), (4, .int .i64 m), (5, .pointer (some ⟨w.heap.size, 0, none⟩)), (6, .pointer (some ⟨w_1.heap.size, 0, none⟩)), (16, .bool true)] w_6 [Value.bool (d == 0) = Value.bool true] (by kernel_rfl) ⟨congrArg Value.bool (beq_iff_eq.2 (c_11)), trivial⟩ ?_
    refine XL_nil ?_
    refine X_cond true rfl ?_
    refine X_seq ?_
    refine X_region ?_
    refine XL_run 1 [] [(10, .int .i64 0)] w_6 [] (by kernel_rfl) trivial ?_
    refine XL_nil ?_
    refine X_ret ?_
    refine RX.ret_ok (P := Tryd.prog) (fn := Tryd.f21) (N := 45) (R := R_) [.int .i64 0] (by kernel_rfl) (hR_ _ _ ?_)
    exact ⟨ret_int (by unfold reachP; split <;> (try dsimp only) <;> (repeat' split) <;> omega), (bt hb_2 hb_7)⟩
  · refine XL_run 1 [(16, .eq (.bool false))] [(2, .int .i64 k), (3, .int .i64 n), (4, .int .i64 m), (5, .pointer (some ⟨w.heap.size, 0, none⟩)), (6, .pointer (some ⟨w_1.heap.size, 0, none⟩)), (16, .bool false)] w_6 [Value.bool (d == 0) = Value.bool false] (by kernel_rfl) ⟨congrArg Value.bool (beq_eq_false_iff_ne.2 (c_11)), trivial⟩ ?_
    refine XL_nil ?_
    refine X_cond false rfl ?_
    refine X_skip ?_
    refine X_seq ?_
    refine X_region ?_
    refine XL_run 2 [] [(2, .int .i64 k), (3, .int .i64 n), (4, .int .i64 m), (11, .func (.func 26) #[] #[.pointer (some ⟨w_1.heap.size, 0, none⟩), .pointer (some ⟨w.heap.size, 0, none⟩)])] w_6 [] (by kernel_rfl) trivial ?_
    refine XL_nil ?_
    refine X_seq ?_
    refine X_region ?_
    refine XL_run 3 [(20, .eq (.int .i64 (k + 1)))] [(2, .int .i64 k), (3, .int .i64 n), (4, .int .i64 m), (11, .func (.func 26) #[] #[.pointer (some ⟨w_1.heap.size, 0, none⟩), .pointer (some ⟨w.heap.size, 0, none⟩)]), (18, .func (.func 26) #[] #[.pointer (some ⟨w_1.heap.size, 0, none⟩), .pointer (some ⟨w.heap.size, 0, none⟩)]), (20, .int .i64 (k + 1))] w_6 [Value.int .i64 (IntKind.i64.wrap (k + 1)) = Value.int .i64 (k + 1)] (by kernel_rfl) ⟨wr_i64 (by omega) (by omega), trivial⟩ ?_
    refine XL_callv 26 rfl rfl rfl ent26 #[.pointer (some ⟨w_1.heap.size, 0, none⟩), .pointer (some ⟨w.heap.size, 0, none⟩)] rfl [.int .i64 (k + 1)] (by kernel_rfl) (at_any _ _ A c xs (k + 1) d w_6 (Kd.C_below hx (bt hb_2 hb_7)) (Blk.cell hk_8 0 _ rfl) (Blk.cell (Blk.below hk_3 hb_7) 0 _ rfl) (by omega) (by omega)) ?_
    rintro e w_ ⟨rfl, rfl⟩; refine ⟨_, rfl, ?_⟩
    refine XL_run 2 [] [(2, .int .i64 k), (3, .int .i64 n), (4, .int .i64 m), (11, .func (.func 26) #[] #[.pointer (some ⟨w_1.heap.size, 0, none⟩), .pointer (some ⟨w.heap.size, 0, none⟩)]), (12, .int .i64 (atP xs d (k + 1))), (13, .int .i64 (-1))] w_6 [] (by kernel_rfl) trivial ?_
    refine XL_nil ?_
    refine X_seq ?_
    refine X_seq ?_
    refine X_region ?_
    refine XL_run 3 [(24, .eq (.int .i64 (k - 1)))] [(2, .int .i64 k), (3, .int .i64 n), (4, .int .i64 m), (12, .int .i64 (atP xs d (k + 1))), (13, .int .i64 (-1)), (22, .func (.func 26) #[] #[.pointer (some ⟨w_1.heap.size, 0, none⟩), .pointer (some ⟨w.heap.size, 0, none⟩)]), (24, .int .i64 (k - 1))] w_6 [Value.int .i64 (IntKind.i64.wrap (k - 1)) = Value.int .i64 (k - 1)] (by kernel_rfl) ⟨wr_i64 (by omega) (by omega), trivial⟩ ?_
    refine XL_callv 26 rfl rfl rfl ent26 #[.pointer (some ⟨w_1.heap.size, 0, none⟩), .pointer (some ⟨w.heap.size, 0, none⟩)] rfl [.int .i64 (k - 1)] (by kernel_rfl) (at_any _ _ A c xs (k - 1) d w_6 (Kd.C_below hx (bt hb_2 hb_7)) (Blk.cell hk_8 0 _ rfl) (Blk.cell (Blk.below hk_3 hb_7) 0 _ rfl) (by omega) (by omega)) ?_
    rintro e w_ ⟨rfl, rfl⟩; refine ⟨_, rfl, ?_⟩
    refine XL_run 1 [] [(2, .int .i64 k), (3, .int .i64 n), (4, .int .i64 m), (12, .int .i64 (atP xs d (k + 1))), (13, .int .i64 (-1)), (14, .int .i64 (atP xs d (k - 1)))] w_6 [] (by kernel_rfl) trivial ?_
    refine XL_nil ?_
    refine X_seq ?_
    refine X_region ?_
    refine XL_run 1 [] [(2, .int .i64 k), (3, .int .i64 n), (4, .int .i64 m), (12, .int .i64 (atP xs d (k + 1))), (13, .int .i64 (-1)), (14, .int .i64 (atP xs d (k - 1))), (26, .int .i64 (atP xs d (k - 1)))] w_6 [] (by kernel_rfl) trivial ?_
    by_cases c_12 : atP xs d (k - 1) ≥ 0
    · refine XL_run 1 [(27, .eq (.bool true))] [(2, .int .i64 k), (3, .int .i64 n), (4, .int .i64 m), (12, .int .i64 (atP xs d (k + 1))), (13, .int .i64 (-1)), (14, .int .i64 (atP xs d (k - 1))), (27, .bool true)] w_6 [Value.bool (decide (atP xs d (k - 1) ≥ 0)) = Value.bool true] (by kernel_rfl) ⟨congrArg Value.bool (decide_eq_true (c_12)), trivial⟩ ?_
      refine XL_nil ?_
      refine X_cond true rfl ?_
      refine X_region ?_
      refine XL_run 3 [(29, .eq (.int .i64 ((atP xs d (k - 1)) + 1)))] [(2, .int .i64 k), (3, .int .i64 n), (4, .int .i64 m), (12, .int .i64 (atP xs d (k + 1))), (13, .int .i64 ((atP xs d (k - 1)) + 1))] w_6 [Value.int .i64 (IntKind.i64.wrap ((atP xs d (k - 1)) + 1)) = Value.int .i64 ((atP xs d (k - 1)) + 1)] (by kernel_rfl) ⟨wr_i64 (by omega) (by omega), trivial⟩ ?_
      refine XL_nil ?_
      refine X_seq ?_
      refine X_seq ?_
      refine X_region ?_
      refine XL_run 1 [] [(2, .int .i64 k), (3, .int .i64 n), (4, .int .i64 m), (12, .int .i64 (atP xs d (k + 1))), (13, .int .i64 ((atP xs d (k - 1)) + 1)), (30, .int .i64 (atP xs d (k + 1)))] w_6 [] (by kernel_rfl) trivial ?_
      by_cases c_13 : atP xs d (k + 1) ≥ 0
      · refine XL_run 6 [(31, .eq (.bool true)), (35, .eq (.int .i64 ((atP xs d (k + 1)) - k)))] [(3, .int .i64 n), (12, .int .i64 (atP xs d (k + 1))), (13, .int .i64 ((atP xs d (k - 1)) + 1)), (32, .bool true), (35, .int .i64 ((atP xs d (k + 1)) - k)), (36, .int .i64 m)] w_6 [Value.bool (decide (atP xs d (k + 1) ≥ 0)) = Value.bool true, Value.int .i64 (IntKind.i64.wrap ((atP xs d (k + 1)) - k)) = Value.int .i64 ((atP xs d (k + 1)) - k)] (by kernel_rfl) ⟨congrArg Value.bool (decide_eq_true (c_13)), wr_i64 (by omega) (by omega), trivial⟩ ?_
        by_cases c_14 : (atP xs d (k + 1)) - k > m
        · refine XL_run 2 [(37, .eq (.bool true))] [(3, .int .i64 n), (12, .int .i64 (atP xs d (k + 1))), (13, .int .i64 ((atP xs d (k - 1)) + 1)), (38, .bool true)] w_6 [Value.bool (decide ((atP xs d (k + 1)) - k > m)) = Value.bool true] (by kernel_rfl) ⟨congrArg Value.bool (decide_eq_true (c_14)), trivial⟩ ?_
          refine XL_nil ?_
          refine X_cond true rfl ?_
          refine X_region ?_
          refine XL_run 1 [] [(3, .int .i64 n), (12, .int .i64 (-1)), (13, .int .i64 ((atP xs d (k - 1)) + 1))] w_6 [] (by kernel_rfl) trivial ?_
          refine XL_nil ?_
          refine X_seq ?_
          refine X_seq ?_
          refine X_region ?_
          refine XL_run 2 [] [(12, .int .i64 (-1)), (13, .int .i64 ((atP xs d (k - 1)) + 1)), (39, .int .i64 ((atP xs d (k - 1)) + 1)), (40, .int .i64 n)] w_6 [] (by kernel_rfl) trivial ?_
          by_cases c_15 : (atP xs d (k - 1)) + 1 > n
          · refine XL_run 1 [(41, .eq (.bool true))] [(12, .int .i64 (-1)), (13, .int .i64 ((atP xs d (k - 1)) + 1)), (41, .bool true)] w_6 [Value.bool (decide ((atP xs d (k - 1)) + 1 > n)) = Value.bool true] (by kernel_rfl) ⟨congrArg Value.bool (decide_eq_true (c_15)), trivial⟩ ?_
            refine XL_nil ?_
            refine X_cond true rfl ?_
            refine X_region ?_
            refine XL_run 1 [] [(12, .int .i64 (-1)), (13, .int .i64 (-1))] w_6 [] (by kernel_rfl) trivial ?_
            refine XL_nil ?_
            refine X_seq ?_
            refine X_region ?_
            refine XL_run 4 [] [(10, .int .i64 (-1))] w_6 [] (by kernel_rfl) trivial ?_
            refine XL_nil ?_
            refine X_ret ?_
            refine RX.ret_ok (P := Tryd.prog) (fn := Tryd.f21) (N := 45) (R := R_) [.int .i64 (-1)] (by kernel_rfl) (hR_ _ _ ?_)
            exact ⟨ret_int (by unfold reachP; split <;> (try dsimp only) <;> (repeat' split) <;> omega), (bt hb_2 hb_7)⟩
          · refine XL_run 1 [(41, .eq (.bool false))] [(12, .int .i64 (-1)), (13, .int .i64 ((atP xs d (k - 1)) + 1)), (41, .bool false)] w_6 [Value.bool (decide ((atP xs d (k - 1)) + 1 > n)) = Value.bool false] (by kernel_rfl) ⟨congrArg Value.bool (decide_eq_false (c_15)), trivial⟩ ?_
            refine XL_nil ?_
            refine X_cond false rfl ?_
            refine X_skip ?_
            refine X_seq ?_
            refine X_region ?_
            refine XL_run 4 [(44, .eq (.int .i64 (max (-1) ((atP xs d (k - 1)) + 1))))] [(10, .int .i64 (max (-1) ((atP xs d (k - 1)) + 1)))] w_6 [Value.int .i64 (if (atP xs d (k - 1)) + 1 > (-1) then (atP xs d (k - 1)) + 1 else (-1)) = Value.int .i64 (max (-1) ((atP xs d (k - 1)) + 1))] (by kernel_rfl) ⟨congrArg (Value.int .i64) (max_eq _ _), trivial⟩ ?_
            refine XL_nil ?_
            refine X_ret ?_
            refine RX.ret_ok (P := Tryd.prog) (fn := Tryd.f21) (N := 45) (R := R_) [.int .i64 (max (-1) ((atP xs d (k - 1)) + 1))] (by kernel_rfl) (hR_ _ _ ?_)
            exact ⟨ret_int (by unfold reachP; split <;> (try dsimp only) <;> (repeat' split) <;> omega), (bt hb_2 hb_7)⟩
        · refine XL_run 2 [(37, .eq (.bool false))] [(3, .int .i64 n), (12, .int .i64 (atP xs d (k + 1))), (13, .int .i64 ((atP xs d (k - 1)) + 1)), (38, .bool false)] w_6 [Value.bool (decide ((atP xs d (k + 1)) - k > m)) = Value.bool false] (by kernel_rfl) ⟨congrArg Value.bool (decide_eq_false (c_14)), trivial⟩ ?_
          refine XL_nil ?_
          refine X_cond false rfl ?_
          refine X_skip ?_
          refine X_seq ?_
          refine X_seq ?_
          refine X_region ?_
          refine XL_run 2 [] [(12, .int .i64 (atP xs d (k + 1))), (13, .int .i64 ((atP xs d (k - 1)) + 1)), (39, .int .i64 ((atP xs d (k - 1)) + 1)), (40, .int .i64 n)] w_6 [] (by kernel_rfl) trivial ?_
          by_cases c_16 : (atP xs d (k - 1)) + 1 > n
          · refine XL_run 1 [(41, .eq (.bool true))] [(12, .int .i64 (atP xs d (k + 1))), (13, .int .i64 ((atP xs d (k - 1)) + 1)), (41, .bool true)] w_6 [Value.bool (decide ((atP xs d (k - 1)) + 1 > n)) = Value.bool true] (by kernel_rfl) ⟨congrArg Value.bool (decide_eq_true (c_16)), trivial⟩ ?_
            refine XL_nil ?_
            refine X_cond true rfl ?_
            refine X_region ?_
            refine XL_run 1 [] [(12, .int .i64 (atP xs d (k + 1))), (13, .int .i64 (-1))] w_6 [] (by kernel_rfl) trivial ?_
            refine XL_nil ?_
            refine X_seq ?_
            refine X_region ?_
            refine XL_run 4 [(44, .eq (.int .i64 (max (atP xs d (k + 1)) (-1))))] [(10, .int .i64 (max (atP xs d (k + 1)) (-1)))] w_6 [Value.int .i64 (if (-1) > atP xs d (k + 1) then (-1) else atP xs d (k + 1)) = Value.int .i64 (max (atP xs d (k + 1)) (-1))] (by kernel_rfl) ⟨congrArg (Value.int .i64) (max_eq _ _), trivial⟩ ?_
            refine XL_nil ?_
            refine X_ret ?_
            refine RX.ret_ok (P := Tryd.prog) (fn := Tryd.f21) (N := 45) (R := R_) [.int .i64 (max (atP xs d (k + 1)) (-1))] (by kernel_rfl) (hR_ _ _ ?_)
            exact ⟨ret_int (by unfold reachP; split <;> (try dsimp only) <;> (repeat' split) <;> omega), (bt hb_2 hb_7)⟩
          · refine XL_run 1 [(41, .eq (.bool false))] [(12, .int .i64 (atP xs d (k + 1))), (13, .int .i64 ((atP xs d (k - 1)) + 1)), (41, .bool false)] w_6 [Value.bool (decide ((atP xs d (k - 1)) + 1 > n)) = Value.bool false] (by kernel_rfl) ⟨congrArg Value.bool (decide_eq_false (c_16)), trivial⟩ ?_
            refine XL_nil ?_
            refine X_cond false rfl ?_
            refine X_skip ?_
            refine X_seq ?_
            refine X_region ?_
            refine XL_run 4 [(44, .eq (.int .i64 (max (atP xs d (k + 1)) ((atP xs d (k - 1)) + 1))))] [(10, .int .i64 (max (atP xs d (k + 1)) ((atP xs d (k - 1)) + 1)))] w_6 [Value.int .i64 (if (atP xs d (k - 1)) + 1 > atP xs d (k + 1) then (atP xs d (k - 1)) + 1 else atP xs d (k + 1)) = Value.int .i64 (max (atP xs d (k + 1)) ((atP xs d (k - 1)) + 1))] (by kernel_rfl) ⟨congrArg (Value.int .i64) (max_eq _ _), trivial⟩ ?_
            refine XL_nil ?_
            refine X_ret ?_
            refine RX.ret_ok (P := Tryd.prog) (fn := Tryd.f21) (N := 45) (R := R_) [.int .i64 (max (atP xs d (k + 1)) ((atP xs d (k - 1)) + 1))] (by kernel_rfl) (hR_ _ _ ?_)
            exact ⟨ret_int (by unfold reachP; split <;> (try dsimp only) <;> (repeat' split) <;> omega), (bt hb_2 hb_7)⟩
      · refine XL_run 8 [(31, .eq (.bool false))] [(3, .int .i64 n), (12, .int .i64 (atP xs d (k + 1))), (13, .int .i64 ((atP xs d (k - 1)) + 1)), (38, .bool false)] w_6 [Value.bool (decide (atP xs d (k + 1) ≥ 0)) = Value.bool false] (by kernel_rfl) ⟨congrArg Value.bool (decide_eq_false (c_13)), trivial⟩ ?_
        refine XL_nil ?_
        refine X_cond false rfl ?_
        refine X_skip ?_
        refine X_seq ?_
        refine X_seq ?_
        refine X_region ?_
        refine XL_run 2 [] [(12, .int .i64 (atP xs d (k + 1))), (13, .int .i64 ((atP xs d (k - 1)) + 1)), (39, .int .i64 ((atP xs d (k - 1)) + 1)), (40, .int .i64 n)] w_6 [] (by kernel_rfl) trivial ?_
        by_cases c_17 : (atP xs d (k - 1)) + 1 > n
        · refine XL_run 1 [(41, .eq (.bool true))] [(12, .int .i64 (atP xs d (k + 1))), (13, .int .i64 ((atP xs d (k - 1)) + 1)), (41, .bool true)] w_6 [Value.bool (decide ((atP xs d (k - 1)) + 1 > n)) = Value.bool true] (by kernel_rfl) ⟨congrArg Value.bool (decide_eq_true (c_17)), trivial⟩ ?_
          refine XL_nil ?_
          refine X_cond true rfl ?_
          refine X_region ?_
          refine XL_run 1 [] [(12, .int .i64 (atP xs d (k + 1))), (13, .int .i64 (-1))] w_6 [] (by kernel_rfl) trivial ?_
          refine XL_nil ?_
          refine X_seq ?_
          refine X_region ?_
          refine XL_run 4 [(44, .eq (.int .i64 (max (atP xs d (k + 1)) (-1))))] [(10, .int .i64 (max (atP xs d (k + 1)) (-1)))] w_6 [Value.int .i64 (if (-1) > atP xs d (k + 1) then (-1) else atP xs d (k + 1)) = Value.int .i64 (max (atP xs d (k + 1)) (-1))] (by kernel_rfl) ⟨congrArg (Value.int .i64) (max_eq _ _), trivial⟩ ?_
          refine XL_nil ?_
          refine X_ret ?_
          refine RX.ret_ok (P := Tryd.prog) (fn := Tryd.f21) (N := 45) (R := R_) [.int .i64 (max (atP xs d (k + 1)) (-1))] (by kernel_rfl) (hR_ _ _ ?_)
          exact ⟨ret_int (by unfold reachP; split <;> (try dsimp only) <;> (repeat' split) <;> omega), (bt hb_2 hb_7)⟩
        · refine XL_run 1 [(41, .eq (.bool false))] [(12, .int .i64 (atP xs d (k + 1))), (13, .int .i64 ((atP xs d (k - 1)) + 1)), (41, .bool false)] w_6 [Value.bool (decide ((atP xs d (k - 1)) + 1 > n)) = Value.bool false] (by kernel_rfl) ⟨congrArg Value.bool (decide_eq_false (c_17)), trivial⟩ ?_
          refine XL_nil ?_
          refine X_cond false rfl ?_
          refine X_skip ?_
          refine X_seq ?_
          refine X_region ?_
          refine XL_run 4 [(44, .eq (.int .i64 (max (atP xs d (k + 1)) ((atP xs d (k - 1)) + 1))))] [(10, .int .i64 (max (atP xs d (k + 1)) ((atP xs d (k - 1)) + 1)))] w_6 [Value.int .i64 (if (atP xs d (k - 1)) + 1 > atP xs d (k + 1) then (atP xs d (k - 1)) + 1 else atP xs d (k + 1)) = Value.int .i64 (max (atP xs d (k + 1)) ((atP xs d (k - 1)) + 1))] (by kernel_rfl) ⟨congrArg (Value.int .i64) (max_eq _ _), trivial⟩ ?_
          refine XL_nil ?_
          refine X_ret ?_
          refine RX.ret_ok (P := Tryd.prog) (fn := Tryd.f21) (N := 45) (R := R_) [.int .i64 (max (atP xs d (k + 1)) ((atP xs d (k - 1)) + 1))] (by kernel_rfl) (hR_ _ _ ?_)
          exact ⟨ret_int (by unfold reachP; split <;> (try dsimp only) <;> (repeat' split) <;> omega), (bt hb_2 hb_7)⟩
    · refine XL_run 1 [(27, .eq (.bool false))] [(2, .int .i64 k), (3, .int .i64 n), (4, .int .i64 m), (12, .int .i64 (atP xs d (k + 1))), (13, .int .i64 (-1)), (14, .int .i64 (atP xs d (k - 1))), (27, .bool false)] w_6 [Value.bool (decide (atP xs d (k - 1) ≥ 0)) = Value.bool false] (by kernel_rfl) ⟨congrArg Value.bool (decide_eq_false (c_12)), trivial⟩ ?_
      refine XL_nil ?_
      refine X_cond false rfl ?_
      refine X_skip ?_
      refine X_seq ?_
      refine X_seq ?_
      refine X_region ?_
      refine XL_run 1 [] [(2, .int .i64 k), (3, .int .i64 n), (4, .int .i64 m), (12, .int .i64 (atP xs d (k + 1))), (13, .int .i64 (-1)), (30, .int .i64 (atP xs d (k + 1)))] w_6 [] (by kernel_rfl) trivial ?_
      by_cases c_18 : atP xs d (k + 1) ≥ 0
      · refine XL_run 6 [(31, .eq (.bool true)), (35, .eq (.int .i64 ((atP xs d (k + 1)) - k)))] [(3, .int .i64 n), (12, .int .i64 (atP xs d (k + 1))), (13, .int .i64 (-1)), (32, .bool true), (35, .int .i64 ((atP xs d (k + 1)) - k)), (36, .int .i64 m)] w_6 [Value.bool (decide (atP xs d (k + 1) ≥ 0)) = Value.bool true, Value.int .i64 (IntKind.i64.wrap ((atP xs d (k + 1)) - k)) = Value.int .i64 ((atP xs d (k + 1)) - k)] (by kernel_rfl) ⟨congrArg Value.bool (decide_eq_true (c_18)), wr_i64 (by omega) (by omega), trivial⟩ ?_
        by_cases c_19 : (atP xs d (k + 1)) - k > m
        · refine XL_run 2 [(37, .eq (.bool true))] [(3, .int .i64 n), (12, .int .i64 (atP xs d (k + 1))), (13, .int .i64 (-1)), (38, .bool true)] w_6 [Value.bool (decide ((atP xs d (k + 1)) - k > m)) = Value.bool true] (by kernel_rfl) ⟨congrArg Value.bool (decide_eq_true (c_19)), trivial⟩ ?_
          refine XL_nil ?_
          refine X_cond true rfl ?_
          refine X_region ?_
          refine XL_run 1 [] [(3, .int .i64 n), (12, .int .i64 (-1)), (13, .int .i64 (-1))] w_6 [] (by kernel_rfl) trivial ?_
          refine XL_nil ?_
          refine X_seq ?_
          refine X_seq ?_
          refine X_region ?_
          refine XL_run 2 [] [(12, .int .i64 (-1)), (13, .int .i64 (-1)), (39, .int .i64 (-1)), (40, .int .i64 n)] w_6 [] (by kernel_rfl) trivial ?_
          by_cases c_20 : (-1 : Int) > n
          · refine XL_run 1 [(41, .eq (.bool true))] [(12, .int .i64 (-1)), (13, .int .i64 (-1)), (41, .bool true)] w_6 [Value.bool (decide ((-1 : Int) > n)) = Value.bool true] (by kernel_rfl) ⟨congrArg Value.bool (decide_eq_true (c_20)), trivial⟩ ?_
            refine XL_nil ?_
            refine X_cond true rfl ?_
            refine X_region ?_
            refine XL_run 1 [] [(12, .int .i64 (-1)), (13, .int .i64 (-1))] w_6 [] (by kernel_rfl) trivial ?_
            refine XL_nil ?_
            refine X_seq ?_
            refine X_region ?_
            refine XL_run 4 [] [(10, .int .i64 (-1))] w_6 [] (by kernel_rfl) trivial ?_
            refine XL_nil ?_
            refine X_ret ?_
            refine RX.ret_ok (P := Tryd.prog) (fn := Tryd.f21) (N := 45) (R := R_) [.int .i64 (-1)] (by kernel_rfl) (hR_ _ _ ?_)
            exact ⟨ret_int (by unfold reachP; split <;> (try dsimp only) <;> (repeat' split) <;> omega), (bt hb_2 hb_7)⟩
          · refine XL_run 1 [(41, .eq (.bool false))] [(12, .int .i64 (-1)), (13, .int .i64 (-1)), (41, .bool false)] w_6 [Value.bool (decide ((-1 : Int) > n)) = Value.bool false] (by kernel_rfl) ⟨congrArg Value.bool (decide_eq_false (c_20)), trivial⟩ ?_
            refine XL_nil ?_
            refine X_cond false rfl ?_
            refine X_skip ?_
            refine X_seq ?_
            refine X_region ?_
            refine XL_run 4 [] [(10, .int .i64 (-1))] w_6 [] (by kernel_rfl) trivial ?_
            refine XL_nil ?_
            refine X_ret ?_
            refine RX.ret_ok (P := Tryd.prog) (fn := Tryd.f21) (N := 45) (R := R_) [.int .i64 (-1)] (by kernel_rfl) (hR_ _ _ ?_)
            exact ⟨ret_int (by unfold reachP; split <;> (try dsimp only) <;> (repeat' split) <;> omega), (bt hb_2 hb_7)⟩
        · refine XL_run 2 [(37, .eq (.bool false))] [(3, .int .i64 n), (12, .int .i64 (atP xs d (k + 1))), (13, .int .i64 (-1)), (38, .bool false)] w_6 [Value.bool (decide ((atP xs d (k + 1)) - k > m)) = Value.bool false] (by kernel_rfl) ⟨congrArg Value.bool (decide_eq_false (c_19)), trivial⟩ ?_
          refine XL_nil ?_
          refine X_cond false rfl ?_
          refine X_skip ?_
          refine X_seq ?_
          refine X_seq ?_
          refine X_region ?_
          refine XL_run 2 [] [(12, .int .i64 (atP xs d (k + 1))), (13, .int .i64 (-1)), (39, .int .i64 (-1)), (40, .int .i64 n)] w_6 [] (by kernel_rfl) trivial ?_
          by_cases c_21 : (-1 : Int) > n
          · refine XL_run 1 [(41, .eq (.bool true))] [(12, .int .i64 (atP xs d (k + 1))), (13, .int .i64 (-1)), (41, .bool true)] w_6 [Value.bool (decide ((-1 : Int) > n)) = Value.bool true] (by kernel_rfl) ⟨congrArg Value.bool (decide_eq_true (c_21)), trivial⟩ ?_
            refine XL_nil ?_
            refine X_cond true rfl ?_
            refine X_region ?_
            refine XL_run 1 [] [(12, .int .i64 (atP xs d (k + 1))), (13, .int .i64 (-1))] w_6 [] (by kernel_rfl) trivial ?_
            refine XL_nil ?_
            refine X_seq ?_
            refine X_region ?_
            refine XL_run 4 [(44, .eq (.int .i64 (max (atP xs d (k + 1)) (-1))))] [(10, .int .i64 (max (atP xs d (k + 1)) (-1)))] w_6 [Value.int .i64 (if (-1) > atP xs d (k + 1) then (-1) else atP xs d (k + 1)) = Value.int .i64 (max (atP xs d (k + 1)) (-1))] (by kernel_rfl) ⟨congrArg (Value.int .i64) (max_eq _ _), trivial⟩ ?_
            refine XL_nil ?_
            refine X_ret ?_
            refine RX.ret_ok (P := Tryd.prog) (fn := Tryd.f21) (N := 45) (R := R_) [.int .i64 (max (atP xs d (k + 1)) (-1))] (by kernel_rfl) (hR_ _ _ ?_)
            exact ⟨ret_int (by unfold reachP; split <;> (try dsimp only) <;> (repeat' split) <;> omega), (bt hb_2 hb_7)⟩
          · refine XL_run 1 [(41, .eq (.bool false))] [(12, .int .i64 (atP xs d (k + 1))), (13, .int .i64 (-1)), (41, .bool false)] w_6 [Value.bool (decide ((-1 : Int) > n)) = Value.bool false] (by kernel_rfl) ⟨congrArg Value.bool (decide_eq_false (c_21)), trivial⟩ ?_
            refine XL_nil ?_
            refine X_cond false rfl ?_
            refine X_skip ?_
            refine X_seq ?_
            refine X_region ?_
            refine XL_run 4 [(44, .eq (.int .i64 (max (atP xs d (k + 1)) (-1))))] [(10, .int .i64 (max (atP xs d (k + 1)) (-1)))] w_6 [Value.int .i64 (if (-1) > atP xs d (k + 1) then (-1) else atP xs d (k + 1)) = Value.int .i64 (max (atP xs d (k + 1)) (-1))] (by kernel_rfl) ⟨congrArg (Value.int .i64) (max_eq _ _), trivial⟩ ?_
            refine XL_nil ?_
            refine X_ret ?_
            refine RX.ret_ok (P := Tryd.prog) (fn := Tryd.f21) (N := 45) (R := R_) [.int .i64 (max (atP xs d (k + 1)) (-1))] (by kernel_rfl) (hR_ _ _ ?_)
            exact ⟨ret_int (by unfold reachP; split <;> (try dsimp only) <;> (repeat' split) <;> omega), (bt hb_2 hb_7)⟩
      · refine XL_run 8 [(31, .eq (.bool false))] [(3, .int .i64 n), (12, .int .i64 (atP xs d (k + 1))), (13, .int .i64 (-1)), (38, .bool false)] w_6 [Value.bool (decide (atP xs d (k + 1) ≥ 0)) = Value.bool false] (by kernel_rfl) ⟨congrArg Value.bool (decide_eq_false (c_18)), trivial⟩ ?_
        refine XL_nil ?_
        refine X_cond false rfl ?_
        refine X_skip ?_
        refine X_seq ?_
        refine X_seq ?_
        refine X_region ?_
        refine XL_run 2 [] [(12, .int .i64 (atP xs d (k + 1))), (13, .int .i64 (-1)), (39, .int .i64 (-1)), (40, .int .i64 n)] w_6 [] (by kernel_rfl) trivial ?_
        by_cases c_22 : (-1 : Int) > n
        · refine XL_run 1 [(41, .eq (.bool true))] [(12, .int .i64 (atP xs d (k + 1))), (13, .int .i64 (-1)), (41, .bool true)] w_6 [Value.bool (decide ((-1 : Int) > n)) = Value.bool true] (by kernel_rfl) ⟨congrArg Value.bool (decide_eq_true (c_22)), trivial⟩ ?_
          refine XL_nil ?_
          refine X_cond true rfl ?_
          refine X_region ?_
          refine XL_run 1 [] [(12, .int .i64 (atP xs d (k + 1))), (13, .int .i64 (-1))] w_6 [] (by kernel_rfl) trivial ?_
          refine XL_nil ?_
          refine X_seq ?_
          refine X_region ?_
          refine XL_run 4 [(44, .eq (.int .i64 (max (atP xs d (k + 1)) (-1))))] [(10, .int .i64 (max (atP xs d (k + 1)) (-1)))] w_6 [Value.int .i64 (if (-1) > atP xs d (k + 1) then (-1) else atP xs d (k + 1)) = Value.int .i64 (max (atP xs d (k + 1)) (-1))] (by kernel_rfl) ⟨congrArg (Value.int .i64) (max_eq _ _), trivial⟩ ?_
          refine XL_nil ?_
          refine X_ret ?_
          refine RX.ret_ok (P := Tryd.prog) (fn := Tryd.f21) (N := 45) (R := R_) [.int .i64 (max (atP xs d (k + 1)) (-1))] (by kernel_rfl) (hR_ _ _ ?_)
          exact ⟨ret_int (by unfold reachP; split <;> (try dsimp only) <;> (repeat' split) <;> omega), (bt hb_2 hb_7)⟩
        · refine XL_run 1 [(41, .eq (.bool false))] [(12, .int .i64 (atP xs d (k + 1))), (13, .int .i64 (-1)), (41, .bool false)] w_6 [Value.bool (decide ((-1 : Int) > n)) = Value.bool false] (by kernel_rfl) ⟨congrArg Value.bool (decide_eq_false (c_22)), trivial⟩ ?_
          refine XL_nil ?_
          refine X_cond false rfl ?_
          refine X_skip ?_
          refine X_seq ?_
          refine X_region ?_
          refine XL_run 4 [(44, .eq (.int .i64 (max (atP xs d (k + 1)) (-1))))] [(10, .int .i64 (max (atP xs d (k + 1)) (-1)))] w_6 [Value.int .i64 (if (-1) > atP xs d (k + 1) then (-1) else atP xs d (k + 1)) = Value.int .i64 (max (atP xs d (k + 1)) (-1))] (by kernel_rfl) ⟨congrArg (Value.int .i64) (max_eq _ _), trivial⟩ ?_
          refine XL_nil ?_
          refine X_ret ?_
          refine RX.ret_ok (P := Tryd.prog) (fn := Tryd.f21) (N := 45) (R := R_) [.int .i64 (max (atP xs d (k + 1)) (-1))] (by kernel_rfl) (hR_ _ _ ?_)
          exact ⟨ret_int (by unfold reachP; split <;> (try dsimp only) <;> (repeat' split) <;> omega), (bt hb_2 hb_7)⟩
end Go.Proofs.YtmhkeojbjliieaaDoor
