/- WholeValues returns true. No condition. -/
import Derived.Test.YtlnfgkafnpbeeaaInv
import Derived.Test.YtlnfgkafnpbeeaaKd
import Derived.Test.YtlnfgkafnpbeeaaAn2
import Derived.Test.YtlnfgkafnpbeeaaProg
set_option linter.unusedVariables false
set_option linter.unusedSimpArgs false
set_option maxRecDepth 100000
namespace Go.Proofs.Ytlnfgkafnpbeeaa
open Go Go.RowKit Go.Proofs.YtlnfgkafnpbeeaaW.PrintWords RX
theorem null_kind (w : World) : Calls Try.prog 20 #[.agg #[]] w fun e w' => e = .returned (.int .i64 0) ∧ Below w.heap.size w w' := by
  refine RX.enter Try.func20 rfl 3 rfl [(0, .agg #[])] rfl (by kernel_rfl) (fun R_ hR_ => ?_)
  refine X_seq ?_
  refine X_region ?_
  refine XL_run 1 [] [] (w.alloc (.cells #[] 23)) [] (by kernel_rfl) trivial ?_
  obtain ⟨w_1, hw_5, hb_2, hk_3, hz_4⟩ := new_world w #[] 23
  rw [hw_5]
  refine XL_run 1 [] [] w_1 [] (by kernel_rfl) trivial ?_
  refine XL_nil ?_
  refine X_seq ?_
  refine X_region ?_
  refine XL_run 1 [] [(2, .int .i64 0)] w_1 [] (by kernel_rfl) trivial ?_
  refine XL_nil ?_
  refine X_ret ?_
  refine RX.ret_ok (P := Try.prog) (fn := Try.f20) (N := 3) (R := R_) [.int .i64 0] (by kernel_rfl) (hR_ _ _ ?_)
  exact ⟨rfl, hb_2⟩
theorem null_plain (w : World) : Calls Try.prog 21 #[.agg #[]] w fun e w' => e = .returned (.agg #[.int .i64 0, .int .i64 0, .string ByteArray.empty]) ∧ Below w.heap.size w w' := by
  refine RX.enter Try.func21 rfl 4 rfl [(0, .agg #[])] rfl (by kernel_rfl) (fun R_ hR_ => ?_)
  refine X_seq ?_
  refine X_region ?_
  refine XL_run 1 [] [] (w.alloc (.cells #[] 23)) [] (by kernel_rfl) trivial ?_
  obtain ⟨w_1, hw_5, hb_2, hk_3, hz_4⟩ := new_world w #[] 23
  rw [hw_5]
  refine XL_run 1 [] [(2, .pointer (some ⟨w_1.heap.size, 0, none⟩))] (w_1.alloc (.cells #[.int .i64 0, .int .i64 0, .string ByteArray.empty] 29)) [] (by kernel_rfl) trivial ?_
  obtain ⟨w_6, hw_10, hb_7, hk_8, hz_9⟩ := new_world w_1 #[.int .i64 0, .int .i64 0, .string ByteArray.empty] 29
  rw [hw_10]
  refine XL_nil ?_
  refine X_seq ?_
  refine X_region ?_
  refine XL_run 1 [] [(2, .pointer (some ⟨w_1.heap.size, 0, none⟩)), (3, .agg #[.int .i64 0, .int .i64 0, .string ByteArray.empty])] w_6 [] (by kernel_rfl) trivial ?_
  refine XL_store (v := .agg #[.int .i64 0, .int .i64 0, .string ByteArray.empty]) rfl rfl rfl (by kernel_rfl) hk_8 0 [.int .i64 0, .int .i64 0, .string ByteArray.empty] #[.int .i64 0, .int .i64 0, .string ByteArray.empty] ⟨by kernel_rfl, rfl, by kernel_rfl⟩ ⟨by kernel_rfl, by kernel_rfl⟩ (Nat.le_of_ble_eq_true (by kernel_rfl)) (fun w_11 hg_12 hk_13 hz_14 => ?_)
  refine XL_nil ?_
  refine X_ret ?_
  refine RX.ret_cell (P := Try.prog) (fn := Try.f21) (N := 4) (R := R_) (c := 2) (t := 29) (p := ⟨w_1.heap.size, 0, none⟩) (v := .agg #[.int .i64 0, .int .i64 0, .string ByteArray.empty]) rfl rfl (loadsB rfl rfl hk_13 0 ⟨by kernel_rfl, by kernel_rfl⟩) (hR_ _ _ ?_)
  exact ⟨rfl, (bg (bt hb_2 hb_7) hg_12 (hb_2).size)⟩
theorem flag_kind (b : Bool) (w : World) : Calls Try.prog 22 #[.bool b] w fun e w' => e = .returned (.int .i64 1) ∧ Below w.heap.size w w' := by
  refine RX.enter Try.func22 rfl 3 rfl [(0, .bool b)] rfl (by kernel_rfl) (fun R_ hR_ => ?_)
  refine X_seq ?_
  refine X_region ?_
  refine XL_run 1 [] [] w [] (by kernel_rfl) trivial ?_
  refine XL_nil ?_
  refine X_seq ?_
  refine X_region ?_
  refine XL_run 1 [] [(2, .int .i64 1)] w [] (by kernel_rfl) trivial ?_
  refine XL_nil ?_
  refine X_ret ?_
  refine RX.ret_ok (P := Try.prog) (fn := Try.f22) (N := 3) (R := R_) [.int .i64 1] (by kernel_rfl) (hR_ _ _ ?_)
  exact ⟨rfl, (Below.refl _ _)⟩
theorem flag_plainT (w : World) : Calls Try.prog 23 #[.bool true] w fun e w' => e = .returned (.agg #[.int .i64 1, .int .i64 1, .string ByteArray.empty]) ∧ Below w.heap.size w w' := by
  refine RX.enter Try.func23 rfl 6 rfl [(0, .bool true)] rfl (by kernel_rfl) (fun R_ hR_ => ?_)
  refine X_seq ?_
  refine X_region ?_
  refine XL_run 1 [] [(0, .bool true), (2, .pointer (some ⟨w.heap.size, 0, none⟩))] (w.alloc (.cells #[.int .i64 0, .int .i64 0, .string ByteArray.empty] 29)) [] (by kernel_rfl) trivial ?_
  obtain ⟨w_1, hw_5, hb_2, hk_3, hz_4⟩ := new_world w #[.int .i64 0, .int .i64 0, .string ByteArray.empty] 29
  rw [hw_5]
  refine XL_nil ?_
  refine X_seq ?_
  refine X_seq ?_
  refine X_region ?_
  refine XL_run 1 [] [(2, .pointer (some ⟨w.heap.size, 0, none⟩)), (3, .bool true)] w_1 [] (by kernel_rfl) trivial ?_
  refine XL_nil ?_
  refine X_cond true rfl ?_
  refine X_seq ?_
  refine X_region ?_
  refine XL_run 1 [] [(2, .pointer (some ⟨w.heap.size, 0, none⟩)), (4, .agg #[.int .i64 1, .int .i64 1, .string ByteArray.empty])] w_1 [] (by kernel_rfl) trivial ?_
  refine XL_store (v := .agg #[.int .i64 1, .int .i64 1, .string ByteArray.empty]) rfl rfl rfl (by kernel_rfl) hk_3 0 [.int .i64 1, .int .i64 1, .string ByteArray.empty] #[.int .i64 1, .int .i64 1, .string ByteArray.empty] ⟨by kernel_rfl, rfl, by kernel_rfl⟩ ⟨by kernel_rfl, by kernel_rfl⟩ (Nat.le_of_ble_eq_true (by kernel_rfl)) (fun w_6 hg_7 hk_8 hz_9 => ?_)
  refine XL_nil ?_
  refine X_ret ?_
  refine RX.ret_cell (P := Try.prog) (fn := Try.f23) (N := 6) (R := R_) (c := 2) (t := 29) (p := ⟨w.heap.size, 0, none⟩) (v := .agg #[.int .i64 1, .int .i64 1, .string ByteArray.empty]) rfl rfl (loadsB rfl rfl hk_8 0 ⟨by kernel_rfl, by kernel_rfl⟩) (hR_ _ _ ?_)
  exact ⟨rfl, (bg hb_2 hg_7 (Nat.le_refl _))⟩
theorem flag_plainF (w : World) : Calls Try.prog 23 #[.bool false] w fun e w' => e = .returned (.agg #[.int .i64 1, .int .i64 0, .string ByteArray.empty]) ∧ Below w.heap.size w w' := by
  refine RX.enter Try.func23 rfl 6 rfl [(0, .bool false)] rfl (by kernel_rfl) (fun R_ hR_ => ?_)
  refine X_seq ?_
  refine X_region ?_
  refine XL_run 1 [] [(0, .bool false), (2, .pointer (some ⟨w.heap.size, 0, none⟩))] (w.alloc (.cells #[.int .i64 0, .int .i64 0, .string ByteArray.empty] 29)) [] (by kernel_rfl) trivial ?_
  obtain ⟨w_1, hw_5, hb_2, hk_3, hz_4⟩ := new_world w #[.int .i64 0, .int .i64 0, .string ByteArray.empty] 29
  rw [hw_5]
  refine XL_nil ?_
  refine X_seq ?_
  refine X_seq ?_
  refine X_region ?_
  refine XL_run 1 [] [(2, .pointer (some ⟨w.heap.size, 0, none⟩)), (3, .bool false)] w_1 [] (by kernel_rfl) trivial ?_
  refine XL_nil ?_
  refine X_cond false rfl ?_
  refine X_skip ?_
  refine X_seq ?_
  refine X_region ?_
  refine XL_run 1 [] [(2, .pointer (some ⟨w.heap.size, 0, none⟩)), (5, .agg #[.int .i64 1, .int .i64 0, .string ByteArray.empty])] w_1 [] (by kernel_rfl) trivial ?_
  refine XL_store (v := .agg #[.int .i64 1, .int .i64 0, .string ByteArray.empty]) rfl rfl rfl (by kernel_rfl) hk_3 0 [.int .i64 1, .int .i64 0, .string ByteArray.empty] #[.int .i64 1, .int .i64 0, .string ByteArray.empty] ⟨by kernel_rfl, rfl, by kernel_rfl⟩ ⟨by kernel_rfl, by kernel_rfl⟩ (Nat.le_of_ble_eq_true (by kernel_rfl)) (fun w_6 hg_7 hk_8 hz_9 => ?_)
  refine XL_nil ?_
  refine X_ret ?_
  refine RX.ret_cell (P := Try.prog) (fn := Try.f23) (N := 6) (R := R_) (c := 2) (t := 29) (p := ⟨w.heap.size, 0, none⟩) (v := .agg #[.int .i64 1, .int .i64 0, .string ByteArray.empty]) rfl rfl (loadsB rfl rfl hk_8 0 ⟨by kernel_rfl, by kernel_rfl⟩) (hR_ _ _ ?_)
  exact ⟨rfl, (bg hb_2 hg_7 (Nat.le_refl _))⟩
theorem number_kind (n : Int) (w : World) : Calls Try.prog 24 #[.int .i64 n] w fun e w' => e = .returned (.int .i64 2) ∧ Below w.heap.size w w' := by
  refine RX.enter Try.func24 rfl 3 rfl [(0, .int .i64 n)] rfl (by kernel_rfl) (fun R_ hR_ => ?_)
  refine X_seq ?_
  refine X_region ?_
  refine XL_run 1 [] [] w [] (by kernel_rfl) trivial ?_
  refine XL_nil ?_
  refine X_seq ?_
  refine X_region ?_
  refine XL_run 1 [] [(2, .int .i64 2)] w [] (by kernel_rfl) trivial ?_
  refine XL_nil ?_
  refine X_ret ?_
  refine RX.ret_ok (P := Try.prog) (fn := Try.f24) (N := 3) (R := R_) [.int .i64 2] (by kernel_rfl) (hR_ _ _ ?_)
  exact ⟨rfl, (Below.refl _ _)⟩
theorem number_plain (n : Int) (w : World) : Calls Try.prog 25 #[.int .i64 n] w fun e w' => e = .returned (.agg #[.int .i64 2, .int .i64 n, .string ByteArray.empty]) ∧ Below w.heap.size w w' := by
  refine RX.enter Try.func25 rfl 5 rfl [(0, .int .i64 n)] rfl (by kernel_rfl) (fun R_ hR_ => ?_)
  refine X_seq ?_
  refine X_region ?_
  refine XL_run 1 [] [(0, .int .i64 n), (2, .pointer (some ⟨w.heap.size, 0, none⟩))] (w.alloc (.cells #[.int .i64 0, .int .i64 0, .string ByteArray.empty] 29)) [] (by kernel_rfl) trivial ?_
  obtain ⟨w_1, hw_5, hb_2, hk_3, hz_4⟩ := new_world w #[.int .i64 0, .int .i64 0, .string ByteArray.empty] 29
  rw [hw_5]
  refine XL_nil ?_
  refine X_seq ?_
  refine X_region ?_
  refine XL_run 2 [] [(2, .pointer (some ⟨w.heap.size, 0, none⟩)), (4, .agg #[.int .i64 2, .int .i64 n, .string ByteArray.empty])] w_1 [] (by kernel_rfl) trivial ?_
  refine XL_store (v := .agg #[.int .i64 2, .int .i64 n, .string ByteArray.empty]) rfl rfl rfl (by kernel_rfl) hk_3 0 [.int .i64 2, .int .i64 n, .string ByteArray.empty] #[.int .i64 2, .int .i64 n, .string ByteArray.empty] ⟨by kernel_rfl, rfl, by kernel_rfl⟩ ⟨by kernel_rfl, by kernel_rfl⟩ (Nat.le_of_ble_eq_true (by kernel_rfl)) (fun w_6 hg_7 hk_8 hz_9 => ?_)
  refine XL_nil ?_
  refine X_ret ?_
  refine RX.ret_cell (P := Try.prog) (fn := Try.f25) (N := 5) (R := R_) (c := 2) (t := 29) (p := ⟨w.heap.size, 0, none⟩) (v := .agg #[.int .i64 2, .int .i64 n, .string ByteArray.empty]) rfl rfl (loadsB rfl rfl hk_8 0 ⟨by kernel_rfl, by kernel_rfl⟩) (hR_ _ _ ?_)
  exact ⟨rfl, (bg hb_2 hg_7 (Nat.le_refl _))⟩
theorem text_kind (s : ByteArray) (w : World) : Calls Try.prog 26 #[.string s] w fun e w' => e = .returned (.int .i64 3) ∧ Below w.heap.size w w' := by
  refine RX.enter Try.func26 rfl 3 rfl [(0, .string s)] rfl (by kernel_rfl) (fun R_ hR_ => ?_)
  refine X_seq ?_
  refine X_region ?_
  refine XL_run 1 [] [] w [] (by kernel_rfl) trivial ?_
  refine XL_nil ?_
  refine X_seq ?_
  refine X_region ?_
  refine XL_run 1 [] [(2, .int .i64 3)] w [] (by kernel_rfl) trivial ?_
  refine XL_nil ?_
  refine X_ret ?_
  refine RX.ret_ok (P := Try.prog) (fn := Try.f26) (N := 3) (R := R_) [.int .i64 3] (by kernel_rfl) (hR_ _ _ ?_)
  exact ⟨rfl, (Below.refl _ _)⟩
theorem text_plain (s : ByteArray) (w : World) : Calls Try.prog 27 #[.string s] w fun e w' => e = .returned (.agg #[.int .i64 3, .int .i64 0, .string s]) ∧ Below w.heap.size w w' := by
  refine RX.enter Try.func27 rfl 5 rfl [(0, .string s)] rfl (by kernel_rfl) (fun R_ hR_ => ?_)
  refine X_seq ?_
  refine X_region ?_
  refine XL_run 1 [] [(0, .string s), (2, .pointer (some ⟨w.heap.size, 0, none⟩))] (w.alloc (.cells #[.int .i64 0, .int .i64 0, .string ByteArray.empty] 29)) [] (by kernel_rfl) trivial ?_
  obtain ⟨w_1, hw_5, hb_2, hk_3, hz_4⟩ := new_world w #[.int .i64 0, .int .i64 0, .string ByteArray.empty] 29
  rw [hw_5]
  refine XL_nil ?_
  refine X_seq ?_
  refine X_region ?_
  refine XL_run 2 [] [(2, .pointer (some ⟨w.heap.size, 0, none⟩)), (4, .agg #[.int .i64 3, .int .i64 0, .string s])] w_1 [] (by kernel_rfl) trivial ?_
  refine XL_store (v := .agg #[.int .i64 3, .int .i64 0, .string s]) rfl rfl rfl (by kernel_rfl) hk_3 0 [.int .i64 3, .int .i64 0, .string s] #[.int .i64 3, .int .i64 0, .string s] ⟨by kernel_rfl, rfl, by kernel_rfl⟩ ⟨by kernel_rfl, by kernel_rfl⟩ (Nat.le_of_ble_eq_true (by kernel_rfl)) (fun w_6 hg_7 hk_8 hz_9 => ?_)
  refine XL_nil ?_
  refine X_ret ?_
  refine RX.ret_cell (P := Try.prog) (fn := Try.f27) (N := 5) (R := R_) (c := 2) (t := 29) (p := ⟨w.heap.size, 0, none⟩) (v := .agg #[.int .i64 3, .int .i64 0, .string s]) rfl rfl (loadsB rfl rfl hk_8 0 ⟨by kernel_rfl, by kernel_rfl⟩) (hR_ _ _ ?_)
  exact ⟨rfl, (bg hb_2 hg_7 (Nat.le_refl _))⟩
set_option maxHeartbeats 8000000 in
theorem values_any (w : World) : Calls Try.prog 3 #[] w fun e w' => e = .returned (.bool true) ∧ Below w.heap.size w w' := by
  refine RX.enter Try.func3 rfl 70 rfl [] rfl (by kernel_rfl) (fun R_ hR_ => ?_)
  refine X_seq ?_
  refine X_region ?_
  refine XL_run 1 [] [] w [] (by kernel_rfl) trivial ?_
  refine XL_nil ?_
  refine X_seq ?_
  refine X_region ?_
  refine XL_run 10 [] [(16, .slice (some ⟨w.heap.size, 0, none⟩) 8 8)] (w.alloc (.cells #[.iface 23 (.agg #[]), .iface 24 (.bool false), .iface 24 (.bool true), .iface 25 (.int .i64 0), .iface 25 (.int .i64 1), .iface 25 (.int .i64 (-5)), .iface 26 (.string (⟨#[]⟩ : ByteArray)), .iface 26 (.string (⟨#[97]⟩ : ByteArray))] 32)) [] (by kernel_rfl) trivial ?_
  obtain ⟨w_1, hw_5, hb_2, hk_3, hz_4⟩ := new_world w #[.iface 23 (.agg #[]), .iface 24 (.bool false), .iface 24 (.bool true), .iface 25 (.int .i64 0), .iface 25 (.int .i64 1), .iface 25 (.int .i64 (-5)), .iface 26 (.string (⟨#[]⟩ : ByteArray)), .iface 26 (.string (⟨#[97]⟩ : ByteArray))] 32
  rw [hw_5]
  refine XL_run 1 [] [(1, .slice (some ⟨w.heap.size, 0, none⟩) 8 8)] w_1 [] (by kernel_rfl) trivial ?_
  refine XL_nil ?_
  refine X_seq ?_
  refine X_region ?_
  refine XL_run 9 [] [(1, .slice (some ⟨w.heap.size, 0, none⟩) 8 8), (25, .slice (some ⟨w_1.heap.size, 0, none⟩) 8 8)] (w_1.alloc (.cells #[.int .i64 0, .int .i64 0, .string ByteArray.empty, .int .i64 1, .int .i64 0, .string ByteArray.empty, .int .i64 1, .int .i64 1, .string ByteArray.empty, .int .i64 2, .int .i64 0, .string ByteArray.empty, .int .i64 2, .int .i64 1, .string ByteArray.empty, .int .i64 2, .int .i64 (-5), .string ByteArray.empty, .int .i64 3, .int .i64 0, .string ByteArray.empty, .int .i64 3, .int .i64 0, .string (⟨#[97]⟩ : ByteArray)] 29)) [] (by kernel_rfl) trivial ?_
  obtain ⟨w_6, hw_10, hb_7, hk_8, hz_9⟩ := new_world w_1 #[.int .i64 0, .int .i64 0, .string ByteArray.empty, .int .i64 1, .int .i64 0, .string ByteArray.empty, .int .i64 1, .int .i64 1, .string ByteArray.empty, .int .i64 2, .int .i64 0, .string ByteArray.empty, .int .i64 2, .int .i64 1, .string ByteArray.empty, .int .i64 2, .int .i64 (-5), .string ByteArray.empty, .int .i64 3, .int .i64 0, .string ByteArray.empty, .int .i64 3, .int .i64 0, .string (⟨#[97]⟩ : ByteArray)] 29
  rw [hw_10]
  refine XL_run 1 [] [(1, .slice (some ⟨w.heap.size, 0, none⟩) 8 8), (2, .slice (some ⟨w_1.heap.size, 0, none⟩) 8 8)] w_6 [] (by kernel_rfl) trivial ?_
  refine XL_nil ?_
  refine X_seq ?_
  refine X_seq ?_
  refine X_region ?_
  refine XL_run 3 [] [(1, .slice (some ⟨w.heap.size, 0, none⟩) 8 8), (2, .slice (some ⟨w_1.heap.size, 0, none⟩) 8 8), (26, .slice (some ⟨w.heap.size, 0, none⟩) 8 8), (27, .int .i64 8), (28, .int .i64 0)] w_6 [] (by kernel_rfl) trivial ?_
  refine XL_nil ?_
  refine X_block ?_
  refine X_loop (ι := Nat) (fun i => [(1, .slice (some ⟨w.heap.size, 0, none⟩) 8 8), (2, .slice (some ⟨w_1.heap.size, 0, none⟩) 8 8), (26, .slice (some ⟨w.heap.size, 0, none⟩) 8 8), (27, .int .i64 8), (28, .int .i64 (i : Int))]) (fun i wi => i ≤ 8 ∧ Below w_6.heap.size w_6 wi) (fun i => 8 - i) 0 ⟨by omega, Below.refl _ _⟩ (by kernel_rfl) ?_
  rintro i wi ⟨hi, HBi⟩
  obtain rfl | rfl | rfl | rfl | rfl | rfl | rfl | rfl | rfl : i = 0 ∨ i = 1 ∨ i = 2 ∨ i = 3 ∨ i = 4 ∨ i = 5 ∨ i = 6 ∨ i = 7 ∨ i = 8 := by omega
  · refine X_seq ?_
    refine X_region ?_
    refine XL_run 1 [] [(1, .slice (some ⟨w.heap.size, 0, none⟩) 8 8), (2, .slice (some ⟨w_1.heap.size, 0, none⟩) 8 8), (26, .slice (some ⟨w.heap.size, 0, none⟩) 8 8), (27, .int .i64 8), (28, .int .i64 0), (29, .bool true)] wi [] (by kernel_rfl) trivial ?_
    refine XL_nil ?_
    refine X_seq ?_
    refine X_cond true rfl ?_
    refine X_skip ?_
    refine X_seq ?_
    refine X_block ?_
    refine X_seq ?_
    refine X_region ?_
    refine XL_run 1 [] [(1, .slice (some ⟨w.heap.size, 0, none⟩) 8 8), (2, .slice (some ⟨w_1.heap.size, 0, none⟩) 8 8), (26, .slice (some ⟨w.heap.size, 0, none⟩) 8 8), (27, .int .i64 8), (28, .int .i64 0), (30, .int .i64 0)] wi [] (by kernel_rfl) trivial ?_
    refine XL_run 4 [(31, .idx ⟨w.heap.size, 0, none⟩), (32, .load (.iface 23 (.agg #[])))] [(1, .slice (some ⟨w.heap.size, 0, none⟩) 8 8), (2, .slice (some ⟨w_1.heap.size, 0, none⟩) 8 8), (3, .int .i64 0), (4, .iface 23 (.agg #[])), (26, .slice (some ⟨w.heap.size, 0, none⟩) 8 8), (27, .int .i64 8), (28, .int .i64 0)] wi [(some ⟨w.heap.size, 0, none⟩ : Option Addr) = some ⟨w.heap.size, 0, none⟩, (0 : Int) ≤ 0, (0 : Int) < (8 : Int), LoadsAs Try.prog 32 (⟨w.heap.size, 0, none⟩) (.iface 23 (.agg #[])) wi] (by kernel_rfl) ⟨rfl, (by decide), (by decide), loads1 rfl (Blk.cell (Blk.below hk_3 (bt hb_7 HBi)) 0 _ rfl), trivial⟩ ?_
    refine XL_nil ?_
    refine X_seq ?_
    refine X_seq ?_
    refine X_grow [] 21 #[false, false, false, false, false, false, false, false, false, false, false, false, false, false, false, false, false, false, false, false, false] (by kernel_rfl) (by kernel_rfl) (by kernel_rfl) (fun wd_11 hb_12 hh_13 => ?_)
    refine XB_run (fuel' := 15) (Below.refl _ _) [0, 1, 2, 3, 5, 6] [] [.iface 23 (.agg #[]), .bool false, .bool false, .iface 23 (.agg #[]), .slice (some ⟨w_1.heap.size, 0, none⟩) 8 8, .int .i64 0] #[true, true, true, true, false, true, true, false, false, false, false, false, false, false, false, false, false, false, false, false, false] [(1, .slice (some ⟨w.heap.size, 0, none⟩) 8 8), (2, .slice (some ⟨w_1.heap.size, 0, none⟩) 8 8), (3, .int .i64 0), (4, .iface 23 (.agg #[])), (26, .slice (some ⟨w.heap.size, 0, none⟩) 8 8), (27, .int .i64 8), (28, .int .i64 0), (35, .bool false), (36, .iface 23 (.agg #[])), (38, .slice (some ⟨w_1.heap.size, 0, none⟩) 8 8), (39, .int .i64 0)] (fun w_ => []) (fun _ _ _ _ h => h) (fun w_ => by kernel_rfl) rfl (fun w_ hC_ => trivial) ?_
    refine XB_run (fuel' := 12) (Below.refl _ _) [7, 8, 9] [(40, .idx ⟨w_1.heap.size, 0, none⟩), (42, .load (.int .i64 0))] [.pointer (some ⟨w_1.heap.size, 0, none⟩), .pointer (some ⟨w_1.heap.size, 0, none⟩), .int .i64 0] #[true, true, true, true, false, true, true, true, true, true, false, false, false, false, false, false, false, false, false, false, false] [(1, .slice (some ⟨w.heap.size, 0, none⟩) 8 8), (2, .slice (some ⟨w_1.heap.size, 0, none⟩) 8 8), (3, .int .i64 0), (4, .iface 23 (.agg #[])), (26, .slice (some ⟨w.heap.size, 0, none⟩) 8 8), (27, .int .i64 8), (28, .int .i64 0), (35, .bool false), (36, .iface 23 (.agg #[])), (42, .int .i64 0)] (fun w_ => [(some ⟨w_1.heap.size, 0, none⟩ : Option Addr) = some ⟨w_1.heap.size, 0, none⟩, (0 : Int) ≤ 0, (0 : Int) < (8 : Int), LoadsAs Try.prog 3 (⟨w_1.heap.size, 0, none⟩) (.int .i64 0) w_]) (fun _ _ _ _ h => h) (fun w_ => by kernel_rfl) rfl (fun w_ hC_ => ⟨rfl, (by decide), (by decide), loads1 rfl (Blk.cell (Blk.below hk_8 (bt (bt HBi hb_12) hC_)) 0 _ rfl), trivial⟩) ?_
    refine XB_mid (fuel' := 11) 4 #[true, true, true, true, true, true, true, true, true, true, false, false, false, false, false, false, false, false, false, false, false] _ rfl (by kernel_rfl) (by kernel_rfl) rfl ?_
    refine XL_inv 20 #[.agg #[]] rfl rfl (by kernel_rfl) (by kernel_rfl) (null_kind _) ?_
    rintro e w_14 ⟨rfl, hb_15⟩; refine ⟨_, rfl, ?_⟩
    refine XL_nil ?_
    refine ⟨hb_15, ?_⟩
    refine XB_run (fuel' := 5) hb_15 [10, 11, 12, 13, 15, 16] [] [.bool false, .bool false, .bool false, .iface 23 (.agg #[]), .slice (some ⟨w_1.heap.size, 0, none⟩) 8 8, .int .i64 0] #[true, true, true, true, true, true, true, true, true, true, true, true, true, true, false, true, true, false, false, false, false] [(1, .slice (some ⟨w.heap.size, 0, none⟩) 8 8), (2, .slice (some ⟨w_1.heap.size, 0, none⟩) 8 8), (3, .int .i64 0), (4, .iface 23 (.agg #[])), (26, .slice (some ⟨w.heap.size, 0, none⟩) 8 8), (27, .int .i64 8), (28, .int .i64 0), (45, .bool false), (46, .iface 23 (.agg #[])), (48, .slice (some ⟨w_1.heap.size, 0, none⟩) 8 8), (49, .int .i64 0)] (fun w_ => []) (fun _ _ _ _ h => h) (fun w_ => by kernel_rfl) rfl (fun w_ hC_ => trivial) ?_
    refine XB_run (fuel' := 3) hb_15 [17, 18] [(50, .idx ⟨w_1.heap.size, 0, none⟩), (51, .load (.agg #[.int .i64 0, .int .i64 0, .string ByteArray.empty]))] [.pointer (some ⟨w_1.heap.size, 0, none⟩), .agg #[.int .i64 0, .int .i64 0, .string ByteArray.empty]] #[true, true, true, true, true, true, true, true, true, true, true, true, true, true, false, true, true, true, true, false, false] [(1, .slice (some ⟨w.heap.size, 0, none⟩) 8 8), (2, .slice (some ⟨w_1.heap.size, 0, none⟩) 8 8), (3, .int .i64 0), (4, .iface 23 (.agg #[])), (26, .slice (some ⟨w.heap.size, 0, none⟩) 8 8), (27, .int .i64 8), (28, .int .i64 0), (45, .bool false), (46, .iface 23 (.agg #[])), (51, .agg #[.int .i64 0, .int .i64 0, .string ByteArray.empty])] (fun w_ => [(some ⟨w_1.heap.size, 0, none⟩ : Option Addr) = some ⟨w_1.heap.size, 0, none⟩, (0 : Int) ≤ 0, (0 : Int) < (8 : Int), LoadsAs Try.prog 29 (⟨w_1.heap.size, 0, none⟩) (.agg #[.int .i64 0, .int .i64 0, .string ByteArray.empty]) w_]) (fun _ _ _ _ h => h) (fun w_ => by kernel_rfl) rfl (fun w_ hC_ => ⟨rfl, (by decide), (by decide), loadsB rfl rfl (Blk.below hk_8 (bt (bt HBi hb_12) hC_)) 0 ⟨by kernel_rfl, by kernel_rfl⟩, trivial⟩) ?_
    refine XB_mid (fuel' := 2) 14 #[true, true, true, true, true, true, true, true, true, true, true, true, true, true, true, true, true, true, true, false, false] _ rfl (by kernel_rfl) (by kernel_rfl) rfl ?_
    refine XL_inv 21 #[.agg #[]] rfl rfl (by kernel_rfl) (by kernel_rfl) (null_plain _) ?_
    rintro e w_16 ⟨rfl, hb_17⟩; refine ⟨_, rfl, ?_⟩
    refine XL_nil ?_
    refine ⟨(bt hb_15 hb_17), ?_⟩
    refine XB_run (fuel' := 0) (bt hb_15 hb_17) [19, 20] [] [.bool false, .bool false] #[true, true, true, true, true, true, true, true, true, true, true, true, true, true, true, true, true, true, true, true, true] [(1, .slice (some ⟨w.heap.size, 0, none⟩) 8 8), (2, .slice (some ⟨w_1.heap.size, 0, none⟩) 8 8), (3, .int .i64 0), (4, .iface 23 (.agg #[])), (26, .slice (some ⟨w.heap.size, 0, none⟩) 8 8), (27, .int .i64 8), (28, .int .i64 0), (53, .bool false)] (fun w_ => []) (fun _ _ _ _ h => h) (fun w_ => by kernel_rfl) rfl (fun w_ hC_ => trivial) ?_
    refine XB_done (by kernel_rfl) ?_
    refine X_cond false rfl ?_
    refine X_skip ?_
    refine X_seq ?_
    refine X_region ?_
    refine XL_run 3 [] [(1, .slice (some ⟨w.heap.size, 0, none⟩) 8 8), (2, .slice (some ⟨w_1.heap.size, 0, none⟩) 8 8), (3, .int .i64 0), (4, .iface 23 (.agg #[])), (26, .slice (some ⟨w.heap.size, 0, none⟩) 8 8), (27, .int .i64 8), (28, .int .i64 0), (54, .slice (some ⟨w.heap.size, 0, none⟩) 8 8), (55, .int .i64 8), (56, .int .i64 0)] w_16 [] (by kernel_rfl) trivial ?_
    refine XL_nil ?_
    refine X_block ?_
    refine X_loop (ι := Nat) (fun j1 => [(1, .slice (some ⟨w.heap.size, 0, none⟩) 8 8), (2, .slice (some ⟨w_1.heap.size, 0, none⟩) 8 8), (3, .int .i64 0), (4, .iface 23 (.agg #[])), (26, .slice (some ⟨w.heap.size, 0, none⟩) 8 8), (27, .int .i64 8), (28, .int .i64 0), (54, .slice (some ⟨w.heap.size, 0, none⟩) 8 8), (55, .int .i64 8), (56, .int .i64 (j1 : Int))]) (fun j1 wj1 => j1 ≤ 8 ∧ Below w_16.heap.size w_16 wj1) (fun j1 => 8 - j1) 0 ⟨by omega, Below.refl _ _⟩ (by kernel_rfl) ?_
    rintro j1 wj1 ⟨hj1, HBj1⟩
    obtain rfl | rfl | rfl | rfl | rfl | rfl | rfl | rfl | rfl : j1 = 0 ∨ j1 = 1 ∨ j1 = 2 ∨ j1 = 3 ∨ j1 = 4 ∨ j1 = 5 ∨ j1 = 6 ∨ j1 = 7 ∨ j1 = 8 := by omega
    · refine X_seq ?_
      refine X_region ?_
      refine XL_run 1 [] [(1, .slice (some ⟨w.heap.size, 0, none⟩) 8 8), (2, .slice (some ⟨w_1.heap.size, 0, none⟩) 8 8), (3, .int .i64 0), (4, .iface 23 (.agg #[])), (26, .slice (some ⟨w.heap.size, 0, none⟩) 8 8), (27, .int .i64 8), (28, .int .i64 0), (54, .slice (some ⟨w.heap.size, 0, none⟩) 8 8), (55, .int .i64 8), (56, .int .i64 0), (57, .bool true)] wj1 [] (by kernel_rfl) trivial ?_
      refine XL_nil ?_
      refine X_seq ?_
      refine X_cond true rfl ?_
      refine X_skip ?_
      refine X_seq ?_
      refine X_block ?_
      refine X_seq ?_
      refine X_region ?_
      refine XL_run 1 [] [(1, .slice (some ⟨w.heap.size, 0, none⟩) 8 8), (2, .slice (some ⟨w_1.heap.size, 0, none⟩) 8 8), (3, .int .i64 0), (4, .iface 23 (.agg #[])), (26, .slice (some ⟨w.heap.size, 0, none⟩) 8 8), (27, .int .i64 8), (28, .int .i64 0), (54, .slice (some ⟨w.heap.size, 0, none⟩) 8 8), (55, .int .i64 8), (56, .int .i64 0), (58, .int .i64 0)] wj1 [] (by kernel_rfl) trivial ?_
      have hB_18 : Below w_1.heap.size w_1 wj1 := (bt (bt (bt (bt (bt hb_7 HBi) hb_12) hb_15) hb_17) HBj1)
      refine XL_run 4 [(59, .idx ⟨w.heap.size, 0, none⟩), (60, .load (.iface 23 (.agg #[])))] [(1, .slice (some ⟨w.heap.size, 0, none⟩) 8 8), (2, .slice (some ⟨w_1.heap.size, 0, none⟩) 8 8), (3, .int .i64 0), (4, .iface 23 (.agg #[])), (5, .int .i64 0), (6, .iface 23 (.agg #[])), (26, .slice (some ⟨w.heap.size, 0, none⟩) 8 8), (27, .int .i64 8), (28, .int .i64 0), (54, .slice (some ⟨w.heap.size, 0, none⟩) 8 8), (55, .int .i64 8), (56, .int .i64 0)] wj1 [(some ⟨w.heap.size, 0, none⟩ : Option Addr) = some ⟨w.heap.size, 0, none⟩, (0 : Int) ≤ 0, (0 : Int) < (8 : Int), LoadsAs Try.prog 32 (⟨w.heap.size, 0, none⟩) (.iface 23 (.agg #[])) wj1] (by kernel_rfl) ⟨rfl, (by decide), (by decide), loads1 rfl (Blk.cell (Blk.below hk_3 hB_18) 0 _ rfl), trivial⟩ ?_
      refine XL_nil ?_
      refine X_seq ?_
      refine X_region ?_
      refine XL_run 7 [] [(1, .slice (some ⟨w.heap.size, 0, none⟩) 8 8), (2, .slice (some ⟨w_1.heap.size, 0, none⟩) 8 8), (3, .int .i64 0), (4, .iface 23 (.agg #[])), (26, .slice (some ⟨w.heap.size, 0, none⟩) 8 8), (27, .int .i64 8), (28, .int .i64 0), (54, .slice (some ⟨w.heap.size, 0, none⟩) 8 8), (55, .int .i64 8), (56, .int .i64 0), (67, .bool false)] wj1 [] (by kernel_rfl) trivial ?_
      refine XL_nil ?_
      refine X_cond false rfl ?_
      refine X_skip ?_
      refine X_region ?_
      refine XL_run 2 [] [(1, .slice (some ⟨w.heap.size, 0, none⟩) 8 8), (2, .slice (some ⟨w_1.heap.size, 0, none⟩) 8 8), (3, .int .i64 0), (4, .iface 23 (.agg #[])), (26, .slice (some ⟨w.heap.size, 0, none⟩) 8 8), (27, .int .i64 8), (28, .int .i64 0), (54, .slice (some ⟨w.heap.size, 0, none⟩) 8 8), (55, .int .i64 8), (56, .int .i64 1)] wj1 [] (by kernel_rfl) trivial ?_
      refine XL_nil ?_
      refine ⟨1, by kernel_rfl, ?_, ?_⟩
      · exact ⟨by omega, HBj1⟩
      · decide
    · refine X_seq ?_
      refine X_region ?_
      refine XL_run 1 [] [(1, .slice (some ⟨w.heap.size, 0, none⟩) 8 8), (2, .slice (some ⟨w_1.heap.size, 0, none⟩) 8 8), (3, .int .i64 0), (4, .iface 23 (.agg #[])), (26, .slice (some ⟨w.heap.size, 0, none⟩) 8 8), (27, .int .i64 8), (28, .int .i64 0), (54, .slice (some ⟨w.heap.size, 0, none⟩) 8 8), (55, .int .i64 8), (56, .int .i64 1), (57, .bool true)] wj1 [] (by kernel_rfl) trivial ?_
      refine XL_nil ?_
      refine X_seq ?_
      refine X_cond true rfl ?_
      refine X_skip ?_
      refine X_seq ?_
      refine X_block ?_
      refine X_seq ?_
      refine X_region ?_
      refine XL_run 1 [] [(1, .slice (some ⟨w.heap.size, 0, none⟩) 8 8), (2, .slice (some ⟨w_1.heap.size, 0, none⟩) 8 8), (3, .int .i64 0), (4, .iface 23 (.agg #[])), (26, .slice (some ⟨w.heap.size, 0, none⟩) 8 8), (27, .int .i64 8), (28, .int .i64 0), (54, .slice (some ⟨w.heap.size, 0, none⟩) 8 8), (55, .int .i64 8), (56, .int .i64 1), (58, .int .i64 1)] wj1 [] (by kernel_rfl) trivial ?_
      have hB_19 : Below w_1.heap.size w_1 wj1 := (bt (bt (bt (bt (bt hb_7 HBi) hb_12) hb_15) hb_17) HBj1)
      refine XL_run 4 [(59, .idx ⟨w.heap.size, 0, none⟩), (60, .load (.iface 24 (.bool false)))] [(1, .slice (some ⟨w.heap.size, 0, none⟩) 8 8), (2, .slice (some ⟨w_1.heap.size, 0, none⟩) 8 8), (3, .int .i64 0), (4, .iface 23 (.agg #[])), (5, .int .i64 1), (6, .iface 24 (.bool false)), (26, .slice (some ⟨w.heap.size, 0, none⟩) 8 8), (27, .int .i64 8), (28, .int .i64 0), (54, .slice (some ⟨w.heap.size, 0, none⟩) 8 8), (55, .int .i64 8), (56, .int .i64 1)] wj1 [(some ⟨w.heap.size, 0, none⟩ : Option Addr) = some ⟨w.heap.size, 0, none⟩, (0 : Int) ≤ 1, (1 : Int) < (8 : Int), LoadsAs Try.prog 32 (⟨w.heap.size, 1, none⟩) (.iface 24 (.bool false)) wj1] (by kernel_rfl) ⟨rfl, (by decide), (by decide), loads1 rfl (Blk.cell (Blk.below hk_3 hB_19) 1 _ rfl), trivial⟩ ?_
      refine XL_nil ?_
      refine X_seq ?_
      refine X_region ?_
      refine XL_run 7 [] [(1, .slice (some ⟨w.heap.size, 0, none⟩) 8 8), (2, .slice (some ⟨w_1.heap.size, 0, none⟩) 8 8), (3, .int .i64 0), (4, .iface 23 (.agg #[])), (26, .slice (some ⟨w.heap.size, 0, none⟩) 8 8), (27, .int .i64 8), (28, .int .i64 0), (54, .slice (some ⟨w.heap.size, 0, none⟩) 8 8), (55, .int .i64 8), (56, .int .i64 1), (67, .bool false)] wj1 [] (by kernel_rfl) trivial ?_
      refine XL_nil ?_
      refine X_cond false rfl ?_
      refine X_skip ?_
      refine X_region ?_
      refine XL_run 2 [] [(1, .slice (some ⟨w.heap.size, 0, none⟩) 8 8), (2, .slice (some ⟨w_1.heap.size, 0, none⟩) 8 8), (3, .int .i64 0), (4, .iface 23 (.agg #[])), (26, .slice (some ⟨w.heap.size, 0, none⟩) 8 8), (27, .int .i64 8), (28, .int .i64 0), (54, .slice (some ⟨w.heap.size, 0, none⟩) 8 8), (55, .int .i64 8), (56, .int .i64 2)] wj1 [] (by kernel_rfl) trivial ?_
      refine XL_nil ?_
      refine ⟨2, by kernel_rfl, ?_, ?_⟩
      · exact ⟨by omega, HBj1⟩
      · decide
    · refine X_seq ?_
      refine X_region ?_
      refine XL_run 1 [] [(1, .slice (some ⟨w.heap.size, 0, none⟩) 8 8), (2, .slice (some ⟨w_1.heap.size, 0, none⟩) 8 8), (3, .int .i64 0), (4, .iface 23 (.agg #[])), (26, .slice (some ⟨w.heap.size, 0, none⟩) 8 8), (27, .int .i64 8), (28, .int .i64 0), (54, .slice (some ⟨w.heap.size, 0, none⟩) 8 8), (55, .int .i64 8), (56, .int .i64 2), (57, .bool true)] wj1 [] (by kernel_rfl) trivial ?_
      refine XL_nil ?_
      refine X_seq ?_
      refine X_cond true rfl ?_
      refine X_skip ?_
      refine X_seq ?_
      refine X_block ?_
      refine X_seq ?_
      refine X_region ?_
      refine XL_run 1 [] [(1, .slice (some ⟨w.heap.size, 0, none⟩) 8 8), (2, .slice (some ⟨w_1.heap.size, 0, none⟩) 8 8), (3, .int .i64 0), (4, .iface 23 (.agg #[])), (26, .slice (some ⟨w.heap.size, 0, none⟩) 8 8), (27, .int .i64 8), (28, .int .i64 0), (54, .slice (some ⟨w.heap.size, 0, none⟩) 8 8), (55, .int .i64 8), (56, .int .i64 2), (58, .int .i64 2)] wj1 [] (by kernel_rfl) trivial ?_
      have hB_20 : Below w_1.heap.size w_1 wj1 := (bt (bt (bt (bt (bt hb_7 HBi) hb_12) hb_15) hb_17) HBj1)
      refine XL_run 4 [(59, .idx ⟨w.heap.size, 0, none⟩), (60, .load (.iface 24 (.bool true)))] [(1, .slice (some ⟨w.heap.size, 0, none⟩) 8 8), (2, .slice (some ⟨w_1.heap.size, 0, none⟩) 8 8), (3, .int .i64 0), (4, .iface 23 (.agg #[])), (5, .int .i64 2), (6, .iface 24 (.bool true)), (26, .slice (some ⟨w.heap.size, 0, none⟩) 8 8), (27, .int .i64 8), (28, .int .i64 0), (54, .slice (some ⟨w.heap.size, 0, none⟩) 8 8), (55, .int .i64 8), (56, .int .i64 2)] wj1 [(some ⟨w.heap.size, 0, none⟩ : Option Addr) = some ⟨w.heap.size, 0, none⟩, (0 : Int) ≤ 2, (2 : Int) < (8 : Int), LoadsAs Try.prog 32 (⟨w.heap.size, 2, none⟩) (.iface 24 (.bool true)) wj1] (by kernel_rfl) ⟨rfl, (by decide), (by decide), loads1 rfl (Blk.cell (Blk.below hk_3 hB_20) 2 _ rfl), trivial⟩ ?_
      refine XL_nil ?_
      refine X_seq ?_
      refine X_region ?_
      refine XL_run 7 [] [(1, .slice (some ⟨w.heap.size, 0, none⟩) 8 8), (2, .slice (some ⟨w_1.heap.size, 0, none⟩) 8 8), (3, .int .i64 0), (4, .iface 23 (.agg #[])), (26, .slice (some ⟨w.heap.size, 0, none⟩) 8 8), (27, .int .i64 8), (28, .int .i64 0), (54, .slice (some ⟨w.heap.size, 0, none⟩) 8 8), (55, .int .i64 8), (56, .int .i64 2), (67, .bool false)] wj1 [] (by kernel_rfl) trivial ?_
      refine XL_nil ?_
      refine X_cond false rfl ?_
      refine X_skip ?_
      refine X_region ?_
      refine XL_run 2 [] [(1, .slice (some ⟨w.heap.size, 0, none⟩) 8 8), (2, .slice (some ⟨w_1.heap.size, 0, none⟩) 8 8), (3, .int .i64 0), (4, .iface 23 (.agg #[])), (26, .slice (some ⟨w.heap.size, 0, none⟩) 8 8), (27, .int .i64 8), (28, .int .i64 0), (54, .slice (some ⟨w.heap.size, 0, none⟩) 8 8), (55, .int .i64 8), (56, .int .i64 3)] wj1 [] (by kernel_rfl) trivial ?_
      refine XL_nil ?_
      refine ⟨3, by kernel_rfl, ?_, ?_⟩
      · exact ⟨by omega, HBj1⟩
      · decide
    · refine X_seq ?_
      refine X_region ?_
      refine XL_run 1 [] [(1, .slice (some ⟨w.heap.size, 0, none⟩) 8 8), (2, .slice (some ⟨w_1.heap.size, 0, none⟩) 8 8), (3, .int .i64 0), (4, .iface 23 (.agg #[])), (26, .slice (some ⟨w.heap.size, 0, none⟩) 8 8), (27, .int .i64 8), (28, .int .i64 0), (54, .slice (some ⟨w.heap.size, 0, none⟩) 8 8), (55, .int .i64 8), (56, .int .i64 3), (57, .bool true)] wj1 [] (by kernel_rfl) trivial ?_
      refine XL_nil ?_
      refine X_seq ?_
      refine X_cond true rfl ?_
      refine X_skip ?_
      refine X_seq ?_
      refine X_block ?_
      refine X_seq ?_
      refine X_region ?_
      refine XL_run 1 [] [(1, .slice (some ⟨w.heap.size, 0, none⟩) 8 8), (2, .slice (some ⟨w_1.heap.size, 0, none⟩) 8 8), (3, .int .i64 0), (4, .iface 23 (.agg #[])), (26, .slice (some ⟨w.heap.size, 0, none⟩) 8 8), (27, .int .i64 8), (28, .int .i64 0), (54, .slice (some ⟨w.heap.size, 0, none⟩) 8 8), (55, .int .i64 8), (56, .int .i64 3), (58, .int .i64 3)] wj1 [] (by kernel_rfl) trivial ?_
      have hB_21 : Below w_1.heap.size w_1 wj1 := (bt (bt (bt (bt (bt hb_7 HBi) hb_12) hb_15) hb_17) HBj1)
      refine XL_run 4 [(59, .idx ⟨w.heap.size, 0, none⟩), (60, .load (.iface 25 (.int .i64 0)))] [(1, .slice (some ⟨w.heap.size, 0, none⟩) 8 8), (2, .slice (some ⟨w_1.heap.size, 0, none⟩) 8 8), (3, .int .i64 0), (4, .iface 23 (.agg #[])), (5, .int .i64 3), (6, .iface 25 (.int .i64 0)), (26, .slice (some ⟨w.heap.size, 0, none⟩) 8 8), (27, .int .i64 8), (28, .int .i64 0), (54, .slice (some ⟨w.heap.size, 0, none⟩) 8 8), (55, .int .i64 8), (56, .int .i64 3)] wj1 [(some ⟨w.heap.size, 0, none⟩ : Option Addr) = some ⟨w.heap.size, 0, none⟩, (0 : Int) ≤ 3, (3 : Int) < (8 : Int), LoadsAs Try.prog 32 (⟨w.heap.size, 3, none⟩) (.iface 25 (.int .i64 0)) wj1] (by kernel_rfl) ⟨rfl, (by decide), (by decide), loads1 rfl (Blk.cell (Blk.below hk_3 hB_21) 3 _ rfl), trivial⟩ ?_
      refine XL_nil ?_
      refine X_seq ?_
      refine X_region ?_
      refine XL_run 7 [] [(1, .slice (some ⟨w.heap.size, 0, none⟩) 8 8), (2, .slice (some ⟨w_1.heap.size, 0, none⟩) 8 8), (3, .int .i64 0), (4, .iface 23 (.agg #[])), (26, .slice (some ⟨w.heap.size, 0, none⟩) 8 8), (27, .int .i64 8), (28, .int .i64 0), (54, .slice (some ⟨w.heap.size, 0, none⟩) 8 8), (55, .int .i64 8), (56, .int .i64 3), (67, .bool false)] wj1 [] (by kernel_rfl) trivial ?_
      refine XL_nil ?_
      refine X_cond false rfl ?_
      refine X_skip ?_
      refine X_region ?_
      refine XL_run 2 [] [(1, .slice (some ⟨w.heap.size, 0, none⟩) 8 8), (2, .slice (some ⟨w_1.heap.size, 0, none⟩) 8 8), (3, .int .i64 0), (4, .iface 23 (.agg #[])), (26, .slice (some ⟨w.heap.size, 0, none⟩) 8 8), (27, .int .i64 8), (28, .int .i64 0), (54, .slice (some ⟨w.heap.size, 0, none⟩) 8 8), (55, .int .i64 8), (56, .int .i64 4)] wj1 [] (by kernel_rfl) trivial ?_
      refine XL_nil ?_
      refine ⟨4, by kernel_rfl, ?_, ?_⟩
      · exact ⟨by omega, HBj1⟩
      · decide
    · refine X_seq ?_
      refine X_region ?_
      refine XL_run 1 [] [(1, .slice (some ⟨w.heap.size, 0, none⟩) 8 8), (2, .slice (some ⟨w_1.heap.size, 0, none⟩) 8 8), (3, .int .i64 0), (4, .iface 23 (.agg #[])), (26, .slice (some ⟨w.heap.size, 0, none⟩) 8 8), (27, .int .i64 8), (28, .int .i64 0), (54, .slice (some ⟨w.heap.size, 0, none⟩) 8 8), (55, .int .i64 8), (56, .int .i64 4), (57, .bool true)] wj1 [] (by kernel_rfl) trivial ?_
      refine XL_nil ?_
      refine X_seq ?_
      refine X_cond true rfl ?_
      refine X_skip ?_
      refine X_seq ?_
      refine X_block ?_
      refine X_seq ?_
      refine X_region ?_
      refine XL_run 1 [] [(1, .slice (some ⟨w.heap.size, 0, none⟩) 8 8), (2, .slice (some ⟨w_1.heap.size, 0, none⟩) 8 8), (3, .int .i64 0), (4, .iface 23 (.agg #[])), (26, .slice (some ⟨w.heap.size, 0, none⟩) 8 8), (27, .int .i64 8), (28, .int .i64 0), (54, .slice (some ⟨w.heap.size, 0, none⟩) 8 8), (55, .int .i64 8), (56, .int .i64 4), (58, .int .i64 4)] wj1 [] (by kernel_rfl) trivial ?_
      have hB_22 : Below w_1.heap.size w_1 wj1 := (bt (bt (bt (bt (bt hb_7 HBi) hb_12) hb_15) hb_17) HBj1)
      refine XL_run 4 [(59, .idx ⟨w.heap.size, 0, none⟩), (60, .load (.iface 25 (.int .i64 1)))] [(1, .slice (some ⟨w.heap.size, 0, none⟩) 8 8), (2, .slice (some ⟨w_1.heap.size, 0, none⟩) 8 8), (3, .int .i64 0), (4, .iface 23 (.agg #[])), (5, .int .i64 4), (6, .iface 25 (.int .i64 1)), (26, .slice (some ⟨w.heap.size, 0, none⟩) 8 8), (27, .int .i64 8), (28, .int .i64 0), (54, .slice (some ⟨w.heap.size, 0, none⟩) 8 8), (55, .int .i64 8), (56, .int .i64 4)] wj1 [(some ⟨w.heap.size, 0, none⟩ : Option Addr) = some ⟨w.heap.size, 0, none⟩, (0 : Int) ≤ 4, (4 : Int) < (8 : Int), LoadsAs Try.prog 32 (⟨w.heap.size, 4, none⟩) (.iface 25 (.int .i64 1)) wj1] (by kernel_rfl) ⟨rfl, (by decide), (by decide), loads1 rfl (Blk.cell (Blk.below hk_3 hB_22) 4 _ rfl), trivial⟩ ?_
      refine XL_nil ?_
      refine X_seq ?_
      refine X_region ?_
      refine XL_run 7 [] [(1, .slice (some ⟨w.heap.size, 0, none⟩) 8 8), (2, .slice (some ⟨w_1.heap.size, 0, none⟩) 8 8), (3, .int .i64 0), (4, .iface 23 (.agg #[])), (26, .slice (some ⟨w.heap.size, 0, none⟩) 8 8), (27, .int .i64 8), (28, .int .i64 0), (54, .slice (some ⟨w.heap.size, 0, none⟩) 8 8), (55, .int .i64 8), (56, .int .i64 4), (67, .bool false)] wj1 [] (by kernel_rfl) trivial ?_
      refine XL_nil ?_
      refine X_cond false rfl ?_
      refine X_skip ?_
      refine X_region ?_
      refine XL_run 2 [] [(1, .slice (some ⟨w.heap.size, 0, none⟩) 8 8), (2, .slice (some ⟨w_1.heap.size, 0, none⟩) 8 8), (3, .int .i64 0), (4, .iface 23 (.agg #[])), (26, .slice (some ⟨w.heap.size, 0, none⟩) 8 8), (27, .int .i64 8), (28, .int .i64 0), (54, .slice (some ⟨w.heap.size, 0, none⟩) 8 8), (55, .int .i64 8), (56, .int .i64 5)] wj1 [] (by kernel_rfl) trivial ?_
      refine XL_nil ?_
      refine ⟨5, by kernel_rfl, ?_, ?_⟩
      · exact ⟨by omega, HBj1⟩
      · decide
    · refine X_seq ?_
      refine X_region ?_
      refine XL_run 1 [] [(1, .slice (some ⟨w.heap.size, 0, none⟩) 8 8), (2, .slice (some ⟨w_1.heap.size, 0, none⟩) 8 8), (3, .int .i64 0), (4, .iface 23 (.agg #[])), (26, .slice (some ⟨w.heap.size, 0, none⟩) 8 8), (27, .int .i64 8), (28, .int .i64 0), (54, .slice (some ⟨w.heap.size, 0, none⟩) 8 8), (55, .int .i64 8), (56, .int .i64 5), (57, .bool true)] wj1 [] (by kernel_rfl) trivial ?_
      refine XL_nil ?_
      refine X_seq ?_
      refine X_cond true rfl ?_
      refine X_skip ?_
      refine X_seq ?_
      refine X_block ?_
      refine X_seq ?_
      refine X_region ?_
      refine XL_run 1 [] [(1, .slice (some ⟨w.heap.size, 0, none⟩) 8 8), (2, .slice (some ⟨w_1.heap.size, 0, none⟩) 8 8), (3, .int .i64 0), (4, .iface 23 (.agg #[])), (26, .slice (some ⟨w.heap.size, 0, none⟩) 8 8), (27, .int .i64 8), (28, .int .i64 0), (54, .slice (some ⟨w.heap.size, 0, none⟩) 8 8), (55, .int .i64 8), (56, .int .i64 5), (58, .int .i64 5)] wj1 [] (by kernel_rfl) trivial ?_
      have hB_23 : Below w_1.heap.size w_1 wj1 := (bt (bt (bt (bt (bt hb_7 HBi) hb_12) hb_15) hb_17) HBj1)
      refine XL_run 4 [(59, .idx ⟨w.heap.size, 0, none⟩), (60, .load (.iface 25 (.int .i64 (-5))))] [(1, .slice (some ⟨w.heap.size, 0, none⟩) 8 8), (2, .slice (some ⟨w_1.heap.size, 0, none⟩) 8 8), (3, .int .i64 0), (4, .iface 23 (.agg #[])), (5, .int .i64 5), (6, .iface 25 (.int .i64 (-5))), (26, .slice (some ⟨w.heap.size, 0, none⟩) 8 8), (27, .int .i64 8), (28, .int .i64 0), (54, .slice (some ⟨w.heap.size, 0, none⟩) 8 8), (55, .int .i64 8), (56, .int .i64 5)] wj1 [(some ⟨w.heap.size, 0, none⟩ : Option Addr) = some ⟨w.heap.size, 0, none⟩, (0 : Int) ≤ 5, (5 : Int) < (8 : Int), LoadsAs Try.prog 32 (⟨w.heap.size, 5, none⟩) (.iface 25 (.int .i64 (-5))) wj1] (by kernel_rfl) ⟨rfl, (by decide), (by decide), loads1 rfl (Blk.cell (Blk.below hk_3 hB_23) 5 _ rfl), trivial⟩ ?_
      refine XL_nil ?_
      refine X_seq ?_
      refine X_region ?_
      refine XL_run 7 [] [(1, .slice (some ⟨w.heap.size, 0, none⟩) 8 8), (2, .slice (some ⟨w_1.heap.size, 0, none⟩) 8 8), (3, .int .i64 0), (4, .iface 23 (.agg #[])), (26, .slice (some ⟨w.heap.size, 0, none⟩) 8 8), (27, .int .i64 8), (28, .int .i64 0), (54, .slice (some ⟨w.heap.size, 0, none⟩) 8 8), (55, .int .i64 8), (56, .int .i64 5), (67, .bool false)] wj1 [] (by kernel_rfl) trivial ?_
      refine XL_nil ?_
      refine X_cond false rfl ?_
      refine X_skip ?_
      refine X_region ?_
      refine XL_run 2 [] [(1, .slice (some ⟨w.heap.size, 0, none⟩) 8 8), (2, .slice (some ⟨w_1.heap.size, 0, none⟩) 8 8), (3, .int .i64 0), (4, .iface 23 (.agg #[])), (26, .slice (some ⟨w.heap.size, 0, none⟩) 8 8), (27, .int .i64 8), (28, .int .i64 0), (54, .slice (some ⟨w.heap.size, 0, none⟩) 8 8), (55, .int .i64 8), (56, .int .i64 6)] wj1 [] (by kernel_rfl) trivial ?_
      refine XL_nil ?_
      refine ⟨6, by kernel_rfl, ?_, ?_⟩
      · exact ⟨by omega, HBj1⟩
      · decide
    · refine X_seq ?_
      refine X_region ?_
      refine XL_run 1 [] [(1, .slice (some ⟨w.heap.size, 0, none⟩) 8 8), (2, .slice (some ⟨w_1.heap.size, 0, none⟩) 8 8), (3, .int .i64 0), (4, .iface 23 (.agg #[])), (26, .slice (some ⟨w.heap.size, 0, none⟩) 8 8), (27, .int .i64 8), (28, .int .i64 0), (54, .slice (some ⟨w.heap.size, 0, none⟩) 8 8), (55, .int .i64 8), (56, .int .i64 6), (57, .bool true)] wj1 [] (by kernel_rfl) trivial ?_
      refine XL_nil ?_
      refine X_seq ?_
      refine X_cond true rfl ?_
      refine X_skip ?_
      refine X_seq ?_
      refine X_block ?_
      refine X_seq ?_
      refine X_region ?_
      refine XL_run 1 [] [(1, .slice (some ⟨w.heap.size, 0, none⟩) 8 8), (2, .slice (some ⟨w_1.heap.size, 0, none⟩) 8 8), (3, .int .i64 0), (4, .iface 23 (.agg #[])), (26, .slice (some ⟨w.heap.size, 0, none⟩) 8 8), (27, .int .i64 8), (28, .int .i64 0), (54, .slice (some ⟨w.heap.size, 0, none⟩) 8 8), (55, .int .i64 8), (56, .int .i64 6), (58, .int .i64 6)] wj1 [] (by kernel_rfl) trivial ?_
      have hB_24 : Below w_1.heap.size w_1 wj1 := (bt (bt (bt (bt (bt hb_7 HBi) hb_12) hb_15) hb_17) HBj1)
      refine XL_run 4 [(59, .idx ⟨w.heap.size, 0, none⟩), (60, .load (.iface 26 (.string (⟨#[]⟩ : ByteArray))))] [(1, .slice (some ⟨w.heap.size, 0, none⟩) 8 8), (2, .slice (some ⟨w_1.heap.size, 0, none⟩) 8 8), (3, .int .i64 0), (4, .iface 23 (.agg #[])), (5, .int .i64 6), (6, .iface 26 (.string (⟨#[]⟩ : ByteArray))), (26, .slice (some ⟨w.heap.size, 0, none⟩) 8 8), (27, .int .i64 8), (28, .int .i64 0), (54, .slice (some ⟨w.heap.size, 0, none⟩) 8 8), (55, .int .i64 8), (56, .int .i64 6)] wj1 [(some ⟨w.heap.size, 0, none⟩ : Option Addr) = some ⟨w.heap.size, 0, none⟩, (0 : Int) ≤ 6, (6 : Int) < (8 : Int), LoadsAs Try.prog 32 (⟨w.heap.size, 6, none⟩) (.iface 26 (.string (⟨#[]⟩ : ByteArray))) wj1] (by kernel_rfl) ⟨rfl, (by decide), (by decide), loads1 rfl (Blk.cell (Blk.below hk_3 hB_24) 6 _ rfl), trivial⟩ ?_
      refine XL_nil ?_
      refine X_seq ?_
      refine X_region ?_
      refine XL_run 7 [] [(1, .slice (some ⟨w.heap.size, 0, none⟩) 8 8), (2, .slice (some ⟨w_1.heap.size, 0, none⟩) 8 8), (3, .int .i64 0), (4, .iface 23 (.agg #[])), (26, .slice (some ⟨w.heap.size, 0, none⟩) 8 8), (27, .int .i64 8), (28, .int .i64 0), (54, .slice (some ⟨w.heap.size, 0, none⟩) 8 8), (55, .int .i64 8), (56, .int .i64 6), (67, .bool false)] wj1 [] (by kernel_rfl) trivial ?_
      refine XL_nil ?_
      refine X_cond false rfl ?_
      refine X_skip ?_
      refine X_region ?_
      refine XL_run 2 [] [(1, .slice (some ⟨w.heap.size, 0, none⟩) 8 8), (2, .slice (some ⟨w_1.heap.size, 0, none⟩) 8 8), (3, .int .i64 0), (4, .iface 23 (.agg #[])), (26, .slice (some ⟨w.heap.size, 0, none⟩) 8 8), (27, .int .i64 8), (28, .int .i64 0), (54, .slice (some ⟨w.heap.size, 0, none⟩) 8 8), (55, .int .i64 8), (56, .int .i64 7)] wj1 [] (by kernel_rfl) trivial ?_
      refine XL_nil ?_
      refine ⟨7, by kernel_rfl, ?_, ?_⟩
      · exact ⟨by omega, HBj1⟩
      · decide
    · refine X_seq ?_
      refine X_region ?_
      refine XL_run 1 [] [(1, .slice (some ⟨w.heap.size, 0, none⟩) 8 8), (2, .slice (some ⟨w_1.heap.size, 0, none⟩) 8 8), (3, .int .i64 0), (4, .iface 23 (.agg #[])), (26, .slice (some ⟨w.heap.size, 0, none⟩) 8 8), (27, .int .i64 8), (28, .int .i64 0), (54, .slice (some ⟨w.heap.size, 0, none⟩) 8 8), (55, .int .i64 8), (56, .int .i64 7), (57, .bool true)] wj1 [] (by kernel_rfl) trivial ?_
      refine XL_nil ?_
      refine X_seq ?_
      refine X_cond true rfl ?_
      refine X_skip ?_
      refine X_seq ?_
      refine X_block ?_
      refine X_seq ?_
      refine X_region ?_
      refine XL_run 1 [] [(1, .slice (some ⟨w.heap.size, 0, none⟩) 8 8), (2, .slice (some ⟨w_1.heap.size, 0, none⟩) 8 8), (3, .int .i64 0), (4, .iface 23 (.agg #[])), (26, .slice (some ⟨w.heap.size, 0, none⟩) 8 8), (27, .int .i64 8), (28, .int .i64 0), (54, .slice (some ⟨w.heap.size, 0, none⟩) 8 8), (55, .int .i64 8), (56, .int .i64 7), (58, .int .i64 7)] wj1 [] (by kernel_rfl) trivial ?_
      have hB_25 : Below w_1.heap.size w_1 wj1 := (bt (bt (bt (bt (bt hb_7 HBi) hb_12) hb_15) hb_17) HBj1)
      refine XL_run 4 [(59, .idx ⟨w.heap.size, 0, none⟩), (60, .load (.iface 26 (.string (⟨#[97]⟩ : ByteArray))))] [(1, .slice (some ⟨w.heap.size, 0, none⟩) 8 8), (2, .slice (some ⟨w_1.heap.size, 0, none⟩) 8 8), (3, .int .i64 0), (4, .iface 23 (.agg #[])), (5, .int .i64 7), (6, .iface 26 (.string (⟨#[97]⟩ : ByteArray))), (26, .slice (some ⟨w.heap.size, 0, none⟩) 8 8), (27, .int .i64 8), (28, .int .i64 0), (54, .slice (some ⟨w.heap.size, 0, none⟩) 8 8), (55, .int .i64 8), (56, .int .i64 7)] wj1 [(some ⟨w.heap.size, 0, none⟩ : Option Addr) = some ⟨w.heap.size, 0, none⟩, (0 : Int) ≤ 7, (7 : Int) < (8 : Int), LoadsAs Try.prog 32 (⟨w.heap.size, 7, none⟩) (.iface 26 (.string (⟨#[97]⟩ : ByteArray))) wj1] (by kernel_rfl) ⟨rfl, (by decide), (by decide), loads1 rfl (Blk.cell (Blk.below hk_3 hB_25) 7 _ rfl), trivial⟩ ?_
      refine XL_nil ?_
      refine X_seq ?_
      refine X_region ?_
      refine XL_run 7 [] [(1, .slice (some ⟨w.heap.size, 0, none⟩) 8 8), (2, .slice (some ⟨w_1.heap.size, 0, none⟩) 8 8), (3, .int .i64 0), (4, .iface 23 (.agg #[])), (26, .slice (some ⟨w.heap.size, 0, none⟩) 8 8), (27, .int .i64 8), (28, .int .i64 0), (54, .slice (some ⟨w.heap.size, 0, none⟩) 8 8), (55, .int .i64 8), (56, .int .i64 7), (67, .bool false)] wj1 [] (by kernel_rfl) trivial ?_
      refine XL_nil ?_
      refine X_cond false rfl ?_
      refine X_skip ?_
      refine X_region ?_
      refine XL_run 2 [] [(1, .slice (some ⟨w.heap.size, 0, none⟩) 8 8), (2, .slice (some ⟨w_1.heap.size, 0, none⟩) 8 8), (3, .int .i64 0), (4, .iface 23 (.agg #[])), (26, .slice (some ⟨w.heap.size, 0, none⟩) 8 8), (27, .int .i64 8), (28, .int .i64 0), (54, .slice (some ⟨w.heap.size, 0, none⟩) 8 8), (55, .int .i64 8), (56, .int .i64 8)] wj1 [] (by kernel_rfl) trivial ?_
      refine XL_nil ?_
      refine ⟨8, by kernel_rfl, ?_, ?_⟩
      · exact ⟨by omega, HBj1⟩
      · decide
    · refine X_seq ?_
      refine X_region ?_
      refine XL_run 1 [] [(1, .slice (some ⟨w.heap.size, 0, none⟩) 8 8), (2, .slice (some ⟨w_1.heap.size, 0, none⟩) 8 8), (3, .int .i64 0), (4, .iface 23 (.agg #[])), (26, .slice (some ⟨w.heap.size, 0, none⟩) 8 8), (27, .int .i64 8), (28, .int .i64 0), (54, .slice (some ⟨w.heap.size, 0, none⟩) 8 8), (55, .int .i64 8), (56, .int .i64 8), (57, .bool false)] wj1 [] (by kernel_rfl) trivial ?_
      refine XL_nil ?_
      refine X_seq ?_
      refine X_cond false rfl ?_
      refine X_exit ?_
      refine X_region ?_
      refine XL_run 2 [] [(1, .slice (some ⟨w.heap.size, 0, none⟩) 8 8), (2, .slice (some ⟨w_1.heap.size, 0, none⟩) 8 8), (26, .slice (some ⟨w.heap.size, 0, none⟩) 8 8), (27, .int .i64 8), (28, .int .i64 1)] wj1 [] (by kernel_rfl) trivial ?_
      refine XL_nil ?_
      have hB_26 : Below w_6.heap.size w_6 wj1 := (bt (bt (bt (bt HBi hb_12) hb_15) hb_17) HBj1)
      refine ⟨1, by kernel_rfl, ?_, ?_⟩
      · exact ⟨by omega, hB_26⟩
      · decide
  · refine X_seq ?_
    refine X_region ?_
    refine XL_run 1 [] [(1, .slice (some ⟨w.heap.size, 0, none⟩) 8 8), (2, .slice (some ⟨w_1.heap.size, 0, none⟩) 8 8), (26, .slice (some ⟨w.heap.size, 0, none⟩) 8 8), (27, .int .i64 8), (28, .int .i64 1), (29, .bool true)] wi [] (by kernel_rfl) trivial ?_
    refine XL_nil ?_
    refine X_seq ?_
    refine X_cond true rfl ?_
    refine X_skip ?_
    refine X_seq ?_
    refine X_block ?_
    refine X_seq ?_
    refine X_region ?_
    refine XL_run 1 [] [(1, .slice (some ⟨w.heap.size, 0, none⟩) 8 8), (2, .slice (some ⟨w_1.heap.size, 0, none⟩) 8 8), (26, .slice (some ⟨w.heap.size, 0, none⟩) 8 8), (27, .int .i64 8), (28, .int .i64 1), (30, .int .i64 1)] wi [] (by kernel_rfl) trivial ?_
    refine XL_run 4 [(31, .idx ⟨w.heap.size, 0, none⟩), (32, .load (.iface 24 (.bool false)))] [(1, .slice (some ⟨w.heap.size, 0, none⟩) 8 8), (2, .slice (some ⟨w_1.heap.size, 0, none⟩) 8 8), (3, .int .i64 1), (4, .iface 24 (.bool false)), (26, .slice (some ⟨w.heap.size, 0, none⟩) 8 8), (27, .int .i64 8), (28, .int .i64 1)] wi [(some ⟨w.heap.size, 0, none⟩ : Option Addr) = some ⟨w.heap.size, 0, none⟩, (0 : Int) ≤ 1, (1 : Int) < (8 : Int), LoadsAs Try.prog 32 (⟨w.heap.size, 1, none⟩) (.iface 24 (.bool false)) wi] (by kernel_rfl) ⟨rfl, (by decide), (by decide), loads1 rfl (Blk.cell (Blk.below hk_3 (bt hb_7 HBi)) 1 _ rfl), trivial⟩ ?_
    refine XL_nil ?_
    refine X_seq ?_
    refine X_seq ?_
    refine X_grow [] 21 #[false, false, false, false, false, false, false, false, false, false, false, false, false, false, false, false, false, false, false, false, false] (by kernel_rfl) (by kernel_rfl) (by kernel_rfl) (fun wd_27 hb_28 hh_29 => ?_)
    refine XB_run (fuel' := 15) (Below.refl _ _) [0, 1, 2, 3, 5, 6] [] [.iface 24 (.bool false), .bool false, .bool false, .iface 24 (.bool false), .slice (some ⟨w_1.heap.size, 0, none⟩) 8 8, .int .i64 1] #[true, true, true, true, false, true, true, false, false, false, false, false, false, false, false, false, false, false, false, false, false] [(1, .slice (some ⟨w.heap.size, 0, none⟩) 8 8), (2, .slice (some ⟨w_1.heap.size, 0, none⟩) 8 8), (3, .int .i64 1), (4, .iface 24 (.bool false)), (26, .slice (some ⟨w.heap.size, 0, none⟩) 8 8), (27, .int .i64 8), (28, .int .i64 1), (35, .bool false), (36, .iface 24 (.bool false)), (38, .slice (some ⟨w_1.heap.size, 0, none⟩) 8 8), (39, .int .i64 1)] (fun w_ => []) (fun _ _ _ _ h => h) (fun w_ => by kernel_rfl) rfl (fun w_ hC_ => trivial) ?_
    refine XB_run (fuel' := 12) (Below.refl _ _) [7, 8, 9] [(40, .idx ⟨w_1.heap.size, 0, none⟩), (42, .load (.int .i64 1))] [.pointer (some ⟨w_1.heap.size, 3, none⟩), .pointer (some ⟨w_1.heap.size, 3, none⟩), .int .i64 1] #[true, true, true, true, false, true, true, true, true, true, false, false, false, false, false, false, false, false, false, false, false] [(1, .slice (some ⟨w.heap.size, 0, none⟩) 8 8), (2, .slice (some ⟨w_1.heap.size, 0, none⟩) 8 8), (3, .int .i64 1), (4, .iface 24 (.bool false)), (26, .slice (some ⟨w.heap.size, 0, none⟩) 8 8), (27, .int .i64 8), (28, .int .i64 1), (35, .bool false), (36, .iface 24 (.bool false)), (42, .int .i64 1)] (fun w_ => [(some ⟨w_1.heap.size, 0, none⟩ : Option Addr) = some ⟨w_1.heap.size, 0, none⟩, (0 : Int) ≤ 1, (1 : Int) < (8 : Int), LoadsAs Try.prog 3 (⟨w_1.heap.size, 3, none⟩) (.int .i64 1) w_]) (fun _ _ _ _ h => h) (fun w_ => by kernel_rfl) rfl (fun w_ hC_ => ⟨rfl, (by decide), (by decide), loads1 rfl (Blk.cell (Blk.below hk_8 (bt (bt HBi hb_28) hC_)) 3 _ rfl), trivial⟩) ?_
    refine XB_mid (fuel' := 11) 4 #[true, true, true, true, true, true, true, true, true, true, false, false, false, false, false, false, false, false, false, false, false] _ rfl (by kernel_rfl) (by kernel_rfl) rfl ?_
    refine XL_inv 22 #[.bool false] rfl rfl (by kernel_rfl) (by kernel_rfl) (flag_kind false _) ?_
    rintro e w_30 ⟨rfl, hb_31⟩; refine ⟨_, rfl, ?_⟩
    refine XL_nil ?_
    refine ⟨hb_31, ?_⟩
    refine XB_run (fuel' := 5) hb_31 [10, 11, 12, 13, 15, 16] [] [.bool false, .bool false, .bool false, .iface 24 (.bool false), .slice (some ⟨w_1.heap.size, 0, none⟩) 8 8, .int .i64 1] #[true, true, true, true, true, true, true, true, true, true, true, true, true, true, false, true, true, false, false, false, false] [(1, .slice (some ⟨w.heap.size, 0, none⟩) 8 8), (2, .slice (some ⟨w_1.heap.size, 0, none⟩) 8 8), (3, .int .i64 1), (4, .iface 24 (.bool false)), (26, .slice (some ⟨w.heap.size, 0, none⟩) 8 8), (27, .int .i64 8), (28, .int .i64 1), (45, .bool false), (46, .iface 24 (.bool false)), (48, .slice (some ⟨w_1.heap.size, 0, none⟩) 8 8), (49, .int .i64 1)] (fun w_ => []) (fun _ _ _ _ h => h) (fun w_ => by kernel_rfl) rfl (fun w_ hC_ => trivial) ?_
    refine XB_run (fuel' := 3) hb_31 [17, 18] [(50, .idx ⟨w_1.heap.size, 0, none⟩), (51, .load (.agg #[.int .i64 1, .int .i64 0, .string ByteArray.empty]))] [.pointer (some ⟨w_1.heap.size, 3, none⟩), .agg #[.int .i64 1, .int .i64 0, .string ByteArray.empty]] #[true, true, true, true, true, true, true, true, true, true, true, true, true, true, false, true, true, true, true, false, false] [(1, .slice (some ⟨w.heap.size, 0, none⟩) 8 8), (2, .slice (some ⟨w_1.heap.size, 0, none⟩) 8 8), (3, .int .i64 1), (4, .iface 24 (.bool false)), (26, .slice (some ⟨w.heap.size, 0, none⟩) 8 8), (27, .int .i64 8), (28, .int .i64 1), (45, .bool false), (46, .iface 24 (.bool false)), (51, .agg #[.int .i64 1, .int .i64 0, .string ByteArray.empty])] (fun w_ => [(some ⟨w_1.heap.size, 0, none⟩ : Option Addr) = some ⟨w_1.heap.size, 0, none⟩, (0 : Int) ≤ 1, (1 : Int) < (8 : Int), LoadsAs Try.prog 29 (⟨w_1.heap.size, 3, none⟩) (.agg #[.int .i64 1, .int .i64 0, .string ByteArray.empty]) w_]) (fun _ _ _ _ h => h) (fun w_ => by kernel_rfl) rfl (fun w_ hC_ => ⟨rfl, (by decide), (by decide), loadsB rfl rfl (Blk.below hk_8 (bt (bt HBi hb_28) hC_)) 3 ⟨by kernel_rfl, by kernel_rfl⟩, trivial⟩) ?_
    refine XB_mid (fuel' := 2) 14 #[true, true, true, true, true, true, true, true, true, true, true, true, true, true, true, true, true, true, true, false, false] _ rfl (by kernel_rfl) (by kernel_rfl) rfl ?_
    refine XL_inv 23 #[.bool false] rfl rfl (by kernel_rfl) (by kernel_rfl) (flag_plainF _) ?_
    rintro e w_32 ⟨rfl, hb_33⟩; refine ⟨_, rfl, ?_⟩
    refine XL_nil ?_
    refine ⟨(bt hb_31 hb_33), ?_⟩
    refine XB_run (fuel' := 0) (bt hb_31 hb_33) [19, 20] [] [.bool false, .bool false] #[true, true, true, true, true, true, true, true, true, true, true, true, true, true, true, true, true, true, true, true, true] [(1, .slice (some ⟨w.heap.size, 0, none⟩) 8 8), (2, .slice (some ⟨w_1.heap.size, 0, none⟩) 8 8), (3, .int .i64 1), (4, .iface 24 (.bool false)), (26, .slice (some ⟨w.heap.size, 0, none⟩) 8 8), (27, .int .i64 8), (28, .int .i64 1), (53, .bool false)] (fun w_ => []) (fun _ _ _ _ h => h) (fun w_ => by kernel_rfl) rfl (fun w_ hC_ => trivial) ?_
    refine XB_done (by kernel_rfl) ?_
    refine X_cond false rfl ?_
    refine X_skip ?_
    refine X_seq ?_
    refine X_region ?_
    refine XL_run 3 [] [(1, .slice (some ⟨w.heap.size, 0, none⟩) 8 8), (2, .slice (some ⟨w_1.heap.size, 0, none⟩) 8 8), (3, .int .i64 1), (4, .iface 24 (.bool false)), (26, .slice (some ⟨w.heap.size, 0, none⟩) 8 8), (27, .int .i64 8), (28, .int .i64 1), (54, .slice (some ⟨w.heap.size, 0, none⟩) 8 8), (55, .int .i64 8), (56, .int .i64 0)] w_32 [] (by kernel_rfl) trivial ?_
    refine XL_nil ?_
    refine X_block ?_
    refine X_loop (ι := Nat) (fun j2 => [(1, .slice (some ⟨w.heap.size, 0, none⟩) 8 8), (2, .slice (some ⟨w_1.heap.size, 0, none⟩) 8 8), (3, .int .i64 1), (4, .iface 24 (.bool false)), (26, .slice (some ⟨w.heap.size, 0, none⟩) 8 8), (27, .int .i64 8), (28, .int .i64 1), (54, .slice (some ⟨w.heap.size, 0, none⟩) 8 8), (55, .int .i64 8), (56, .int .i64 (j2 : Int))]) (fun j2 wj2 => j2 ≤ 8 ∧ Below w_32.heap.size w_32 wj2) (fun j2 => 8 - j2) 0 ⟨by omega, Below.refl _ _⟩ (by kernel_rfl) ?_
    rintro j2 wj2 ⟨hj2, HBj2⟩
    obtain rfl | rfl | rfl | rfl | rfl | rfl | rfl | rfl | rfl : j2 = 0 ∨ j2 = 1 ∨ j2 = 2 ∨ j2 = 3 ∨ j2 = 4 ∨ j2 = 5 ∨ j2 = 6 ∨ j2 = 7 ∨ j2 = 8 := by omega
    · refine X_seq ?_
      refine X_region ?_
      refine XL_run 1 [] [(1, .slice (some ⟨w.heap.size, 0, none⟩) 8 8), (2, .slice (some ⟨w_1.heap.size, 0, none⟩) 8 8), (3, .int .i64 1), (4, .iface 24 (.bool false)), (26, .slice (some ⟨w.heap.size, 0, none⟩) 8 8), (27, .int .i64 8), (28, .int .i64 1), (54, .slice (some ⟨w.heap.size, 0, none⟩) 8 8), (55, .int .i64 8), (56, .int .i64 0), (57, .bool true)] wj2 [] (by kernel_rfl) trivial ?_
      refine XL_nil ?_
      refine X_seq ?_
      refine X_cond true rfl ?_
      refine X_skip ?_
      refine X_seq ?_
      refine X_block ?_
      refine X_seq ?_
      refine X_region ?_
      refine XL_run 1 [] [(1, .slice (some ⟨w.heap.size, 0, none⟩) 8 8), (2, .slice (some ⟨w_1.heap.size, 0, none⟩) 8 8), (3, .int .i64 1), (4, .iface 24 (.bool false)), (26, .slice (some ⟨w.heap.size, 0, none⟩) 8 8), (27, .int .i64 8), (28, .int .i64 1), (54, .slice (some ⟨w.heap.size, 0, none⟩) 8 8), (55, .int .i64 8), (56, .int .i64 0), (58, .int .i64 0)] wj2 [] (by kernel_rfl) trivial ?_
      have hB_34 : Below w_1.heap.size w_1 wj2 := (bt (bt (bt (bt (bt hb_7 HBi) hb_28) hb_31) hb_33) HBj2)
      refine XL_run 4 [(59, .idx ⟨w.heap.size, 0, none⟩), (60, .load (.iface 23 (.agg #[])))] [(1, .slice (some ⟨w.heap.size, 0, none⟩) 8 8), (2, .slice (some ⟨w_1.heap.size, 0, none⟩) 8 8), (3, .int .i64 1), (4, .iface 24 (.bool false)), (5, .int .i64 0), (6, .iface 23 (.agg #[])), (26, .slice (some ⟨w.heap.size, 0, none⟩) 8 8), (27, .int .i64 8), (28, .int .i64 1), (54, .slice (some ⟨w.heap.size, 0, none⟩) 8 8), (55, .int .i64 8), (56, .int .i64 0)] wj2 [(some ⟨w.heap.size, 0, none⟩ : Option Addr) = some ⟨w.heap.size, 0, none⟩, (0 : Int) ≤ 0, (0 : Int) < (8 : Int), LoadsAs Try.prog 32 (⟨w.heap.size, 0, none⟩) (.iface 23 (.agg #[])) wj2] (by kernel_rfl) ⟨rfl, (by decide), (by decide), loads1 rfl (Blk.cell (Blk.below hk_3 hB_34) 0 _ rfl), trivial⟩ ?_
      refine XL_nil ?_
      refine X_seq ?_
      refine X_region ?_
      refine XL_run 7 [] [(1, .slice (some ⟨w.heap.size, 0, none⟩) 8 8), (2, .slice (some ⟨w_1.heap.size, 0, none⟩) 8 8), (3, .int .i64 1), (4, .iface 24 (.bool false)), (26, .slice (some ⟨w.heap.size, 0, none⟩) 8 8), (27, .int .i64 8), (28, .int .i64 1), (54, .slice (some ⟨w.heap.size, 0, none⟩) 8 8), (55, .int .i64 8), (56, .int .i64 0), (67, .bool false)] wj2 [] (by kernel_rfl) trivial ?_
      refine XL_nil ?_
      refine X_cond false rfl ?_
      refine X_skip ?_
      refine X_region ?_
      refine XL_run 2 [] [(1, .slice (some ⟨w.heap.size, 0, none⟩) 8 8), (2, .slice (some ⟨w_1.heap.size, 0, none⟩) 8 8), (3, .int .i64 1), (4, .iface 24 (.bool false)), (26, .slice (some ⟨w.heap.size, 0, none⟩) 8 8), (27, .int .i64 8), (28, .int .i64 1), (54, .slice (some ⟨w.heap.size, 0, none⟩) 8 8), (55, .int .i64 8), (56, .int .i64 1)] wj2 [] (by kernel_rfl) trivial ?_
      refine XL_nil ?_
      refine ⟨1, by kernel_rfl, ?_, ?_⟩
      · exact ⟨by omega, HBj2⟩
      · decide
    · refine X_seq ?_
      refine X_region ?_
      refine XL_run 1 [] [(1, .slice (some ⟨w.heap.size, 0, none⟩) 8 8), (2, .slice (some ⟨w_1.heap.size, 0, none⟩) 8 8), (3, .int .i64 1), (4, .iface 24 (.bool false)), (26, .slice (some ⟨w.heap.size, 0, none⟩) 8 8), (27, .int .i64 8), (28, .int .i64 1), (54, .slice (some ⟨w.heap.size, 0, none⟩) 8 8), (55, .int .i64 8), (56, .int .i64 1), (57, .bool true)] wj2 [] (by kernel_rfl) trivial ?_
      refine XL_nil ?_
      refine X_seq ?_
      refine X_cond true rfl ?_
      refine X_skip ?_
      refine X_seq ?_
      refine X_block ?_
      refine X_seq ?_
      refine X_region ?_
      refine XL_run 1 [] [(1, .slice (some ⟨w.heap.size, 0, none⟩) 8 8), (2, .slice (some ⟨w_1.heap.size, 0, none⟩) 8 8), (3, .int .i64 1), (4, .iface 24 (.bool false)), (26, .slice (some ⟨w.heap.size, 0, none⟩) 8 8), (27, .int .i64 8), (28, .int .i64 1), (54, .slice (some ⟨w.heap.size, 0, none⟩) 8 8), (55, .int .i64 8), (56, .int .i64 1), (58, .int .i64 1)] wj2 [] (by kernel_rfl) trivial ?_
      have hB_35 : Below w_1.heap.size w_1 wj2 := (bt (bt (bt (bt (bt hb_7 HBi) hb_28) hb_31) hb_33) HBj2)
      refine XL_run 4 [(59, .idx ⟨w.heap.size, 0, none⟩), (60, .load (.iface 24 (.bool false)))] [(1, .slice (some ⟨w.heap.size, 0, none⟩) 8 8), (2, .slice (some ⟨w_1.heap.size, 0, none⟩) 8 8), (3, .int .i64 1), (4, .iface 24 (.bool false)), (5, .int .i64 1), (6, .iface 24 (.bool false)), (26, .slice (some ⟨w.heap.size, 0, none⟩) 8 8), (27, .int .i64 8), (28, .int .i64 1), (54, .slice (some ⟨w.heap.size, 0, none⟩) 8 8), (55, .int .i64 8), (56, .int .i64 1)] wj2 [(some ⟨w.heap.size, 0, none⟩ : Option Addr) = some ⟨w.heap.size, 0, none⟩, (0 : Int) ≤ 1, (1 : Int) < (8 : Int), LoadsAs Try.prog 32 (⟨w.heap.size, 1, none⟩) (.iface 24 (.bool false)) wj2] (by kernel_rfl) ⟨rfl, (by decide), (by decide), loads1 rfl (Blk.cell (Blk.below hk_3 hB_35) 1 _ rfl), trivial⟩ ?_
      refine XL_nil ?_
      refine X_seq ?_
      refine X_region ?_
      refine XL_run 7 [] [(1, .slice (some ⟨w.heap.size, 0, none⟩) 8 8), (2, .slice (some ⟨w_1.heap.size, 0, none⟩) 8 8), (3, .int .i64 1), (4, .iface 24 (.bool false)), (26, .slice (some ⟨w.heap.size, 0, none⟩) 8 8), (27, .int .i64 8), (28, .int .i64 1), (54, .slice (some ⟨w.heap.size, 0, none⟩) 8 8), (55, .int .i64 8), (56, .int .i64 1), (67, .bool false)] wj2 [] (by kernel_rfl) trivial ?_
      refine XL_nil ?_
      refine X_cond false rfl ?_
      refine X_skip ?_
      refine X_region ?_
      refine XL_run 2 [] [(1, .slice (some ⟨w.heap.size, 0, none⟩) 8 8), (2, .slice (some ⟨w_1.heap.size, 0, none⟩) 8 8), (3, .int .i64 1), (4, .iface 24 (.bool false)), (26, .slice (some ⟨w.heap.size, 0, none⟩) 8 8), (27, .int .i64 8), (28, .int .i64 1), (54, .slice (some ⟨w.heap.size, 0, none⟩) 8 8), (55, .int .i64 8), (56, .int .i64 2)] wj2 [] (by kernel_rfl) trivial ?_
      refine XL_nil ?_
      refine ⟨2, by kernel_rfl, ?_, ?_⟩
      · exact ⟨by omega, HBj2⟩
      · decide
    · refine X_seq ?_
      refine X_region ?_
      refine XL_run 1 [] [(1, .slice (some ⟨w.heap.size, 0, none⟩) 8 8), (2, .slice (some ⟨w_1.heap.size, 0, none⟩) 8 8), (3, .int .i64 1), (4, .iface 24 (.bool false)), (26, .slice (some ⟨w.heap.size, 0, none⟩) 8 8), (27, .int .i64 8), (28, .int .i64 1), (54, .slice (some ⟨w.heap.size, 0, none⟩) 8 8), (55, .int .i64 8), (56, .int .i64 2), (57, .bool true)] wj2 [] (by kernel_rfl) trivial ?_
      refine XL_nil ?_
      refine X_seq ?_
      refine X_cond true rfl ?_
      refine X_skip ?_
      refine X_seq ?_
      refine X_block ?_
      refine X_seq ?_
      refine X_region ?_
      refine XL_run 1 [] [(1, .slice (some ⟨w.heap.size, 0, none⟩) 8 8), (2, .slice (some ⟨w_1.heap.size, 0, none⟩) 8 8), (3, .int .i64 1), (4, .iface 24 (.bool false)), (26, .slice (some ⟨w.heap.size, 0, none⟩) 8 8), (27, .int .i64 8), (28, .int .i64 1), (54, .slice (some ⟨w.heap.size, 0, none⟩) 8 8), (55, .int .i64 8), (56, .int .i64 2), (58, .int .i64 2)] wj2 [] (by kernel_rfl) trivial ?_
      have hB_36 : Below w_1.heap.size w_1 wj2 := (bt (bt (bt (bt (bt hb_7 HBi) hb_28) hb_31) hb_33) HBj2)
      refine XL_run 4 [(59, .idx ⟨w.heap.size, 0, none⟩), (60, .load (.iface 24 (.bool true)))] [(1, .slice (some ⟨w.heap.size, 0, none⟩) 8 8), (2, .slice (some ⟨w_1.heap.size, 0, none⟩) 8 8), (3, .int .i64 1), (4, .iface 24 (.bool false)), (5, .int .i64 2), (6, .iface 24 (.bool true)), (26, .slice (some ⟨w.heap.size, 0, none⟩) 8 8), (27, .int .i64 8), (28, .int .i64 1), (54, .slice (some ⟨w.heap.size, 0, none⟩) 8 8), (55, .int .i64 8), (56, .int .i64 2)] wj2 [(some ⟨w.heap.size, 0, none⟩ : Option Addr) = some ⟨w.heap.size, 0, none⟩, (0 : Int) ≤ 2, (2 : Int) < (8 : Int), LoadsAs Try.prog 32 (⟨w.heap.size, 2, none⟩) (.iface 24 (.bool true)) wj2] (by kernel_rfl) ⟨rfl, (by decide), (by decide), loads1 rfl (Blk.cell (Blk.below hk_3 hB_36) 2 _ rfl), trivial⟩ ?_
      refine XL_nil ?_
      refine X_seq ?_
      refine X_region ?_
      refine XL_run 7 [] [(1, .slice (some ⟨w.heap.size, 0, none⟩) 8 8), (2, .slice (some ⟨w_1.heap.size, 0, none⟩) 8 8), (3, .int .i64 1), (4, .iface 24 (.bool false)), (26, .slice (some ⟨w.heap.size, 0, none⟩) 8 8), (27, .int .i64 8), (28, .int .i64 1), (54, .slice (some ⟨w.heap.size, 0, none⟩) 8 8), (55, .int .i64 8), (56, .int .i64 2), (67, .bool false)] wj2 [] (by kernel_rfl) trivial ?_
      refine XL_nil ?_
      refine X_cond false rfl ?_
      refine X_skip ?_
      refine X_region ?_
      refine XL_run 2 [] [(1, .slice (some ⟨w.heap.size, 0, none⟩) 8 8), (2, .slice (some ⟨w_1.heap.size, 0, none⟩) 8 8), (3, .int .i64 1), (4, .iface 24 (.bool false)), (26, .slice (some ⟨w.heap.size, 0, none⟩) 8 8), (27, .int .i64 8), (28, .int .i64 1), (54, .slice (some ⟨w.heap.size, 0, none⟩) 8 8), (55, .int .i64 8), (56, .int .i64 3)] wj2 [] (by kernel_rfl) trivial ?_
      refine XL_nil ?_
      refine ⟨3, by kernel_rfl, ?_, ?_⟩
      · exact ⟨by omega, HBj2⟩
      · decide
    · refine X_seq ?_
      refine X_region ?_
      refine XL_run 1 [] [(1, .slice (some ⟨w.heap.size, 0, none⟩) 8 8), (2, .slice (some ⟨w_1.heap.size, 0, none⟩) 8 8), (3, .int .i64 1), (4, .iface 24 (.bool false)), (26, .slice (some ⟨w.heap.size, 0, none⟩) 8 8), (27, .int .i64 8), (28, .int .i64 1), (54, .slice (some ⟨w.heap.size, 0, none⟩) 8 8), (55, .int .i64 8), (56, .int .i64 3), (57, .bool true)] wj2 [] (by kernel_rfl) trivial ?_
      refine XL_nil ?_
      refine X_seq ?_
      refine X_cond true rfl ?_
      refine X_skip ?_
      refine X_seq ?_
      refine X_block ?_
      refine X_seq ?_
      refine X_region ?_
      refine XL_run 1 [] [(1, .slice (some ⟨w.heap.size, 0, none⟩) 8 8), (2, .slice (some ⟨w_1.heap.size, 0, none⟩) 8 8), (3, .int .i64 1), (4, .iface 24 (.bool false)), (26, .slice (some ⟨w.heap.size, 0, none⟩) 8 8), (27, .int .i64 8), (28, .int .i64 1), (54, .slice (some ⟨w.heap.size, 0, none⟩) 8 8), (55, .int .i64 8), (56, .int .i64 3), (58, .int .i64 3)] wj2 [] (by kernel_rfl) trivial ?_
      have hB_37 : Below w_1.heap.size w_1 wj2 := (bt (bt (bt (bt (bt hb_7 HBi) hb_28) hb_31) hb_33) HBj2)
      refine XL_run 4 [(59, .idx ⟨w.heap.size, 0, none⟩), (60, .load (.iface 25 (.int .i64 0)))] [(1, .slice (some ⟨w.heap.size, 0, none⟩) 8 8), (2, .slice (some ⟨w_1.heap.size, 0, none⟩) 8 8), (3, .int .i64 1), (4, .iface 24 (.bool false)), (5, .int .i64 3), (6, .iface 25 (.int .i64 0)), (26, .slice (some ⟨w.heap.size, 0, none⟩) 8 8), (27, .int .i64 8), (28, .int .i64 1), (54, .slice (some ⟨w.heap.size, 0, none⟩) 8 8), (55, .int .i64 8), (56, .int .i64 3)] wj2 [(some ⟨w.heap.size, 0, none⟩ : Option Addr) = some ⟨w.heap.size, 0, none⟩, (0 : Int) ≤ 3, (3 : Int) < (8 : Int), LoadsAs Try.prog 32 (⟨w.heap.size, 3, none⟩) (.iface 25 (.int .i64 0)) wj2] (by kernel_rfl) ⟨rfl, (by decide), (by decide), loads1 rfl (Blk.cell (Blk.below hk_3 hB_37) 3 _ rfl), trivial⟩ ?_
      refine XL_nil ?_
      refine X_seq ?_
      refine X_region ?_
      refine XL_run 7 [] [(1, .slice (some ⟨w.heap.size, 0, none⟩) 8 8), (2, .slice (some ⟨w_1.heap.size, 0, none⟩) 8 8), (3, .int .i64 1), (4, .iface 24 (.bool false)), (26, .slice (some ⟨w.heap.size, 0, none⟩) 8 8), (27, .int .i64 8), (28, .int .i64 1), (54, .slice (some ⟨w.heap.size, 0, none⟩) 8 8), (55, .int .i64 8), (56, .int .i64 3), (67, .bool false)] wj2 [] (by kernel_rfl) trivial ?_
      refine XL_nil ?_
      refine X_cond false rfl ?_
      refine X_skip ?_
      refine X_region ?_
      refine XL_run 2 [] [(1, .slice (some ⟨w.heap.size, 0, none⟩) 8 8), (2, .slice (some ⟨w_1.heap.size, 0, none⟩) 8 8), (3, .int .i64 1), (4, .iface 24 (.bool false)), (26, .slice (some ⟨w.heap.size, 0, none⟩) 8 8), (27, .int .i64 8), (28, .int .i64 1), (54, .slice (some ⟨w.heap.size, 0, none⟩) 8 8), (55, .int .i64 8), (56, .int .i64 4)] wj2 [] (by kernel_rfl) trivial ?_
      refine XL_nil ?_
      refine ⟨4, by kernel_rfl, ?_, ?_⟩
      · exact ⟨by omega, HBj2⟩
      · decide
    · refine X_seq ?_
      refine X_region ?_
      refine XL_run 1 [] [(1, .slice (some ⟨w.heap.size, 0, none⟩) 8 8), (2, .slice (some ⟨w_1.heap.size, 0, none⟩) 8 8), (3, .int .i64 1), (4, .iface 24 (.bool false)), (26, .slice (some ⟨w.heap.size, 0, none⟩) 8 8), (27, .int .i64 8), (28, .int .i64 1), (54, .slice (some ⟨w.heap.size, 0, none⟩) 8 8), (55, .int .i64 8), (56, .int .i64 4), (57, .bool true)] wj2 [] (by kernel_rfl) trivial ?_
      refine XL_nil ?_
      refine X_seq ?_
      refine X_cond true rfl ?_
      refine X_skip ?_
      refine X_seq ?_
      refine X_block ?_
      refine X_seq ?_
      refine X_region ?_
      refine XL_run 1 [] [(1, .slice (some ⟨w.heap.size, 0, none⟩) 8 8), (2, .slice (some ⟨w_1.heap.size, 0, none⟩) 8 8), (3, .int .i64 1), (4, .iface 24 (.bool false)), (26, .slice (some ⟨w.heap.size, 0, none⟩) 8 8), (27, .int .i64 8), (28, .int .i64 1), (54, .slice (some ⟨w.heap.size, 0, none⟩) 8 8), (55, .int .i64 8), (56, .int .i64 4), (58, .int .i64 4)] wj2 [] (by kernel_rfl) trivial ?_
      have hB_38 : Below w_1.heap.size w_1 wj2 := (bt (bt (bt (bt (bt hb_7 HBi) hb_28) hb_31) hb_33) HBj2)
      refine XL_run 4 [(59, .idx ⟨w.heap.size, 0, none⟩), (60, .load (.iface 25 (.int .i64 1)))] [(1, .slice (some ⟨w.heap.size, 0, none⟩) 8 8), (2, .slice (some ⟨w_1.heap.size, 0, none⟩) 8 8), (3, .int .i64 1), (4, .iface 24 (.bool false)), (5, .int .i64 4), (6, .iface 25 (.int .i64 1)), (26, .slice (some ⟨w.heap.size, 0, none⟩) 8 8), (27, .int .i64 8), (28, .int .i64 1), (54, .slice (some ⟨w.heap.size, 0, none⟩) 8 8), (55, .int .i64 8), (56, .int .i64 4)] wj2 [(some ⟨w.heap.size, 0, none⟩ : Option Addr) = some ⟨w.heap.size, 0, none⟩, (0 : Int) ≤ 4, (4 : Int) < (8 : Int), LoadsAs Try.prog 32 (⟨w.heap.size, 4, none⟩) (.iface 25 (.int .i64 1)) wj2] (by kernel_rfl) ⟨rfl, (by decide), (by decide), loads1 rfl (Blk.cell (Blk.below hk_3 hB_38) 4 _ rfl), trivial⟩ ?_
      refine XL_nil ?_
      refine X_seq ?_
      refine X_region ?_
      refine XL_run 7 [] [(1, .slice (some ⟨w.heap.size, 0, none⟩) 8 8), (2, .slice (some ⟨w_1.heap.size, 0, none⟩) 8 8), (3, .int .i64 1), (4, .iface 24 (.bool false)), (26, .slice (some ⟨w.heap.size, 0, none⟩) 8 8), (27, .int .i64 8), (28, .int .i64 1), (54, .slice (some ⟨w.heap.size, 0, none⟩) 8 8), (55, .int .i64 8), (56, .int .i64 4), (67, .bool false)] wj2 [] (by kernel_rfl) trivial ?_
      refine XL_nil ?_
      refine X_cond false rfl ?_
      refine X_skip ?_
      refine X_region ?_
      refine XL_run 2 [] [(1, .slice (some ⟨w.heap.size, 0, none⟩) 8 8), (2, .slice (some ⟨w_1.heap.size, 0, none⟩) 8 8), (3, .int .i64 1), (4, .iface 24 (.bool false)), (26, .slice (some ⟨w.heap.size, 0, none⟩) 8 8), (27, .int .i64 8), (28, .int .i64 1), (54, .slice (some ⟨w.heap.size, 0, none⟩) 8 8), (55, .int .i64 8), (56, .int .i64 5)] wj2 [] (by kernel_rfl) trivial ?_
      refine XL_nil ?_
      refine ⟨5, by kernel_rfl, ?_, ?_⟩
      · exact ⟨by omega, HBj2⟩
      · decide
    · refine X_seq ?_
      refine X_region ?_
      refine XL_run 1 [] [(1, .slice (some ⟨w.heap.size, 0, none⟩) 8 8), (2, .slice (some ⟨w_1.heap.size, 0, none⟩) 8 8), (3, .int .i64 1), (4, .iface 24 (.bool false)), (26, .slice (some ⟨w.heap.size, 0, none⟩) 8 8), (27, .int .i64 8), (28, .int .i64 1), (54, .slice (some ⟨w.heap.size, 0, none⟩) 8 8), (55, .int .i64 8), (56, .int .i64 5), (57, .bool true)] wj2 [] (by kernel_rfl) trivial ?_
      refine XL_nil ?_
      refine X_seq ?_
      refine X_cond true rfl ?_
      refine X_skip ?_
      refine X_seq ?_
      refine X_block ?_
      refine X_seq ?_
      refine X_region ?_
      refine XL_run 1 [] [(1, .slice (some ⟨w.heap.size, 0, none⟩) 8 8), (2, .slice (some ⟨w_1.heap.size, 0, none⟩) 8 8), (3, .int .i64 1), (4, .iface 24 (.bool false)), (26, .slice (some ⟨w.heap.size, 0, none⟩) 8 8), (27, .int .i64 8), (28, .int .i64 1), (54, .slice (some ⟨w.heap.size, 0, none⟩) 8 8), (55, .int .i64 8), (56, .int .i64 5), (58, .int .i64 5)] wj2 [] (by kernel_rfl) trivial ?_
      have hB_39 : Below w_1.heap.size w_1 wj2 := (bt (bt (bt (bt (bt hb_7 HBi) hb_28) hb_31) hb_33) HBj2)
      refine XL_run 4 [(59, .idx ⟨w.heap.size, 0, none⟩), (60, .load (.iface 25 (.int .i64 (-5))))] [(1, .slice (some ⟨w.heap.size, 0, none⟩) 8 8), (2, .slice (some ⟨w_1.heap.size, 0, none⟩) 8 8), (3, .int .i64 1), (4, .iface 24 (.bool false)), (5, .int .i64 5), (6, .iface 25 (.int .i64 (-5))), (26, .slice (some ⟨w.heap.size, 0, none⟩) 8 8), (27, .int .i64 8), (28, .int .i64 1), (54, .slice (some ⟨w.heap.size, 0, none⟩) 8 8), (55, .int .i64 8), (56, .int .i64 5)] wj2 [(some ⟨w.heap.size, 0, none⟩ : Option Addr) = some ⟨w.heap.size, 0, none⟩, (0 : Int) ≤ 5, (5 : Int) < (8 : Int), LoadsAs Try.prog 32 (⟨w.heap.size, 5, none⟩) (.iface 25 (.int .i64 (-5))) wj2] (by kernel_rfl) ⟨rfl, (by decide), (by decide), loads1 rfl (Blk.cell (Blk.below hk_3 hB_39) 5 _ rfl), trivial⟩ ?_
      refine XL_nil ?_
      refine X_seq ?_
      refine X_region ?_
      refine XL_run 7 [] [(1, .slice (some ⟨w.heap.size, 0, none⟩) 8 8), (2, .slice (some ⟨w_1.heap.size, 0, none⟩) 8 8), (3, .int .i64 1), (4, .iface 24 (.bool false)), (26, .slice (some ⟨w.heap.size, 0, none⟩) 8 8), (27, .int .i64 8), (28, .int .i64 1), (54, .slice (some ⟨w.heap.size, 0, none⟩) 8 8), (55, .int .i64 8), (56, .int .i64 5), (67, .bool false)] wj2 [] (by kernel_rfl) trivial ?_
      refine XL_nil ?_
      refine X_cond false rfl ?_
      refine X_skip ?_
      refine X_region ?_
      refine XL_run 2 [] [(1, .slice (some ⟨w.heap.size, 0, none⟩) 8 8), (2, .slice (some ⟨w_1.heap.size, 0, none⟩) 8 8), (3, .int .i64 1), (4, .iface 24 (.bool false)), (26, .slice (some ⟨w.heap.size, 0, none⟩) 8 8), (27, .int .i64 8), (28, .int .i64 1), (54, .slice (some ⟨w.heap.size, 0, none⟩) 8 8), (55, .int .i64 8), (56, .int .i64 6)] wj2 [] (by kernel_rfl) trivial ?_
      refine XL_nil ?_
      refine ⟨6, by kernel_rfl, ?_, ?_⟩
      · exact ⟨by omega, HBj2⟩
      · decide
    · refine X_seq ?_
      refine X_region ?_
      refine XL_run 1 [] [(1, .slice (some ⟨w.heap.size, 0, none⟩) 8 8), (2, .slice (some ⟨w_1.heap.size, 0, none⟩) 8 8), (3, .int .i64 1), (4, .iface 24 (.bool false)), (26, .slice (some ⟨w.heap.size, 0, none⟩) 8 8), (27, .int .i64 8), (28, .int .i64 1), (54, .slice (some ⟨w.heap.size, 0, none⟩) 8 8), (55, .int .i64 8), (56, .int .i64 6), (57, .bool true)] wj2 [] (by kernel_rfl) trivial ?_
      refine XL_nil ?_
      refine X_seq ?_
      refine X_cond true rfl ?_
      refine X_skip ?_
      refine X_seq ?_
      refine X_block ?_
      refine X_seq ?_
      refine X_region ?_
      refine XL_run 1 [] [(1, .slice (some ⟨w.heap.size, 0, none⟩) 8 8), (2, .slice (some ⟨w_1.heap.size, 0, none⟩) 8 8), (3, .int .i64 1), (4, .iface 24 (.bool false)), (26, .slice (some ⟨w.heap.size, 0, none⟩) 8 8), (27, .int .i64 8), (28, .int .i64 1), (54, .slice (some ⟨w.heap.size, 0, none⟩) 8 8), (55, .int .i64 8), (56, .int .i64 6), (58, .int .i64 6)] wj2 [] (by kernel_rfl) trivial ?_
      have hB_40 : Below w_1.heap.size w_1 wj2 := (bt (bt (bt (bt (bt hb_7 HBi) hb_28) hb_31) hb_33) HBj2)
      refine XL_run 4 [(59, .idx ⟨w.heap.size, 0, none⟩), (60, .load (.iface 26 (.string (⟨#[]⟩ : ByteArray))))] [(1, .slice (some ⟨w.heap.size, 0, none⟩) 8 8), (2, .slice (some ⟨w_1.heap.size, 0, none⟩) 8 8), (3, .int .i64 1), (4, .iface 24 (.bool false)), (5, .int .i64 6), (6, .iface 26 (.string (⟨#[]⟩ : ByteArray))), (26, .slice (some ⟨w.heap.size, 0, none⟩) 8 8), (27, .int .i64 8), (28, .int .i64 1), (54, .slice (some ⟨w.heap.size, 0, none⟩) 8 8), (55, .int .i64 8), (56, .int .i64 6)] wj2 [(some ⟨w.heap.size, 0, none⟩ : Option Addr) = some ⟨w.heap.size, 0, none⟩, (0 : Int) ≤ 6, (6 : Int) < (8 : Int), LoadsAs Try.prog 32 (⟨w.heap.size, 6, none⟩) (.iface 26 (.string (⟨#[]⟩ : ByteArray))) wj2] (by kernel_rfl) ⟨rfl, (by decide), (by decide), loads1 rfl (Blk.cell (Blk.below hk_3 hB_40) 6 _ rfl), trivial⟩ ?_
      refine XL_nil ?_
      refine X_seq ?_
      refine X_region ?_
      refine XL_run 7 [] [(1, .slice (some ⟨w.heap.size, 0, none⟩) 8 8), (2, .slice (some ⟨w_1.heap.size, 0, none⟩) 8 8), (3, .int .i64 1), (4, .iface 24 (.bool false)), (26, .slice (some ⟨w.heap.size, 0, none⟩) 8 8), (27, .int .i64 8), (28, .int .i64 1), (54, .slice (some ⟨w.heap.size, 0, none⟩) 8 8), (55, .int .i64 8), (56, .int .i64 6), (67, .bool false)] wj2 [] (by kernel_rfl) trivial ?_
      refine XL_nil ?_
      refine X_cond false rfl ?_
      refine X_skip ?_
      refine X_region ?_
      refine XL_run 2 [] [(1, .slice (some ⟨w.heap.size, 0, none⟩) 8 8), (2, .slice (some ⟨w_1.heap.size, 0, none⟩) 8 8), (3, .int .i64 1), (4, .iface 24 (.bool false)), (26, .slice (some ⟨w.heap.size, 0, none⟩) 8 8), (27, .int .i64 8), (28, .int .i64 1), (54, .slice (some ⟨w.heap.size, 0, none⟩) 8 8), (55, .int .i64 8), (56, .int .i64 7)] wj2 [] (by kernel_rfl) trivial ?_
      refine XL_nil ?_
      refine ⟨7, by kernel_rfl, ?_, ?_⟩
      · exact ⟨by omega, HBj2⟩
      · decide
    · refine X_seq ?_
      refine X_region ?_
      refine XL_run 1 [] [(1, .slice (some ⟨w.heap.size, 0, none⟩) 8 8), (2, .slice (some ⟨w_1.heap.size, 0, none⟩) 8 8), (3, .int .i64 1), (4, .iface 24 (.bool false)), (26, .slice (some ⟨w.heap.size, 0, none⟩) 8 8), (27, .int .i64 8), (28, .int .i64 1), (54, .slice (some ⟨w.heap.size, 0, none⟩) 8 8), (55, .int .i64 8), (56, .int .i64 7), (57, .bool true)] wj2 [] (by kernel_rfl) trivial ?_
      refine XL_nil ?_
      refine X_seq ?_
      refine X_cond true rfl ?_
      refine X_skip ?_
      refine X_seq ?_
      refine X_block ?_
      refine X_seq ?_
      refine X_region ?_
      refine XL_run 1 [] [(1, .slice (some ⟨w.heap.size, 0, none⟩) 8 8), (2, .slice (some ⟨w_1.heap.size, 0, none⟩) 8 8), (3, .int .i64 1), (4, .iface 24 (.bool false)), (26, .slice (some ⟨w.heap.size, 0, none⟩) 8 8), (27, .int .i64 8), (28, .int .i64 1), (54, .slice (some ⟨w.heap.size, 0, none⟩) 8 8), (55, .int .i64 8), (56, .int .i64 7), (58, .int .i64 7)] wj2 [] (by kernel_rfl) trivial ?_
      have hB_41 : Below w_1.heap.size w_1 wj2 := (bt (bt (bt (bt (bt hb_7 HBi) hb_28) hb_31) hb_33) HBj2)
      refine XL_run 4 [(59, .idx ⟨w.heap.size, 0, none⟩), (60, .load (.iface 26 (.string (⟨#[97]⟩ : ByteArray))))] [(1, .slice (some ⟨w.heap.size, 0, none⟩) 8 8), (2, .slice (some ⟨w_1.heap.size, 0, none⟩) 8 8), (3, .int .i64 1), (4, .iface 24 (.bool false)), (5, .int .i64 7), (6, .iface 26 (.string (⟨#[97]⟩ : ByteArray))), (26, .slice (some ⟨w.heap.size, 0, none⟩) 8 8), (27, .int .i64 8), (28, .int .i64 1), (54, .slice (some ⟨w.heap.size, 0, none⟩) 8 8), (55, .int .i64 8), (56, .int .i64 7)] wj2 [(some ⟨w.heap.size, 0, none⟩ : Option Addr) = some ⟨w.heap.size, 0, none⟩, (0 : Int) ≤ 7, (7 : Int) < (8 : Int), LoadsAs Try.prog 32 (⟨w.heap.size, 7, none⟩) (.iface 26 (.string (⟨#[97]⟩ : ByteArray))) wj2] (by kernel_rfl) ⟨rfl, (by decide), (by decide), loads1 rfl (Blk.cell (Blk.below hk_3 hB_41) 7 _ rfl), trivial⟩ ?_
      refine XL_nil ?_
      refine X_seq ?_
      refine X_region ?_
      refine XL_run 7 [] [(1, .slice (some ⟨w.heap.size, 0, none⟩) 8 8), (2, .slice (some ⟨w_1.heap.size, 0, none⟩) 8 8), (3, .int .i64 1), (4, .iface 24 (.bool false)), (26, .slice (some ⟨w.heap.size, 0, none⟩) 8 8), (27, .int .i64 8), (28, .int .i64 1), (54, .slice (some ⟨w.heap.size, 0, none⟩) 8 8), (55, .int .i64 8), (56, .int .i64 7), (67, .bool false)] wj2 [] (by kernel_rfl) trivial ?_
      refine XL_nil ?_
      refine X_cond false rfl ?_
      refine X_skip ?_
      refine X_region ?_
      refine XL_run 2 [] [(1, .slice (some ⟨w.heap.size, 0, none⟩) 8 8), (2, .slice (some ⟨w_1.heap.size, 0, none⟩) 8 8), (3, .int .i64 1), (4, .iface 24 (.bool false)), (26, .slice (some ⟨w.heap.size, 0, none⟩) 8 8), (27, .int .i64 8), (28, .int .i64 1), (54, .slice (some ⟨w.heap.size, 0, none⟩) 8 8), (55, .int .i64 8), (56, .int .i64 8)] wj2 [] (by kernel_rfl) trivial ?_
      refine XL_nil ?_
      refine ⟨8, by kernel_rfl, ?_, ?_⟩
      · exact ⟨by omega, HBj2⟩
      · decide
    · refine X_seq ?_
      refine X_region ?_
      refine XL_run 1 [] [(1, .slice (some ⟨w.heap.size, 0, none⟩) 8 8), (2, .slice (some ⟨w_1.heap.size, 0, none⟩) 8 8), (3, .int .i64 1), (4, .iface 24 (.bool false)), (26, .slice (some ⟨w.heap.size, 0, none⟩) 8 8), (27, .int .i64 8), (28, .int .i64 1), (54, .slice (some ⟨w.heap.size, 0, none⟩) 8 8), (55, .int .i64 8), (56, .int .i64 8), (57, .bool false)] wj2 [] (by kernel_rfl) trivial ?_
      refine XL_nil ?_
      refine X_seq ?_
      refine X_cond false rfl ?_
      refine X_exit ?_
      refine X_region ?_
      refine XL_run 2 [] [(1, .slice (some ⟨w.heap.size, 0, none⟩) 8 8), (2, .slice (some ⟨w_1.heap.size, 0, none⟩) 8 8), (26, .slice (some ⟨w.heap.size, 0, none⟩) 8 8), (27, .int .i64 8), (28, .int .i64 2)] wj2 [] (by kernel_rfl) trivial ?_
      refine XL_nil ?_
      have hB_42 : Below w_6.heap.size w_6 wj2 := (bt (bt (bt (bt HBi hb_28) hb_31) hb_33) HBj2)
      refine ⟨2, by kernel_rfl, ?_, ?_⟩
      · exact ⟨by omega, hB_42⟩
      · decide
  · refine X_seq ?_
    refine X_region ?_
    refine XL_run 1 [] [(1, .slice (some ⟨w.heap.size, 0, none⟩) 8 8), (2, .slice (some ⟨w_1.heap.size, 0, none⟩) 8 8), (26, .slice (some ⟨w.heap.size, 0, none⟩) 8 8), (27, .int .i64 8), (28, .int .i64 2), (29, .bool true)] wi [] (by kernel_rfl) trivial ?_
    refine XL_nil ?_
    refine X_seq ?_
    refine X_cond true rfl ?_
    refine X_skip ?_
    refine X_seq ?_
    refine X_block ?_
    refine X_seq ?_
    refine X_region ?_
    refine XL_run 1 [] [(1, .slice (some ⟨w.heap.size, 0, none⟩) 8 8), (2, .slice (some ⟨w_1.heap.size, 0, none⟩) 8 8), (26, .slice (some ⟨w.heap.size, 0, none⟩) 8 8), (27, .int .i64 8), (28, .int .i64 2), (30, .int .i64 2)] wi [] (by kernel_rfl) trivial ?_
    refine XL_run 4 [(31, .idx ⟨w.heap.size, 0, none⟩), (32, .load (.iface 24 (.bool true)))] [(1, .slice (some ⟨w.heap.size, 0, none⟩) 8 8), (2, .slice (some ⟨w_1.heap.size, 0, none⟩) 8 8), (3, .int .i64 2), (4, .iface 24 (.bool true)), (26, .slice (some ⟨w.heap.size, 0, none⟩) 8 8), (27, .int .i64 8), (28, .int .i64 2)] wi [(some ⟨w.heap.size, 0, none⟩ : Option Addr) = some ⟨w.heap.size, 0, none⟩, (0 : Int) ≤ 2, (2 : Int) < (8 : Int), LoadsAs Try.prog 32 (⟨w.heap.size, 2, none⟩) (.iface 24 (.bool true)) wi] (by kernel_rfl) ⟨rfl, (by decide), (by decide), loads1 rfl (Blk.cell (Blk.below hk_3 (bt hb_7 HBi)) 2 _ rfl), trivial⟩ ?_
    refine XL_nil ?_
    refine X_seq ?_
    refine X_seq ?_
    refine X_grow [] 21 #[false, false, false, false, false, false, false, false, false, false, false, false, false, false, false, false, false, false, false, false, false] (by kernel_rfl) (by kernel_rfl) (by kernel_rfl) (fun wd_43 hb_44 hh_45 => ?_)
    refine XB_run (fuel' := 15) (Below.refl _ _) [0, 1, 2, 3, 5, 6] [] [.iface 24 (.bool true), .bool false, .bool false, .iface 24 (.bool true), .slice (some ⟨w_1.heap.size, 0, none⟩) 8 8, .int .i64 2] #[true, true, true, true, false, true, true, false, false, false, false, false, false, false, false, false, false, false, false, false, false] [(1, .slice (some ⟨w.heap.size, 0, none⟩) 8 8), (2, .slice (some ⟨w_1.heap.size, 0, none⟩) 8 8), (3, .int .i64 2), (4, .iface 24 (.bool true)), (26, .slice (some ⟨w.heap.size, 0, none⟩) 8 8), (27, .int .i64 8), (28, .int .i64 2), (35, .bool false), (36, .iface 24 (.bool true)), (38, .slice (some ⟨w_1.heap.size, 0, none⟩) 8 8), (39, .int .i64 2)] (fun w_ => []) (fun _ _ _ _ h => h) (fun w_ => by kernel_rfl) rfl (fun w_ hC_ => trivial) ?_
    refine XB_run (fuel' := 12) (Below.refl _ _) [7, 8, 9] [(40, .idx ⟨w_1.heap.size, 0, none⟩), (42, .load (.int .i64 1))] [.pointer (some ⟨w_1.heap.size, 6, none⟩), .pointer (some ⟨w_1.heap.size, 6, none⟩), .int .i64 1] #[true, true, true, true, false, true, true, true, true, true, false, false, false, false, false, false, false, false, false, false, false] [(1, .slice (some ⟨w.heap.size, 0, none⟩) 8 8), (2, .slice (some ⟨w_1.heap.size, 0, none⟩) 8 8), (3, .int .i64 2), (4, .iface 24 (.bool true)), (26, .slice (some ⟨w.heap.size, 0, none⟩) 8 8), (27, .int .i64 8), (28, .int .i64 2), (35, .bool false), (36, .iface 24 (.bool true)), (42, .int .i64 1)] (fun w_ => [(some ⟨w_1.heap.size, 0, none⟩ : Option Addr) = some ⟨w_1.heap.size, 0, none⟩, (0 : Int) ≤ 2, (2 : Int) < (8 : Int), LoadsAs Try.prog 3 (⟨w_1.heap.size, 6, none⟩) (.int .i64 1) w_]) (fun _ _ _ _ h => h) (fun w_ => by kernel_rfl) rfl (fun w_ hC_ => ⟨rfl, (by decide), (by decide), loads1 rfl (Blk.cell (Blk.below hk_8 (bt (bt HBi hb_44) hC_)) 6 _ rfl), trivial⟩) ?_
    refine XB_mid (fuel' := 11) 4 #[true, true, true, true, true, true, true, true, true, true, false, false, false, false, false, false, false, false, false, false, false] _ rfl (by kernel_rfl) (by kernel_rfl) rfl ?_
    refine XL_inv 22 #[.bool true] rfl rfl (by kernel_rfl) (by kernel_rfl) (flag_kind true _) ?_
    rintro e w_46 ⟨rfl, hb_47⟩; refine ⟨_, rfl, ?_⟩
    refine XL_nil ?_
    refine ⟨hb_47, ?_⟩
    refine XB_run (fuel' := 5) hb_47 [10, 11, 12, 13, 15, 16] [] [.bool false, .bool false, .bool false, .iface 24 (.bool true), .slice (some ⟨w_1.heap.size, 0, none⟩) 8 8, .int .i64 2] #[true, true, true, true, true, true, true, true, true, true, true, true, true, true, false, true, true, false, false, false, false] [(1, .slice (some ⟨w.heap.size, 0, none⟩) 8 8), (2, .slice (some ⟨w_1.heap.size, 0, none⟩) 8 8), (3, .int .i64 2), (4, .iface 24 (.bool true)), (26, .slice (some ⟨w.heap.size, 0, none⟩) 8 8), (27, .int .i64 8), (28, .int .i64 2), (45, .bool false), (46, .iface 24 (.bool true)), (48, .slice (some ⟨w_1.heap.size, 0, none⟩) 8 8), (49, .int .i64 2)] (fun w_ => []) (fun _ _ _ _ h => h) (fun w_ => by kernel_rfl) rfl (fun w_ hC_ => trivial) ?_
    refine XB_run (fuel' := 3) hb_47 [17, 18] [(50, .idx ⟨w_1.heap.size, 0, none⟩), (51, .load (.agg #[.int .i64 1, .int .i64 1, .string ByteArray.empty]))] [.pointer (some ⟨w_1.heap.size, 6, none⟩), .agg #[.int .i64 1, .int .i64 1, .string ByteArray.empty]] #[true, true, true, true, true, true, true, true, true, true, true, true, true, true, false, true, true, true, true, false, false] [(1, .slice (some ⟨w.heap.size, 0, none⟩) 8 8), (2, .slice (some ⟨w_1.heap.size, 0, none⟩) 8 8), (3, .int .i64 2), (4, .iface 24 (.bool true)), (26, .slice (some ⟨w.heap.size, 0, none⟩) 8 8), (27, .int .i64 8), (28, .int .i64 2), (45, .bool false), (46, .iface 24 (.bool true)), (51, .agg #[.int .i64 1, .int .i64 1, .string ByteArray.empty])] (fun w_ => [(some ⟨w_1.heap.size, 0, none⟩ : Option Addr) = some ⟨w_1.heap.size, 0, none⟩, (0 : Int) ≤ 2, (2 : Int) < (8 : Int), LoadsAs Try.prog 29 (⟨w_1.heap.size, 6, none⟩) (.agg #[.int .i64 1, .int .i64 1, .string ByteArray.empty]) w_]) (fun _ _ _ _ h => h) (fun w_ => by kernel_rfl) rfl (fun w_ hC_ => ⟨rfl, (by decide), (by decide), loadsB rfl rfl (Blk.below hk_8 (bt (bt HBi hb_44) hC_)) 6 ⟨by kernel_rfl, by kernel_rfl⟩, trivial⟩) ?_
    refine XB_mid (fuel' := 2) 14 #[true, true, true, true, true, true, true, true, true, true, true, true, true, true, true, true, true, true, true, false, false] _ rfl (by kernel_rfl) (by kernel_rfl) rfl ?_
    refine XL_inv 23 #[.bool true] rfl rfl (by kernel_rfl) (by kernel_rfl) (flag_plainT _) ?_
    rintro e w_48 ⟨rfl, hb_49⟩; refine ⟨_, rfl, ?_⟩
    refine XL_nil ?_
    refine ⟨(bt hb_47 hb_49), ?_⟩
    refine XB_run (fuel' := 0) (bt hb_47 hb_49) [19, 20] [] [.bool false, .bool false] #[true, true, true, true, true, true, true, true, true, true, true, true, true, true, true, true, true, true, true, true, true] [(1, .slice (some ⟨w.heap.size, 0, none⟩) 8 8), (2, .slice (some ⟨w_1.heap.size, 0, none⟩) 8 8), (3, .int .i64 2), (4, .iface 24 (.bool true)), (26, .slice (some ⟨w.heap.size, 0, none⟩) 8 8), (27, .int .i64 8), (28, .int .i64 2), (53, .bool false)] (fun w_ => []) (fun _ _ _ _ h => h) (fun w_ => by kernel_rfl) rfl (fun w_ hC_ => trivial) ?_
    refine XB_done (by kernel_rfl) ?_
    refine X_cond false rfl ?_
    refine X_skip ?_
    refine X_seq ?_
    refine X_region ?_
    refine XL_run 3 [] [(1, .slice (some ⟨w.heap.size, 0, none⟩) 8 8), (2, .slice (some ⟨w_1.heap.size, 0, none⟩) 8 8), (3, .int .i64 2), (4, .iface 24 (.bool true)), (26, .slice (some ⟨w.heap.size, 0, none⟩) 8 8), (27, .int .i64 8), (28, .int .i64 2), (54, .slice (some ⟨w.heap.size, 0, none⟩) 8 8), (55, .int .i64 8), (56, .int .i64 0)] w_48 [] (by kernel_rfl) trivial ?_
    refine XL_nil ?_
    refine X_block ?_
    refine X_loop (ι := Nat) (fun j3 => [(1, .slice (some ⟨w.heap.size, 0, none⟩) 8 8), (2, .slice (some ⟨w_1.heap.size, 0, none⟩) 8 8), (3, .int .i64 2), (4, .iface 24 (.bool true)), (26, .slice (some ⟨w.heap.size, 0, none⟩) 8 8), (27, .int .i64 8), (28, .int .i64 2), (54, .slice (some ⟨w.heap.size, 0, none⟩) 8 8), (55, .int .i64 8), (56, .int .i64 (j3 : Int))]) (fun j3 wj3 => j3 ≤ 8 ∧ Below w_48.heap.size w_48 wj3) (fun j3 => 8 - j3) 0 ⟨by omega, Below.refl _ _⟩ (by kernel_rfl) ?_
    rintro j3 wj3 ⟨hj3, HBj3⟩
    obtain rfl | rfl | rfl | rfl | rfl | rfl | rfl | rfl | rfl : j3 = 0 ∨ j3 = 1 ∨ j3 = 2 ∨ j3 = 3 ∨ j3 = 4 ∨ j3 = 5 ∨ j3 = 6 ∨ j3 = 7 ∨ j3 = 8 := by omega
    · refine X_seq ?_
      refine X_region ?_
      refine XL_run 1 [] [(1, .slice (some ⟨w.heap.size, 0, none⟩) 8 8), (2, .slice (some ⟨w_1.heap.size, 0, none⟩) 8 8), (3, .int .i64 2), (4, .iface 24 (.bool true)), (26, .slice (some ⟨w.heap.size, 0, none⟩) 8 8), (27, .int .i64 8), (28, .int .i64 2), (54, .slice (some ⟨w.heap.size, 0, none⟩) 8 8), (55, .int .i64 8), (56, .int .i64 0), (57, .bool true)] wj3 [] (by kernel_rfl) trivial ?_
      refine XL_nil ?_
      refine X_seq ?_
      refine X_cond true rfl ?_
      refine X_skip ?_
      refine X_seq ?_
      refine X_block ?_
      refine X_seq ?_
      refine X_region ?_
      refine XL_run 1 [] [(1, .slice (some ⟨w.heap.size, 0, none⟩) 8 8), (2, .slice (some ⟨w_1.heap.size, 0, none⟩) 8 8), (3, .int .i64 2), (4, .iface 24 (.bool true)), (26, .slice (some ⟨w.heap.size, 0, none⟩) 8 8), (27, .int .i64 8), (28, .int .i64 2), (54, .slice (some ⟨w.heap.size, 0, none⟩) 8 8), (55, .int .i64 8), (56, .int .i64 0), (58, .int .i64 0)] wj3 [] (by kernel_rfl) trivial ?_
      have hB_50 : Below w_1.heap.size w_1 wj3 := (bt (bt (bt (bt (bt hb_7 HBi) hb_44) hb_47) hb_49) HBj3)
      refine XL_run 4 [(59, .idx ⟨w.heap.size, 0, none⟩), (60, .load (.iface 23 (.agg #[])))] [(1, .slice (some ⟨w.heap.size, 0, none⟩) 8 8), (2, .slice (some ⟨w_1.heap.size, 0, none⟩) 8 8), (3, .int .i64 2), (4, .iface 24 (.bool true)), (5, .int .i64 0), (6, .iface 23 (.agg #[])), (26, .slice (some ⟨w.heap.size, 0, none⟩) 8 8), (27, .int .i64 8), (28, .int .i64 2), (54, .slice (some ⟨w.heap.size, 0, none⟩) 8 8), (55, .int .i64 8), (56, .int .i64 0)] wj3 [(some ⟨w.heap.size, 0, none⟩ : Option Addr) = some ⟨w.heap.size, 0, none⟩, (0 : Int) ≤ 0, (0 : Int) < (8 : Int), LoadsAs Try.prog 32 (⟨w.heap.size, 0, none⟩) (.iface 23 (.agg #[])) wj3] (by kernel_rfl) ⟨rfl, (by decide), (by decide), loads1 rfl (Blk.cell (Blk.below hk_3 hB_50) 0 _ rfl), trivial⟩ ?_
      refine XL_nil ?_
      refine X_seq ?_
      refine X_region ?_
      refine XL_run 7 [] [(1, .slice (some ⟨w.heap.size, 0, none⟩) 8 8), (2, .slice (some ⟨w_1.heap.size, 0, none⟩) 8 8), (3, .int .i64 2), (4, .iface 24 (.bool true)), (26, .slice (some ⟨w.heap.size, 0, none⟩) 8 8), (27, .int .i64 8), (28, .int .i64 2), (54, .slice (some ⟨w.heap.size, 0, none⟩) 8 8), (55, .int .i64 8), (56, .int .i64 0), (67, .bool false)] wj3 [] (by kernel_rfl) trivial ?_
      refine XL_nil ?_
      refine X_cond false rfl ?_
      refine X_skip ?_
      refine X_region ?_
      refine XL_run 2 [] [(1, .slice (some ⟨w.heap.size, 0, none⟩) 8 8), (2, .slice (some ⟨w_1.heap.size, 0, none⟩) 8 8), (3, .int .i64 2), (4, .iface 24 (.bool true)), (26, .slice (some ⟨w.heap.size, 0, none⟩) 8 8), (27, .int .i64 8), (28, .int .i64 2), (54, .slice (some ⟨w.heap.size, 0, none⟩) 8 8), (55, .int .i64 8), (56, .int .i64 1)] wj3 [] (by kernel_rfl) trivial ?_
      refine XL_nil ?_
      refine ⟨1, by kernel_rfl, ?_, ?_⟩
      · exact ⟨by omega, HBj3⟩
      · decide
    · refine X_seq ?_
      refine X_region ?_
      refine XL_run 1 [] [(1, .slice (some ⟨w.heap.size, 0, none⟩) 8 8), (2, .slice (some ⟨w_1.heap.size, 0, none⟩) 8 8), (3, .int .i64 2), (4, .iface 24 (.bool true)), (26, .slice (some ⟨w.heap.size, 0, none⟩) 8 8), (27, .int .i64 8), (28, .int .i64 2), (54, .slice (some ⟨w.heap.size, 0, none⟩) 8 8), (55, .int .i64 8), (56, .int .i64 1), (57, .bool true)] wj3 [] (by kernel_rfl) trivial ?_
      refine XL_nil ?_
      refine X_seq ?_
      refine X_cond true rfl ?_
      refine X_skip ?_
      refine X_seq ?_
      refine X_block ?_
      refine X_seq ?_
      refine X_region ?_
      refine XL_run 1 [] [(1, .slice (some ⟨w.heap.size, 0, none⟩) 8 8), (2, .slice (some ⟨w_1.heap.size, 0, none⟩) 8 8), (3, .int .i64 2), (4, .iface 24 (.bool true)), (26, .slice (some ⟨w.heap.size, 0, none⟩) 8 8), (27, .int .i64 8), (28, .int .i64 2), (54, .slice (some ⟨w.heap.size, 0, none⟩) 8 8), (55, .int .i64 8), (56, .int .i64 1), (58, .int .i64 1)] wj3 [] (by kernel_rfl) trivial ?_
      have hB_51 : Below w_1.heap.size w_1 wj3 := (bt (bt (bt (bt (bt hb_7 HBi) hb_44) hb_47) hb_49) HBj3)
      refine XL_run 4 [(59, .idx ⟨w.heap.size, 0, none⟩), (60, .load (.iface 24 (.bool false)))] [(1, .slice (some ⟨w.heap.size, 0, none⟩) 8 8), (2, .slice (some ⟨w_1.heap.size, 0, none⟩) 8 8), (3, .int .i64 2), (4, .iface 24 (.bool true)), (5, .int .i64 1), (6, .iface 24 (.bool false)), (26, .slice (some ⟨w.heap.size, 0, none⟩) 8 8), (27, .int .i64 8), (28, .int .i64 2), (54, .slice (some ⟨w.heap.size, 0, none⟩) 8 8), (55, .int .i64 8), (56, .int .i64 1)] wj3 [(some ⟨w.heap.size, 0, none⟩ : Option Addr) = some ⟨w.heap.size, 0, none⟩, (0 : Int) ≤ 1, (1 : Int) < (8 : Int), LoadsAs Try.prog 32 (⟨w.heap.size, 1, none⟩) (.iface 24 (.bool false)) wj3] (by kernel_rfl) ⟨rfl, (by decide), (by decide), loads1 rfl (Blk.cell (Blk.below hk_3 hB_51) 1 _ rfl), trivial⟩ ?_
      refine XL_nil ?_
      refine X_seq ?_
      refine X_region ?_
      refine XL_run 7 [] [(1, .slice (some ⟨w.heap.size, 0, none⟩) 8 8), (2, .slice (some ⟨w_1.heap.size, 0, none⟩) 8 8), (3, .int .i64 2), (4, .iface 24 (.bool true)), (26, .slice (some ⟨w.heap.size, 0, none⟩) 8 8), (27, .int .i64 8), (28, .int .i64 2), (54, .slice (some ⟨w.heap.size, 0, none⟩) 8 8), (55, .int .i64 8), (56, .int .i64 1), (67, .bool false)] wj3 [] (by kernel_rfl) trivial ?_
      refine XL_nil ?_
      refine X_cond false rfl ?_
      refine X_skip ?_
      refine X_region ?_
      refine XL_run 2 [] [(1, .slice (some ⟨w.heap.size, 0, none⟩) 8 8), (2, .slice (some ⟨w_1.heap.size, 0, none⟩) 8 8), (3, .int .i64 2), (4, .iface 24 (.bool true)), (26, .slice (some ⟨w.heap.size, 0, none⟩) 8 8), (27, .int .i64 8), (28, .int .i64 2), (54, .slice (some ⟨w.heap.size, 0, none⟩) 8 8), (55, .int .i64 8), (56, .int .i64 2)] wj3 [] (by kernel_rfl) trivial ?_
      refine XL_nil ?_
      refine ⟨2, by kernel_rfl, ?_, ?_⟩
      · exact ⟨by omega, HBj3⟩
      · decide
    · refine X_seq ?_
      refine X_region ?_
      refine XL_run 1 [] [(1, .slice (some ⟨w.heap.size, 0, none⟩) 8 8), (2, .slice (some ⟨w_1.heap.size, 0, none⟩) 8 8), (3, .int .i64 2), (4, .iface 24 (.bool true)), (26, .slice (some ⟨w.heap.size, 0, none⟩) 8 8), (27, .int .i64 8), (28, .int .i64 2), (54, .slice (some ⟨w.heap.size, 0, none⟩) 8 8), (55, .int .i64 8), (56, .int .i64 2), (57, .bool true)] wj3 [] (by kernel_rfl) trivial ?_
      refine XL_nil ?_
      refine X_seq ?_
      refine X_cond true rfl ?_
      refine X_skip ?_
      refine X_seq ?_
      refine X_block ?_
      refine X_seq ?_
      refine X_region ?_
      refine XL_run 1 [] [(1, .slice (some ⟨w.heap.size, 0, none⟩) 8 8), (2, .slice (some ⟨w_1.heap.size, 0, none⟩) 8 8), (3, .int .i64 2), (4, .iface 24 (.bool true)), (26, .slice (some ⟨w.heap.size, 0, none⟩) 8 8), (27, .int .i64 8), (28, .int .i64 2), (54, .slice (some ⟨w.heap.size, 0, none⟩) 8 8), (55, .int .i64 8), (56, .int .i64 2), (58, .int .i64 2)] wj3 [] (by kernel_rfl) trivial ?_
      have hB_52 : Below w_1.heap.size w_1 wj3 := (bt (bt (bt (bt (bt hb_7 HBi) hb_44) hb_47) hb_49) HBj3)
      refine XL_run 4 [(59, .idx ⟨w.heap.size, 0, none⟩), (60, .load (.iface 24 (.bool true)))] [(1, .slice (some ⟨w.heap.size, 0, none⟩) 8 8), (2, .slice (some ⟨w_1.heap.size, 0, none⟩) 8 8), (3, .int .i64 2), (4, .iface 24 (.bool true)), (5, .int .i64 2), (6, .iface 24 (.bool true)), (26, .slice (some ⟨w.heap.size, 0, none⟩) 8 8), (27, .int .i64 8), (28, .int .i64 2), (54, .slice (some ⟨w.heap.size, 0, none⟩) 8 8), (55, .int .i64 8), (56, .int .i64 2)] wj3 [(some ⟨w.heap.size, 0, none⟩ : Option Addr) = some ⟨w.heap.size, 0, none⟩, (0 : Int) ≤ 2, (2 : Int) < (8 : Int), LoadsAs Try.prog 32 (⟨w.heap.size, 2, none⟩) (.iface 24 (.bool true)) wj3] (by kernel_rfl) ⟨rfl, (by decide), (by decide), loads1 rfl (Blk.cell (Blk.below hk_3 hB_52) 2 _ rfl), trivial⟩ ?_
      refine XL_nil ?_
      refine X_seq ?_
      refine X_region ?_
      refine XL_run 7 [] [(1, .slice (some ⟨w.heap.size, 0, none⟩) 8 8), (2, .slice (some ⟨w_1.heap.size, 0, none⟩) 8 8), (3, .int .i64 2), (4, .iface 24 (.bool true)), (26, .slice (some ⟨w.heap.size, 0, none⟩) 8 8), (27, .int .i64 8), (28, .int .i64 2), (54, .slice (some ⟨w.heap.size, 0, none⟩) 8 8), (55, .int .i64 8), (56, .int .i64 2), (67, .bool false)] wj3 [] (by kernel_rfl) trivial ?_
      refine XL_nil ?_
      refine X_cond false rfl ?_
      refine X_skip ?_
      refine X_region ?_
      refine XL_run 2 [] [(1, .slice (some ⟨w.heap.size, 0, none⟩) 8 8), (2, .slice (some ⟨w_1.heap.size, 0, none⟩) 8 8), (3, .int .i64 2), (4, .iface 24 (.bool true)), (26, .slice (some ⟨w.heap.size, 0, none⟩) 8 8), (27, .int .i64 8), (28, .int .i64 2), (54, .slice (some ⟨w.heap.size, 0, none⟩) 8 8), (55, .int .i64 8), (56, .int .i64 3)] wj3 [] (by kernel_rfl) trivial ?_
      refine XL_nil ?_
      refine ⟨3, by kernel_rfl, ?_, ?_⟩
      · exact ⟨by omega, HBj3⟩
      · decide
    · refine X_seq ?_
      refine X_region ?_
      refine XL_run 1 [] [(1, .slice (some ⟨w.heap.size, 0, none⟩) 8 8), (2, .slice (some ⟨w_1.heap.size, 0, none⟩) 8 8), (3, .int .i64 2), (4, .iface 24 (.bool true)), (26, .slice (some ⟨w.heap.size, 0, none⟩) 8 8), (27, .int .i64 8), (28, .int .i64 2), (54, .slice (some ⟨w.heap.size, 0, none⟩) 8 8), (55, .int .i64 8), (56, .int .i64 3), (57, .bool true)] wj3 [] (by kernel_rfl) trivial ?_
      refine XL_nil ?_
      refine X_seq ?_
      refine X_cond true rfl ?_
      refine X_skip ?_
      refine X_seq ?_
      refine X_block ?_
      refine X_seq ?_
      refine X_region ?_
      refine XL_run 1 [] [(1, .slice (some ⟨w.heap.size, 0, none⟩) 8 8), (2, .slice (some ⟨w_1.heap.size, 0, none⟩) 8 8), (3, .int .i64 2), (4, .iface 24 (.bool true)), (26, .slice (some ⟨w.heap.size, 0, none⟩) 8 8), (27, .int .i64 8), (28, .int .i64 2), (54, .slice (some ⟨w.heap.size, 0, none⟩) 8 8), (55, .int .i64 8), (56, .int .i64 3), (58, .int .i64 3)] wj3 [] (by kernel_rfl) trivial ?_
      have hB_53 : Below w_1.heap.size w_1 wj3 := (bt (bt (bt (bt (bt hb_7 HBi) hb_44) hb_47) hb_49) HBj3)
      refine XL_run 4 [(59, .idx ⟨w.heap.size, 0, none⟩), (60, .load (.iface 25 (.int .i64 0)))] [(1, .slice (some ⟨w.heap.size, 0, none⟩) 8 8), (2, .slice (some ⟨w_1.heap.size, 0, none⟩) 8 8), (3, .int .i64 2), (4, .iface 24 (.bool true)), (5, .int .i64 3), (6, .iface 25 (.int .i64 0)), (26, .slice (some ⟨w.heap.size, 0, none⟩) 8 8), (27, .int .i64 8), (28, .int .i64 2), (54, .slice (some ⟨w.heap.size, 0, none⟩) 8 8), (55, .int .i64 8), (56, .int .i64 3)] wj3 [(some ⟨w.heap.size, 0, none⟩ : Option Addr) = some ⟨w.heap.size, 0, none⟩, (0 : Int) ≤ 3, (3 : Int) < (8 : Int), LoadsAs Try.prog 32 (⟨w.heap.size, 3, none⟩) (.iface 25 (.int .i64 0)) wj3] (by kernel_rfl) ⟨rfl, (by decide), (by decide), loads1 rfl (Blk.cell (Blk.below hk_3 hB_53) 3 _ rfl), trivial⟩ ?_
      refine XL_nil ?_
      refine X_seq ?_
      refine X_region ?_
      refine XL_run 7 [] [(1, .slice (some ⟨w.heap.size, 0, none⟩) 8 8), (2, .slice (some ⟨w_1.heap.size, 0, none⟩) 8 8), (3, .int .i64 2), (4, .iface 24 (.bool true)), (26, .slice (some ⟨w.heap.size, 0, none⟩) 8 8), (27, .int .i64 8), (28, .int .i64 2), (54, .slice (some ⟨w.heap.size, 0, none⟩) 8 8), (55, .int .i64 8), (56, .int .i64 3), (67, .bool false)] wj3 [] (by kernel_rfl) trivial ?_
      refine XL_nil ?_
      refine X_cond false rfl ?_
      refine X_skip ?_
      refine X_region ?_
      refine XL_run 2 [] [(1, .slice (some ⟨w.heap.size, 0, none⟩) 8 8), (2, .slice (some ⟨w_1.heap.size, 0, none⟩) 8 8), (3, .int .i64 2), (4, .iface 24 (.bool true)), (26, .slice (some ⟨w.heap.size, 0, none⟩) 8 8), (27, .int .i64 8), (28, .int .i64 2), (54, .slice (some ⟨w.heap.size, 0, none⟩) 8 8), (55, .int .i64 8), (56, .int .i64 4)] wj3 [] (by kernel_rfl) trivial ?_
      refine XL_nil ?_
      refine ⟨4, by kernel_rfl, ?_, ?_⟩
      · exact ⟨by omega, HBj3⟩
      · decide
    · refine X_seq ?_
      refine X_region ?_
      refine XL_run 1 [] [(1, .slice (some ⟨w.heap.size, 0, none⟩) 8 8), (2, .slice (some ⟨w_1.heap.size, 0, none⟩) 8 8), (3, .int .i64 2), (4, .iface 24 (.bool true)), (26, .slice (some ⟨w.heap.size, 0, none⟩) 8 8), (27, .int .i64 8), (28, .int .i64 2), (54, .slice (some ⟨w.heap.size, 0, none⟩) 8 8), (55, .int .i64 8), (56, .int .i64 4), (57, .bool true)] wj3 [] (by kernel_rfl) trivial ?_
      refine XL_nil ?_
      refine X_seq ?_
      refine X_cond true rfl ?_
      refine X_skip ?_
      refine X_seq ?_
      refine X_block ?_
      refine X_seq ?_
      refine X_region ?_
      refine XL_run 1 [] [(1, .slice (some ⟨w.heap.size, 0, none⟩) 8 8), (2, .slice (some ⟨w_1.heap.size, 0, none⟩) 8 8), (3, .int .i64 2), (4, .iface 24 (.bool true)), (26, .slice (some ⟨w.heap.size, 0, none⟩) 8 8), (27, .int .i64 8), (28, .int .i64 2), (54, .slice (some ⟨w.heap.size, 0, none⟩) 8 8), (55, .int .i64 8), (56, .int .i64 4), (58, .int .i64 4)] wj3 [] (by kernel_rfl) trivial ?_
      have hB_54 : Below w_1.heap.size w_1 wj3 := (bt (bt (bt (bt (bt hb_7 HBi) hb_44) hb_47) hb_49) HBj3)
      refine XL_run 4 [(59, .idx ⟨w.heap.size, 0, none⟩), (60, .load (.iface 25 (.int .i64 1)))] [(1, .slice (some ⟨w.heap.size, 0, none⟩) 8 8), (2, .slice (some ⟨w_1.heap.size, 0, none⟩) 8 8), (3, .int .i64 2), (4, .iface 24 (.bool true)), (5, .int .i64 4), (6, .iface 25 (.int .i64 1)), (26, .slice (some ⟨w.heap.size, 0, none⟩) 8 8), (27, .int .i64 8), (28, .int .i64 2), (54, .slice (some ⟨w.heap.size, 0, none⟩) 8 8), (55, .int .i64 8), (56, .int .i64 4)] wj3 [(some ⟨w.heap.size, 0, none⟩ : Option Addr) = some ⟨w.heap.size, 0, none⟩, (0 : Int) ≤ 4, (4 : Int) < (8 : Int), LoadsAs Try.prog 32 (⟨w.heap.size, 4, none⟩) (.iface 25 (.int .i64 1)) wj3] (by kernel_rfl) ⟨rfl, (by decide), (by decide), loads1 rfl (Blk.cell (Blk.below hk_3 hB_54) 4 _ rfl), trivial⟩ ?_
      refine XL_nil ?_
      refine X_seq ?_
      refine X_region ?_
      refine XL_run 7 [] [(1, .slice (some ⟨w.heap.size, 0, none⟩) 8 8), (2, .slice (some ⟨w_1.heap.size, 0, none⟩) 8 8), (3, .int .i64 2), (4, .iface 24 (.bool true)), (26, .slice (some ⟨w.heap.size, 0, none⟩) 8 8), (27, .int .i64 8), (28, .int .i64 2), (54, .slice (some ⟨w.heap.size, 0, none⟩) 8 8), (55, .int .i64 8), (56, .int .i64 4), (67, .bool false)] wj3 [] (by kernel_rfl) trivial ?_
      refine XL_nil ?_
      refine X_cond false rfl ?_
      refine X_skip ?_
      refine X_region ?_
      refine XL_run 2 [] [(1, .slice (some ⟨w.heap.size, 0, none⟩) 8 8), (2, .slice (some ⟨w_1.heap.size, 0, none⟩) 8 8), (3, .int .i64 2), (4, .iface 24 (.bool true)), (26, .slice (some ⟨w.heap.size, 0, none⟩) 8 8), (27, .int .i64 8), (28, .int .i64 2), (54, .slice (some ⟨w.heap.size, 0, none⟩) 8 8), (55, .int .i64 8), (56, .int .i64 5)] wj3 [] (by kernel_rfl) trivial ?_
      refine XL_nil ?_
      refine ⟨5, by kernel_rfl, ?_, ?_⟩
      · exact ⟨by omega, HBj3⟩
      · decide
    · refine X_seq ?_
      refine X_region ?_
      refine XL_run 1 [] [(1, .slice (some ⟨w.heap.size, 0, none⟩) 8 8), (2, .slice (some ⟨w_1.heap.size, 0, none⟩) 8 8), (3, .int .i64 2), (4, .iface 24 (.bool true)), (26, .slice (some ⟨w.heap.size, 0, none⟩) 8 8), (27, .int .i64 8), (28, .int .i64 2), (54, .slice (some ⟨w.heap.size, 0, none⟩) 8 8), (55, .int .i64 8), (56, .int .i64 5), (57, .bool true)] wj3 [] (by kernel_rfl) trivial ?_
      refine XL_nil ?_
      refine X_seq ?_
      refine X_cond true rfl ?_
      refine X_skip ?_
      refine X_seq ?_
      refine X_block ?_
      refine X_seq ?_
      refine X_region ?_
      refine XL_run 1 [] [(1, .slice (some ⟨w.heap.size, 0, none⟩) 8 8), (2, .slice (some ⟨w_1.heap.size, 0, none⟩) 8 8), (3, .int .i64 2), (4, .iface 24 (.bool true)), (26, .slice (some ⟨w.heap.size, 0, none⟩) 8 8), (27, .int .i64 8), (28, .int .i64 2), (54, .slice (some ⟨w.heap.size, 0, none⟩) 8 8), (55, .int .i64 8), (56, .int .i64 5), (58, .int .i64 5)] wj3 [] (by kernel_rfl) trivial ?_
      have hB_55 : Below w_1.heap.size w_1 wj3 := (bt (bt (bt (bt (bt hb_7 HBi) hb_44) hb_47) hb_49) HBj3)
      refine XL_run 4 [(59, .idx ⟨w.heap.size, 0, none⟩), (60, .load (.iface 25 (.int .i64 (-5))))] [(1, .slice (some ⟨w.heap.size, 0, none⟩) 8 8), (2, .slice (some ⟨w_1.heap.size, 0, none⟩) 8 8), (3, .int .i64 2), (4, .iface 24 (.bool true)), (5, .int .i64 5), (6, .iface 25 (.int .i64 (-5))), (26, .slice (some ⟨w.heap.size, 0, none⟩) 8 8), (27, .int .i64 8), (28, .int .i64 2), (54, .slice (some ⟨w.heap.size, 0, none⟩) 8 8), (55, .int .i64 8), (56, .int .i64 5)] wj3 [(some ⟨w.heap.size, 0, none⟩ : Option Addr) = some ⟨w.heap.size, 0, none⟩, (0 : Int) ≤ 5, (5 : Int) < (8 : Int), LoadsAs Try.prog 32 (⟨w.heap.size, 5, none⟩) (.iface 25 (.int .i64 (-5))) wj3] (by kernel_rfl) ⟨rfl, (by decide), (by decide), loads1 rfl (Blk.cell (Blk.below hk_3 hB_55) 5 _ rfl), trivial⟩ ?_
      refine XL_nil ?_
      refine X_seq ?_
      refine X_region ?_
      refine XL_run 7 [] [(1, .slice (some ⟨w.heap.size, 0, none⟩) 8 8), (2, .slice (some ⟨w_1.heap.size, 0, none⟩) 8 8), (3, .int .i64 2), (4, .iface 24 (.bool true)), (26, .slice (some ⟨w.heap.size, 0, none⟩) 8 8), (27, .int .i64 8), (28, .int .i64 2), (54, .slice (some ⟨w.heap.size, 0, none⟩) 8 8), (55, .int .i64 8), (56, .int .i64 5), (67, .bool false)] wj3 [] (by kernel_rfl) trivial ?_
      refine XL_nil ?_
      refine X_cond false rfl ?_
      refine X_skip ?_
      refine X_region ?_
      refine XL_run 2 [] [(1, .slice (some ⟨w.heap.size, 0, none⟩) 8 8), (2, .slice (some ⟨w_1.heap.size, 0, none⟩) 8 8), (3, .int .i64 2), (4, .iface 24 (.bool true)), (26, .slice (some ⟨w.heap.size, 0, none⟩) 8 8), (27, .int .i64 8), (28, .int .i64 2), (54, .slice (some ⟨w.heap.size, 0, none⟩) 8 8), (55, .int .i64 8), (56, .int .i64 6)] wj3 [] (by kernel_rfl) trivial ?_
      refine XL_nil ?_
      refine ⟨6, by kernel_rfl, ?_, ?_⟩
      · exact ⟨by omega, HBj3⟩
      · decide
    · refine X_seq ?_
      refine X_region ?_
      refine XL_run 1 [] [(1, .slice (some ⟨w.heap.size, 0, none⟩) 8 8), (2, .slice (some ⟨w_1.heap.size, 0, none⟩) 8 8), (3, .int .i64 2), (4, .iface 24 (.bool true)), (26, .slice (some ⟨w.heap.size, 0, none⟩) 8 8), (27, .int .i64 8), (28, .int .i64 2), (54, .slice (some ⟨w.heap.size, 0, none⟩) 8 8), (55, .int .i64 8), (56, .int .i64 6), (57, .bool true)] wj3 [] (by kernel_rfl) trivial ?_
      refine XL_nil ?_
      refine X_seq ?_
      refine X_cond true rfl ?_
      refine X_skip ?_
      refine X_seq ?_
      refine X_block ?_
      refine X_seq ?_
      refine X_region ?_
      refine XL_run 1 [] [(1, .slice (some ⟨w.heap.size, 0, none⟩) 8 8), (2, .slice (some ⟨w_1.heap.size, 0, none⟩) 8 8), (3, .int .i64 2), (4, .iface 24 (.bool true)), (26, .slice (some ⟨w.heap.size, 0, none⟩) 8 8), (27, .int .i64 8), (28, .int .i64 2), (54, .slice (some ⟨w.heap.size, 0, none⟩) 8 8), (55, .int .i64 8), (56, .int .i64 6), (58, .int .i64 6)] wj3 [] (by kernel_rfl) trivial ?_
      have hB_56 : Below w_1.heap.size w_1 wj3 := (bt (bt (bt (bt (bt hb_7 HBi) hb_44) hb_47) hb_49) HBj3)
      refine XL_run 4 [(59, .idx ⟨w.heap.size, 0, none⟩), (60, .load (.iface 26 (.string (⟨#[]⟩ : ByteArray))))] [(1, .slice (some ⟨w.heap.size, 0, none⟩) 8 8), (2, .slice (some ⟨w_1.heap.size, 0, none⟩) 8 8), (3, .int .i64 2), (4, .iface 24 (.bool true)), (5, .int .i64 6), (6, .iface 26 (.string (⟨#[]⟩ : ByteArray))), (26, .slice (some ⟨w.heap.size, 0, none⟩) 8 8), (27, .int .i64 8), (28, .int .i64 2), (54, .slice (some ⟨w.heap.size, 0, none⟩) 8 8), (55, .int .i64 8), (56, .int .i64 6)] wj3 [(some ⟨w.heap.size, 0, none⟩ : Option Addr) = some ⟨w.heap.size, 0, none⟩, (0 : Int) ≤ 6, (6 : Int) < (8 : Int), LoadsAs Try.prog 32 (⟨w.heap.size, 6, none⟩) (.iface 26 (.string (⟨#[]⟩ : ByteArray))) wj3] (by kernel_rfl) ⟨rfl, (by decide), (by decide), loads1 rfl (Blk.cell (Blk.below hk_3 hB_56) 6 _ rfl), trivial⟩ ?_
      refine XL_nil ?_
      refine X_seq ?_
      refine X_region ?_
      refine XL_run 7 [] [(1, .slice (some ⟨w.heap.size, 0, none⟩) 8 8), (2, .slice (some ⟨w_1.heap.size, 0, none⟩) 8 8), (3, .int .i64 2), (4, .iface 24 (.bool true)), (26, .slice (some ⟨w.heap.size, 0, none⟩) 8 8), (27, .int .i64 8), (28, .int .i64 2), (54, .slice (some ⟨w.heap.size, 0, none⟩) 8 8), (55, .int .i64 8), (56, .int .i64 6), (67, .bool false)] wj3 [] (by kernel_rfl) trivial ?_
      refine XL_nil ?_
      refine X_cond false rfl ?_
      refine X_skip ?_
      refine X_region ?_
      refine XL_run 2 [] [(1, .slice (some ⟨w.heap.size, 0, none⟩) 8 8), (2, .slice (some ⟨w_1.heap.size, 0, none⟩) 8 8), (3, .int .i64 2), (4, .iface 24 (.bool true)), (26, .slice (some ⟨w.heap.size, 0, none⟩) 8 8), (27, .int .i64 8), (28, .int .i64 2), (54, .slice (some ⟨w.heap.size, 0, none⟩) 8 8), (55, .int .i64 8), (56, .int .i64 7)] wj3 [] (by kernel_rfl) trivial ?_
      refine XL_nil ?_
      refine ⟨7, by kernel_rfl, ?_, ?_⟩
      · exact ⟨by omega, HBj3⟩
      · decide
    · refine X_seq ?_
      refine X_region ?_
      refine XL_run 1 [] [(1, .slice (some ⟨w.heap.size, 0, none⟩) 8 8), (2, .slice (some ⟨w_1.heap.size, 0, none⟩) 8 8), (3, .int .i64 2), (4, .iface 24 (.bool true)), (26, .slice (some ⟨w.heap.size, 0, none⟩) 8 8), (27, .int .i64 8), (28, .int .i64 2), (54, .slice (some ⟨w.heap.size, 0, none⟩) 8 8), (55, .int .i64 8), (56, .int .i64 7), (57, .bool true)] wj3 [] (by kernel_rfl) trivial ?_
      refine XL_nil ?_
      refine X_seq ?_
      refine X_cond true rfl ?_
      refine X_skip ?_
      refine X_seq ?_
      refine X_block ?_
      refine X_seq ?_
      refine X_region ?_
      refine XL_run 1 [] [(1, .slice (some ⟨w.heap.size, 0, none⟩) 8 8), (2, .slice (some ⟨w_1.heap.size, 0, none⟩) 8 8), (3, .int .i64 2), (4, .iface 24 (.bool true)), (26, .slice (some ⟨w.heap.size, 0, none⟩) 8 8), (27, .int .i64 8), (28, .int .i64 2), (54, .slice (some ⟨w.heap.size, 0, none⟩) 8 8), (55, .int .i64 8), (56, .int .i64 7), (58, .int .i64 7)] wj3 [] (by kernel_rfl) trivial ?_
      have hB_57 : Below w_1.heap.size w_1 wj3 := (bt (bt (bt (bt (bt hb_7 HBi) hb_44) hb_47) hb_49) HBj3)
      refine XL_run 4 [(59, .idx ⟨w.heap.size, 0, none⟩), (60, .load (.iface 26 (.string (⟨#[97]⟩ : ByteArray))))] [(1, .slice (some ⟨w.heap.size, 0, none⟩) 8 8), (2, .slice (some ⟨w_1.heap.size, 0, none⟩) 8 8), (3, .int .i64 2), (4, .iface 24 (.bool true)), (5, .int .i64 7), (6, .iface 26 (.string (⟨#[97]⟩ : ByteArray))), (26, .slice (some ⟨w.heap.size, 0, none⟩) 8 8), (27, .int .i64 8), (28, .int .i64 2), (54, .slice (some ⟨w.heap.size, 0, none⟩) 8 8), (55, .int .i64 8), (56, .int .i64 7)] wj3 [(some ⟨w.heap.size, 0, none⟩ : Option Addr) = some ⟨w.heap.size, 0, none⟩, (0 : Int) ≤ 7, (7 : Int) < (8 : Int), LoadsAs Try.prog 32 (⟨w.heap.size, 7, none⟩) (.iface 26 (.string (⟨#[97]⟩ : ByteArray))) wj3] (by kernel_rfl) ⟨rfl, (by decide), (by decide), loads1 rfl (Blk.cell (Blk.below hk_3 hB_57) 7 _ rfl), trivial⟩ ?_
      refine XL_nil ?_
      refine X_seq ?_
      refine X_region ?_
      refine XL_run 7 [] [(1, .slice (some ⟨w.heap.size, 0, none⟩) 8 8), (2, .slice (some ⟨w_1.heap.size, 0, none⟩) 8 8), (3, .int .i64 2), (4, .iface 24 (.bool true)), (26, .slice (some ⟨w.heap.size, 0, none⟩) 8 8), (27, .int .i64 8), (28, .int .i64 2), (54, .slice (some ⟨w.heap.size, 0, none⟩) 8 8), (55, .int .i64 8), (56, .int .i64 7), (67, .bool false)] wj3 [] (by kernel_rfl) trivial ?_
      refine XL_nil ?_
      refine X_cond false rfl ?_
      refine X_skip ?_
      refine X_region ?_
      refine XL_run 2 [] [(1, .slice (some ⟨w.heap.size, 0, none⟩) 8 8), (2, .slice (some ⟨w_1.heap.size, 0, none⟩) 8 8), (3, .int .i64 2), (4, .iface 24 (.bool true)), (26, .slice (some ⟨w.heap.size, 0, none⟩) 8 8), (27, .int .i64 8), (28, .int .i64 2), (54, .slice (some ⟨w.heap.size, 0, none⟩) 8 8), (55, .int .i64 8), (56, .int .i64 8)] wj3 [] (by kernel_rfl) trivial ?_
      refine XL_nil ?_
      refine ⟨8, by kernel_rfl, ?_, ?_⟩
      · exact ⟨by omega, HBj3⟩
      · decide
    · refine X_seq ?_
      refine X_region ?_
      refine XL_run 1 [] [(1, .slice (some ⟨w.heap.size, 0, none⟩) 8 8), (2, .slice (some ⟨w_1.heap.size, 0, none⟩) 8 8), (3, .int .i64 2), (4, .iface 24 (.bool true)), (26, .slice (some ⟨w.heap.size, 0, none⟩) 8 8), (27, .int .i64 8), (28, .int .i64 2), (54, .slice (some ⟨w.heap.size, 0, none⟩) 8 8), (55, .int .i64 8), (56, .int .i64 8), (57, .bool false)] wj3 [] (by kernel_rfl) trivial ?_
      refine XL_nil ?_
      refine X_seq ?_
      refine X_cond false rfl ?_
      refine X_exit ?_
      refine X_region ?_
      refine XL_run 2 [] [(1, .slice (some ⟨w.heap.size, 0, none⟩) 8 8), (2, .slice (some ⟨w_1.heap.size, 0, none⟩) 8 8), (26, .slice (some ⟨w.heap.size, 0, none⟩) 8 8), (27, .int .i64 8), (28, .int .i64 3)] wj3 [] (by kernel_rfl) trivial ?_
      refine XL_nil ?_
      have hB_58 : Below w_6.heap.size w_6 wj3 := (bt (bt (bt (bt HBi hb_44) hb_47) hb_49) HBj3)
      refine ⟨3, by kernel_rfl, ?_, ?_⟩
      · exact ⟨by omega, hB_58⟩
      · decide
  · refine X_seq ?_
    refine X_region ?_
    refine XL_run 1 [] [(1, .slice (some ⟨w.heap.size, 0, none⟩) 8 8), (2, .slice (some ⟨w_1.heap.size, 0, none⟩) 8 8), (26, .slice (some ⟨w.heap.size, 0, none⟩) 8 8), (27, .int .i64 8), (28, .int .i64 3), (29, .bool true)] wi [] (by kernel_rfl) trivial ?_
    refine XL_nil ?_
    refine X_seq ?_
    refine X_cond true rfl ?_
    refine X_skip ?_
    refine X_seq ?_
    refine X_block ?_
    refine X_seq ?_
    refine X_region ?_
    refine XL_run 1 [] [(1, .slice (some ⟨w.heap.size, 0, none⟩) 8 8), (2, .slice (some ⟨w_1.heap.size, 0, none⟩) 8 8), (26, .slice (some ⟨w.heap.size, 0, none⟩) 8 8), (27, .int .i64 8), (28, .int .i64 3), (30, .int .i64 3)] wi [] (by kernel_rfl) trivial ?_
    refine XL_run 4 [(31, .idx ⟨w.heap.size, 0, none⟩), (32, .load (.iface 25 (.int .i64 0)))] [(1, .slice (some ⟨w.heap.size, 0, none⟩) 8 8), (2, .slice (some ⟨w_1.heap.size, 0, none⟩) 8 8), (3, .int .i64 3), (4, .iface 25 (.int .i64 0)), (26, .slice (some ⟨w.heap.size, 0, none⟩) 8 8), (27, .int .i64 8), (28, .int .i64 3)] wi [(some ⟨w.heap.size, 0, none⟩ : Option Addr) = some ⟨w.heap.size, 0, none⟩, (0 : Int) ≤ 3, (3 : Int) < (8 : Int), LoadsAs Try.prog 32 (⟨w.heap.size, 3, none⟩) (.iface 25 (.int .i64 0)) wi] (by kernel_rfl) ⟨rfl, (by decide), (by decide), loads1 rfl (Blk.cell (Blk.below hk_3 (bt hb_7 HBi)) 3 _ rfl), trivial⟩ ?_
    refine XL_nil ?_
    refine X_seq ?_
    refine X_seq ?_
    refine X_grow [] 21 #[false, false, false, false, false, false, false, false, false, false, false, false, false, false, false, false, false, false, false, false, false] (by kernel_rfl) (by kernel_rfl) (by kernel_rfl) (fun wd_59 hb_60 hh_61 => ?_)
    refine XB_run (fuel' := 15) (Below.refl _ _) [0, 1, 2, 3, 5, 6] [] [.iface 25 (.int .i64 0), .bool false, .bool false, .iface 25 (.int .i64 0), .slice (some ⟨w_1.heap.size, 0, none⟩) 8 8, .int .i64 3] #[true, true, true, true, false, true, true, false, false, false, false, false, false, false, false, false, false, false, false, false, false] [(1, .slice (some ⟨w.heap.size, 0, none⟩) 8 8), (2, .slice (some ⟨w_1.heap.size, 0, none⟩) 8 8), (3, .int .i64 3), (4, .iface 25 (.int .i64 0)), (26, .slice (some ⟨w.heap.size, 0, none⟩) 8 8), (27, .int .i64 8), (28, .int .i64 3), (35, .bool false), (36, .iface 25 (.int .i64 0)), (38, .slice (some ⟨w_1.heap.size, 0, none⟩) 8 8), (39, .int .i64 3)] (fun w_ => []) (fun _ _ _ _ h => h) (fun w_ => by kernel_rfl) rfl (fun w_ hC_ => trivial) ?_
    refine XB_run (fuel' := 12) (Below.refl _ _) [7, 8, 9] [(40, .idx ⟨w_1.heap.size, 0, none⟩), (42, .load (.int .i64 2))] [.pointer (some ⟨w_1.heap.size, 9, none⟩), .pointer (some ⟨w_1.heap.size, 9, none⟩), .int .i64 2] #[true, true, true, true, false, true, true, true, true, true, false, false, false, false, false, false, false, false, false, false, false] [(1, .slice (some ⟨w.heap.size, 0, none⟩) 8 8), (2, .slice (some ⟨w_1.heap.size, 0, none⟩) 8 8), (3, .int .i64 3), (4, .iface 25 (.int .i64 0)), (26, .slice (some ⟨w.heap.size, 0, none⟩) 8 8), (27, .int .i64 8), (28, .int .i64 3), (35, .bool false), (36, .iface 25 (.int .i64 0)), (42, .int .i64 2)] (fun w_ => [(some ⟨w_1.heap.size, 0, none⟩ : Option Addr) = some ⟨w_1.heap.size, 0, none⟩, (0 : Int) ≤ 3, (3 : Int) < (8 : Int), LoadsAs Try.prog 3 (⟨w_1.heap.size, 9, none⟩) (.int .i64 2) w_]) (fun _ _ _ _ h => h) (fun w_ => by kernel_rfl) rfl (fun w_ hC_ => ⟨rfl, (by decide), (by decide), loads1 rfl (Blk.cell (Blk.below hk_8 (bt (bt HBi hb_60) hC_)) 9 _ rfl), trivial⟩) ?_
    refine XB_mid (fuel' := 11) 4 #[true, true, true, true, true, true, true, true, true, true, false, false, false, false, false, false, false, false, false, false, false] _ rfl (by kernel_rfl) (by kernel_rfl) rfl ?_
    refine XL_inv 24 #[.int .i64 0] rfl rfl (by kernel_rfl) (by kernel_rfl) (number_kind 0 _) ?_
    rintro e w_62 ⟨rfl, hb_63⟩; refine ⟨_, rfl, ?_⟩
    refine XL_nil ?_
    refine ⟨hb_63, ?_⟩
    refine XB_run (fuel' := 5) hb_63 [10, 11, 12, 13, 15, 16] [] [.bool false, .bool false, .bool false, .iface 25 (.int .i64 0), .slice (some ⟨w_1.heap.size, 0, none⟩) 8 8, .int .i64 3] #[true, true, true, true, true, true, true, true, true, true, true, true, true, true, false, true, true, false, false, false, false] [(1, .slice (some ⟨w.heap.size, 0, none⟩) 8 8), (2, .slice (some ⟨w_1.heap.size, 0, none⟩) 8 8), (3, .int .i64 3), (4, .iface 25 (.int .i64 0)), (26, .slice (some ⟨w.heap.size, 0, none⟩) 8 8), (27, .int .i64 8), (28, .int .i64 3), (45, .bool false), (46, .iface 25 (.int .i64 0)), (48, .slice (some ⟨w_1.heap.size, 0, none⟩) 8 8), (49, .int .i64 3)] (fun w_ => []) (fun _ _ _ _ h => h) (fun w_ => by kernel_rfl) rfl (fun w_ hC_ => trivial) ?_
    refine XB_run (fuel' := 3) hb_63 [17, 18] [(50, .idx ⟨w_1.heap.size, 0, none⟩), (51, .load (.agg #[.int .i64 2, .int .i64 0, .string ByteArray.empty]))] [.pointer (some ⟨w_1.heap.size, 9, none⟩), .agg #[.int .i64 2, .int .i64 0, .string ByteArray.empty]] #[true, true, true, true, true, true, true, true, true, true, true, true, true, true, false, true, true, true, true, false, false] [(1, .slice (some ⟨w.heap.size, 0, none⟩) 8 8), (2, .slice (some ⟨w_1.heap.size, 0, none⟩) 8 8), (3, .int .i64 3), (4, .iface 25 (.int .i64 0)), (26, .slice (some ⟨w.heap.size, 0, none⟩) 8 8), (27, .int .i64 8), (28, .int .i64 3), (45, .bool false), (46, .iface 25 (.int .i64 0)), (51, .agg #[.int .i64 2, .int .i64 0, .string ByteArray.empty])] (fun w_ => [(some ⟨w_1.heap.size, 0, none⟩ : Option Addr) = some ⟨w_1.heap.size, 0, none⟩, (0 : Int) ≤ 3, (3 : Int) < (8 : Int), LoadsAs Try.prog 29 (⟨w_1.heap.size, 9, none⟩) (.agg #[.int .i64 2, .int .i64 0, .string ByteArray.empty]) w_]) (fun _ _ _ _ h => h) (fun w_ => by kernel_rfl) rfl (fun w_ hC_ => ⟨rfl, (by decide), (by decide), loadsB rfl rfl (Blk.below hk_8 (bt (bt HBi hb_60) hC_)) 9 ⟨by kernel_rfl, by kernel_rfl⟩, trivial⟩) ?_
    refine XB_mid (fuel' := 2) 14 #[true, true, true, true, true, true, true, true, true, true, true, true, true, true, true, true, true, true, true, false, false] _ rfl (by kernel_rfl) (by kernel_rfl) rfl ?_
    refine XL_inv 25 #[.int .i64 0] rfl rfl (by kernel_rfl) (by kernel_rfl) (number_plain 0 _) ?_
    rintro e w_64 ⟨rfl, hb_65⟩; refine ⟨_, rfl, ?_⟩
    refine XL_nil ?_
    refine ⟨(bt hb_63 hb_65), ?_⟩
    refine XB_run (fuel' := 0) (bt hb_63 hb_65) [19, 20] [] [.bool false, .bool false] #[true, true, true, true, true, true, true, true, true, true, true, true, true, true, true, true, true, true, true, true, true] [(1, .slice (some ⟨w.heap.size, 0, none⟩) 8 8), (2, .slice (some ⟨w_1.heap.size, 0, none⟩) 8 8), (3, .int .i64 3), (4, .iface 25 (.int .i64 0)), (26, .slice (some ⟨w.heap.size, 0, none⟩) 8 8), (27, .int .i64 8), (28, .int .i64 3), (53, .bool false)] (fun w_ => []) (fun _ _ _ _ h => h) (fun w_ => by kernel_rfl) rfl (fun w_ hC_ => trivial) ?_
    refine XB_done (by kernel_rfl) ?_
    refine X_cond false rfl ?_
    refine X_skip ?_
    refine X_seq ?_
    refine X_region ?_
    refine XL_run 3 [] [(1, .slice (some ⟨w.heap.size, 0, none⟩) 8 8), (2, .slice (some ⟨w_1.heap.size, 0, none⟩) 8 8), (3, .int .i64 3), (4, .iface 25 (.int .i64 0)), (26, .slice (some ⟨w.heap.size, 0, none⟩) 8 8), (27, .int .i64 8), (28, .int .i64 3), (54, .slice (some ⟨w.heap.size, 0, none⟩) 8 8), (55, .int .i64 8), (56, .int .i64 0)] w_64 [] (by kernel_rfl) trivial ?_
    refine XL_nil ?_
    refine X_block ?_
    refine X_loop (ι := Nat) (fun j4 => [(1, .slice (some ⟨w.heap.size, 0, none⟩) 8 8), (2, .slice (some ⟨w_1.heap.size, 0, none⟩) 8 8), (3, .int .i64 3), (4, .iface 25 (.int .i64 0)), (26, .slice (some ⟨w.heap.size, 0, none⟩) 8 8), (27, .int .i64 8), (28, .int .i64 3), (54, .slice (some ⟨w.heap.size, 0, none⟩) 8 8), (55, .int .i64 8), (56, .int .i64 (j4 : Int))]) (fun j4 wj4 => j4 ≤ 8 ∧ Below w_64.heap.size w_64 wj4) (fun j4 => 8 - j4) 0 ⟨by omega, Below.refl _ _⟩ (by kernel_rfl) ?_
    rintro j4 wj4 ⟨hj4, HBj4⟩
    obtain rfl | rfl | rfl | rfl | rfl | rfl | rfl | rfl | rfl : j4 = 0 ∨ j4 = 1 ∨ j4 = 2 ∨ j4 = 3 ∨ j4 = 4 ∨ j4 = 5 ∨ j4 = 6 ∨ j4 = 7 ∨ j4 = 8 := by omega
    · refine X_seq ?_
      refine X_region ?_
      refine XL_run 1 [] [(1, .slice (some ⟨w.heap.size, 0, none⟩) 8 8), (2, .slice (some ⟨w_1.heap.size, 0, none⟩) 8 8), (3, .int .i64 3), (4, .iface 25 (.int .i64 0)), (26, .slice (some ⟨w.heap.size, 0, none⟩) 8 8), (27, .int .i64 8), (28, .int .i64 3), (54, .slice (some ⟨w.heap.size, 0, none⟩) 8 8), (55, .int .i64 8), (56, .int .i64 0), (57, .bool true)] wj4 [] (by kernel_rfl) trivial ?_
      refine XL_nil ?_
      refine X_seq ?_
      refine X_cond true rfl ?_
      refine X_skip ?_
      refine X_seq ?_
      refine X_block ?_
      refine X_seq ?_
      refine X_region ?_
      refine XL_run 1 [] [(1, .slice (some ⟨w.heap.size, 0, none⟩) 8 8), (2, .slice (some ⟨w_1.heap.size, 0, none⟩) 8 8), (3, .int .i64 3), (4, .iface 25 (.int .i64 0)), (26, .slice (some ⟨w.heap.size, 0, none⟩) 8 8), (27, .int .i64 8), (28, .int .i64 3), (54, .slice (some ⟨w.heap.size, 0, none⟩) 8 8), (55, .int .i64 8), (56, .int .i64 0), (58, .int .i64 0)] wj4 [] (by kernel_rfl) trivial ?_
      have hB_66 : Below w_1.heap.size w_1 wj4 := (bt (bt (bt (bt (bt hb_7 HBi) hb_60) hb_63) hb_65) HBj4)
      refine XL_run 4 [(59, .idx ⟨w.heap.size, 0, none⟩), (60, .load (.iface 23 (.agg #[])))] [(1, .slice (some ⟨w.heap.size, 0, none⟩) 8 8), (2, .slice (some ⟨w_1.heap.size, 0, none⟩) 8 8), (3, .int .i64 3), (4, .iface 25 (.int .i64 0)), (5, .int .i64 0), (6, .iface 23 (.agg #[])), (26, .slice (some ⟨w.heap.size, 0, none⟩) 8 8), (27, .int .i64 8), (28, .int .i64 3), (54, .slice (some ⟨w.heap.size, 0, none⟩) 8 8), (55, .int .i64 8), (56, .int .i64 0)] wj4 [(some ⟨w.heap.size, 0, none⟩ : Option Addr) = some ⟨w.heap.size, 0, none⟩, (0 : Int) ≤ 0, (0 : Int) < (8 : Int), LoadsAs Try.prog 32 (⟨w.heap.size, 0, none⟩) (.iface 23 (.agg #[])) wj4] (by kernel_rfl) ⟨rfl, (by decide), (by decide), loads1 rfl (Blk.cell (Blk.below hk_3 hB_66) 0 _ rfl), trivial⟩ ?_
      refine XL_nil ?_
      refine X_seq ?_
      refine X_region ?_
      refine XL_run 7 [] [(1, .slice (some ⟨w.heap.size, 0, none⟩) 8 8), (2, .slice (some ⟨w_1.heap.size, 0, none⟩) 8 8), (3, .int .i64 3), (4, .iface 25 (.int .i64 0)), (26, .slice (some ⟨w.heap.size, 0, none⟩) 8 8), (27, .int .i64 8), (28, .int .i64 3), (54, .slice (some ⟨w.heap.size, 0, none⟩) 8 8), (55, .int .i64 8), (56, .int .i64 0), (67, .bool false)] wj4 [] (by kernel_rfl) trivial ?_
      refine XL_nil ?_
      refine X_cond false rfl ?_
      refine X_skip ?_
      refine X_region ?_
      refine XL_run 2 [] [(1, .slice (some ⟨w.heap.size, 0, none⟩) 8 8), (2, .slice (some ⟨w_1.heap.size, 0, none⟩) 8 8), (3, .int .i64 3), (4, .iface 25 (.int .i64 0)), (26, .slice (some ⟨w.heap.size, 0, none⟩) 8 8), (27, .int .i64 8), (28, .int .i64 3), (54, .slice (some ⟨w.heap.size, 0, none⟩) 8 8), (55, .int .i64 8), (56, .int .i64 1)] wj4 [] (by kernel_rfl) trivial ?_
      refine XL_nil ?_
      refine ⟨1, by kernel_rfl, ?_, ?_⟩
      · exact ⟨by omega, HBj4⟩
      · decide
    · refine X_seq ?_
      refine X_region ?_
      refine XL_run 1 [] [(1, .slice (some ⟨w.heap.size, 0, none⟩) 8 8), (2, .slice (some ⟨w_1.heap.size, 0, none⟩) 8 8), (3, .int .i64 3), (4, .iface 25 (.int .i64 0)), (26, .slice (some ⟨w.heap.size, 0, none⟩) 8 8), (27, .int .i64 8), (28, .int .i64 3), (54, .slice (some ⟨w.heap.size, 0, none⟩) 8 8), (55, .int .i64 8), (56, .int .i64 1), (57, .bool true)] wj4 [] (by kernel_rfl) trivial ?_
      refine XL_nil ?_
      refine X_seq ?_
      refine X_cond true rfl ?_
      refine X_skip ?_
      refine X_seq ?_
      refine X_block ?_
      refine X_seq ?_
      refine X_region ?_
      refine XL_run 1 [] [(1, .slice (some ⟨w.heap.size, 0, none⟩) 8 8), (2, .slice (some ⟨w_1.heap.size, 0, none⟩) 8 8), (3, .int .i64 3), (4, .iface 25 (.int .i64 0)), (26, .slice (some ⟨w.heap.size, 0, none⟩) 8 8), (27, .int .i64 8), (28, .int .i64 3), (54, .slice (some ⟨w.heap.size, 0, none⟩) 8 8), (55, .int .i64 8), (56, .int .i64 1), (58, .int .i64 1)] wj4 [] (by kernel_rfl) trivial ?_
      have hB_67 : Below w_1.heap.size w_1 wj4 := (bt (bt (bt (bt (bt hb_7 HBi) hb_60) hb_63) hb_65) HBj4)
      refine XL_run 4 [(59, .idx ⟨w.heap.size, 0, none⟩), (60, .load (.iface 24 (.bool false)))] [(1, .slice (some ⟨w.heap.size, 0, none⟩) 8 8), (2, .slice (some ⟨w_1.heap.size, 0, none⟩) 8 8), (3, .int .i64 3), (4, .iface 25 (.int .i64 0)), (5, .int .i64 1), (6, .iface 24 (.bool false)), (26, .slice (some ⟨w.heap.size, 0, none⟩) 8 8), (27, .int .i64 8), (28, .int .i64 3), (54, .slice (some ⟨w.heap.size, 0, none⟩) 8 8), (55, .int .i64 8), (56, .int .i64 1)] wj4 [(some ⟨w.heap.size, 0, none⟩ : Option Addr) = some ⟨w.heap.size, 0, none⟩, (0 : Int) ≤ 1, (1 : Int) < (8 : Int), LoadsAs Try.prog 32 (⟨w.heap.size, 1, none⟩) (.iface 24 (.bool false)) wj4] (by kernel_rfl) ⟨rfl, (by decide), (by decide), loads1 rfl (Blk.cell (Blk.below hk_3 hB_67) 1 _ rfl), trivial⟩ ?_
      refine XL_nil ?_
      refine X_seq ?_
      refine X_region ?_
      refine XL_run 7 [] [(1, .slice (some ⟨w.heap.size, 0, none⟩) 8 8), (2, .slice (some ⟨w_1.heap.size, 0, none⟩) 8 8), (3, .int .i64 3), (4, .iface 25 (.int .i64 0)), (26, .slice (some ⟨w.heap.size, 0, none⟩) 8 8), (27, .int .i64 8), (28, .int .i64 3), (54, .slice (some ⟨w.heap.size, 0, none⟩) 8 8), (55, .int .i64 8), (56, .int .i64 1), (67, .bool false)] wj4 [] (by kernel_rfl) trivial ?_
      refine XL_nil ?_
      refine X_cond false rfl ?_
      refine X_skip ?_
      refine X_region ?_
      refine XL_run 2 [] [(1, .slice (some ⟨w.heap.size, 0, none⟩) 8 8), (2, .slice (some ⟨w_1.heap.size, 0, none⟩) 8 8), (3, .int .i64 3), (4, .iface 25 (.int .i64 0)), (26, .slice (some ⟨w.heap.size, 0, none⟩) 8 8), (27, .int .i64 8), (28, .int .i64 3), (54, .slice (some ⟨w.heap.size, 0, none⟩) 8 8), (55, .int .i64 8), (56, .int .i64 2)] wj4 [] (by kernel_rfl) trivial ?_
      refine XL_nil ?_
      refine ⟨2, by kernel_rfl, ?_, ?_⟩
      · exact ⟨by omega, HBj4⟩
      · decide
    · refine X_seq ?_
      refine X_region ?_
      refine XL_run 1 [] [(1, .slice (some ⟨w.heap.size, 0, none⟩) 8 8), (2, .slice (some ⟨w_1.heap.size, 0, none⟩) 8 8), (3, .int .i64 3), (4, .iface 25 (.int .i64 0)), (26, .slice (some ⟨w.heap.size, 0, none⟩) 8 8), (27, .int .i64 8), (28, .int .i64 3), (54, .slice (some ⟨w.heap.size, 0, none⟩) 8 8), (55, .int .i64 8), (56, .int .i64 2), (57, .bool true)] wj4 [] (by kernel_rfl) trivial ?_
      refine XL_nil ?_
      refine X_seq ?_
      refine X_cond true rfl ?_
      refine X_skip ?_
      refine X_seq ?_
      refine X_block ?_
      refine X_seq ?_
      refine X_region ?_
      refine XL_run 1 [] [(1, .slice (some ⟨w.heap.size, 0, none⟩) 8 8), (2, .slice (some ⟨w_1.heap.size, 0, none⟩) 8 8), (3, .int .i64 3), (4, .iface 25 (.int .i64 0)), (26, .slice (some ⟨w.heap.size, 0, none⟩) 8 8), (27, .int .i64 8), (28, .int .i64 3), (54, .slice (some ⟨w.heap.size, 0, none⟩) 8 8), (55, .int .i64 8), (56, .int .i64 2), (58, .int .i64 2)] wj4 [] (by kernel_rfl) trivial ?_
      have hB_68 : Below w_1.heap.size w_1 wj4 := (bt (bt (bt (bt (bt hb_7 HBi) hb_60) hb_63) hb_65) HBj4)
      refine XL_run 4 [(59, .idx ⟨w.heap.size, 0, none⟩), (60, .load (.iface 24 (.bool true)))] [(1, .slice (some ⟨w.heap.size, 0, none⟩) 8 8), (2, .slice (some ⟨w_1.heap.size, 0, none⟩) 8 8), (3, .int .i64 3), (4, .iface 25 (.int .i64 0)), (5, .int .i64 2), (6, .iface 24 (.bool true)), (26, .slice (some ⟨w.heap.size, 0, none⟩) 8 8), (27, .int .i64 8), (28, .int .i64 3), (54, .slice (some ⟨w.heap.size, 0, none⟩) 8 8), (55, .int .i64 8), (56, .int .i64 2)] wj4 [(some ⟨w.heap.size, 0, none⟩ : Option Addr) = some ⟨w.heap.size, 0, none⟩, (0 : Int) ≤ 2, (2 : Int) < (8 : Int), LoadsAs Try.prog 32 (⟨w.heap.size, 2, none⟩) (.iface 24 (.bool true)) wj4] (by kernel_rfl) ⟨rfl, (by decide), (by decide), loads1 rfl (Blk.cell (Blk.below hk_3 hB_68) 2 _ rfl), trivial⟩ ?_
      refine XL_nil ?_
      refine X_seq ?_
      refine X_region ?_
      refine XL_run 7 [] [(1, .slice (some ⟨w.heap.size, 0, none⟩) 8 8), (2, .slice (some ⟨w_1.heap.size, 0, none⟩) 8 8), (3, .int .i64 3), (4, .iface 25 (.int .i64 0)), (26, .slice (some ⟨w.heap.size, 0, none⟩) 8 8), (27, .int .i64 8), (28, .int .i64 3), (54, .slice (some ⟨w.heap.size, 0, none⟩) 8 8), (55, .int .i64 8), (56, .int .i64 2), (67, .bool false)] wj4 [] (by kernel_rfl) trivial ?_
      refine XL_nil ?_
      refine X_cond false rfl ?_
      refine X_skip ?_
      refine X_region ?_
      refine XL_run 2 [] [(1, .slice (some ⟨w.heap.size, 0, none⟩) 8 8), (2, .slice (some ⟨w_1.heap.size, 0, none⟩) 8 8), (3, .int .i64 3), (4, .iface 25 (.int .i64 0)), (26, .slice (some ⟨w.heap.size, 0, none⟩) 8 8), (27, .int .i64 8), (28, .int .i64 3), (54, .slice (some ⟨w.heap.size, 0, none⟩) 8 8), (55, .int .i64 8), (56, .int .i64 3)] wj4 [] (by kernel_rfl) trivial ?_
      refine XL_nil ?_
      refine ⟨3, by kernel_rfl, ?_, ?_⟩
      · exact ⟨by omega, HBj4⟩
      · decide
    · refine X_seq ?_
      refine X_region ?_
      refine XL_run 1 [] [(1, .slice (some ⟨w.heap.size, 0, none⟩) 8 8), (2, .slice (some ⟨w_1.heap.size, 0, none⟩) 8 8), (3, .int .i64 3), (4, .iface 25 (.int .i64 0)), (26, .slice (some ⟨w.heap.size, 0, none⟩) 8 8), (27, .int .i64 8), (28, .int .i64 3), (54, .slice (some ⟨w.heap.size, 0, none⟩) 8 8), (55, .int .i64 8), (56, .int .i64 3), (57, .bool true)] wj4 [] (by kernel_rfl) trivial ?_
      refine XL_nil ?_
      refine X_seq ?_
      refine X_cond true rfl ?_
      refine X_skip ?_
      refine X_seq ?_
      refine X_block ?_
      refine X_seq ?_
      refine X_region ?_
      refine XL_run 1 [] [(1, .slice (some ⟨w.heap.size, 0, none⟩) 8 8), (2, .slice (some ⟨w_1.heap.size, 0, none⟩) 8 8), (3, .int .i64 3), (4, .iface 25 (.int .i64 0)), (26, .slice (some ⟨w.heap.size, 0, none⟩) 8 8), (27, .int .i64 8), (28, .int .i64 3), (54, .slice (some ⟨w.heap.size, 0, none⟩) 8 8), (55, .int .i64 8), (56, .int .i64 3), (58, .int .i64 3)] wj4 [] (by kernel_rfl) trivial ?_
      have hB_69 : Below w_1.heap.size w_1 wj4 := (bt (bt (bt (bt (bt hb_7 HBi) hb_60) hb_63) hb_65) HBj4)
      refine XL_run 4 [(59, .idx ⟨w.heap.size, 0, none⟩), (60, .load (.iface 25 (.int .i64 0)))] [(1, .slice (some ⟨w.heap.size, 0, none⟩) 8 8), (2, .slice (some ⟨w_1.heap.size, 0, none⟩) 8 8), (3, .int .i64 3), (4, .iface 25 (.int .i64 0)), (5, .int .i64 3), (6, .iface 25 (.int .i64 0)), (26, .slice (some ⟨w.heap.size, 0, none⟩) 8 8), (27, .int .i64 8), (28, .int .i64 3), (54, .slice (some ⟨w.heap.size, 0, none⟩) 8 8), (55, .int .i64 8), (56, .int .i64 3)] wj4 [(some ⟨w.heap.size, 0, none⟩ : Option Addr) = some ⟨w.heap.size, 0, none⟩, (0 : Int) ≤ 3, (3 : Int) < (8 : Int), LoadsAs Try.prog 32 (⟨w.heap.size, 3, none⟩) (.iface 25 (.int .i64 0)) wj4] (by kernel_rfl) ⟨rfl, (by decide), (by decide), loads1 rfl (Blk.cell (Blk.below hk_3 hB_69) 3 _ rfl), trivial⟩ ?_
      refine XL_nil ?_
      refine X_seq ?_
      refine X_region ?_
      refine XL_run 7 [] [(1, .slice (some ⟨w.heap.size, 0, none⟩) 8 8), (2, .slice (some ⟨w_1.heap.size, 0, none⟩) 8 8), (3, .int .i64 3), (4, .iface 25 (.int .i64 0)), (26, .slice (some ⟨w.heap.size, 0, none⟩) 8 8), (27, .int .i64 8), (28, .int .i64 3), (54, .slice (some ⟨w.heap.size, 0, none⟩) 8 8), (55, .int .i64 8), (56, .int .i64 3), (67, .bool false)] wj4 [] (by kernel_rfl) trivial ?_
      refine XL_nil ?_
      refine X_cond false rfl ?_
      refine X_skip ?_
      refine X_region ?_
      refine XL_run 2 [] [(1, .slice (some ⟨w.heap.size, 0, none⟩) 8 8), (2, .slice (some ⟨w_1.heap.size, 0, none⟩) 8 8), (3, .int .i64 3), (4, .iface 25 (.int .i64 0)), (26, .slice (some ⟨w.heap.size, 0, none⟩) 8 8), (27, .int .i64 8), (28, .int .i64 3), (54, .slice (some ⟨w.heap.size, 0, none⟩) 8 8), (55, .int .i64 8), (56, .int .i64 4)] wj4 [] (by kernel_rfl) trivial ?_
      refine XL_nil ?_
      refine ⟨4, by kernel_rfl, ?_, ?_⟩
      · exact ⟨by omega, HBj4⟩
      · decide
    · refine X_seq ?_
      refine X_region ?_
      refine XL_run 1 [] [(1, .slice (some ⟨w.heap.size, 0, none⟩) 8 8), (2, .slice (some ⟨w_1.heap.size, 0, none⟩) 8 8), (3, .int .i64 3), (4, .iface 25 (.int .i64 0)), (26, .slice (some ⟨w.heap.size, 0, none⟩) 8 8), (27, .int .i64 8), (28, .int .i64 3), (54, .slice (some ⟨w.heap.size, 0, none⟩) 8 8), (55, .int .i64 8), (56, .int .i64 4), (57, .bool true)] wj4 [] (by kernel_rfl) trivial ?_
      refine XL_nil ?_
      refine X_seq ?_
      refine X_cond true rfl ?_
      refine X_skip ?_
      refine X_seq ?_
      refine X_block ?_
      refine X_seq ?_
      refine X_region ?_
      refine XL_run 1 [] [(1, .slice (some ⟨w.heap.size, 0, none⟩) 8 8), (2, .slice (some ⟨w_1.heap.size, 0, none⟩) 8 8), (3, .int .i64 3), (4, .iface 25 (.int .i64 0)), (26, .slice (some ⟨w.heap.size, 0, none⟩) 8 8), (27, .int .i64 8), (28, .int .i64 3), (54, .slice (some ⟨w.heap.size, 0, none⟩) 8 8), (55, .int .i64 8), (56, .int .i64 4), (58, .int .i64 4)] wj4 [] (by kernel_rfl) trivial ?_
      have hB_70 : Below w_1.heap.size w_1 wj4 := (bt (bt (bt (bt (bt hb_7 HBi) hb_60) hb_63) hb_65) HBj4)
      refine XL_run 4 [(59, .idx ⟨w.heap.size, 0, none⟩), (60, .load (.iface 25 (.int .i64 1)))] [(1, .slice (some ⟨w.heap.size, 0, none⟩) 8 8), (2, .slice (some ⟨w_1.heap.size, 0, none⟩) 8 8), (3, .int .i64 3), (4, .iface 25 (.int .i64 0)), (5, .int .i64 4), (6, .iface 25 (.int .i64 1)), (26, .slice (some ⟨w.heap.size, 0, none⟩) 8 8), (27, .int .i64 8), (28, .int .i64 3), (54, .slice (some ⟨w.heap.size, 0, none⟩) 8 8), (55, .int .i64 8), (56, .int .i64 4)] wj4 [(some ⟨w.heap.size, 0, none⟩ : Option Addr) = some ⟨w.heap.size, 0, none⟩, (0 : Int) ≤ 4, (4 : Int) < (8 : Int), LoadsAs Try.prog 32 (⟨w.heap.size, 4, none⟩) (.iface 25 (.int .i64 1)) wj4] (by kernel_rfl) ⟨rfl, (by decide), (by decide), loads1 rfl (Blk.cell (Blk.below hk_3 hB_70) 4 _ rfl), trivial⟩ ?_
      refine XL_nil ?_
      refine X_seq ?_
      refine X_region ?_
      refine XL_run 7 [] [(1, .slice (some ⟨w.heap.size, 0, none⟩) 8 8), (2, .slice (some ⟨w_1.heap.size, 0, none⟩) 8 8), (3, .int .i64 3), (4, .iface 25 (.int .i64 0)), (26, .slice (some ⟨w.heap.size, 0, none⟩) 8 8), (27, .int .i64 8), (28, .int .i64 3), (54, .slice (some ⟨w.heap.size, 0, none⟩) 8 8), (55, .int .i64 8), (56, .int .i64 4), (67, .bool false)] wj4 [] (by kernel_rfl) trivial ?_
      refine XL_nil ?_
      refine X_cond false rfl ?_
      refine X_skip ?_
      refine X_region ?_
      refine XL_run 2 [] [(1, .slice (some ⟨w.heap.size, 0, none⟩) 8 8), (2, .slice (some ⟨w_1.heap.size, 0, none⟩) 8 8), (3, .int .i64 3), (4, .iface 25 (.int .i64 0)), (26, .slice (some ⟨w.heap.size, 0, none⟩) 8 8), (27, .int .i64 8), (28, .int .i64 3), (54, .slice (some ⟨w.heap.size, 0, none⟩) 8 8), (55, .int .i64 8), (56, .int .i64 5)] wj4 [] (by kernel_rfl) trivial ?_
      refine XL_nil ?_
      refine ⟨5, by kernel_rfl, ?_, ?_⟩
      · exact ⟨by omega, HBj4⟩
      · decide
    · refine X_seq ?_
      refine X_region ?_
      refine XL_run 1 [] [(1, .slice (some ⟨w.heap.size, 0, none⟩) 8 8), (2, .slice (some ⟨w_1.heap.size, 0, none⟩) 8 8), (3, .int .i64 3), (4, .iface 25 (.int .i64 0)), (26, .slice (some ⟨w.heap.size, 0, none⟩) 8 8), (27, .int .i64 8), (28, .int .i64 3), (54, .slice (some ⟨w.heap.size, 0, none⟩) 8 8), (55, .int .i64 8), (56, .int .i64 5), (57, .bool true)] wj4 [] (by kernel_rfl) trivial ?_
      refine XL_nil ?_
      refine X_seq ?_
      refine X_cond true rfl ?_
      refine X_skip ?_
      refine X_seq ?_
      refine X_block ?_
      refine X_seq ?_
      refine X_region ?_
      refine XL_run 1 [] [(1, .slice (some ⟨w.heap.size, 0, none⟩) 8 8), (2, .slice (some ⟨w_1.heap.size, 0, none⟩) 8 8), (3, .int .i64 3), (4, .iface 25 (.int .i64 0)), (26, .slice (some ⟨w.heap.size, 0, none⟩) 8 8), (27, .int .i64 8), (28, .int .i64 3), (54, .slice (some ⟨w.heap.size, 0, none⟩) 8 8), (55, .int .i64 8), (56, .int .i64 5), (58, .int .i64 5)] wj4 [] (by kernel_rfl) trivial ?_
      have hB_71 : Below w_1.heap.size w_1 wj4 := (bt (bt (bt (bt (bt hb_7 HBi) hb_60) hb_63) hb_65) HBj4)
      refine XL_run 4 [(59, .idx ⟨w.heap.size, 0, none⟩), (60, .load (.iface 25 (.int .i64 (-5))))] [(1, .slice (some ⟨w.heap.size, 0, none⟩) 8 8), (2, .slice (some ⟨w_1.heap.size, 0, none⟩) 8 8), (3, .int .i64 3), (4, .iface 25 (.int .i64 0)), (5, .int .i64 5), (6, .iface 25 (.int .i64 (-5))), (26, .slice (some ⟨w.heap.size, 0, none⟩) 8 8), (27, .int .i64 8), (28, .int .i64 3), (54, .slice (some ⟨w.heap.size, 0, none⟩) 8 8), (55, .int .i64 8), (56, .int .i64 5)] wj4 [(some ⟨w.heap.size, 0, none⟩ : Option Addr) = some ⟨w.heap.size, 0, none⟩, (0 : Int) ≤ 5, (5 : Int) < (8 : Int), LoadsAs Try.prog 32 (⟨w.heap.size, 5, none⟩) (.iface 25 (.int .i64 (-5))) wj4] (by kernel_rfl) ⟨rfl, (by decide), (by decide), loads1 rfl (Blk.cell (Blk.below hk_3 hB_71) 5 _ rfl), trivial⟩ ?_
      refine XL_nil ?_
      refine X_seq ?_
      refine X_region ?_
      refine XL_run 7 [] [(1, .slice (some ⟨w.heap.size, 0, none⟩) 8 8), (2, .slice (some ⟨w_1.heap.size, 0, none⟩) 8 8), (3, .int .i64 3), (4, .iface 25 (.int .i64 0)), (26, .slice (some ⟨w.heap.size, 0, none⟩) 8 8), (27, .int .i64 8), (28, .int .i64 3), (54, .slice (some ⟨w.heap.size, 0, none⟩) 8 8), (55, .int .i64 8), (56, .int .i64 5), (67, .bool false)] wj4 [] (by kernel_rfl) trivial ?_
      refine XL_nil ?_
      refine X_cond false rfl ?_
      refine X_skip ?_
      refine X_region ?_
      refine XL_run 2 [] [(1, .slice (some ⟨w.heap.size, 0, none⟩) 8 8), (2, .slice (some ⟨w_1.heap.size, 0, none⟩) 8 8), (3, .int .i64 3), (4, .iface 25 (.int .i64 0)), (26, .slice (some ⟨w.heap.size, 0, none⟩) 8 8), (27, .int .i64 8), (28, .int .i64 3), (54, .slice (some ⟨w.heap.size, 0, none⟩) 8 8), (55, .int .i64 8), (56, .int .i64 6)] wj4 [] (by kernel_rfl) trivial ?_
      refine XL_nil ?_
      refine ⟨6, by kernel_rfl, ?_, ?_⟩
      · exact ⟨by omega, HBj4⟩
      · decide
    · refine X_seq ?_
      refine X_region ?_
      refine XL_run 1 [] [(1, .slice (some ⟨w.heap.size, 0, none⟩) 8 8), (2, .slice (some ⟨w_1.heap.size, 0, none⟩) 8 8), (3, .int .i64 3), (4, .iface 25 (.int .i64 0)), (26, .slice (some ⟨w.heap.size, 0, none⟩) 8 8), (27, .int .i64 8), (28, .int .i64 3), (54, .slice (some ⟨w.heap.size, 0, none⟩) 8 8), (55, .int .i64 8), (56, .int .i64 6), (57, .bool true)] wj4 [] (by kernel_rfl) trivial ?_
      refine XL_nil ?_
      refine X_seq ?_
      refine X_cond true rfl ?_
      refine X_skip ?_
      refine X_seq ?_
      refine X_block ?_
      refine X_seq ?_
      refine X_region ?_
      refine XL_run 1 [] [(1, .slice (some ⟨w.heap.size, 0, none⟩) 8 8), (2, .slice (some ⟨w_1.heap.size, 0, none⟩) 8 8), (3, .int .i64 3), (4, .iface 25 (.int .i64 0)), (26, .slice (some ⟨w.heap.size, 0, none⟩) 8 8), (27, .int .i64 8), (28, .int .i64 3), (54, .slice (some ⟨w.heap.size, 0, none⟩) 8 8), (55, .int .i64 8), (56, .int .i64 6), (58, .int .i64 6)] wj4 [] (by kernel_rfl) trivial ?_
      have hB_72 : Below w_1.heap.size w_1 wj4 := (bt (bt (bt (bt (bt hb_7 HBi) hb_60) hb_63) hb_65) HBj4)
      refine XL_run 4 [(59, .idx ⟨w.heap.size, 0, none⟩), (60, .load (.iface 26 (.string (⟨#[]⟩ : ByteArray))))] [(1, .slice (some ⟨w.heap.size, 0, none⟩) 8 8), (2, .slice (some ⟨w_1.heap.size, 0, none⟩) 8 8), (3, .int .i64 3), (4, .iface 25 (.int .i64 0)), (5, .int .i64 6), (6, .iface 26 (.string (⟨#[]⟩ : ByteArray))), (26, .slice (some ⟨w.heap.size, 0, none⟩) 8 8), (27, .int .i64 8), (28, .int .i64 3), (54, .slice (some ⟨w.heap.size, 0, none⟩) 8 8), (55, .int .i64 8), (56, .int .i64 6)] wj4 [(some ⟨w.heap.size, 0, none⟩ : Option Addr) = some ⟨w.heap.size, 0, none⟩, (0 : Int) ≤ 6, (6 : Int) < (8 : Int), LoadsAs Try.prog 32 (⟨w.heap.size, 6, none⟩) (.iface 26 (.string (⟨#[]⟩ : ByteArray))) wj4] (by kernel_rfl) ⟨rfl, (by decide), (by decide), loads1 rfl (Blk.cell (Blk.below hk_3 hB_72) 6 _ rfl), trivial⟩ ?_
      refine XL_nil ?_
      refine X_seq ?_
      refine X_region ?_
      refine XL_run 7 [] [(1, .slice (some ⟨w.heap.size, 0, none⟩) 8 8), (2, .slice (some ⟨w_1.heap.size, 0, none⟩) 8 8), (3, .int .i64 3), (4, .iface 25 (.int .i64 0)), (26, .slice (some ⟨w.heap.size, 0, none⟩) 8 8), (27, .int .i64 8), (28, .int .i64 3), (54, .slice (some ⟨w.heap.size, 0, none⟩) 8 8), (55, .int .i64 8), (56, .int .i64 6), (67, .bool false)] wj4 [] (by kernel_rfl) trivial ?_
      refine XL_nil ?_
      refine X_cond false rfl ?_
      refine X_skip ?_
      refine X_region ?_
      refine XL_run 2 [] [(1, .slice (some ⟨w.heap.size, 0, none⟩) 8 8), (2, .slice (some ⟨w_1.heap.size, 0, none⟩) 8 8), (3, .int .i64 3), (4, .iface 25 (.int .i64 0)), (26, .slice (some ⟨w.heap.size, 0, none⟩) 8 8), (27, .int .i64 8), (28, .int .i64 3), (54, .slice (some ⟨w.heap.size, 0, none⟩) 8 8), (55, .int .i64 8), (56, .int .i64 7)] wj4 [] (by kernel_rfl) trivial ?_
      refine XL_nil ?_
      refine ⟨7, by kernel_rfl, ?_, ?_⟩
      · exact ⟨by omega, HBj4⟩
      · decide
    · refine X_seq ?_
      refine X_region ?_
      refine XL_run 1 [] [(1, .slice (some ⟨w.heap.size, 0, none⟩) 8 8), (2, .slice (some ⟨w_1.heap.size, 0, none⟩) 8 8), (3, .int .i64 3), (4, .iface 25 (.int .i64 0)), (26, .slice (some ⟨w.heap.size, 0, none⟩) 8 8), (27, .int .i64 8), (28, .int .i64 3), (54, .slice (some ⟨w.heap.size, 0, none⟩) 8 8), (55, .int .i64 8), (56, .int .i64 7), (57, .bool true)] wj4 [] (by kernel_rfl) trivial ?_
      refine XL_nil ?_
      refine X_seq ?_
      refine X_cond true rfl ?_
      refine X_skip ?_
      refine X_seq ?_
      refine X_block ?_
      refine X_seq ?_
      refine X_region ?_
      refine XL_run 1 [] [(1, .slice (some ⟨w.heap.size, 0, none⟩) 8 8), (2, .slice (some ⟨w_1.heap.size, 0, none⟩) 8 8), (3, .int .i64 3), (4, .iface 25 (.int .i64 0)), (26, .slice (some ⟨w.heap.size, 0, none⟩) 8 8), (27, .int .i64 8), (28, .int .i64 3), (54, .slice (some ⟨w.heap.size, 0, none⟩) 8 8), (55, .int .i64 8), (56, .int .i64 7), (58, .int .i64 7)] wj4 [] (by kernel_rfl) trivial ?_
      have hB_73 : Below w_1.heap.size w_1 wj4 := (bt (bt (bt (bt (bt hb_7 HBi) hb_60) hb_63) hb_65) HBj4)
      refine XL_run 4 [(59, .idx ⟨w.heap.size, 0, none⟩), (60, .load (.iface 26 (.string (⟨#[97]⟩ : ByteArray))))] [(1, .slice (some ⟨w.heap.size, 0, none⟩) 8 8), (2, .slice (some ⟨w_1.heap.size, 0, none⟩) 8 8), (3, .int .i64 3), (4, .iface 25 (.int .i64 0)), (5, .int .i64 7), (6, .iface 26 (.string (⟨#[97]⟩ : ByteArray))), (26, .slice (some ⟨w.heap.size, 0, none⟩) 8 8), (27, .int .i64 8), (28, .int .i64 3), (54, .slice (some ⟨w.heap.size, 0, none⟩) 8 8), (55, .int .i64 8), (56, .int .i64 7)] wj4 [(some ⟨w.heap.size, 0, none⟩ : Option Addr) = some ⟨w.heap.size, 0, none⟩, (0 : Int) ≤ 7, (7 : Int) < (8 : Int), LoadsAs Try.prog 32 (⟨w.heap.size, 7, none⟩) (.iface 26 (.string (⟨#[97]⟩ : ByteArray))) wj4] (by kernel_rfl) ⟨rfl, (by decide), (by decide), loads1 rfl (Blk.cell (Blk.below hk_3 hB_73) 7 _ rfl), trivial⟩ ?_
      refine XL_nil ?_
      refine X_seq ?_
      refine X_region ?_
      refine XL_run 7 [] [(1, .slice (some ⟨w.heap.size, 0, none⟩) 8 8), (2, .slice (some ⟨w_1.heap.size, 0, none⟩) 8 8), (3, .int .i64 3), (4, .iface 25 (.int .i64 0)), (26, .slice (some ⟨w.heap.size, 0, none⟩) 8 8), (27, .int .i64 8), (28, .int .i64 3), (54, .slice (some ⟨w.heap.size, 0, none⟩) 8 8), (55, .int .i64 8), (56, .int .i64 7), (67, .bool false)] wj4 [] (by kernel_rfl) trivial ?_
      refine XL_nil ?_
      refine X_cond false rfl ?_
      refine X_skip ?_
      refine X_region ?_
      refine XL_run 2 [] [(1, .slice (some ⟨w.heap.size, 0, none⟩) 8 8), (2, .slice (some ⟨w_1.heap.size, 0, none⟩) 8 8), (3, .int .i64 3), (4, .iface 25 (.int .i64 0)), (26, .slice (some ⟨w.heap.size, 0, none⟩) 8 8), (27, .int .i64 8), (28, .int .i64 3), (54, .slice (some ⟨w.heap.size, 0, none⟩) 8 8), (55, .int .i64 8), (56, .int .i64 8)] wj4 [] (by kernel_rfl) trivial ?_
      refine XL_nil ?_
      refine ⟨8, by kernel_rfl, ?_, ?_⟩
      · exact ⟨by omega, HBj4⟩
      · decide
    · refine X_seq ?_
      refine X_region ?_
      refine XL_run 1 [] [(1, .slice (some ⟨w.heap.size, 0, none⟩) 8 8), (2, .slice (some ⟨w_1.heap.size, 0, none⟩) 8 8), (3, .int .i64 3), (4, .iface 25 (.int .i64 0)), (26, .slice (some ⟨w.heap.size, 0, none⟩) 8 8), (27, .int .i64 8), (28, .int .i64 3), (54, .slice (some ⟨w.heap.size, 0, none⟩) 8 8), (55, .int .i64 8), (56, .int .i64 8), (57, .bool false)] wj4 [] (by kernel_rfl) trivial ?_
      refine XL_nil ?_
      refine X_seq ?_
      refine X_cond false rfl ?_
      refine X_exit ?_
      refine X_region ?_
      refine XL_run 2 [] [(1, .slice (some ⟨w.heap.size, 0, none⟩) 8 8), (2, .slice (some ⟨w_1.heap.size, 0, none⟩) 8 8), (26, .slice (some ⟨w.heap.size, 0, none⟩) 8 8), (27, .int .i64 8), (28, .int .i64 4)] wj4 [] (by kernel_rfl) trivial ?_
      refine XL_nil ?_
      have hB_74 : Below w_6.heap.size w_6 wj4 := (bt (bt (bt (bt HBi hb_60) hb_63) hb_65) HBj4)
      refine ⟨4, by kernel_rfl, ?_, ?_⟩
      · exact ⟨by omega, hB_74⟩
      · decide
  · refine X_seq ?_
    refine X_region ?_
    refine XL_run 1 [] [(1, .slice (some ⟨w.heap.size, 0, none⟩) 8 8), (2, .slice (some ⟨w_1.heap.size, 0, none⟩) 8 8), (26, .slice (some ⟨w.heap.size, 0, none⟩) 8 8), (27, .int .i64 8), (28, .int .i64 4), (29, .bool true)] wi [] (by kernel_rfl) trivial ?_
    refine XL_nil ?_
    refine X_seq ?_
    refine X_cond true rfl ?_
    refine X_skip ?_
    refine X_seq ?_
    refine X_block ?_
    refine X_seq ?_
    refine X_region ?_
    refine XL_run 1 [] [(1, .slice (some ⟨w.heap.size, 0, none⟩) 8 8), (2, .slice (some ⟨w_1.heap.size, 0, none⟩) 8 8), (26, .slice (some ⟨w.heap.size, 0, none⟩) 8 8), (27, .int .i64 8), (28, .int .i64 4), (30, .int .i64 4)] wi [] (by kernel_rfl) trivial ?_
    refine XL_run 4 [(31, .idx ⟨w.heap.size, 0, none⟩), (32, .load (.iface 25 (.int .i64 1)))] [(1, .slice (some ⟨w.heap.size, 0, none⟩) 8 8), (2, .slice (some ⟨w_1.heap.size, 0, none⟩) 8 8), (3, .int .i64 4), (4, .iface 25 (.int .i64 1)), (26, .slice (some ⟨w.heap.size, 0, none⟩) 8 8), (27, .int .i64 8), (28, .int .i64 4)] wi [(some ⟨w.heap.size, 0, none⟩ : Option Addr) = some ⟨w.heap.size, 0, none⟩, (0 : Int) ≤ 4, (4 : Int) < (8 : Int), LoadsAs Try.prog 32 (⟨w.heap.size, 4, none⟩) (.iface 25 (.int .i64 1)) wi] (by kernel_rfl) ⟨rfl, (by decide), (by decide), loads1 rfl (Blk.cell (Blk.below hk_3 (bt hb_7 HBi)) 4 _ rfl), trivial⟩ ?_
    refine XL_nil ?_
    refine X_seq ?_
    refine X_seq ?_
    refine X_grow [] 21 #[false, false, false, false, false, false, false, false, false, false, false, false, false, false, false, false, false, false, false, false, false] (by kernel_rfl) (by kernel_rfl) (by kernel_rfl) (fun wd_75 hb_76 hh_77 => ?_)
    refine XB_run (fuel' := 15) (Below.refl _ _) [0, 1, 2, 3, 5, 6] [] [.iface 25 (.int .i64 1), .bool false, .bool false, .iface 25 (.int .i64 1), .slice (some ⟨w_1.heap.size, 0, none⟩) 8 8, .int .i64 4] #[true, true, true, true, false, true, true, false, false, false, false, false, false, false, false, false, false, false, false, false, false] [(1, .slice (some ⟨w.heap.size, 0, none⟩) 8 8), (2, .slice (some ⟨w_1.heap.size, 0, none⟩) 8 8), (3, .int .i64 4), (4, .iface 25 (.int .i64 1)), (26, .slice (some ⟨w.heap.size, 0, none⟩) 8 8), (27, .int .i64 8), (28, .int .i64 4), (35, .bool false), (36, .iface 25 (.int .i64 1)), (38, .slice (some ⟨w_1.heap.size, 0, none⟩) 8 8), (39, .int .i64 4)] (fun w_ => []) (fun _ _ _ _ h => h) (fun w_ => by kernel_rfl) rfl (fun w_ hC_ => trivial) ?_
    refine XB_run (fuel' := 12) (Below.refl _ _) [7, 8, 9] [(40, .idx ⟨w_1.heap.size, 0, none⟩), (42, .load (.int .i64 2))] [.pointer (some ⟨w_1.heap.size, 12, none⟩), .pointer (some ⟨w_1.heap.size, 12, none⟩), .int .i64 2] #[true, true, true, true, false, true, true, true, true, true, false, false, false, false, false, false, false, false, false, false, false] [(1, .slice (some ⟨w.heap.size, 0, none⟩) 8 8), (2, .slice (some ⟨w_1.heap.size, 0, none⟩) 8 8), (3, .int .i64 4), (4, .iface 25 (.int .i64 1)), (26, .slice (some ⟨w.heap.size, 0, none⟩) 8 8), (27, .int .i64 8), (28, .int .i64 4), (35, .bool false), (36, .iface 25 (.int .i64 1)), (42, .int .i64 2)] (fun w_ => [(some ⟨w_1.heap.size, 0, none⟩ : Option Addr) = some ⟨w_1.heap.size, 0, none⟩, (0 : Int) ≤ 4, (4 : Int) < (8 : Int), LoadsAs Try.prog 3 (⟨w_1.heap.size, 12, none⟩) (.int .i64 2) w_]) (fun _ _ _ _ h => h) (fun w_ => by kernel_rfl) rfl (fun w_ hC_ => ⟨rfl, (by decide), (by decide), loads1 rfl (Blk.cell (Blk.below hk_8 (bt (bt HBi hb_76) hC_)) 12 _ rfl), trivial⟩) ?_
    refine XB_mid (fuel' := 11) 4 #[true, true, true, true, true, true, true, true, true, true, false, false, false, false, false, false, false, false, false, false, false] _ rfl (by kernel_rfl) (by kernel_rfl) rfl ?_
    refine XL_inv 24 #[.int .i64 1] rfl rfl (by kernel_rfl) (by kernel_rfl) (number_kind 1 _) ?_
    rintro e w_78 ⟨rfl, hb_79⟩; refine ⟨_, rfl, ?_⟩
    refine XL_nil ?_
    refine ⟨hb_79, ?_⟩
    refine XB_run (fuel' := 5) hb_79 [10, 11, 12, 13, 15, 16] [] [.bool false, .bool false, .bool false, .iface 25 (.int .i64 1), .slice (some ⟨w_1.heap.size, 0, none⟩) 8 8, .int .i64 4] #[true, true, true, true, true, true, true, true, true, true, true, true, true, true, false, true, true, false, false, false, false] [(1, .slice (some ⟨w.heap.size, 0, none⟩) 8 8), (2, .slice (some ⟨w_1.heap.size, 0, none⟩) 8 8), (3, .int .i64 4), (4, .iface 25 (.int .i64 1)), (26, .slice (some ⟨w.heap.size, 0, none⟩) 8 8), (27, .int .i64 8), (28, .int .i64 4), (45, .bool false), (46, .iface 25 (.int .i64 1)), (48, .slice (some ⟨w_1.heap.size, 0, none⟩) 8 8), (49, .int .i64 4)] (fun w_ => []) (fun _ _ _ _ h => h) (fun w_ => by kernel_rfl) rfl (fun w_ hC_ => trivial) ?_
    refine XB_run (fuel' := 3) hb_79 [17, 18] [(50, .idx ⟨w_1.heap.size, 0, none⟩), (51, .load (.agg #[.int .i64 2, .int .i64 1, .string ByteArray.empty]))] [.pointer (some ⟨w_1.heap.size, 12, none⟩), .agg #[.int .i64 2, .int .i64 1, .string ByteArray.empty]] #[true, true, true, true, true, true, true, true, true, true, true, true, true, true, false, true, true, true, true, false, false] [(1, .slice (some ⟨w.heap.size, 0, none⟩) 8 8), (2, .slice (some ⟨w_1.heap.size, 0, none⟩) 8 8), (3, .int .i64 4), (4, .iface 25 (.int .i64 1)), (26, .slice (some ⟨w.heap.size, 0, none⟩) 8 8), (27, .int .i64 8), (28, .int .i64 4), (45, .bool false), (46, .iface 25 (.int .i64 1)), (51, .agg #[.int .i64 2, .int .i64 1, .string ByteArray.empty])] (fun w_ => [(some ⟨w_1.heap.size, 0, none⟩ : Option Addr) = some ⟨w_1.heap.size, 0, none⟩, (0 : Int) ≤ 4, (4 : Int) < (8 : Int), LoadsAs Try.prog 29 (⟨w_1.heap.size, 12, none⟩) (.agg #[.int .i64 2, .int .i64 1, .string ByteArray.empty]) w_]) (fun _ _ _ _ h => h) (fun w_ => by kernel_rfl) rfl (fun w_ hC_ => ⟨rfl, (by decide), (by decide), loadsB rfl rfl (Blk.below hk_8 (bt (bt HBi hb_76) hC_)) 12 ⟨by kernel_rfl, by kernel_rfl⟩, trivial⟩) ?_
    refine XB_mid (fuel' := 2) 14 #[true, true, true, true, true, true, true, true, true, true, true, true, true, true, true, true, true, true, true, false, false] _ rfl (by kernel_rfl) (by kernel_rfl) rfl ?_
    refine XL_inv 25 #[.int .i64 1] rfl rfl (by kernel_rfl) (by kernel_rfl) (number_plain 1 _) ?_
    rintro e w_80 ⟨rfl, hb_81⟩; refine ⟨_, rfl, ?_⟩
    refine XL_nil ?_
    refine ⟨(bt hb_79 hb_81), ?_⟩
    refine XB_run (fuel' := 0) (bt hb_79 hb_81) [19, 20] [] [.bool false, .bool false] #[true, true, true, true, true, true, true, true, true, true, true, true, true, true, true, true, true, true, true, true, true] [(1, .slice (some ⟨w.heap.size, 0, none⟩) 8 8), (2, .slice (some ⟨w_1.heap.size, 0, none⟩) 8 8), (3, .int .i64 4), (4, .iface 25 (.int .i64 1)), (26, .slice (some ⟨w.heap.size, 0, none⟩) 8 8), (27, .int .i64 8), (28, .int .i64 4), (53, .bool false)] (fun w_ => []) (fun _ _ _ _ h => h) (fun w_ => by kernel_rfl) rfl (fun w_ hC_ => trivial) ?_
    refine XB_done (by kernel_rfl) ?_
    refine X_cond false rfl ?_
    refine X_skip ?_
    refine X_seq ?_
    refine X_region ?_
    refine XL_run 3 [] [(1, .slice (some ⟨w.heap.size, 0, none⟩) 8 8), (2, .slice (some ⟨w_1.heap.size, 0, none⟩) 8 8), (3, .int .i64 4), (4, .iface 25 (.int .i64 1)), (26, .slice (some ⟨w.heap.size, 0, none⟩) 8 8), (27, .int .i64 8), (28, .int .i64 4), (54, .slice (some ⟨w.heap.size, 0, none⟩) 8 8), (55, .int .i64 8), (56, .int .i64 0)] w_80 [] (by kernel_rfl) trivial ?_
    refine XL_nil ?_
    refine X_block ?_
    refine X_loop (ι := Nat) (fun j5 => [(1, .slice (some ⟨w.heap.size, 0, none⟩) 8 8), (2, .slice (some ⟨w_1.heap.size, 0, none⟩) 8 8), (3, .int .i64 4), (4, .iface 25 (.int .i64 1)), (26, .slice (some ⟨w.heap.size, 0, none⟩) 8 8), (27, .int .i64 8), (28, .int .i64 4), (54, .slice (some ⟨w.heap.size, 0, none⟩) 8 8), (55, .int .i64 8), (56, .int .i64 (j5 : Int))]) (fun j5 wj5 => j5 ≤ 8 ∧ Below w_80.heap.size w_80 wj5) (fun j5 => 8 - j5) 0 ⟨by omega, Below.refl _ _⟩ (by kernel_rfl) ?_
    rintro j5 wj5 ⟨hj5, HBj5⟩
    obtain rfl | rfl | rfl | rfl | rfl | rfl | rfl | rfl | rfl : j5 = 0 ∨ j5 = 1 ∨ j5 = 2 ∨ j5 = 3 ∨ j5 = 4 ∨ j5 = 5 ∨ j5 = 6 ∨ j5 = 7 ∨ j5 = 8 := by omega
    · refine X_seq ?_
      refine X_region ?_
      refine XL_run 1 [] [(1, .slice (some ⟨w.heap.size, 0, none⟩) 8 8), (2, .slice (some ⟨w_1.heap.size, 0, none⟩) 8 8), (3, .int .i64 4), (4, .iface 25 (.int .i64 1)), (26, .slice (some ⟨w.heap.size, 0, none⟩) 8 8), (27, .int .i64 8), (28, .int .i64 4), (54, .slice (some ⟨w.heap.size, 0, none⟩) 8 8), (55, .int .i64 8), (56, .int .i64 0), (57, .bool true)] wj5 [] (by kernel_rfl) trivial ?_
      refine XL_nil ?_
      refine X_seq ?_
      refine X_cond true rfl ?_
      refine X_skip ?_
      refine X_seq ?_
      refine X_block ?_
      refine X_seq ?_
      refine X_region ?_
      refine XL_run 1 [] [(1, .slice (some ⟨w.heap.size, 0, none⟩) 8 8), (2, .slice (some ⟨w_1.heap.size, 0, none⟩) 8 8), (3, .int .i64 4), (4, .iface 25 (.int .i64 1)), (26, .slice (some ⟨w.heap.size, 0, none⟩) 8 8), (27, .int .i64 8), (28, .int .i64 4), (54, .slice (some ⟨w.heap.size, 0, none⟩) 8 8), (55, .int .i64 8), (56, .int .i64 0), (58, .int .i64 0)] wj5 [] (by kernel_rfl) trivial ?_
      have hB_82 : Below w_1.heap.size w_1 wj5 := (bt (bt (bt (bt (bt hb_7 HBi) hb_76) hb_79) hb_81) HBj5)
      refine XL_run 4 [(59, .idx ⟨w.heap.size, 0, none⟩), (60, .load (.iface 23 (.agg #[])))] [(1, .slice (some ⟨w.heap.size, 0, none⟩) 8 8), (2, .slice (some ⟨w_1.heap.size, 0, none⟩) 8 8), (3, .int .i64 4), (4, .iface 25 (.int .i64 1)), (5, .int .i64 0), (6, .iface 23 (.agg #[])), (26, .slice (some ⟨w.heap.size, 0, none⟩) 8 8), (27, .int .i64 8), (28, .int .i64 4), (54, .slice (some ⟨w.heap.size, 0, none⟩) 8 8), (55, .int .i64 8), (56, .int .i64 0)] wj5 [(some ⟨w.heap.size, 0, none⟩ : Option Addr) = some ⟨w.heap.size, 0, none⟩, (0 : Int) ≤ 0, (0 : Int) < (8 : Int), LoadsAs Try.prog 32 (⟨w.heap.size, 0, none⟩) (.iface 23 (.agg #[])) wj5] (by kernel_rfl) ⟨rfl, (by decide), (by decide), loads1 rfl (Blk.cell (Blk.below hk_3 hB_82) 0 _ rfl), trivial⟩ ?_
      refine XL_nil ?_
      refine X_seq ?_
      refine X_region ?_
      refine XL_run 7 [] [(1, .slice (some ⟨w.heap.size, 0, none⟩) 8 8), (2, .slice (some ⟨w_1.heap.size, 0, none⟩) 8 8), (3, .int .i64 4), (4, .iface 25 (.int .i64 1)), (26, .slice (some ⟨w.heap.size, 0, none⟩) 8 8), (27, .int .i64 8), (28, .int .i64 4), (54, .slice (some ⟨w.heap.size, 0, none⟩) 8 8), (55, .int .i64 8), (56, .int .i64 0), (67, .bool false)] wj5 [] (by kernel_rfl) trivial ?_
      refine XL_nil ?_
      refine X_cond false rfl ?_
      refine X_skip ?_
      refine X_region ?_
      refine XL_run 2 [] [(1, .slice (some ⟨w.heap.size, 0, none⟩) 8 8), (2, .slice (some ⟨w_1.heap.size, 0, none⟩) 8 8), (3, .int .i64 4), (4, .iface 25 (.int .i64 1)), (26, .slice (some ⟨w.heap.size, 0, none⟩) 8 8), (27, .int .i64 8), (28, .int .i64 4), (54, .slice (some ⟨w.heap.size, 0, none⟩) 8 8), (55, .int .i64 8), (56, .int .i64 1)] wj5 [] (by kernel_rfl) trivial ?_
      refine XL_nil ?_
      refine ⟨1, by kernel_rfl, ?_, ?_⟩
      · exact ⟨by omega, HBj5⟩
      · decide
    · refine X_seq ?_
      refine X_region ?_
      refine XL_run 1 [] [(1, .slice (some ⟨w.heap.size, 0, none⟩) 8 8), (2, .slice (some ⟨w_1.heap.size, 0, none⟩) 8 8), (3, .int .i64 4), (4, .iface 25 (.int .i64 1)), (26, .slice (some ⟨w.heap.size, 0, none⟩) 8 8), (27, .int .i64 8), (28, .int .i64 4), (54, .slice (some ⟨w.heap.size, 0, none⟩) 8 8), (55, .int .i64 8), (56, .int .i64 1), (57, .bool true)] wj5 [] (by kernel_rfl) trivial ?_
      refine XL_nil ?_
      refine X_seq ?_
      refine X_cond true rfl ?_
      refine X_skip ?_
      refine X_seq ?_
      refine X_block ?_
      refine X_seq ?_
      refine X_region ?_
      refine XL_run 1 [] [(1, .slice (some ⟨w.heap.size, 0, none⟩) 8 8), (2, .slice (some ⟨w_1.heap.size, 0, none⟩) 8 8), (3, .int .i64 4), (4, .iface 25 (.int .i64 1)), (26, .slice (some ⟨w.heap.size, 0, none⟩) 8 8), (27, .int .i64 8), (28, .int .i64 4), (54, .slice (some ⟨w.heap.size, 0, none⟩) 8 8), (55, .int .i64 8), (56, .int .i64 1), (58, .int .i64 1)] wj5 [] (by kernel_rfl) trivial ?_
      have hB_83 : Below w_1.heap.size w_1 wj5 := (bt (bt (bt (bt (bt hb_7 HBi) hb_76) hb_79) hb_81) HBj5)
      refine XL_run 4 [(59, .idx ⟨w.heap.size, 0, none⟩), (60, .load (.iface 24 (.bool false)))] [(1, .slice (some ⟨w.heap.size, 0, none⟩) 8 8), (2, .slice (some ⟨w_1.heap.size, 0, none⟩) 8 8), (3, .int .i64 4), (4, .iface 25 (.int .i64 1)), (5, .int .i64 1), (6, .iface 24 (.bool false)), (26, .slice (some ⟨w.heap.size, 0, none⟩) 8 8), (27, .int .i64 8), (28, .int .i64 4), (54, .slice (some ⟨w.heap.size, 0, none⟩) 8 8), (55, .int .i64 8), (56, .int .i64 1)] wj5 [(some ⟨w.heap.size, 0, none⟩ : Option Addr) = some ⟨w.heap.size, 0, none⟩, (0 : Int) ≤ 1, (1 : Int) < (8 : Int), LoadsAs Try.prog 32 (⟨w.heap.size, 1, none⟩) (.iface 24 (.bool false)) wj5] (by kernel_rfl) ⟨rfl, (by decide), (by decide), loads1 rfl (Blk.cell (Blk.below hk_3 hB_83) 1 _ rfl), trivial⟩ ?_
      refine XL_nil ?_
      refine X_seq ?_
      refine X_region ?_
      refine XL_run 7 [] [(1, .slice (some ⟨w.heap.size, 0, none⟩) 8 8), (2, .slice (some ⟨w_1.heap.size, 0, none⟩) 8 8), (3, .int .i64 4), (4, .iface 25 (.int .i64 1)), (26, .slice (some ⟨w.heap.size, 0, none⟩) 8 8), (27, .int .i64 8), (28, .int .i64 4), (54, .slice (some ⟨w.heap.size, 0, none⟩) 8 8), (55, .int .i64 8), (56, .int .i64 1), (67, .bool false)] wj5 [] (by kernel_rfl) trivial ?_
      refine XL_nil ?_
      refine X_cond false rfl ?_
      refine X_skip ?_
      refine X_region ?_
      refine XL_run 2 [] [(1, .slice (some ⟨w.heap.size, 0, none⟩) 8 8), (2, .slice (some ⟨w_1.heap.size, 0, none⟩) 8 8), (3, .int .i64 4), (4, .iface 25 (.int .i64 1)), (26, .slice (some ⟨w.heap.size, 0, none⟩) 8 8), (27, .int .i64 8), (28, .int .i64 4), (54, .slice (some ⟨w.heap.size, 0, none⟩) 8 8), (55, .int .i64 8), (56, .int .i64 2)] wj5 [] (by kernel_rfl) trivial ?_
      refine XL_nil ?_
      refine ⟨2, by kernel_rfl, ?_, ?_⟩
      · exact ⟨by omega, HBj5⟩
      · decide
    · refine X_seq ?_
      refine X_region ?_
      refine XL_run 1 [] [(1, .slice (some ⟨w.heap.size, 0, none⟩) 8 8), (2, .slice (some ⟨w_1.heap.size, 0, none⟩) 8 8), (3, .int .i64 4), (4, .iface 25 (.int .i64 1)), (26, .slice (some ⟨w.heap.size, 0, none⟩) 8 8), (27, .int .i64 8), (28, .int .i64 4), (54, .slice (some ⟨w.heap.size, 0, none⟩) 8 8), (55, .int .i64 8), (56, .int .i64 2), (57, .bool true)] wj5 [] (by kernel_rfl) trivial ?_
      refine XL_nil ?_
      refine X_seq ?_
      refine X_cond true rfl ?_
      refine X_skip ?_
      refine X_seq ?_
      refine X_block ?_
      refine X_seq ?_
      refine X_region ?_
      refine XL_run 1 [] [(1, .slice (some ⟨w.heap.size, 0, none⟩) 8 8), (2, .slice (some ⟨w_1.heap.size, 0, none⟩) 8 8), (3, .int .i64 4), (4, .iface 25 (.int .i64 1)), (26, .slice (some ⟨w.heap.size, 0, none⟩) 8 8), (27, .int .i64 8), (28, .int .i64 4), (54, .slice (some ⟨w.heap.size, 0, none⟩) 8 8), (55, .int .i64 8), (56, .int .i64 2), (58, .int .i64 2)] wj5 [] (by kernel_rfl) trivial ?_
      have hB_84 : Below w_1.heap.size w_1 wj5 := (bt (bt (bt (bt (bt hb_7 HBi) hb_76) hb_79) hb_81) HBj5)
      refine XL_run 4 [(59, .idx ⟨w.heap.size, 0, none⟩), (60, .load (.iface 24 (.bool true)))] [(1, .slice (some ⟨w.heap.size, 0, none⟩) 8 8), (2, .slice (some ⟨w_1.heap.size, 0, none⟩) 8 8), (3, .int .i64 4), (4, .iface 25 (.int .i64 1)), (5, .int .i64 2), (6, .iface 24 (.bool true)), (26, .slice (some ⟨w.heap.size, 0, none⟩) 8 8), (27, .int .i64 8), (28, .int .i64 4), (54, .slice (some ⟨w.heap.size, 0, none⟩) 8 8), (55, .int .i64 8), (56, .int .i64 2)] wj5 [(some ⟨w.heap.size, 0, none⟩ : Option Addr) = some ⟨w.heap.size, 0, none⟩, (0 : Int) ≤ 2, (2 : Int) < (8 : Int), LoadsAs Try.prog 32 (⟨w.heap.size, 2, none⟩) (.iface 24 (.bool true)) wj5] (by kernel_rfl) ⟨rfl, (by decide), (by decide), loads1 rfl (Blk.cell (Blk.below hk_3 hB_84) 2 _ rfl), trivial⟩ ?_
      refine XL_nil ?_
      refine X_seq ?_
      refine X_region ?_
      refine XL_run 7 [] [(1, .slice (some ⟨w.heap.size, 0, none⟩) 8 8), (2, .slice (some ⟨w_1.heap.size, 0, none⟩) 8 8), (3, .int .i64 4), (4, .iface 25 (.int .i64 1)), (26, .slice (some ⟨w.heap.size, 0, none⟩) 8 8), (27, .int .i64 8), (28, .int .i64 4), (54, .slice (some ⟨w.heap.size, 0, none⟩) 8 8), (55, .int .i64 8), (56, .int .i64 2), (67, .bool false)] wj5 [] (by kernel_rfl) trivial ?_
      refine XL_nil ?_
      refine X_cond false rfl ?_
      refine X_skip ?_
      refine X_region ?_
      refine XL_run 2 [] [(1, .slice (some ⟨w.heap.size, 0, none⟩) 8 8), (2, .slice (some ⟨w_1.heap.size, 0, none⟩) 8 8), (3, .int .i64 4), (4, .iface 25 (.int .i64 1)), (26, .slice (some ⟨w.heap.size, 0, none⟩) 8 8), (27, .int .i64 8), (28, .int .i64 4), (54, .slice (some ⟨w.heap.size, 0, none⟩) 8 8), (55, .int .i64 8), (56, .int .i64 3)] wj5 [] (by kernel_rfl) trivial ?_
      refine XL_nil ?_
      refine ⟨3, by kernel_rfl, ?_, ?_⟩
      · exact ⟨by omega, HBj5⟩
      · decide
    · refine X_seq ?_
      refine X_region ?_
      refine XL_run 1 [] [(1, .slice (some ⟨w.heap.size, 0, none⟩) 8 8), (2, .slice (some ⟨w_1.heap.size, 0, none⟩) 8 8), (3, .int .i64 4), (4, .iface 25 (.int .i64 1)), (26, .slice (some ⟨w.heap.size, 0, none⟩) 8 8), (27, .int .i64 8), (28, .int .i64 4), (54, .slice (some ⟨w.heap.size, 0, none⟩) 8 8), (55, .int .i64 8), (56, .int .i64 3), (57, .bool true)] wj5 [] (by kernel_rfl) trivial ?_
      refine XL_nil ?_
      refine X_seq ?_
      refine X_cond true rfl ?_
      refine X_skip ?_
      refine X_seq ?_
      refine X_block ?_
      refine X_seq ?_
      refine X_region ?_
      refine XL_run 1 [] [(1, .slice (some ⟨w.heap.size, 0, none⟩) 8 8), (2, .slice (some ⟨w_1.heap.size, 0, none⟩) 8 8), (3, .int .i64 4), (4, .iface 25 (.int .i64 1)), (26, .slice (some ⟨w.heap.size, 0, none⟩) 8 8), (27, .int .i64 8), (28, .int .i64 4), (54, .slice (some ⟨w.heap.size, 0, none⟩) 8 8), (55, .int .i64 8), (56, .int .i64 3), (58, .int .i64 3)] wj5 [] (by kernel_rfl) trivial ?_
      have hB_85 : Below w_1.heap.size w_1 wj5 := (bt (bt (bt (bt (bt hb_7 HBi) hb_76) hb_79) hb_81) HBj5)
      refine XL_run 4 [(59, .idx ⟨w.heap.size, 0, none⟩), (60, .load (.iface 25 (.int .i64 0)))] [(1, .slice (some ⟨w.heap.size, 0, none⟩) 8 8), (2, .slice (some ⟨w_1.heap.size, 0, none⟩) 8 8), (3, .int .i64 4), (4, .iface 25 (.int .i64 1)), (5, .int .i64 3), (6, .iface 25 (.int .i64 0)), (26, .slice (some ⟨w.heap.size, 0, none⟩) 8 8), (27, .int .i64 8), (28, .int .i64 4), (54, .slice (some ⟨w.heap.size, 0, none⟩) 8 8), (55, .int .i64 8), (56, .int .i64 3)] wj5 [(some ⟨w.heap.size, 0, none⟩ : Option Addr) = some ⟨w.heap.size, 0, none⟩, (0 : Int) ≤ 3, (3 : Int) < (8 : Int), LoadsAs Try.prog 32 (⟨w.heap.size, 3, none⟩) (.iface 25 (.int .i64 0)) wj5] (by kernel_rfl) ⟨rfl, (by decide), (by decide), loads1 rfl (Blk.cell (Blk.below hk_3 hB_85) 3 _ rfl), trivial⟩ ?_
      refine XL_nil ?_
      refine X_seq ?_
      refine X_region ?_
      refine XL_run 7 [] [(1, .slice (some ⟨w.heap.size, 0, none⟩) 8 8), (2, .slice (some ⟨w_1.heap.size, 0, none⟩) 8 8), (3, .int .i64 4), (4, .iface 25 (.int .i64 1)), (26, .slice (some ⟨w.heap.size, 0, none⟩) 8 8), (27, .int .i64 8), (28, .int .i64 4), (54, .slice (some ⟨w.heap.size, 0, none⟩) 8 8), (55, .int .i64 8), (56, .int .i64 3), (67, .bool false)] wj5 [] (by kernel_rfl) trivial ?_
      refine XL_nil ?_
      refine X_cond false rfl ?_
      refine X_skip ?_
      refine X_region ?_
      refine XL_run 2 [] [(1, .slice (some ⟨w.heap.size, 0, none⟩) 8 8), (2, .slice (some ⟨w_1.heap.size, 0, none⟩) 8 8), (3, .int .i64 4), (4, .iface 25 (.int .i64 1)), (26, .slice (some ⟨w.heap.size, 0, none⟩) 8 8), (27, .int .i64 8), (28, .int .i64 4), (54, .slice (some ⟨w.heap.size, 0, none⟩) 8 8), (55, .int .i64 8), (56, .int .i64 4)] wj5 [] (by kernel_rfl) trivial ?_
      refine XL_nil ?_
      refine ⟨4, by kernel_rfl, ?_, ?_⟩
      · exact ⟨by omega, HBj5⟩
      · decide
    · refine X_seq ?_
      refine X_region ?_
      refine XL_run 1 [] [(1, .slice (some ⟨w.heap.size, 0, none⟩) 8 8), (2, .slice (some ⟨w_1.heap.size, 0, none⟩) 8 8), (3, .int .i64 4), (4, .iface 25 (.int .i64 1)), (26, .slice (some ⟨w.heap.size, 0, none⟩) 8 8), (27, .int .i64 8), (28, .int .i64 4), (54, .slice (some ⟨w.heap.size, 0, none⟩) 8 8), (55, .int .i64 8), (56, .int .i64 4), (57, .bool true)] wj5 [] (by kernel_rfl) trivial ?_
      refine XL_nil ?_
      refine X_seq ?_
      refine X_cond true rfl ?_
      refine X_skip ?_
      refine X_seq ?_
      refine X_block ?_
      refine X_seq ?_
      refine X_region ?_
      refine XL_run 1 [] [(1, .slice (some ⟨w.heap.size, 0, none⟩) 8 8), (2, .slice (some ⟨w_1.heap.size, 0, none⟩) 8 8), (3, .int .i64 4), (4, .iface 25 (.int .i64 1)), (26, .slice (some ⟨w.heap.size, 0, none⟩) 8 8), (27, .int .i64 8), (28, .int .i64 4), (54, .slice (some ⟨w.heap.size, 0, none⟩) 8 8), (55, .int .i64 8), (56, .int .i64 4), (58, .int .i64 4)] wj5 [] (by kernel_rfl) trivial ?_
      have hB_86 : Below w_1.heap.size w_1 wj5 := (bt (bt (bt (bt (bt hb_7 HBi) hb_76) hb_79) hb_81) HBj5)
      refine XL_run 4 [(59, .idx ⟨w.heap.size, 0, none⟩), (60, .load (.iface 25 (.int .i64 1)))] [(1, .slice (some ⟨w.heap.size, 0, none⟩) 8 8), (2, .slice (some ⟨w_1.heap.size, 0, none⟩) 8 8), (3, .int .i64 4), (4, .iface 25 (.int .i64 1)), (5, .int .i64 4), (6, .iface 25 (.int .i64 1)), (26, .slice (some ⟨w.heap.size, 0, none⟩) 8 8), (27, .int .i64 8), (28, .int .i64 4), (54, .slice (some ⟨w.heap.size, 0, none⟩) 8 8), (55, .int .i64 8), (56, .int .i64 4)] wj5 [(some ⟨w.heap.size, 0, none⟩ : Option Addr) = some ⟨w.heap.size, 0, none⟩, (0 : Int) ≤ 4, (4 : Int) < (8 : Int), LoadsAs Try.prog 32 (⟨w.heap.size, 4, none⟩) (.iface 25 (.int .i64 1)) wj5] (by kernel_rfl) ⟨rfl, (by decide), (by decide), loads1 rfl (Blk.cell (Blk.below hk_3 hB_86) 4 _ rfl), trivial⟩ ?_
      refine XL_nil ?_
      refine X_seq ?_
      refine X_region ?_
      refine XL_run 7 [] [(1, .slice (some ⟨w.heap.size, 0, none⟩) 8 8), (2, .slice (some ⟨w_1.heap.size, 0, none⟩) 8 8), (3, .int .i64 4), (4, .iface 25 (.int .i64 1)), (26, .slice (some ⟨w.heap.size, 0, none⟩) 8 8), (27, .int .i64 8), (28, .int .i64 4), (54, .slice (some ⟨w.heap.size, 0, none⟩) 8 8), (55, .int .i64 8), (56, .int .i64 4), (67, .bool false)] wj5 [] (by kernel_rfl) trivial ?_
      refine XL_nil ?_
      refine X_cond false rfl ?_
      refine X_skip ?_
      refine X_region ?_
      refine XL_run 2 [] [(1, .slice (some ⟨w.heap.size, 0, none⟩) 8 8), (2, .slice (some ⟨w_1.heap.size, 0, none⟩) 8 8), (3, .int .i64 4), (4, .iface 25 (.int .i64 1)), (26, .slice (some ⟨w.heap.size, 0, none⟩) 8 8), (27, .int .i64 8), (28, .int .i64 4), (54, .slice (some ⟨w.heap.size, 0, none⟩) 8 8), (55, .int .i64 8), (56, .int .i64 5)] wj5 [] (by kernel_rfl) trivial ?_
      refine XL_nil ?_
      refine ⟨5, by kernel_rfl, ?_, ?_⟩
      · exact ⟨by omega, HBj5⟩
      · decide
    · refine X_seq ?_
      refine X_region ?_
      refine XL_run 1 [] [(1, .slice (some ⟨w.heap.size, 0, none⟩) 8 8), (2, .slice (some ⟨w_1.heap.size, 0, none⟩) 8 8), (3, .int .i64 4), (4, .iface 25 (.int .i64 1)), (26, .slice (some ⟨w.heap.size, 0, none⟩) 8 8), (27, .int .i64 8), (28, .int .i64 4), (54, .slice (some ⟨w.heap.size, 0, none⟩) 8 8), (55, .int .i64 8), (56, .int .i64 5), (57, .bool true)] wj5 [] (by kernel_rfl) trivial ?_
      refine XL_nil ?_
      refine X_seq ?_
      refine X_cond true rfl ?_
      refine X_skip ?_
      refine X_seq ?_
      refine X_block ?_
      refine X_seq ?_
      refine X_region ?_
      refine XL_run 1 [] [(1, .slice (some ⟨w.heap.size, 0, none⟩) 8 8), (2, .slice (some ⟨w_1.heap.size, 0, none⟩) 8 8), (3, .int .i64 4), (4, .iface 25 (.int .i64 1)), (26, .slice (some ⟨w.heap.size, 0, none⟩) 8 8), (27, .int .i64 8), (28, .int .i64 4), (54, .slice (some ⟨w.heap.size, 0, none⟩) 8 8), (55, .int .i64 8), (56, .int .i64 5), (58, .int .i64 5)] wj5 [] (by kernel_rfl) trivial ?_
      have hB_87 : Below w_1.heap.size w_1 wj5 := (bt (bt (bt (bt (bt hb_7 HBi) hb_76) hb_79) hb_81) HBj5)
      refine XL_run 4 [(59, .idx ⟨w.heap.size, 0, none⟩), (60, .load (.iface 25 (.int .i64 (-5))))] [(1, .slice (some ⟨w.heap.size, 0, none⟩) 8 8), (2, .slice (some ⟨w_1.heap.size, 0, none⟩) 8 8), (3, .int .i64 4), (4, .iface 25 (.int .i64 1)), (5, .int .i64 5), (6, .iface 25 (.int .i64 (-5))), (26, .slice (some ⟨w.heap.size, 0, none⟩) 8 8), (27, .int .i64 8), (28, .int .i64 4), (54, .slice (some ⟨w.heap.size, 0, none⟩) 8 8), (55, .int .i64 8), (56, .int .i64 5)] wj5 [(some ⟨w.heap.size, 0, none⟩ : Option Addr) = some ⟨w.heap.size, 0, none⟩, (0 : Int) ≤ 5, (5 : Int) < (8 : Int), LoadsAs Try.prog 32 (⟨w.heap.size, 5, none⟩) (.iface 25 (.int .i64 (-5))) wj5] (by kernel_rfl) ⟨rfl, (by decide), (by decide), loads1 rfl (Blk.cell (Blk.below hk_3 hB_87) 5 _ rfl), trivial⟩ ?_
      refine XL_nil ?_
      refine X_seq ?_
      refine X_region ?_
      refine XL_run 7 [] [(1, .slice (some ⟨w.heap.size, 0, none⟩) 8 8), (2, .slice (some ⟨w_1.heap.size, 0, none⟩) 8 8), (3, .int .i64 4), (4, .iface 25 (.int .i64 1)), (26, .slice (some ⟨w.heap.size, 0, none⟩) 8 8), (27, .int .i64 8), (28, .int .i64 4), (54, .slice (some ⟨w.heap.size, 0, none⟩) 8 8), (55, .int .i64 8), (56, .int .i64 5), (67, .bool false)] wj5 [] (by kernel_rfl) trivial ?_
      refine XL_nil ?_
      refine X_cond false rfl ?_
      refine X_skip ?_
      refine X_region ?_
      refine XL_run 2 [] [(1, .slice (some ⟨w.heap.size, 0, none⟩) 8 8), (2, .slice (some ⟨w_1.heap.size, 0, none⟩) 8 8), (3, .int .i64 4), (4, .iface 25 (.int .i64 1)), (26, .slice (some ⟨w.heap.size, 0, none⟩) 8 8), (27, .int .i64 8), (28, .int .i64 4), (54, .slice (some ⟨w.heap.size, 0, none⟩) 8 8), (55, .int .i64 8), (56, .int .i64 6)] wj5 [] (by kernel_rfl) trivial ?_
      refine XL_nil ?_
      refine ⟨6, by kernel_rfl, ?_, ?_⟩
      · exact ⟨by omega, HBj5⟩
      · decide
    · refine X_seq ?_
      refine X_region ?_
      refine XL_run 1 [] [(1, .slice (some ⟨w.heap.size, 0, none⟩) 8 8), (2, .slice (some ⟨w_1.heap.size, 0, none⟩) 8 8), (3, .int .i64 4), (4, .iface 25 (.int .i64 1)), (26, .slice (some ⟨w.heap.size, 0, none⟩) 8 8), (27, .int .i64 8), (28, .int .i64 4), (54, .slice (some ⟨w.heap.size, 0, none⟩) 8 8), (55, .int .i64 8), (56, .int .i64 6), (57, .bool true)] wj5 [] (by kernel_rfl) trivial ?_
      refine XL_nil ?_
      refine X_seq ?_
      refine X_cond true rfl ?_
      refine X_skip ?_
      refine X_seq ?_
      refine X_block ?_
      refine X_seq ?_
      refine X_region ?_
      refine XL_run 1 [] [(1, .slice (some ⟨w.heap.size, 0, none⟩) 8 8), (2, .slice (some ⟨w_1.heap.size, 0, none⟩) 8 8), (3, .int .i64 4), (4, .iface 25 (.int .i64 1)), (26, .slice (some ⟨w.heap.size, 0, none⟩) 8 8), (27, .int .i64 8), (28, .int .i64 4), (54, .slice (some ⟨w.heap.size, 0, none⟩) 8 8), (55, .int .i64 8), (56, .int .i64 6), (58, .int .i64 6)] wj5 [] (by kernel_rfl) trivial ?_
      have hB_88 : Below w_1.heap.size w_1 wj5 := (bt (bt (bt (bt (bt hb_7 HBi) hb_76) hb_79) hb_81) HBj5)
      refine XL_run 4 [(59, .idx ⟨w.heap.size, 0, none⟩), (60, .load (.iface 26 (.string (⟨#[]⟩ : ByteArray))))] [(1, .slice (some ⟨w.heap.size, 0, none⟩) 8 8), (2, .slice (some ⟨w_1.heap.size, 0, none⟩) 8 8), (3, .int .i64 4), (4, .iface 25 (.int .i64 1)), (5, .int .i64 6), (6, .iface 26 (.string (⟨#[]⟩ : ByteArray))), (26, .slice (some ⟨w.heap.size, 0, none⟩) 8 8), (27, .int .i64 8), (28, .int .i64 4), (54, .slice (some ⟨w.heap.size, 0, none⟩) 8 8), (55, .int .i64 8), (56, .int .i64 6)] wj5 [(some ⟨w.heap.size, 0, none⟩ : Option Addr) = some ⟨w.heap.size, 0, none⟩, (0 : Int) ≤ 6, (6 : Int) < (8 : Int), LoadsAs Try.prog 32 (⟨w.heap.size, 6, none⟩) (.iface 26 (.string (⟨#[]⟩ : ByteArray))) wj5] (by kernel_rfl) ⟨rfl, (by decide), (by decide), loads1 rfl (Blk.cell (Blk.below hk_3 hB_88) 6 _ rfl), trivial⟩ ?_
      refine XL_nil ?_
      refine X_seq ?_
      refine X_region ?_
      refine XL_run 7 [] [(1, .slice (some ⟨w.heap.size, 0, none⟩) 8 8), (2, .slice (some ⟨w_1.heap.size, 0, none⟩) 8 8), (3, .int .i64 4), (4, .iface 25 (.int .i64 1)), (26, .slice (some ⟨w.heap.size, 0, none⟩) 8 8), (27, .int .i64 8), (28, .int .i64 4), (54, .slice (some ⟨w.heap.size, 0, none⟩) 8 8), (55, .int .i64 8), (56, .int .i64 6), (67, .bool false)] wj5 [] (by kernel_rfl) trivial ?_
      refine XL_nil ?_
      refine X_cond false rfl ?_
      refine X_skip ?_
      refine X_region ?_
      refine XL_run 2 [] [(1, .slice (some ⟨w.heap.size, 0, none⟩) 8 8), (2, .slice (some ⟨w_1.heap.size, 0, none⟩) 8 8), (3, .int .i64 4), (4, .iface 25 (.int .i64 1)), (26, .slice (some ⟨w.heap.size, 0, none⟩) 8 8), (27, .int .i64 8), (28, .int .i64 4), (54, .slice (some ⟨w.heap.size, 0, none⟩) 8 8), (55, .int .i64 8), (56, .int .i64 7)] wj5 [] (by kernel_rfl) trivial ?_
      refine XL_nil ?_
      refine ⟨7, by kernel_rfl, ?_, ?_⟩
      · exact ⟨by omega, HBj5⟩
      · decide
    · refine X_seq ?_
      refine X_region ?_
      refine XL_run 1 [] [(1, .slice (some ⟨w.heap.size, 0, none⟩) 8 8), (2, .slice (some ⟨w_1.heap.size, 0, none⟩) 8 8), (3, .int .i64 4), (4, .iface 25 (.int .i64 1)), (26, .slice (some ⟨w.heap.size, 0, none⟩) 8 8), (27, .int .i64 8), (28, .int .i64 4), (54, .slice (some ⟨w.heap.size, 0, none⟩) 8 8), (55, .int .i64 8), (56, .int .i64 7), (57, .bool true)] wj5 [] (by kernel_rfl) trivial ?_
      refine XL_nil ?_
      refine X_seq ?_
      refine X_cond true rfl ?_
      refine X_skip ?_
      refine X_seq ?_
      refine X_block ?_
      refine X_seq ?_
      refine X_region ?_
      refine XL_run 1 [] [(1, .slice (some ⟨w.heap.size, 0, none⟩) 8 8), (2, .slice (some ⟨w_1.heap.size, 0, none⟩) 8 8), (3, .int .i64 4), (4, .iface 25 (.int .i64 1)), (26, .slice (some ⟨w.heap.size, 0, none⟩) 8 8), (27, .int .i64 8), (28, .int .i64 4), (54, .slice (some ⟨w.heap.size, 0, none⟩) 8 8), (55, .int .i64 8), (56, .int .i64 7), (58, .int .i64 7)] wj5 [] (by kernel_rfl) trivial ?_
      have hB_89 : Below w_1.heap.size w_1 wj5 := (bt (bt (bt (bt (bt hb_7 HBi) hb_76) hb_79) hb_81) HBj5)
      refine XL_run 4 [(59, .idx ⟨w.heap.size, 0, none⟩), (60, .load (.iface 26 (.string (⟨#[97]⟩ : ByteArray))))] [(1, .slice (some ⟨w.heap.size, 0, none⟩) 8 8), (2, .slice (some ⟨w_1.heap.size, 0, none⟩) 8 8), (3, .int .i64 4), (4, .iface 25 (.int .i64 1)), (5, .int .i64 7), (6, .iface 26 (.string (⟨#[97]⟩ : ByteArray))), (26, .slice (some ⟨w.heap.size, 0, none⟩) 8 8), (27, .int .i64 8), (28, .int .i64 4), (54, .slice (some ⟨w.heap.size, 0, none⟩) 8 8), (55, .int .i64 8), (56, .int .i64 7)] wj5 [(some ⟨w.heap.size, 0, none⟩ : Option Addr) = some ⟨w.heap.size, 0, none⟩, (0 : Int) ≤ 7, (7 : Int) < (8 : Int), LoadsAs Try.prog 32 (⟨w.heap.size, 7, none⟩) (.iface 26 (.string (⟨#[97]⟩ : ByteArray))) wj5] (by kernel_rfl) ⟨rfl, (by decide), (by decide), loads1 rfl (Blk.cell (Blk.below hk_3 hB_89) 7 _ rfl), trivial⟩ ?_
      refine XL_nil ?_
      refine X_seq ?_
      refine X_region ?_
      refine XL_run 7 [] [(1, .slice (some ⟨w.heap.size, 0, none⟩) 8 8), (2, .slice (some ⟨w_1.heap.size, 0, none⟩) 8 8), (3, .int .i64 4), (4, .iface 25 (.int .i64 1)), (26, .slice (some ⟨w.heap.size, 0, none⟩) 8 8), (27, .int .i64 8), (28, .int .i64 4), (54, .slice (some ⟨w.heap.size, 0, none⟩) 8 8), (55, .int .i64 8), (56, .int .i64 7), (67, .bool false)] wj5 [] (by kernel_rfl) trivial ?_
      refine XL_nil ?_
      refine X_cond false rfl ?_
      refine X_skip ?_
      refine X_region ?_
      refine XL_run 2 [] [(1, .slice (some ⟨w.heap.size, 0, none⟩) 8 8), (2, .slice (some ⟨w_1.heap.size, 0, none⟩) 8 8), (3, .int .i64 4), (4, .iface 25 (.int .i64 1)), (26, .slice (some ⟨w.heap.size, 0, none⟩) 8 8), (27, .int .i64 8), (28, .int .i64 4), (54, .slice (some ⟨w.heap.size, 0, none⟩) 8 8), (55, .int .i64 8), (56, .int .i64 8)] wj5 [] (by kernel_rfl) trivial ?_
      refine XL_nil ?_
      refine ⟨8, by kernel_rfl, ?_, ?_⟩
      · exact ⟨by omega, HBj5⟩
      · decide
    · refine X_seq ?_
      refine X_region ?_
      refine XL_run 1 [] [(1, .slice (some ⟨w.heap.size, 0, none⟩) 8 8), (2, .slice (some ⟨w_1.heap.size, 0, none⟩) 8 8), (3, .int .i64 4), (4, .iface 25 (.int .i64 1)), (26, .slice (some ⟨w.heap.size, 0, none⟩) 8 8), (27, .int .i64 8), (28, .int .i64 4), (54, .slice (some ⟨w.heap.size, 0, none⟩) 8 8), (55, .int .i64 8), (56, .int .i64 8), (57, .bool false)] wj5 [] (by kernel_rfl) trivial ?_
      refine XL_nil ?_
      refine X_seq ?_
      refine X_cond false rfl ?_
      refine X_exit ?_
      refine X_region ?_
      refine XL_run 2 [] [(1, .slice (some ⟨w.heap.size, 0, none⟩) 8 8), (2, .slice (some ⟨w_1.heap.size, 0, none⟩) 8 8), (26, .slice (some ⟨w.heap.size, 0, none⟩) 8 8), (27, .int .i64 8), (28, .int .i64 5)] wj5 [] (by kernel_rfl) trivial ?_
      refine XL_nil ?_
      have hB_90 : Below w_6.heap.size w_6 wj5 := (bt (bt (bt (bt HBi hb_76) hb_79) hb_81) HBj5)
      refine ⟨5, by kernel_rfl, ?_, ?_⟩
      · exact ⟨by omega, hB_90⟩
      · decide
  · refine X_seq ?_
    refine X_region ?_
    refine XL_run 1 [] [(1, .slice (some ⟨w.heap.size, 0, none⟩) 8 8), (2, .slice (some ⟨w_1.heap.size, 0, none⟩) 8 8), (26, .slice (some ⟨w.heap.size, 0, none⟩) 8 8), (27, .int .i64 8), (28, .int .i64 5), (29, .bool true)] wi [] (by kernel_rfl) trivial ?_
    refine XL_nil ?_
    refine X_seq ?_
    refine X_cond true rfl ?_
    refine X_skip ?_
    refine X_seq ?_
    refine X_block ?_
    refine X_seq ?_
    refine X_region ?_
    refine XL_run 1 [] [(1, .slice (some ⟨w.heap.size, 0, none⟩) 8 8), (2, .slice (some ⟨w_1.heap.size, 0, none⟩) 8 8), (26, .slice (some ⟨w.heap.size, 0, none⟩) 8 8), (27, .int .i64 8), (28, .int .i64 5), (30, .int .i64 5)] wi [] (by kernel_rfl) trivial ?_
    refine XL_run 4 [(31, .idx ⟨w.heap.size, 0, none⟩), (32, .load (.iface 25 (.int .i64 (-5))))] [(1, .slice (some ⟨w.heap.size, 0, none⟩) 8 8), (2, .slice (some ⟨w_1.heap.size, 0, none⟩) 8 8), (3, .int .i64 5), (4, .iface 25 (.int .i64 (-5))), (26, .slice (some ⟨w.heap.size, 0, none⟩) 8 8), (27, .int .i64 8), (28, .int .i64 5)] wi [(some ⟨w.heap.size, 0, none⟩ : Option Addr) = some ⟨w.heap.size, 0, none⟩, (0 : Int) ≤ 5, (5 : Int) < (8 : Int), LoadsAs Try.prog 32 (⟨w.heap.size, 5, none⟩) (.iface 25 (.int .i64 (-5))) wi] (by kernel_rfl) ⟨rfl, (by decide), (by decide), loads1 rfl (Blk.cell (Blk.below hk_3 (bt hb_7 HBi)) 5 _ rfl), trivial⟩ ?_
    refine XL_nil ?_
    refine X_seq ?_
    refine X_seq ?_
    refine X_grow [] 21 #[false, false, false, false, false, false, false, false, false, false, false, false, false, false, false, false, false, false, false, false, false] (by kernel_rfl) (by kernel_rfl) (by kernel_rfl) (fun wd_91 hb_92 hh_93 => ?_)
    refine XB_run (fuel' := 15) (Below.refl _ _) [0, 1, 2, 3, 5, 6] [] [.iface 25 (.int .i64 (-5)), .bool false, .bool false, .iface 25 (.int .i64 (-5)), .slice (some ⟨w_1.heap.size, 0, none⟩) 8 8, .int .i64 5] #[true, true, true, true, false, true, true, false, false, false, false, false, false, false, false, false, false, false, false, false, false] [(1, .slice (some ⟨w.heap.size, 0, none⟩) 8 8), (2, .slice (some ⟨w_1.heap.size, 0, none⟩) 8 8), (3, .int .i64 5), (4, .iface 25 (.int .i64 (-5))), (26, .slice (some ⟨w.heap.size, 0, none⟩) 8 8), (27, .int .i64 8), (28, .int .i64 5), (35, .bool false), (36, .iface 25 (.int .i64 (-5))), (38, .slice (some ⟨w_1.heap.size, 0, none⟩) 8 8), (39, .int .i64 5)] (fun w_ => []) (fun _ _ _ _ h => h) (fun w_ => by kernel_rfl) rfl (fun w_ hC_ => trivial) ?_
    refine XB_run (fuel' := 12) (Below.refl _ _) [7, 8, 9] [(40, .idx ⟨w_1.heap.size, 0, none⟩), (42, .load (.int .i64 2))] [.pointer (some ⟨w_1.heap.size, 15, none⟩), .pointer (some ⟨w_1.heap.size, 15, none⟩), .int .i64 2] #[true, true, true, true, false, true, true, true, true, true, false, false, false, false, false, false, false, false, false, false, false] [(1, .slice (some ⟨w.heap.size, 0, none⟩) 8 8), (2, .slice (some ⟨w_1.heap.size, 0, none⟩) 8 8), (3, .int .i64 5), (4, .iface 25 (.int .i64 (-5))), (26, .slice (some ⟨w.heap.size, 0, none⟩) 8 8), (27, .int .i64 8), (28, .int .i64 5), (35, .bool false), (36, .iface 25 (.int .i64 (-5))), (42, .int .i64 2)] (fun w_ => [(some ⟨w_1.heap.size, 0, none⟩ : Option Addr) = some ⟨w_1.heap.size, 0, none⟩, (0 : Int) ≤ 5, (5 : Int) < (8 : Int), LoadsAs Try.prog 3 (⟨w_1.heap.size, 15, none⟩) (.int .i64 2) w_]) (fun _ _ _ _ h => h) (fun w_ => by kernel_rfl) rfl (fun w_ hC_ => ⟨rfl, (by decide), (by decide), loads1 rfl (Blk.cell (Blk.below hk_8 (bt (bt HBi hb_92) hC_)) 15 _ rfl), trivial⟩) ?_
    refine XB_mid (fuel' := 11) 4 #[true, true, true, true, true, true, true, true, true, true, false, false, false, false, false, false, false, false, false, false, false] _ rfl (by kernel_rfl) (by kernel_rfl) rfl ?_
    refine XL_inv 24 #[.int .i64 (-5)] rfl rfl (by kernel_rfl) (by kernel_rfl) (number_kind (-5) _) ?_
    rintro e w_94 ⟨rfl, hb_95⟩; refine ⟨_, rfl, ?_⟩
    refine XL_nil ?_
    refine ⟨hb_95, ?_⟩
    refine XB_run (fuel' := 5) hb_95 [10, 11, 12, 13, 15, 16] [] [.bool false, .bool false, .bool false, .iface 25 (.int .i64 (-5)), .slice (some ⟨w_1.heap.size, 0, none⟩) 8 8, .int .i64 5] #[true, true, true, true, true, true, true, true, true, true, true, true, true, true, false, true, true, false, false, false, false] [(1, .slice (some ⟨w.heap.size, 0, none⟩) 8 8), (2, .slice (some ⟨w_1.heap.size, 0, none⟩) 8 8), (3, .int .i64 5), (4, .iface 25 (.int .i64 (-5))), (26, .slice (some ⟨w.heap.size, 0, none⟩) 8 8), (27, .int .i64 8), (28, .int .i64 5), (45, .bool false), (46, .iface 25 (.int .i64 (-5))), (48, .slice (some ⟨w_1.heap.size, 0, none⟩) 8 8), (49, .int .i64 5)] (fun w_ => []) (fun _ _ _ _ h => h) (fun w_ => by kernel_rfl) rfl (fun w_ hC_ => trivial) ?_
    refine XB_run (fuel' := 3) hb_95 [17, 18] [(50, .idx ⟨w_1.heap.size, 0, none⟩), (51, .load (.agg #[.int .i64 2, .int .i64 (-5), .string ByteArray.empty]))] [.pointer (some ⟨w_1.heap.size, 15, none⟩), .agg #[.int .i64 2, .int .i64 (-5), .string ByteArray.empty]] #[true, true, true, true, true, true, true, true, true, true, true, true, true, true, false, true, true, true, true, false, false] [(1, .slice (some ⟨w.heap.size, 0, none⟩) 8 8), (2, .slice (some ⟨w_1.heap.size, 0, none⟩) 8 8), (3, .int .i64 5), (4, .iface 25 (.int .i64 (-5))), (26, .slice (some ⟨w.heap.size, 0, none⟩) 8 8), (27, .int .i64 8), (28, .int .i64 5), (45, .bool false), (46, .iface 25 (.int .i64 (-5))), (51, .agg #[.int .i64 2, .int .i64 (-5), .string ByteArray.empty])] (fun w_ => [(some ⟨w_1.heap.size, 0, none⟩ : Option Addr) = some ⟨w_1.heap.size, 0, none⟩, (0 : Int) ≤ 5, (5 : Int) < (8 : Int), LoadsAs Try.prog 29 (⟨w_1.heap.size, 15, none⟩) (.agg #[.int .i64 2, .int .i64 (-5), .string ByteArray.empty]) w_]) (fun _ _ _ _ h => h) (fun w_ => by kernel_rfl) rfl (fun w_ hC_ => ⟨rfl, (by decide), (by decide), loadsB rfl rfl (Blk.below hk_8 (bt (bt HBi hb_92) hC_)) 15 ⟨by kernel_rfl, by kernel_rfl⟩, trivial⟩) ?_
    refine XB_mid (fuel' := 2) 14 #[true, true, true, true, true, true, true, true, true, true, true, true, true, true, true, true, true, true, true, false, false] _ rfl (by kernel_rfl) (by kernel_rfl) rfl ?_
    refine XL_inv 25 #[.int .i64 (-5)] rfl rfl (by kernel_rfl) (by kernel_rfl) (number_plain (-5) _) ?_
    rintro e w_96 ⟨rfl, hb_97⟩; refine ⟨_, rfl, ?_⟩
    refine XL_nil ?_
    refine ⟨(bt hb_95 hb_97), ?_⟩
    refine XB_run (fuel' := 0) (bt hb_95 hb_97) [19, 20] [] [.bool false, .bool false] #[true, true, true, true, true, true, true, true, true, true, true, true, true, true, true, true, true, true, true, true, true] [(1, .slice (some ⟨w.heap.size, 0, none⟩) 8 8), (2, .slice (some ⟨w_1.heap.size, 0, none⟩) 8 8), (3, .int .i64 5), (4, .iface 25 (.int .i64 (-5))), (26, .slice (some ⟨w.heap.size, 0, none⟩) 8 8), (27, .int .i64 8), (28, .int .i64 5), (53, .bool false)] (fun w_ => []) (fun _ _ _ _ h => h) (fun w_ => by kernel_rfl) rfl (fun w_ hC_ => trivial) ?_
    refine XB_done (by kernel_rfl) ?_
    refine X_cond false rfl ?_
    refine X_skip ?_
    refine X_seq ?_
    refine X_region ?_
    refine XL_run 3 [] [(1, .slice (some ⟨w.heap.size, 0, none⟩) 8 8), (2, .slice (some ⟨w_1.heap.size, 0, none⟩) 8 8), (3, .int .i64 5), (4, .iface 25 (.int .i64 (-5))), (26, .slice (some ⟨w.heap.size, 0, none⟩) 8 8), (27, .int .i64 8), (28, .int .i64 5), (54, .slice (some ⟨w.heap.size, 0, none⟩) 8 8), (55, .int .i64 8), (56, .int .i64 0)] w_96 [] (by kernel_rfl) trivial ?_
    refine XL_nil ?_
    refine X_block ?_
    refine X_loop (ι := Nat) (fun j6 => [(1, .slice (some ⟨w.heap.size, 0, none⟩) 8 8), (2, .slice (some ⟨w_1.heap.size, 0, none⟩) 8 8), (3, .int .i64 5), (4, .iface 25 (.int .i64 (-5))), (26, .slice (some ⟨w.heap.size, 0, none⟩) 8 8), (27, .int .i64 8), (28, .int .i64 5), (54, .slice (some ⟨w.heap.size, 0, none⟩) 8 8), (55, .int .i64 8), (56, .int .i64 (j6 : Int))]) (fun j6 wj6 => j6 ≤ 8 ∧ Below w_96.heap.size w_96 wj6) (fun j6 => 8 - j6) 0 ⟨by omega, Below.refl _ _⟩ (by kernel_rfl) ?_
    rintro j6 wj6 ⟨hj6, HBj6⟩
    obtain rfl | rfl | rfl | rfl | rfl | rfl | rfl | rfl | rfl : j6 = 0 ∨ j6 = 1 ∨ j6 = 2 ∨ j6 = 3 ∨ j6 = 4 ∨ j6 = 5 ∨ j6 = 6 ∨ j6 = 7 ∨ j6 = 8 := by omega
    · refine X_seq ?_
      refine X_region ?_
      refine XL_run 1 [] [(1, .slice (some ⟨w.heap.size, 0, none⟩) 8 8), (2, .slice (some ⟨w_1.heap.size, 0, none⟩) 8 8), (3, .int .i64 5), (4, .iface 25 (.int .i64 (-5))), (26, .slice (some ⟨w.heap.size, 0, none⟩) 8 8), (27, .int .i64 8), (28, .int .i64 5), (54, .slice (some ⟨w.heap.size, 0, none⟩) 8 8), (55, .int .i64 8), (56, .int .i64 0), (57, .bool true)] wj6 [] (by kernel_rfl) trivial ?_
      refine XL_nil ?_
      refine X_seq ?_
      refine X_cond true rfl ?_
      refine X_skip ?_
      refine X_seq ?_
      refine X_block ?_
      refine X_seq ?_
      refine X_region ?_
      refine XL_run 1 [] [(1, .slice (some ⟨w.heap.size, 0, none⟩) 8 8), (2, .slice (some ⟨w_1.heap.size, 0, none⟩) 8 8), (3, .int .i64 5), (4, .iface 25 (.int .i64 (-5))), (26, .slice (some ⟨w.heap.size, 0, none⟩) 8 8), (27, .int .i64 8), (28, .int .i64 5), (54, .slice (some ⟨w.heap.size, 0, none⟩) 8 8), (55, .int .i64 8), (56, .int .i64 0), (58, .int .i64 0)] wj6 [] (by kernel_rfl) trivial ?_
      have hB_98 : Below w_1.heap.size w_1 wj6 := (bt (bt (bt (bt (bt hb_7 HBi) hb_92) hb_95) hb_97) HBj6)
      refine XL_run 4 [(59, .idx ⟨w.heap.size, 0, none⟩), (60, .load (.iface 23 (.agg #[])))] [(1, .slice (some ⟨w.heap.size, 0, none⟩) 8 8), (2, .slice (some ⟨w_1.heap.size, 0, none⟩) 8 8), (3, .int .i64 5), (4, .iface 25 (.int .i64 (-5))), (5, .int .i64 0), (6, .iface 23 (.agg #[])), (26, .slice (some ⟨w.heap.size, 0, none⟩) 8 8), (27, .int .i64 8), (28, .int .i64 5), (54, .slice (some ⟨w.heap.size, 0, none⟩) 8 8), (55, .int .i64 8), (56, .int .i64 0)] wj6 [(some ⟨w.heap.size, 0, none⟩ : Option Addr) = some ⟨w.heap.size, 0, none⟩, (0 : Int) ≤ 0, (0 : Int) < (8 : Int), LoadsAs Try.prog 32 (⟨w.heap.size, 0, none⟩) (.iface 23 (.agg #[])) wj6] (by kernel_rfl) ⟨rfl, (by decide), (by decide), loads1 rfl (Blk.cell (Blk.below hk_3 hB_98) 0 _ rfl), trivial⟩ ?_
      refine XL_nil ?_
      refine X_seq ?_
      refine X_region ?_
      refine XL_run 7 [] [(1, .slice (some ⟨w.heap.size, 0, none⟩) 8 8), (2, .slice (some ⟨w_1.heap.size, 0, none⟩) 8 8), (3, .int .i64 5), (4, .iface 25 (.int .i64 (-5))), (26, .slice (some ⟨w.heap.size, 0, none⟩) 8 8), (27, .int .i64 8), (28, .int .i64 5), (54, .slice (some ⟨w.heap.size, 0, none⟩) 8 8), (55, .int .i64 8), (56, .int .i64 0), (67, .bool false)] wj6 [] (by kernel_rfl) trivial ?_
      refine XL_nil ?_
      refine X_cond false rfl ?_
      refine X_skip ?_
      refine X_region ?_
      refine XL_run 2 [] [(1, .slice (some ⟨w.heap.size, 0, none⟩) 8 8), (2, .slice (some ⟨w_1.heap.size, 0, none⟩) 8 8), (3, .int .i64 5), (4, .iface 25 (.int .i64 (-5))), (26, .slice (some ⟨w.heap.size, 0, none⟩) 8 8), (27, .int .i64 8), (28, .int .i64 5), (54, .slice (some ⟨w.heap.size, 0, none⟩) 8 8), (55, .int .i64 8), (56, .int .i64 1)] wj6 [] (by kernel_rfl) trivial ?_
      refine XL_nil ?_
      refine ⟨1, by kernel_rfl, ?_, ?_⟩
      · exact ⟨by omega, HBj6⟩
      · decide
    · refine X_seq ?_
      refine X_region ?_
      refine XL_run 1 [] [(1, .slice (some ⟨w.heap.size, 0, none⟩) 8 8), (2, .slice (some ⟨w_1.heap.size, 0, none⟩) 8 8), (3, .int .i64 5), (4, .iface 25 (.int .i64 (-5))), (26, .slice (some ⟨w.heap.size, 0, none⟩) 8 8), (27, .int .i64 8), (28, .int .i64 5), (54, .slice (some ⟨w.heap.size, 0, none⟩) 8 8), (55, .int .i64 8), (56, .int .i64 1), (57, .bool true)] wj6 [] (by kernel_rfl) trivial ?_
      refine XL_nil ?_
      refine X_seq ?_
      refine X_cond true rfl ?_
      refine X_skip ?_
      refine X_seq ?_
      refine X_block ?_
      refine X_seq ?_
      refine X_region ?_
      refine XL_run 1 [] [(1, .slice (some ⟨w.heap.size, 0, none⟩) 8 8), (2, .slice (some ⟨w_1.heap.size, 0, none⟩) 8 8), (3, .int .i64 5), (4, .iface 25 (.int .i64 (-5))), (26, .slice (some ⟨w.heap.size, 0, none⟩) 8 8), (27, .int .i64 8), (28, .int .i64 5), (54, .slice (some ⟨w.heap.size, 0, none⟩) 8 8), (55, .int .i64 8), (56, .int .i64 1), (58, .int .i64 1)] wj6 [] (by kernel_rfl) trivial ?_
      have hB_99 : Below w_1.heap.size w_1 wj6 := (bt (bt (bt (bt (bt hb_7 HBi) hb_92) hb_95) hb_97) HBj6)
      refine XL_run 4 [(59, .idx ⟨w.heap.size, 0, none⟩), (60, .load (.iface 24 (.bool false)))] [(1, .slice (some ⟨w.heap.size, 0, none⟩) 8 8), (2, .slice (some ⟨w_1.heap.size, 0, none⟩) 8 8), (3, .int .i64 5), (4, .iface 25 (.int .i64 (-5))), (5, .int .i64 1), (6, .iface 24 (.bool false)), (26, .slice (some ⟨w.heap.size, 0, none⟩) 8 8), (27, .int .i64 8), (28, .int .i64 5), (54, .slice (some ⟨w.heap.size, 0, none⟩) 8 8), (55, .int .i64 8), (56, .int .i64 1)] wj6 [(some ⟨w.heap.size, 0, none⟩ : Option Addr) = some ⟨w.heap.size, 0, none⟩, (0 : Int) ≤ 1, (1 : Int) < (8 : Int), LoadsAs Try.prog 32 (⟨w.heap.size, 1, none⟩) (.iface 24 (.bool false)) wj6] (by kernel_rfl) ⟨rfl, (by decide), (by decide), loads1 rfl (Blk.cell (Blk.below hk_3 hB_99) 1 _ rfl), trivial⟩ ?_
      refine XL_nil ?_
      refine X_seq ?_
      refine X_region ?_
      refine XL_run 7 [] [(1, .slice (some ⟨w.heap.size, 0, none⟩) 8 8), (2, .slice (some ⟨w_1.heap.size, 0, none⟩) 8 8), (3, .int .i64 5), (4, .iface 25 (.int .i64 (-5))), (26, .slice (some ⟨w.heap.size, 0, none⟩) 8 8), (27, .int .i64 8), (28, .int .i64 5), (54, .slice (some ⟨w.heap.size, 0, none⟩) 8 8), (55, .int .i64 8), (56, .int .i64 1), (67, .bool false)] wj6 [] (by kernel_rfl) trivial ?_
      refine XL_nil ?_
      refine X_cond false rfl ?_
      refine X_skip ?_
      refine X_region ?_
      refine XL_run 2 [] [(1, .slice (some ⟨w.heap.size, 0, none⟩) 8 8), (2, .slice (some ⟨w_1.heap.size, 0, none⟩) 8 8), (3, .int .i64 5), (4, .iface 25 (.int .i64 (-5))), (26, .slice (some ⟨w.heap.size, 0, none⟩) 8 8), (27, .int .i64 8), (28, .int .i64 5), (54, .slice (some ⟨w.heap.size, 0, none⟩) 8 8), (55, .int .i64 8), (56, .int .i64 2)] wj6 [] (by kernel_rfl) trivial ?_
      refine XL_nil ?_
      refine ⟨2, by kernel_rfl, ?_, ?_⟩
      · exact ⟨by omega, HBj6⟩
      · decide
    · refine X_seq ?_
      refine X_region ?_
      refine XL_run 1 [] [(1, .slice (some ⟨w.heap.size, 0, none⟩) 8 8), (2, .slice (some ⟨w_1.heap.size, 0, none⟩) 8 8), (3, .int .i64 5), (4, .iface 25 (.int .i64 (-5))), (26, .slice (some ⟨w.heap.size, 0, none⟩) 8 8), (27, .int .i64 8), (28, .int .i64 5), (54, .slice (some ⟨w.heap.size, 0, none⟩) 8 8), (55, .int .i64 8), (56, .int .i64 2), (57, .bool true)] wj6 [] (by kernel_rfl) trivial ?_
      refine XL_nil ?_
      refine X_seq ?_
      refine X_cond true rfl ?_
      refine X_skip ?_
      refine X_seq ?_
      refine X_block ?_
      refine X_seq ?_
      refine X_region ?_
      refine XL_run 1 [] [(1, .slice (some ⟨w.heap.size, 0, none⟩) 8 8), (2, .slice (some ⟨w_1.heap.size, 0, none⟩) 8 8), (3, .int .i64 5), (4, .iface 25 (.int .i64 (-5))), (26, .slice (some ⟨w.heap.size, 0, none⟩) 8 8), (27, .int .i64 8), (28, .int .i64 5), (54, .slice (some ⟨w.heap.size, 0, none⟩) 8 8), (55, .int .i64 8), (56, .int .i64 2), (58, .int .i64 2)] wj6 [] (by kernel_rfl) trivial ?_
      have hB_100 : Below w_1.heap.size w_1 wj6 := (bt (bt (bt (bt (bt hb_7 HBi) hb_92) hb_95) hb_97) HBj6)
      refine XL_run 4 [(59, .idx ⟨w.heap.size, 0, none⟩), (60, .load (.iface 24 (.bool true)))] [(1, .slice (some ⟨w.heap.size, 0, none⟩) 8 8), (2, .slice (some ⟨w_1.heap.size, 0, none⟩) 8 8), (3, .int .i64 5), (4, .iface 25 (.int .i64 (-5))), (5, .int .i64 2), (6, .iface 24 (.bool true)), (26, .slice (some ⟨w.heap.size, 0, none⟩) 8 8), (27, .int .i64 8), (28, .int .i64 5), (54, .slice (some ⟨w.heap.size, 0, none⟩) 8 8), (55, .int .i64 8), (56, .int .i64 2)] wj6 [(some ⟨w.heap.size, 0, none⟩ : Option Addr) = some ⟨w.heap.size, 0, none⟩, (0 : Int) ≤ 2, (2 : Int) < (8 : Int), LoadsAs Try.prog 32 (⟨w.heap.size, 2, none⟩) (.iface 24 (.bool true)) wj6] (by kernel_rfl) ⟨rfl, (by decide), (by decide), loads1 rfl (Blk.cell (Blk.below hk_3 hB_100) 2 _ rfl), trivial⟩ ?_
      refine XL_nil ?_
      refine X_seq ?_
      refine X_region ?_
      refine XL_run 7 [] [(1, .slice (some ⟨w.heap.size, 0, none⟩) 8 8), (2, .slice (some ⟨w_1.heap.size, 0, none⟩) 8 8), (3, .int .i64 5), (4, .iface 25 (.int .i64 (-5))), (26, .slice (some ⟨w.heap.size, 0, none⟩) 8 8), (27, .int .i64 8), (28, .int .i64 5), (54, .slice (some ⟨w.heap.size, 0, none⟩) 8 8), (55, .int .i64 8), (56, .int .i64 2), (67, .bool false)] wj6 [] (by kernel_rfl) trivial ?_
      refine XL_nil ?_
      refine X_cond false rfl ?_
      refine X_skip ?_
      refine X_region ?_
      refine XL_run 2 [] [(1, .slice (some ⟨w.heap.size, 0, none⟩) 8 8), (2, .slice (some ⟨w_1.heap.size, 0, none⟩) 8 8), (3, .int .i64 5), (4, .iface 25 (.int .i64 (-5))), (26, .slice (some ⟨w.heap.size, 0, none⟩) 8 8), (27, .int .i64 8), (28, .int .i64 5), (54, .slice (some ⟨w.heap.size, 0, none⟩) 8 8), (55, .int .i64 8), (56, .int .i64 3)] wj6 [] (by kernel_rfl) trivial ?_
      refine XL_nil ?_
      refine ⟨3, by kernel_rfl, ?_, ?_⟩
      · exact ⟨by omega, HBj6⟩
      · decide
    · refine X_seq ?_
      refine X_region ?_
      refine XL_run 1 [] [(1, .slice (some ⟨w.heap.size, 0, none⟩) 8 8), (2, .slice (some ⟨w_1.heap.size, 0, none⟩) 8 8), (3, .int .i64 5), (4, .iface 25 (.int .i64 (-5))), (26, .slice (some ⟨w.heap.size, 0, none⟩) 8 8), (27, .int .i64 8), (28, .int .i64 5), (54, .slice (some ⟨w.heap.size, 0, none⟩) 8 8), (55, .int .i64 8), (56, .int .i64 3), (57, .bool true)] wj6 [] (by kernel_rfl) trivial ?_
      refine XL_nil ?_
      refine X_seq ?_
      refine X_cond true rfl ?_
      refine X_skip ?_
      refine X_seq ?_
      refine X_block ?_
      refine X_seq ?_
      refine X_region ?_
      refine XL_run 1 [] [(1, .slice (some ⟨w.heap.size, 0, none⟩) 8 8), (2, .slice (some ⟨w_1.heap.size, 0, none⟩) 8 8), (3, .int .i64 5), (4, .iface 25 (.int .i64 (-5))), (26, .slice (some ⟨w.heap.size, 0, none⟩) 8 8), (27, .int .i64 8), (28, .int .i64 5), (54, .slice (some ⟨w.heap.size, 0, none⟩) 8 8), (55, .int .i64 8), (56, .int .i64 3), (58, .int .i64 3)] wj6 [] (by kernel_rfl) trivial ?_
      have hB_101 : Below w_1.heap.size w_1 wj6 := (bt (bt (bt (bt (bt hb_7 HBi) hb_92) hb_95) hb_97) HBj6)
      refine XL_run 4 [(59, .idx ⟨w.heap.size, 0, none⟩), (60, .load (.iface 25 (.int .i64 0)))] [(1, .slice (some ⟨w.heap.size, 0, none⟩) 8 8), (2, .slice (some ⟨w_1.heap.size, 0, none⟩) 8 8), (3, .int .i64 5), (4, .iface 25 (.int .i64 (-5))), (5, .int .i64 3), (6, .iface 25 (.int .i64 0)), (26, .slice (some ⟨w.heap.size, 0, none⟩) 8 8), (27, .int .i64 8), (28, .int .i64 5), (54, .slice (some ⟨w.heap.size, 0, none⟩) 8 8), (55, .int .i64 8), (56, .int .i64 3)] wj6 [(some ⟨w.heap.size, 0, none⟩ : Option Addr) = some ⟨w.heap.size, 0, none⟩, (0 : Int) ≤ 3, (3 : Int) < (8 : Int), LoadsAs Try.prog 32 (⟨w.heap.size, 3, none⟩) (.iface 25 (.int .i64 0)) wj6] (by kernel_rfl) ⟨rfl, (by decide), (by decide), loads1 rfl (Blk.cell (Blk.below hk_3 hB_101) 3 _ rfl), trivial⟩ ?_
      refine XL_nil ?_
      refine X_seq ?_
      refine X_region ?_
      refine XL_run 7 [] [(1, .slice (some ⟨w.heap.size, 0, none⟩) 8 8), (2, .slice (some ⟨w_1.heap.size, 0, none⟩) 8 8), (3, .int .i64 5), (4, .iface 25 (.int .i64 (-5))), (26, .slice (some ⟨w.heap.size, 0, none⟩) 8 8), (27, .int .i64 8), (28, .int .i64 5), (54, .slice (some ⟨w.heap.size, 0, none⟩) 8 8), (55, .int .i64 8), (56, .int .i64 3), (67, .bool false)] wj6 [] (by kernel_rfl) trivial ?_
      refine XL_nil ?_
      refine X_cond false rfl ?_
      refine X_skip ?_
      refine X_region ?_
      refine XL_run 2 [] [(1, .slice (some ⟨w.heap.size, 0, none⟩) 8 8), (2, .slice (some ⟨w_1.heap.size, 0, none⟩) 8 8), (3, .int .i64 5), (4, .iface 25 (.int .i64 (-5))), (26, .slice (some ⟨w.heap.size, 0, none⟩) 8 8), (27, .int .i64 8), (28, .int .i64 5), (54, .slice (some ⟨w.heap.size, 0, none⟩) 8 8), (55, .int .i64 8), (56, .int .i64 4)] wj6 [] (by kernel_rfl) trivial ?_
      refine XL_nil ?_
      refine ⟨4, by kernel_rfl, ?_, ?_⟩
      · exact ⟨by omega, HBj6⟩
      · decide
    · refine X_seq ?_
      refine X_region ?_
      refine XL_run 1 [] [(1, .slice (some ⟨w.heap.size, 0, none⟩) 8 8), (2, .slice (some ⟨w_1.heap.size, 0, none⟩) 8 8), (3, .int .i64 5), (4, .iface 25 (.int .i64 (-5))), (26, .slice (some ⟨w.heap.size, 0, none⟩) 8 8), (27, .int .i64 8), (28, .int .i64 5), (54, .slice (some ⟨w.heap.size, 0, none⟩) 8 8), (55, .int .i64 8), (56, .int .i64 4), (57, .bool true)] wj6 [] (by kernel_rfl) trivial ?_
      refine XL_nil ?_
      refine X_seq ?_
      refine X_cond true rfl ?_
      refine X_skip ?_
      refine X_seq ?_
      refine X_block ?_
      refine X_seq ?_
      refine X_region ?_
      refine XL_run 1 [] [(1, .slice (some ⟨w.heap.size, 0, none⟩) 8 8), (2, .slice (some ⟨w_1.heap.size, 0, none⟩) 8 8), (3, .int .i64 5), (4, .iface 25 (.int .i64 (-5))), (26, .slice (some ⟨w.heap.size, 0, none⟩) 8 8), (27, .int .i64 8), (28, .int .i64 5), (54, .slice (some ⟨w.heap.size, 0, none⟩) 8 8), (55, .int .i64 8), (56, .int .i64 4), (58, .int .i64 4)] wj6 [] (by kernel_rfl) trivial ?_
      have hB_102 : Below w_1.heap.size w_1 wj6 := (bt (bt (bt (bt (bt hb_7 HBi) hb_92) hb_95) hb_97) HBj6)
      refine XL_run 4 [(59, .idx ⟨w.heap.size, 0, none⟩), (60, .load (.iface 25 (.int .i64 1)))] [(1, .slice (some ⟨w.heap.size, 0, none⟩) 8 8), (2, .slice (some ⟨w_1.heap.size, 0, none⟩) 8 8), (3, .int .i64 5), (4, .iface 25 (.int .i64 (-5))), (5, .int .i64 4), (6, .iface 25 (.int .i64 1)), (26, .slice (some ⟨w.heap.size, 0, none⟩) 8 8), (27, .int .i64 8), (28, .int .i64 5), (54, .slice (some ⟨w.heap.size, 0, none⟩) 8 8), (55, .int .i64 8), (56, .int .i64 4)] wj6 [(some ⟨w.heap.size, 0, none⟩ : Option Addr) = some ⟨w.heap.size, 0, none⟩, (0 : Int) ≤ 4, (4 : Int) < (8 : Int), LoadsAs Try.prog 32 (⟨w.heap.size, 4, none⟩) (.iface 25 (.int .i64 1)) wj6] (by kernel_rfl) ⟨rfl, (by decide), (by decide), loads1 rfl (Blk.cell (Blk.below hk_3 hB_102) 4 _ rfl), trivial⟩ ?_
      refine XL_nil ?_
      refine X_seq ?_
      refine X_region ?_
      refine XL_run 7 [] [(1, .slice (some ⟨w.heap.size, 0, none⟩) 8 8), (2, .slice (some ⟨w_1.heap.size, 0, none⟩) 8 8), (3, .int .i64 5), (4, .iface 25 (.int .i64 (-5))), (26, .slice (some ⟨w.heap.size, 0, none⟩) 8 8), (27, .int .i64 8), (28, .int .i64 5), (54, .slice (some ⟨w.heap.size, 0, none⟩) 8 8), (55, .int .i64 8), (56, .int .i64 4), (67, .bool false)] wj6 [] (by kernel_rfl) trivial ?_
      refine XL_nil ?_
      refine X_cond false rfl ?_
      refine X_skip ?_
      refine X_region ?_
      refine XL_run 2 [] [(1, .slice (some ⟨w.heap.size, 0, none⟩) 8 8), (2, .slice (some ⟨w_1.heap.size, 0, none⟩) 8 8), (3, .int .i64 5), (4, .iface 25 (.int .i64 (-5))), (26, .slice (some ⟨w.heap.size, 0, none⟩) 8 8), (27, .int .i64 8), (28, .int .i64 5), (54, .slice (some ⟨w.heap.size, 0, none⟩) 8 8), (55, .int .i64 8), (56, .int .i64 5)] wj6 [] (by kernel_rfl) trivial ?_
      refine XL_nil ?_
      refine ⟨5, by kernel_rfl, ?_, ?_⟩
      · exact ⟨by omega, HBj6⟩
      · decide
    · refine X_seq ?_
      refine X_region ?_
      refine XL_run 1 [] [(1, .slice (some ⟨w.heap.size, 0, none⟩) 8 8), (2, .slice (some ⟨w_1.heap.size, 0, none⟩) 8 8), (3, .int .i64 5), (4, .iface 25 (.int .i64 (-5))), (26, .slice (some ⟨w.heap.size, 0, none⟩) 8 8), (27, .int .i64 8), (28, .int .i64 5), (54, .slice (some ⟨w.heap.size, 0, none⟩) 8 8), (55, .int .i64 8), (56, .int .i64 5), (57, .bool true)] wj6 [] (by kernel_rfl) trivial ?_
      refine XL_nil ?_
      refine X_seq ?_
      refine X_cond true rfl ?_
      refine X_skip ?_
      refine X_seq ?_
      refine X_block ?_
      refine X_seq ?_
      refine X_region ?_
      refine XL_run 1 [] [(1, .slice (some ⟨w.heap.size, 0, none⟩) 8 8), (2, .slice (some ⟨w_1.heap.size, 0, none⟩) 8 8), (3, .int .i64 5), (4, .iface 25 (.int .i64 (-5))), (26, .slice (some ⟨w.heap.size, 0, none⟩) 8 8), (27, .int .i64 8), (28, .int .i64 5), (54, .slice (some ⟨w.heap.size, 0, none⟩) 8 8), (55, .int .i64 8), (56, .int .i64 5), (58, .int .i64 5)] wj6 [] (by kernel_rfl) trivial ?_
      have hB_103 : Below w_1.heap.size w_1 wj6 := (bt (bt (bt (bt (bt hb_7 HBi) hb_92) hb_95) hb_97) HBj6)
      refine XL_run 4 [(59, .idx ⟨w.heap.size, 0, none⟩), (60, .load (.iface 25 (.int .i64 (-5))))] [(1, .slice (some ⟨w.heap.size, 0, none⟩) 8 8), (2, .slice (some ⟨w_1.heap.size, 0, none⟩) 8 8), (3, .int .i64 5), (4, .iface 25 (.int .i64 (-5))), (5, .int .i64 5), (6, .iface 25 (.int .i64 (-5))), (26, .slice (some ⟨w.heap.size, 0, none⟩) 8 8), (27, .int .i64 8), (28, .int .i64 5), (54, .slice (some ⟨w.heap.size, 0, none⟩) 8 8), (55, .int .i64 8), (56, .int .i64 5)] wj6 [(some ⟨w.heap.size, 0, none⟩ : Option Addr) = some ⟨w.heap.size, 0, none⟩, (0 : Int) ≤ 5, (5 : Int) < (8 : Int), LoadsAs Try.prog 32 (⟨w.heap.size, 5, none⟩) (.iface 25 (.int .i64 (-5))) wj6] (by kernel_rfl) ⟨rfl, (by decide), (by decide), loads1 rfl (Blk.cell (Blk.below hk_3 hB_103) 5 _ rfl), trivial⟩ ?_
      refine XL_nil ?_
      refine X_seq ?_
      refine X_region ?_
      refine XL_run 7 [] [(1, .slice (some ⟨w.heap.size, 0, none⟩) 8 8), (2, .slice (some ⟨w_1.heap.size, 0, none⟩) 8 8), (3, .int .i64 5), (4, .iface 25 (.int .i64 (-5))), (26, .slice (some ⟨w.heap.size, 0, none⟩) 8 8), (27, .int .i64 8), (28, .int .i64 5), (54, .slice (some ⟨w.heap.size, 0, none⟩) 8 8), (55, .int .i64 8), (56, .int .i64 5), (67, .bool false)] wj6 [] (by kernel_rfl) trivial ?_
      refine XL_nil ?_
      refine X_cond false rfl ?_
      refine X_skip ?_
      refine X_region ?_
      refine XL_run 2 [] [(1, .slice (some ⟨w.heap.size, 0, none⟩) 8 8), (2, .slice (some ⟨w_1.heap.size, 0, none⟩) 8 8), (3, .int .i64 5), (4, .iface 25 (.int .i64 (-5))), (26, .slice (some ⟨w.heap.size, 0, none⟩) 8 8), (27, .int .i64 8), (28, .int .i64 5), (54, .slice (some ⟨w.heap.size, 0, none⟩) 8 8), (55, .int .i64 8), (56, .int .i64 6)] wj6 [] (by kernel_rfl) trivial ?_
      refine XL_nil ?_
      refine ⟨6, by kernel_rfl, ?_, ?_⟩
      · exact ⟨by omega, HBj6⟩
      · decide
    · refine X_seq ?_
      refine X_region ?_
      refine XL_run 1 [] [(1, .slice (some ⟨w.heap.size, 0, none⟩) 8 8), (2, .slice (some ⟨w_1.heap.size, 0, none⟩) 8 8), (3, .int .i64 5), (4, .iface 25 (.int .i64 (-5))), (26, .slice (some ⟨w.heap.size, 0, none⟩) 8 8), (27, .int .i64 8), (28, .int .i64 5), (54, .slice (some ⟨w.heap.size, 0, none⟩) 8 8), (55, .int .i64 8), (56, .int .i64 6), (57, .bool true)] wj6 [] (by kernel_rfl) trivial ?_
      refine XL_nil ?_
      refine X_seq ?_
      refine X_cond true rfl ?_
      refine X_skip ?_
      refine X_seq ?_
      refine X_block ?_
      refine X_seq ?_
      refine X_region ?_
      refine XL_run 1 [] [(1, .slice (some ⟨w.heap.size, 0, none⟩) 8 8), (2, .slice (some ⟨w_1.heap.size, 0, none⟩) 8 8), (3, .int .i64 5), (4, .iface 25 (.int .i64 (-5))), (26, .slice (some ⟨w.heap.size, 0, none⟩) 8 8), (27, .int .i64 8), (28, .int .i64 5), (54, .slice (some ⟨w.heap.size, 0, none⟩) 8 8), (55, .int .i64 8), (56, .int .i64 6), (58, .int .i64 6)] wj6 [] (by kernel_rfl) trivial ?_
      have hB_104 : Below w_1.heap.size w_1 wj6 := (bt (bt (bt (bt (bt hb_7 HBi) hb_92) hb_95) hb_97) HBj6)
      refine XL_run 4 [(59, .idx ⟨w.heap.size, 0, none⟩), (60, .load (.iface 26 (.string (⟨#[]⟩ : ByteArray))))] [(1, .slice (some ⟨w.heap.size, 0, none⟩) 8 8), (2, .slice (some ⟨w_1.heap.size, 0, none⟩) 8 8), (3, .int .i64 5), (4, .iface 25 (.int .i64 (-5))), (5, .int .i64 6), (6, .iface 26 (.string (⟨#[]⟩ : ByteArray))), (26, .slice (some ⟨w.heap.size, 0, none⟩) 8 8), (27, .int .i64 8), (28, .int .i64 5), (54, .slice (some ⟨w.heap.size, 0, none⟩) 8 8), (55, .int .i64 8), (56, .int .i64 6)] wj6 [(some ⟨w.heap.size, 0, none⟩ : Option Addr) = some ⟨w.heap.size, 0, none⟩, (0 : Int) ≤ 6, (6 : Int) < (8 : Int), LoadsAs Try.prog 32 (⟨w.heap.size, 6, none⟩) (.iface 26 (.string (⟨#[]⟩ : ByteArray))) wj6] (by kernel_rfl) ⟨rfl, (by decide), (by decide), loads1 rfl (Blk.cell (Blk.below hk_3 hB_104) 6 _ rfl), trivial⟩ ?_
      refine XL_nil ?_
      refine X_seq ?_
      refine X_region ?_
      refine XL_run 7 [] [(1, .slice (some ⟨w.heap.size, 0, none⟩) 8 8), (2, .slice (some ⟨w_1.heap.size, 0, none⟩) 8 8), (3, .int .i64 5), (4, .iface 25 (.int .i64 (-5))), (26, .slice (some ⟨w.heap.size, 0, none⟩) 8 8), (27, .int .i64 8), (28, .int .i64 5), (54, .slice (some ⟨w.heap.size, 0, none⟩) 8 8), (55, .int .i64 8), (56, .int .i64 6), (67, .bool false)] wj6 [] (by kernel_rfl) trivial ?_
      refine XL_nil ?_
      refine X_cond false rfl ?_
      refine X_skip ?_
      refine X_region ?_
      refine XL_run 2 [] [(1, .slice (some ⟨w.heap.size, 0, none⟩) 8 8), (2, .slice (some ⟨w_1.heap.size, 0, none⟩) 8 8), (3, .int .i64 5), (4, .iface 25 (.int .i64 (-5))), (26, .slice (some ⟨w.heap.size, 0, none⟩) 8 8), (27, .int .i64 8), (28, .int .i64 5), (54, .slice (some ⟨w.heap.size, 0, none⟩) 8 8), (55, .int .i64 8), (56, .int .i64 7)] wj6 [] (by kernel_rfl) trivial ?_
      refine XL_nil ?_
      refine ⟨7, by kernel_rfl, ?_, ?_⟩
      · exact ⟨by omega, HBj6⟩
      · decide
    · refine X_seq ?_
      refine X_region ?_
      refine XL_run 1 [] [(1, .slice (some ⟨w.heap.size, 0, none⟩) 8 8), (2, .slice (some ⟨w_1.heap.size, 0, none⟩) 8 8), (3, .int .i64 5), (4, .iface 25 (.int .i64 (-5))), (26, .slice (some ⟨w.heap.size, 0, none⟩) 8 8), (27, .int .i64 8), (28, .int .i64 5), (54, .slice (some ⟨w.heap.size, 0, none⟩) 8 8), (55, .int .i64 8), (56, .int .i64 7), (57, .bool true)] wj6 [] (by kernel_rfl) trivial ?_
      refine XL_nil ?_
      refine X_seq ?_
      refine X_cond true rfl ?_
      refine X_skip ?_
      refine X_seq ?_
      refine X_block ?_
      refine X_seq ?_
      refine X_region ?_
      refine XL_run 1 [] [(1, .slice (some ⟨w.heap.size, 0, none⟩) 8 8), (2, .slice (some ⟨w_1.heap.size, 0, none⟩) 8 8), (3, .int .i64 5), (4, .iface 25 (.int .i64 (-5))), (26, .slice (some ⟨w.heap.size, 0, none⟩) 8 8), (27, .int .i64 8), (28, .int .i64 5), (54, .slice (some ⟨w.heap.size, 0, none⟩) 8 8), (55, .int .i64 8), (56, .int .i64 7), (58, .int .i64 7)] wj6 [] (by kernel_rfl) trivial ?_
      have hB_105 : Below w_1.heap.size w_1 wj6 := (bt (bt (bt (bt (bt hb_7 HBi) hb_92) hb_95) hb_97) HBj6)
      refine XL_run 4 [(59, .idx ⟨w.heap.size, 0, none⟩), (60, .load (.iface 26 (.string (⟨#[97]⟩ : ByteArray))))] [(1, .slice (some ⟨w.heap.size, 0, none⟩) 8 8), (2, .slice (some ⟨w_1.heap.size, 0, none⟩) 8 8), (3, .int .i64 5), (4, .iface 25 (.int .i64 (-5))), (5, .int .i64 7), (6, .iface 26 (.string (⟨#[97]⟩ : ByteArray))), (26, .slice (some ⟨w.heap.size, 0, none⟩) 8 8), (27, .int .i64 8), (28, .int .i64 5), (54, .slice (some ⟨w.heap.size, 0, none⟩) 8 8), (55, .int .i64 8), (56, .int .i64 7)] wj6 [(some ⟨w.heap.size, 0, none⟩ : Option Addr) = some ⟨w.heap.size, 0, none⟩, (0 : Int) ≤ 7, (7 : Int) < (8 : Int), LoadsAs Try.prog 32 (⟨w.heap.size, 7, none⟩) (.iface 26 (.string (⟨#[97]⟩ : ByteArray))) wj6] (by kernel_rfl) ⟨rfl, (by decide), (by decide), loads1 rfl (Blk.cell (Blk.below hk_3 hB_105) 7 _ rfl), trivial⟩ ?_
      refine XL_nil ?_
      refine X_seq ?_
      refine X_region ?_
      refine XL_run 7 [] [(1, .slice (some ⟨w.heap.size, 0, none⟩) 8 8), (2, .slice (some ⟨w_1.heap.size, 0, none⟩) 8 8), (3, .int .i64 5), (4, .iface 25 (.int .i64 (-5))), (26, .slice (some ⟨w.heap.size, 0, none⟩) 8 8), (27, .int .i64 8), (28, .int .i64 5), (54, .slice (some ⟨w.heap.size, 0, none⟩) 8 8), (55, .int .i64 8), (56, .int .i64 7), (67, .bool false)] wj6 [] (by kernel_rfl) trivial ?_
      refine XL_nil ?_
      refine X_cond false rfl ?_
      refine X_skip ?_
      refine X_region ?_
      refine XL_run 2 [] [(1, .slice (some ⟨w.heap.size, 0, none⟩) 8 8), (2, .slice (some ⟨w_1.heap.size, 0, none⟩) 8 8), (3, .int .i64 5), (4, .iface 25 (.int .i64 (-5))), (26, .slice (some ⟨w.heap.size, 0, none⟩) 8 8), (27, .int .i64 8), (28, .int .i64 5), (54, .slice (some ⟨w.heap.size, 0, none⟩) 8 8), (55, .int .i64 8), (56, .int .i64 8)] wj6 [] (by kernel_rfl) trivial ?_
      refine XL_nil ?_
      refine ⟨8, by kernel_rfl, ?_, ?_⟩
      · exact ⟨by omega, HBj6⟩
      · decide
    · refine X_seq ?_
      refine X_region ?_
      refine XL_run 1 [] [(1, .slice (some ⟨w.heap.size, 0, none⟩) 8 8), (2, .slice (some ⟨w_1.heap.size, 0, none⟩) 8 8), (3, .int .i64 5), (4, .iface 25 (.int .i64 (-5))), (26, .slice (some ⟨w.heap.size, 0, none⟩) 8 8), (27, .int .i64 8), (28, .int .i64 5), (54, .slice (some ⟨w.heap.size, 0, none⟩) 8 8), (55, .int .i64 8), (56, .int .i64 8), (57, .bool false)] wj6 [] (by kernel_rfl) trivial ?_
      refine XL_nil ?_
      refine X_seq ?_
      refine X_cond false rfl ?_
      refine X_exit ?_
      refine X_region ?_
      refine XL_run 2 [] [(1, .slice (some ⟨w.heap.size, 0, none⟩) 8 8), (2, .slice (some ⟨w_1.heap.size, 0, none⟩) 8 8), (26, .slice (some ⟨w.heap.size, 0, none⟩) 8 8), (27, .int .i64 8), (28, .int .i64 6)] wj6 [] (by kernel_rfl) trivial ?_
      refine XL_nil ?_
      have hB_106 : Below w_6.heap.size w_6 wj6 := (bt (bt (bt (bt HBi hb_92) hb_95) hb_97) HBj6)
      refine ⟨6, by kernel_rfl, ?_, ?_⟩
      · exact ⟨by omega, hB_106⟩
      · decide
  · refine X_seq ?_
    refine X_region ?_
    refine XL_run 1 [] [(1, .slice (some ⟨w.heap.size, 0, none⟩) 8 8), (2, .slice (some ⟨w_1.heap.size, 0, none⟩) 8 8), (26, .slice (some ⟨w.heap.size, 0, none⟩) 8 8), (27, .int .i64 8), (28, .int .i64 6), (29, .bool true)] wi [] (by kernel_rfl) trivial ?_
    refine XL_nil ?_
    refine X_seq ?_
    refine X_cond true rfl ?_
    refine X_skip ?_
    refine X_seq ?_
    refine X_block ?_
    refine X_seq ?_
    refine X_region ?_
    refine XL_run 1 [] [(1, .slice (some ⟨w.heap.size, 0, none⟩) 8 8), (2, .slice (some ⟨w_1.heap.size, 0, none⟩) 8 8), (26, .slice (some ⟨w.heap.size, 0, none⟩) 8 8), (27, .int .i64 8), (28, .int .i64 6), (30, .int .i64 6)] wi [] (by kernel_rfl) trivial ?_
    refine XL_run 4 [(31, .idx ⟨w.heap.size, 0, none⟩), (32, .load (.iface 26 (.string (⟨#[]⟩ : ByteArray))))] [(1, .slice (some ⟨w.heap.size, 0, none⟩) 8 8), (2, .slice (some ⟨w_1.heap.size, 0, none⟩) 8 8), (3, .int .i64 6), (4, .iface 26 (.string (⟨#[]⟩ : ByteArray))), (26, .slice (some ⟨w.heap.size, 0, none⟩) 8 8), (27, .int .i64 8), (28, .int .i64 6)] wi [(some ⟨w.heap.size, 0, none⟩ : Option Addr) = some ⟨w.heap.size, 0, none⟩, (0 : Int) ≤ 6, (6 : Int) < (8 : Int), LoadsAs Try.prog 32 (⟨w.heap.size, 6, none⟩) (.iface 26 (.string (⟨#[]⟩ : ByteArray))) wi] (by kernel_rfl) ⟨rfl, (by decide), (by decide), loads1 rfl (Blk.cell (Blk.below hk_3 (bt hb_7 HBi)) 6 _ rfl), trivial⟩ ?_
    refine XL_nil ?_
    refine X_seq ?_
    refine X_seq ?_
    refine X_grow [] 21 #[false, false, false, false, false, false, false, false, false, false, false, false, false, false, false, false, false, false, false, false, false] (by kernel_rfl) (by kernel_rfl) (by kernel_rfl) (fun wd_107 hb_108 hh_109 => ?_)
    refine XB_run (fuel' := 15) (Below.refl _ _) [0, 1, 2, 3, 5, 6] [] [.iface 26 (.string (⟨#[]⟩ : ByteArray)), .bool false, .bool false, .iface 26 (.string (⟨#[]⟩ : ByteArray)), .slice (some ⟨w_1.heap.size, 0, none⟩) 8 8, .int .i64 6] #[true, true, true, true, false, true, true, false, false, false, false, false, false, false, false, false, false, false, false, false, false] [(1, .slice (some ⟨w.heap.size, 0, none⟩) 8 8), (2, .slice (some ⟨w_1.heap.size, 0, none⟩) 8 8), (3, .int .i64 6), (4, .iface 26 (.string (⟨#[]⟩ : ByteArray))), (26, .slice (some ⟨w.heap.size, 0, none⟩) 8 8), (27, .int .i64 8), (28, .int .i64 6), (35, .bool false), (36, .iface 26 (.string (⟨#[]⟩ : ByteArray))), (38, .slice (some ⟨w_1.heap.size, 0, none⟩) 8 8), (39, .int .i64 6)] (fun w_ => []) (fun _ _ _ _ h => h) (fun w_ => by kernel_rfl) rfl (fun w_ hC_ => trivial) ?_
    refine XB_run (fuel' := 12) (Below.refl _ _) [7, 8, 9] [(40, .idx ⟨w_1.heap.size, 0, none⟩), (42, .load (.int .i64 3))] [.pointer (some ⟨w_1.heap.size, 18, none⟩), .pointer (some ⟨w_1.heap.size, 18, none⟩), .int .i64 3] #[true, true, true, true, false, true, true, true, true, true, false, false, false, false, false, false, false, false, false, false, false] [(1, .slice (some ⟨w.heap.size, 0, none⟩) 8 8), (2, .slice (some ⟨w_1.heap.size, 0, none⟩) 8 8), (3, .int .i64 6), (4, .iface 26 (.string (⟨#[]⟩ : ByteArray))), (26, .slice (some ⟨w.heap.size, 0, none⟩) 8 8), (27, .int .i64 8), (28, .int .i64 6), (35, .bool false), (36, .iface 26 (.string (⟨#[]⟩ : ByteArray))), (42, .int .i64 3)] (fun w_ => [(some ⟨w_1.heap.size, 0, none⟩ : Option Addr) = some ⟨w_1.heap.size, 0, none⟩, (0 : Int) ≤ 6, (6 : Int) < (8 : Int), LoadsAs Try.prog 3 (⟨w_1.heap.size, 18, none⟩) (.int .i64 3) w_]) (fun _ _ _ _ h => h) (fun w_ => by kernel_rfl) rfl (fun w_ hC_ => ⟨rfl, (by decide), (by decide), loads1 rfl (Blk.cell (Blk.below hk_8 (bt (bt HBi hb_108) hC_)) 18 _ rfl), trivial⟩) ?_
    refine XB_mid (fuel' := 11) 4 #[true, true, true, true, true, true, true, true, true, true, false, false, false, false, false, false, false, false, false, false, false] _ rfl (by kernel_rfl) (by kernel_rfl) rfl ?_
    refine XL_inv 26 #[.string (⟨#[]⟩ : ByteArray)] rfl rfl (by kernel_rfl) (by kernel_rfl) (text_kind (⟨#[]⟩ : ByteArray) _) ?_
    rintro e w_110 ⟨rfl, hb_111⟩; refine ⟨_, rfl, ?_⟩
    refine XL_nil ?_
    refine ⟨hb_111, ?_⟩
    refine XB_run (fuel' := 5) hb_111 [10, 11, 12, 13, 15, 16] [] [.bool false, .bool false, .bool false, .iface 26 (.string (⟨#[]⟩ : ByteArray)), .slice (some ⟨w_1.heap.size, 0, none⟩) 8 8, .int .i64 6] #[true, true, true, true, true, true, true, true, true, true, true, true, true, true, false, true, true, false, false, false, false] [(1, .slice (some ⟨w.heap.size, 0, none⟩) 8 8), (2, .slice (some ⟨w_1.heap.size, 0, none⟩) 8 8), (3, .int .i64 6), (4, .iface 26 (.string (⟨#[]⟩ : ByteArray))), (26, .slice (some ⟨w.heap.size, 0, none⟩) 8 8), (27, .int .i64 8), (28, .int .i64 6), (45, .bool false), (46, .iface 26 (.string (⟨#[]⟩ : ByteArray))), (48, .slice (some ⟨w_1.heap.size, 0, none⟩) 8 8), (49, .int .i64 6)] (fun w_ => []) (fun _ _ _ _ h => h) (fun w_ => by kernel_rfl) rfl (fun w_ hC_ => trivial) ?_
    refine XB_run (fuel' := 3) hb_111 [17, 18] [(50, .idx ⟨w_1.heap.size, 0, none⟩), (51, .load (.agg #[.int .i64 3, .int .i64 0, .string ByteArray.empty]))] [.pointer (some ⟨w_1.heap.size, 18, none⟩), .agg #[.int .i64 3, .int .i64 0, .string ByteArray.empty]] #[true, true, true, true, true, true, true, true, true, true, true, true, true, true, false, true, true, true, true, false, false] [(1, .slice (some ⟨w.heap.size, 0, none⟩) 8 8), (2, .slice (some ⟨w_1.heap.size, 0, none⟩) 8 8), (3, .int .i64 6), (4, .iface 26 (.string (⟨#[]⟩ : ByteArray))), (26, .slice (some ⟨w.heap.size, 0, none⟩) 8 8), (27, .int .i64 8), (28, .int .i64 6), (45, .bool false), (46, .iface 26 (.string (⟨#[]⟩ : ByteArray))), (51, .agg #[.int .i64 3, .int .i64 0, .string ByteArray.empty])] (fun w_ => [(some ⟨w_1.heap.size, 0, none⟩ : Option Addr) = some ⟨w_1.heap.size, 0, none⟩, (0 : Int) ≤ 6, (6 : Int) < (8 : Int), LoadsAs Try.prog 29 (⟨w_1.heap.size, 18, none⟩) (.agg #[.int .i64 3, .int .i64 0, .string ByteArray.empty]) w_]) (fun _ _ _ _ h => h) (fun w_ => by kernel_rfl) rfl (fun w_ hC_ => ⟨rfl, (by decide), (by decide), loadsB rfl rfl (Blk.below hk_8 (bt (bt HBi hb_108) hC_)) 18 ⟨by kernel_rfl, by kernel_rfl⟩, trivial⟩) ?_
    refine XB_mid (fuel' := 2) 14 #[true, true, true, true, true, true, true, true, true, true, true, true, true, true, true, true, true, true, true, false, false] _ rfl (by kernel_rfl) (by kernel_rfl) rfl ?_
    refine XL_inv 27 #[.string (⟨#[]⟩ : ByteArray)] rfl rfl (by kernel_rfl) (by kernel_rfl) (text_plain (⟨#[]⟩ : ByteArray) _) ?_
    rintro e w_112 ⟨rfl, hb_113⟩; refine ⟨_, rfl, ?_⟩
    refine XL_nil ?_
    refine ⟨(bt hb_111 hb_113), ?_⟩
    refine XB_run (fuel' := 0) (bt hb_111 hb_113) [19, 20] [] [.bool false, .bool false] #[true, true, true, true, true, true, true, true, true, true, true, true, true, true, true, true, true, true, true, true, true] [(1, .slice (some ⟨w.heap.size, 0, none⟩) 8 8), (2, .slice (some ⟨w_1.heap.size, 0, none⟩) 8 8), (3, .int .i64 6), (4, .iface 26 (.string (⟨#[]⟩ : ByteArray))), (26, .slice (some ⟨w.heap.size, 0, none⟩) 8 8), (27, .int .i64 8), (28, .int .i64 6), (53, .bool false)] (fun w_ => []) (fun _ _ _ _ h => h) (fun w_ => by kernel_rfl) rfl (fun w_ hC_ => trivial) ?_
    refine XB_done (by kernel_rfl) ?_
    refine X_cond false rfl ?_
    refine X_skip ?_
    refine X_seq ?_
    refine X_region ?_
    refine XL_run 3 [] [(1, .slice (some ⟨w.heap.size, 0, none⟩) 8 8), (2, .slice (some ⟨w_1.heap.size, 0, none⟩) 8 8), (3, .int .i64 6), (4, .iface 26 (.string (⟨#[]⟩ : ByteArray))), (26, .slice (some ⟨w.heap.size, 0, none⟩) 8 8), (27, .int .i64 8), (28, .int .i64 6), (54, .slice (some ⟨w.heap.size, 0, none⟩) 8 8), (55, .int .i64 8), (56, .int .i64 0)] w_112 [] (by kernel_rfl) trivial ?_
    refine XL_nil ?_
    refine X_block ?_
    refine X_loop (ι := Nat) (fun j7 => [(1, .slice (some ⟨w.heap.size, 0, none⟩) 8 8), (2, .slice (some ⟨w_1.heap.size, 0, none⟩) 8 8), (3, .int .i64 6), (4, .iface 26 (.string (⟨#[]⟩ : ByteArray))), (26, .slice (some ⟨w.heap.size, 0, none⟩) 8 8), (27, .int .i64 8), (28, .int .i64 6), (54, .slice (some ⟨w.heap.size, 0, none⟩) 8 8), (55, .int .i64 8), (56, .int .i64 (j7 : Int))]) (fun j7 wj7 => j7 ≤ 8 ∧ Below w_112.heap.size w_112 wj7) (fun j7 => 8 - j7) 0 ⟨by omega, Below.refl _ _⟩ (by kernel_rfl) ?_
    rintro j7 wj7 ⟨hj7, HBj7⟩
    obtain rfl | rfl | rfl | rfl | rfl | rfl | rfl | rfl | rfl : j7 = 0 ∨ j7 = 1 ∨ j7 = 2 ∨ j7 = 3 ∨ j7 = 4 ∨ j7 = 5 ∨ j7 = 6 ∨ j7 = 7 ∨ j7 = 8 := by omega
    · refine X_seq ?_
      refine X_region ?_
      refine XL_run 1 [] [(1, .slice (some ⟨w.heap.size, 0, none⟩) 8 8), (2, .slice (some ⟨w_1.heap.size, 0, none⟩) 8 8), (3, .int .i64 6), (4, .iface 26 (.string (⟨#[]⟩ : ByteArray))), (26, .slice (some ⟨w.heap.size, 0, none⟩) 8 8), (27, .int .i64 8), (28, .int .i64 6), (54, .slice (some ⟨w.heap.size, 0, none⟩) 8 8), (55, .int .i64 8), (56, .int .i64 0), (57, .bool true)] wj7 [] (by kernel_rfl) trivial ?_
      refine XL_nil ?_
      refine X_seq ?_
      refine X_cond true rfl ?_
      refine X_skip ?_
      refine X_seq ?_
      refine X_block ?_
      refine X_seq ?_
      refine X_region ?_
      refine XL_run 1 [] [(1, .slice (some ⟨w.heap.size, 0, none⟩) 8 8), (2, .slice (some ⟨w_1.heap.size, 0, none⟩) 8 8), (3, .int .i64 6), (4, .iface 26 (.string (⟨#[]⟩ : ByteArray))), (26, .slice (some ⟨w.heap.size, 0, none⟩) 8 8), (27, .int .i64 8), (28, .int .i64 6), (54, .slice (some ⟨w.heap.size, 0, none⟩) 8 8), (55, .int .i64 8), (56, .int .i64 0), (58, .int .i64 0)] wj7 [] (by kernel_rfl) trivial ?_
      have hB_114 : Below w_1.heap.size w_1 wj7 := (bt (bt (bt (bt (bt hb_7 HBi) hb_108) hb_111) hb_113) HBj7)
      refine XL_run 4 [(59, .idx ⟨w.heap.size, 0, none⟩), (60, .load (.iface 23 (.agg #[])))] [(1, .slice (some ⟨w.heap.size, 0, none⟩) 8 8), (2, .slice (some ⟨w_1.heap.size, 0, none⟩) 8 8), (3, .int .i64 6), (4, .iface 26 (.string (⟨#[]⟩ : ByteArray))), (5, .int .i64 0), (6, .iface 23 (.agg #[])), (26, .slice (some ⟨w.heap.size, 0, none⟩) 8 8), (27, .int .i64 8), (28, .int .i64 6), (54, .slice (some ⟨w.heap.size, 0, none⟩) 8 8), (55, .int .i64 8), (56, .int .i64 0)] wj7 [(some ⟨w.heap.size, 0, none⟩ : Option Addr) = some ⟨w.heap.size, 0, none⟩, (0 : Int) ≤ 0, (0 : Int) < (8 : Int), LoadsAs Try.prog 32 (⟨w.heap.size, 0, none⟩) (.iface 23 (.agg #[])) wj7] (by kernel_rfl) ⟨rfl, (by decide), (by decide), loads1 rfl (Blk.cell (Blk.below hk_3 hB_114) 0 _ rfl), trivial⟩ ?_
      refine XL_nil ?_
      refine X_seq ?_
      refine X_region ?_
      refine XL_run 7 [] [(1, .slice (some ⟨w.heap.size, 0, none⟩) 8 8), (2, .slice (some ⟨w_1.heap.size, 0, none⟩) 8 8), (3, .int .i64 6), (4, .iface 26 (.string (⟨#[]⟩ : ByteArray))), (26, .slice (some ⟨w.heap.size, 0, none⟩) 8 8), (27, .int .i64 8), (28, .int .i64 6), (54, .slice (some ⟨w.heap.size, 0, none⟩) 8 8), (55, .int .i64 8), (56, .int .i64 0), (67, .bool false)] wj7 [] (by kernel_rfl) trivial ?_
      refine XL_nil ?_
      refine X_cond false rfl ?_
      refine X_skip ?_
      refine X_region ?_
      refine XL_run 2 [] [(1, .slice (some ⟨w.heap.size, 0, none⟩) 8 8), (2, .slice (some ⟨w_1.heap.size, 0, none⟩) 8 8), (3, .int .i64 6), (4, .iface 26 (.string (⟨#[]⟩ : ByteArray))), (26, .slice (some ⟨w.heap.size, 0, none⟩) 8 8), (27, .int .i64 8), (28, .int .i64 6), (54, .slice (some ⟨w.heap.size, 0, none⟩) 8 8), (55, .int .i64 8), (56, .int .i64 1)] wj7 [] (by kernel_rfl) trivial ?_
      refine XL_nil ?_
      refine ⟨1, by kernel_rfl, ?_, ?_⟩
      · exact ⟨by omega, HBj7⟩
      · decide
    · refine X_seq ?_
      refine X_region ?_
      refine XL_run 1 [] [(1, .slice (some ⟨w.heap.size, 0, none⟩) 8 8), (2, .slice (some ⟨w_1.heap.size, 0, none⟩) 8 8), (3, .int .i64 6), (4, .iface 26 (.string (⟨#[]⟩ : ByteArray))), (26, .slice (some ⟨w.heap.size, 0, none⟩) 8 8), (27, .int .i64 8), (28, .int .i64 6), (54, .slice (some ⟨w.heap.size, 0, none⟩) 8 8), (55, .int .i64 8), (56, .int .i64 1), (57, .bool true)] wj7 [] (by kernel_rfl) trivial ?_
      refine XL_nil ?_
      refine X_seq ?_
      refine X_cond true rfl ?_
      refine X_skip ?_
      refine X_seq ?_
      refine X_block ?_
      refine X_seq ?_
      refine X_region ?_
      refine XL_run 1 [] [(1, .slice (some ⟨w.heap.size, 0, none⟩) 8 8), (2, .slice (some ⟨w_1.heap.size, 0, none⟩) 8 8), (3, .int .i64 6), (4, .iface 26 (.string (⟨#[]⟩ : ByteArray))), (26, .slice (some ⟨w.heap.size, 0, none⟩) 8 8), (27, .int .i64 8), (28, .int .i64 6), (54, .slice (some ⟨w.heap.size, 0, none⟩) 8 8), (55, .int .i64 8), (56, .int .i64 1), (58, .int .i64 1)] wj7 [] (by kernel_rfl) trivial ?_
      have hB_115 : Below w_1.heap.size w_1 wj7 := (bt (bt (bt (bt (bt hb_7 HBi) hb_108) hb_111) hb_113) HBj7)
      refine XL_run 4 [(59, .idx ⟨w.heap.size, 0, none⟩), (60, .load (.iface 24 (.bool false)))] [(1, .slice (some ⟨w.heap.size, 0, none⟩) 8 8), (2, .slice (some ⟨w_1.heap.size, 0, none⟩) 8 8), (3, .int .i64 6), (4, .iface 26 (.string (⟨#[]⟩ : ByteArray))), (5, .int .i64 1), (6, .iface 24 (.bool false)), (26, .slice (some ⟨w.heap.size, 0, none⟩) 8 8), (27, .int .i64 8), (28, .int .i64 6), (54, .slice (some ⟨w.heap.size, 0, none⟩) 8 8), (55, .int .i64 8), (56, .int .i64 1)] wj7 [(some ⟨w.heap.size, 0, none⟩ : Option Addr) = some ⟨w.heap.size, 0, none⟩, (0 : Int) ≤ 1, (1 : Int) < (8 : Int), LoadsAs Try.prog 32 (⟨w.heap.size, 1, none⟩) (.iface 24 (.bool false)) wj7] (by kernel_rfl) ⟨rfl, (by decide), (by decide), loads1 rfl (Blk.cell (Blk.below hk_3 hB_115) 1 _ rfl), trivial⟩ ?_
      refine XL_nil ?_
      refine X_seq ?_
      refine X_region ?_
      refine XL_run 7 [] [(1, .slice (some ⟨w.heap.size, 0, none⟩) 8 8), (2, .slice (some ⟨w_1.heap.size, 0, none⟩) 8 8), (3, .int .i64 6), (4, .iface 26 (.string (⟨#[]⟩ : ByteArray))), (26, .slice (some ⟨w.heap.size, 0, none⟩) 8 8), (27, .int .i64 8), (28, .int .i64 6), (54, .slice (some ⟨w.heap.size, 0, none⟩) 8 8), (55, .int .i64 8), (56, .int .i64 1), (67, .bool false)] wj7 [] (by kernel_rfl) trivial ?_
      refine XL_nil ?_
      refine X_cond false rfl ?_
      refine X_skip ?_
      refine X_region ?_
      refine XL_run 2 [] [(1, .slice (some ⟨w.heap.size, 0, none⟩) 8 8), (2, .slice (some ⟨w_1.heap.size, 0, none⟩) 8 8), (3, .int .i64 6), (4, .iface 26 (.string (⟨#[]⟩ : ByteArray))), (26, .slice (some ⟨w.heap.size, 0, none⟩) 8 8), (27, .int .i64 8), (28, .int .i64 6), (54, .slice (some ⟨w.heap.size, 0, none⟩) 8 8), (55, .int .i64 8), (56, .int .i64 2)] wj7 [] (by kernel_rfl) trivial ?_
      refine XL_nil ?_
      refine ⟨2, by kernel_rfl, ?_, ?_⟩
      · exact ⟨by omega, HBj7⟩
      · decide
    · refine X_seq ?_
      refine X_region ?_
      refine XL_run 1 [] [(1, .slice (some ⟨w.heap.size, 0, none⟩) 8 8), (2, .slice (some ⟨w_1.heap.size, 0, none⟩) 8 8), (3, .int .i64 6), (4, .iface 26 (.string (⟨#[]⟩ : ByteArray))), (26, .slice (some ⟨w.heap.size, 0, none⟩) 8 8), (27, .int .i64 8), (28, .int .i64 6), (54, .slice (some ⟨w.heap.size, 0, none⟩) 8 8), (55, .int .i64 8), (56, .int .i64 2), (57, .bool true)] wj7 [] (by kernel_rfl) trivial ?_
      refine XL_nil ?_
      refine X_seq ?_
      refine X_cond true rfl ?_
      refine X_skip ?_
      refine X_seq ?_
      refine X_block ?_
      refine X_seq ?_
      refine X_region ?_
      refine XL_run 1 [] [(1, .slice (some ⟨w.heap.size, 0, none⟩) 8 8), (2, .slice (some ⟨w_1.heap.size, 0, none⟩) 8 8), (3, .int .i64 6), (4, .iface 26 (.string (⟨#[]⟩ : ByteArray))), (26, .slice (some ⟨w.heap.size, 0, none⟩) 8 8), (27, .int .i64 8), (28, .int .i64 6), (54, .slice (some ⟨w.heap.size, 0, none⟩) 8 8), (55, .int .i64 8), (56, .int .i64 2), (58, .int .i64 2)] wj7 [] (by kernel_rfl) trivial ?_
      have hB_116 : Below w_1.heap.size w_1 wj7 := (bt (bt (bt (bt (bt hb_7 HBi) hb_108) hb_111) hb_113) HBj7)
      refine XL_run 4 [(59, .idx ⟨w.heap.size, 0, none⟩), (60, .load (.iface 24 (.bool true)))] [(1, .slice (some ⟨w.heap.size, 0, none⟩) 8 8), (2, .slice (some ⟨w_1.heap.size, 0, none⟩) 8 8), (3, .int .i64 6), (4, .iface 26 (.string (⟨#[]⟩ : ByteArray))), (5, .int .i64 2), (6, .iface 24 (.bool true)), (26, .slice (some ⟨w.heap.size, 0, none⟩) 8 8), (27, .int .i64 8), (28, .int .i64 6), (54, .slice (some ⟨w.heap.size, 0, none⟩) 8 8), (55, .int .i64 8), (56, .int .i64 2)] wj7 [(some ⟨w.heap.size, 0, none⟩ : Option Addr) = some ⟨w.heap.size, 0, none⟩, (0 : Int) ≤ 2, (2 : Int) < (8 : Int), LoadsAs Try.prog 32 (⟨w.heap.size, 2, none⟩) (.iface 24 (.bool true)) wj7] (by kernel_rfl) ⟨rfl, (by decide), (by decide), loads1 rfl (Blk.cell (Blk.below hk_3 hB_116) 2 _ rfl), trivial⟩ ?_
      refine XL_nil ?_
      refine X_seq ?_
      refine X_region ?_
      refine XL_run 7 [] [(1, .slice (some ⟨w.heap.size, 0, none⟩) 8 8), (2, .slice (some ⟨w_1.heap.size, 0, none⟩) 8 8), (3, .int .i64 6), (4, .iface 26 (.string (⟨#[]⟩ : ByteArray))), (26, .slice (some ⟨w.heap.size, 0, none⟩) 8 8), (27, .int .i64 8), (28, .int .i64 6), (54, .slice (some ⟨w.heap.size, 0, none⟩) 8 8), (55, .int .i64 8), (56, .int .i64 2), (67, .bool false)] wj7 [] (by kernel_rfl) trivial ?_
      refine XL_nil ?_
      refine X_cond false rfl ?_
      refine X_skip ?_
      refine X_region ?_
      refine XL_run 2 [] [(1, .slice (some ⟨w.heap.size, 0, none⟩) 8 8), (2, .slice (some ⟨w_1.heap.size, 0, none⟩) 8 8), (3, .int .i64 6), (4, .iface 26 (.string (⟨#[]⟩ : ByteArray))), (26, .slice (some ⟨w.heap.size, 0, none⟩) 8 8), (27, .int .i64 8), (28, .int .i64 6), (54, .slice (some ⟨w.heap.size, 0, none⟩) 8 8), (55, .int .i64 8), (56, .int .i64 3)] wj7 [] (by kernel_rfl) trivial ?_
      refine XL_nil ?_
      refine ⟨3, by kernel_rfl, ?_, ?_⟩
      · exact ⟨by omega, HBj7⟩
      · decide
    · refine X_seq ?_
      refine X_region ?_
      refine XL_run 1 [] [(1, .slice (some ⟨w.heap.size, 0, none⟩) 8 8), (2, .slice (some ⟨w_1.heap.size, 0, none⟩) 8 8), (3, .int .i64 6), (4, .iface 26 (.string (⟨#[]⟩ : ByteArray))), (26, .slice (some ⟨w.heap.size, 0, none⟩) 8 8), (27, .int .i64 8), (28, .int .i64 6), (54, .slice (some ⟨w.heap.size, 0, none⟩) 8 8), (55, .int .i64 8), (56, .int .i64 3), (57, .bool true)] wj7 [] (by kernel_rfl) trivial ?_
      refine XL_nil ?_
      refine X_seq ?_
      refine X_cond true rfl ?_
      refine X_skip ?_
      refine X_seq ?_
      refine X_block ?_
      refine X_seq ?_
      refine X_region ?_
      refine XL_run 1 [] [(1, .slice (some ⟨w.heap.size, 0, none⟩) 8 8), (2, .slice (some ⟨w_1.heap.size, 0, none⟩) 8 8), (3, .int .i64 6), (4, .iface 26 (.string (⟨#[]⟩ : ByteArray))), (26, .slice (some ⟨w.heap.size, 0, none⟩) 8 8), (27, .int .i64 8), (28, .int .i64 6), (54, .slice (some ⟨w.heap.size, 0, none⟩) 8 8), (55, .int .i64 8), (56, .int .i64 3), (58, .int .i64 3)] wj7 [] (by kernel_rfl) trivial ?_
      have hB_117 : Below w_1.heap.size w_1 wj7 := (bt (bt (bt (bt (bt hb_7 HBi) hb_108) hb_111) hb_113) HBj7)
      refine XL_run 4 [(59, .idx ⟨w.heap.size, 0, none⟩), (60, .load (.iface 25 (.int .i64 0)))] [(1, .slice (some ⟨w.heap.size, 0, none⟩) 8 8), (2, .slice (some ⟨w_1.heap.size, 0, none⟩) 8 8), (3, .int .i64 6), (4, .iface 26 (.string (⟨#[]⟩ : ByteArray))), (5, .int .i64 3), (6, .iface 25 (.int .i64 0)), (26, .slice (some ⟨w.heap.size, 0, none⟩) 8 8), (27, .int .i64 8), (28, .int .i64 6), (54, .slice (some ⟨w.heap.size, 0, none⟩) 8 8), (55, .int .i64 8), (56, .int .i64 3)] wj7 [(some ⟨w.heap.size, 0, none⟩ : Option Addr) = some ⟨w.heap.size, 0, none⟩, (0 : Int) ≤ 3, (3 : Int) < (8 : Int), LoadsAs Try.prog 32 (⟨w.heap.size, 3, none⟩) (.iface 25 (.int .i64 0)) wj7] (by kernel_rfl) ⟨rfl, (by decide), (by decide), loads1 rfl (Blk.cell (Blk.below hk_3 hB_117) 3 _ rfl), trivial⟩ ?_
      refine XL_nil ?_
      refine X_seq ?_
      refine X_region ?_
      refine XL_run 7 [] [(1, .slice (some ⟨w.heap.size, 0, none⟩) 8 8), (2, .slice (some ⟨w_1.heap.size, 0, none⟩) 8 8), (3, .int .i64 6), (4, .iface 26 (.string (⟨#[]⟩ : ByteArray))), (26, .slice (some ⟨w.heap.size, 0, none⟩) 8 8), (27, .int .i64 8), (28, .int .i64 6), (54, .slice (some ⟨w.heap.size, 0, none⟩) 8 8), (55, .int .i64 8), (56, .int .i64 3), (67, .bool false)] wj7 [] (by kernel_rfl) trivial ?_
      refine XL_nil ?_
      refine X_cond false rfl ?_
      refine X_skip ?_
      refine X_region ?_
      refine XL_run 2 [] [(1, .slice (some ⟨w.heap.size, 0, none⟩) 8 8), (2, .slice (some ⟨w_1.heap.size, 0, none⟩) 8 8), (3, .int .i64 6), (4, .iface 26 (.string (⟨#[]⟩ : ByteArray))), (26, .slice (some ⟨w.heap.size, 0, none⟩) 8 8), (27, .int .i64 8), (28, .int .i64 6), (54, .slice (some ⟨w.heap.size, 0, none⟩) 8 8), (55, .int .i64 8), (56, .int .i64 4)] wj7 [] (by kernel_rfl) trivial ?_
      refine XL_nil ?_
      refine ⟨4, by kernel_rfl, ?_, ?_⟩
      · exact ⟨by omega, HBj7⟩
      · decide
    · refine X_seq ?_
      refine X_region ?_
      refine XL_run 1 [] [(1, .slice (some ⟨w.heap.size, 0, none⟩) 8 8), (2, .slice (some ⟨w_1.heap.size, 0, none⟩) 8 8), (3, .int .i64 6), (4, .iface 26 (.string (⟨#[]⟩ : ByteArray))), (26, .slice (some ⟨w.heap.size, 0, none⟩) 8 8), (27, .int .i64 8), (28, .int .i64 6), (54, .slice (some ⟨w.heap.size, 0, none⟩) 8 8), (55, .int .i64 8), (56, .int .i64 4), (57, .bool true)] wj7 [] (by kernel_rfl) trivial ?_
      refine XL_nil ?_
      refine X_seq ?_
      refine X_cond true rfl ?_
      refine X_skip ?_
      refine X_seq ?_
      refine X_block ?_
      refine X_seq ?_
      refine X_region ?_
      refine XL_run 1 [] [(1, .slice (some ⟨w.heap.size, 0, none⟩) 8 8), (2, .slice (some ⟨w_1.heap.size, 0, none⟩) 8 8), (3, .int .i64 6), (4, .iface 26 (.string (⟨#[]⟩ : ByteArray))), (26, .slice (some ⟨w.heap.size, 0, none⟩) 8 8), (27, .int .i64 8), (28, .int .i64 6), (54, .slice (some ⟨w.heap.size, 0, none⟩) 8 8), (55, .int .i64 8), (56, .int .i64 4), (58, .int .i64 4)] wj7 [] (by kernel_rfl) trivial ?_
      have hB_118 : Below w_1.heap.size w_1 wj7 := (bt (bt (bt (bt (bt hb_7 HBi) hb_108) hb_111) hb_113) HBj7)
      refine XL_run 4 [(59, .idx ⟨w.heap.size, 0, none⟩), (60, .load (.iface 25 (.int .i64 1)))] [(1, .slice (some ⟨w.heap.size, 0, none⟩) 8 8), (2, .slice (some ⟨w_1.heap.size, 0, none⟩) 8 8), (3, .int .i64 6), (4, .iface 26 (.string (⟨#[]⟩ : ByteArray))), (5, .int .i64 4), (6, .iface 25 (.int .i64 1)), (26, .slice (some ⟨w.heap.size, 0, none⟩) 8 8), (27, .int .i64 8), (28, .int .i64 6), (54, .slice (some ⟨w.heap.size, 0, none⟩) 8 8), (55, .int .i64 8), (56, .int .i64 4)] wj7 [(some ⟨w.heap.size, 0, none⟩ : Option Addr) = some ⟨w.heap.size, 0, none⟩, (0 : Int) ≤ 4, (4 : Int) < (8 : Int), LoadsAs Try.prog 32 (⟨w.heap.size, 4, none⟩) (.iface 25 (.int .i64 1)) wj7] (by kernel_rfl) ⟨rfl, (by decide), (by decide), loads1 rfl (Blk.cell (Blk.below hk_3 hB_118) 4 _ rfl), trivial⟩ ?_
      refine XL_nil ?_
      refine X_seq ?_
      refine X_region ?_
      refine XL_run 7 [] [(1, .slice (some ⟨w.heap.size, 0, none⟩) 8 8), (2, .slice (some ⟨w_1.heap.size, 0, none⟩) 8 8), (3, .int .i64 6), (4, .iface 26 (.string (⟨#[]⟩ : ByteArray))), (26, .slice (some ⟨w.heap.size, 0, none⟩) 8 8), (27, .int .i64 8), (28, .int .i64 6), (54, .slice (some ⟨w.heap.size, 0, none⟩) 8 8), (55, .int .i64 8), (56, .int .i64 4), (67, .bool false)] wj7 [] (by kernel_rfl) trivial ?_
      refine XL_nil ?_
      refine X_cond false rfl ?_
      refine X_skip ?_
      refine X_region ?_
      refine XL_run 2 [] [(1, .slice (some ⟨w.heap.size, 0, none⟩) 8 8), (2, .slice (some ⟨w_1.heap.size, 0, none⟩) 8 8), (3, .int .i64 6), (4, .iface 26 (.string (⟨#[]⟩ : ByteArray))), (26, .slice (some ⟨w.heap.size, 0, none⟩) 8 8), (27, .int .i64 8), (28, .int .i64 6), (54, .slice (some ⟨w.heap.size, 0, none⟩) 8 8), (55, .int .i64 8), (56, .int .i64 5)] wj7 [] (by kernel_rfl) trivial ?_
      refine XL_nil ?_
      refine ⟨5, by kernel_rfl, ?_, ?_⟩
      · exact ⟨by omega, HBj7⟩
      · decide
    · refine X_seq ?_
      refine X_region ?_
      refine XL_run 1 [] [(1, .slice (some ⟨w.heap.size, 0, none⟩) 8 8), (2, .slice (some ⟨w_1.heap.size, 0, none⟩) 8 8), (3, .int .i64 6), (4, .iface 26 (.string (⟨#[]⟩ : ByteArray))), (26, .slice (some ⟨w.heap.size, 0, none⟩) 8 8), (27, .int .i64 8), (28, .int .i64 6), (54, .slice (some ⟨w.heap.size, 0, none⟩) 8 8), (55, .int .i64 8), (56, .int .i64 5), (57, .bool true)] wj7 [] (by kernel_rfl) trivial ?_
      refine XL_nil ?_
      refine X_seq ?_
      refine X_cond true rfl ?_
      refine X_skip ?_
      refine X_seq ?_
      refine X_block ?_
      refine X_seq ?_
      refine X_region ?_
      refine XL_run 1 [] [(1, .slice (some ⟨w.heap.size, 0, none⟩) 8 8), (2, .slice (some ⟨w_1.heap.size, 0, none⟩) 8 8), (3, .int .i64 6), (4, .iface 26 (.string (⟨#[]⟩ : ByteArray))), (26, .slice (some ⟨w.heap.size, 0, none⟩) 8 8), (27, .int .i64 8), (28, .int .i64 6), (54, .slice (some ⟨w.heap.size, 0, none⟩) 8 8), (55, .int .i64 8), (56, .int .i64 5), (58, .int .i64 5)] wj7 [] (by kernel_rfl) trivial ?_
      have hB_119 : Below w_1.heap.size w_1 wj7 := (bt (bt (bt (bt (bt hb_7 HBi) hb_108) hb_111) hb_113) HBj7)
      refine XL_run 4 [(59, .idx ⟨w.heap.size, 0, none⟩), (60, .load (.iface 25 (.int .i64 (-5))))] [(1, .slice (some ⟨w.heap.size, 0, none⟩) 8 8), (2, .slice (some ⟨w_1.heap.size, 0, none⟩) 8 8), (3, .int .i64 6), (4, .iface 26 (.string (⟨#[]⟩ : ByteArray))), (5, .int .i64 5), (6, .iface 25 (.int .i64 (-5))), (26, .slice (some ⟨w.heap.size, 0, none⟩) 8 8), (27, .int .i64 8), (28, .int .i64 6), (54, .slice (some ⟨w.heap.size, 0, none⟩) 8 8), (55, .int .i64 8), (56, .int .i64 5)] wj7 [(some ⟨w.heap.size, 0, none⟩ : Option Addr) = some ⟨w.heap.size, 0, none⟩, (0 : Int) ≤ 5, (5 : Int) < (8 : Int), LoadsAs Try.prog 32 (⟨w.heap.size, 5, none⟩) (.iface 25 (.int .i64 (-5))) wj7] (by kernel_rfl) ⟨rfl, (by decide), (by decide), loads1 rfl (Blk.cell (Blk.below hk_3 hB_119) 5 _ rfl), trivial⟩ ?_
      refine XL_nil ?_
      refine X_seq ?_
      refine X_region ?_
      refine XL_run 7 [] [(1, .slice (some ⟨w.heap.size, 0, none⟩) 8 8), (2, .slice (some ⟨w_1.heap.size, 0, none⟩) 8 8), (3, .int .i64 6), (4, .iface 26 (.string (⟨#[]⟩ : ByteArray))), (26, .slice (some ⟨w.heap.size, 0, none⟩) 8 8), (27, .int .i64 8), (28, .int .i64 6), (54, .slice (some ⟨w.heap.size, 0, none⟩) 8 8), (55, .int .i64 8), (56, .int .i64 5), (67, .bool false)] wj7 [] (by kernel_rfl) trivial ?_
      refine XL_nil ?_
      refine X_cond false rfl ?_
      refine X_skip ?_
      refine X_region ?_
      refine XL_run 2 [] [(1, .slice (some ⟨w.heap.size, 0, none⟩) 8 8), (2, .slice (some ⟨w_1.heap.size, 0, none⟩) 8 8), (3, .int .i64 6), (4, .iface 26 (.string (⟨#[]⟩ : ByteArray))), (26, .slice (some ⟨w.heap.size, 0, none⟩) 8 8), (27, .int .i64 8), (28, .int .i64 6), (54, .slice (some ⟨w.heap.size, 0, none⟩) 8 8), (55, .int .i64 8), (56, .int .i64 6)] wj7 [] (by kernel_rfl) trivial ?_
      refine XL_nil ?_
      refine ⟨6, by kernel_rfl, ?_, ?_⟩
      · exact ⟨by omega, HBj7⟩
      · decide
    · refine X_seq ?_
      refine X_region ?_
      refine XL_run 1 [] [(1, .slice (some ⟨w.heap.size, 0, none⟩) 8 8), (2, .slice (some ⟨w_1.heap.size, 0, none⟩) 8 8), (3, .int .i64 6), (4, .iface 26 (.string (⟨#[]⟩ : ByteArray))), (26, .slice (some ⟨w.heap.size, 0, none⟩) 8 8), (27, .int .i64 8), (28, .int .i64 6), (54, .slice (some ⟨w.heap.size, 0, none⟩) 8 8), (55, .int .i64 8), (56, .int .i64 6), (57, .bool true)] wj7 [] (by kernel_rfl) trivial ?_
      refine XL_nil ?_
      refine X_seq ?_
      refine X_cond true rfl ?_
      refine X_skip ?_
      refine X_seq ?_
      refine X_block ?_
      refine X_seq ?_
      refine X_region ?_
      refine XL_run 1 [] [(1, .slice (some ⟨w.heap.size, 0, none⟩) 8 8), (2, .slice (some ⟨w_1.heap.size, 0, none⟩) 8 8), (3, .int .i64 6), (4, .iface 26 (.string (⟨#[]⟩ : ByteArray))), (26, .slice (some ⟨w.heap.size, 0, none⟩) 8 8), (27, .int .i64 8), (28, .int .i64 6), (54, .slice (some ⟨w.heap.size, 0, none⟩) 8 8), (55, .int .i64 8), (56, .int .i64 6), (58, .int .i64 6)] wj7 [] (by kernel_rfl) trivial ?_
      have hB_120 : Below w_1.heap.size w_1 wj7 := (bt (bt (bt (bt (bt hb_7 HBi) hb_108) hb_111) hb_113) HBj7)
      refine XL_run 4 [(59, .idx ⟨w.heap.size, 0, none⟩), (60, .load (.iface 26 (.string (⟨#[]⟩ : ByteArray))))] [(1, .slice (some ⟨w.heap.size, 0, none⟩) 8 8), (2, .slice (some ⟨w_1.heap.size, 0, none⟩) 8 8), (3, .int .i64 6), (4, .iface 26 (.string (⟨#[]⟩ : ByteArray))), (5, .int .i64 6), (6, .iface 26 (.string (⟨#[]⟩ : ByteArray))), (26, .slice (some ⟨w.heap.size, 0, none⟩) 8 8), (27, .int .i64 8), (28, .int .i64 6), (54, .slice (some ⟨w.heap.size, 0, none⟩) 8 8), (55, .int .i64 8), (56, .int .i64 6)] wj7 [(some ⟨w.heap.size, 0, none⟩ : Option Addr) = some ⟨w.heap.size, 0, none⟩, (0 : Int) ≤ 6, (6 : Int) < (8 : Int), LoadsAs Try.prog 32 (⟨w.heap.size, 6, none⟩) (.iface 26 (.string (⟨#[]⟩ : ByteArray))) wj7] (by kernel_rfl) ⟨rfl, (by decide), (by decide), loads1 rfl (Blk.cell (Blk.below hk_3 hB_120) 6 _ rfl), trivial⟩ ?_
      refine XL_nil ?_
      refine X_seq ?_
      refine X_region ?_
      refine XL_run 7 [] [(1, .slice (some ⟨w.heap.size, 0, none⟩) 8 8), (2, .slice (some ⟨w_1.heap.size, 0, none⟩) 8 8), (3, .int .i64 6), (4, .iface 26 (.string (⟨#[]⟩ : ByteArray))), (26, .slice (some ⟨w.heap.size, 0, none⟩) 8 8), (27, .int .i64 8), (28, .int .i64 6), (54, .slice (some ⟨w.heap.size, 0, none⟩) 8 8), (55, .int .i64 8), (56, .int .i64 6), (67, .bool false)] wj7 [] (by kernel_rfl) trivial ?_
      refine XL_nil ?_
      refine X_cond false rfl ?_
      refine X_skip ?_
      refine X_region ?_
      refine XL_run 2 [] [(1, .slice (some ⟨w.heap.size, 0, none⟩) 8 8), (2, .slice (some ⟨w_1.heap.size, 0, none⟩) 8 8), (3, .int .i64 6), (4, .iface 26 (.string (⟨#[]⟩ : ByteArray))), (26, .slice (some ⟨w.heap.size, 0, none⟩) 8 8), (27, .int .i64 8), (28, .int .i64 6), (54, .slice (some ⟨w.heap.size, 0, none⟩) 8 8), (55, .int .i64 8), (56, .int .i64 7)] wj7 [] (by kernel_rfl) trivial ?_
      refine XL_nil ?_
      refine ⟨7, by kernel_rfl, ?_, ?_⟩
      · exact ⟨by omega, HBj7⟩
      · decide
    · refine X_seq ?_
      refine X_region ?_
      refine XL_run 1 [] [(1, .slice (some ⟨w.heap.size, 0, none⟩) 8 8), (2, .slice (some ⟨w_1.heap.size, 0, none⟩) 8 8), (3, .int .i64 6), (4, .iface 26 (.string (⟨#[]⟩ : ByteArray))), (26, .slice (some ⟨w.heap.size, 0, none⟩) 8 8), (27, .int .i64 8), (28, .int .i64 6), (54, .slice (some ⟨w.heap.size, 0, none⟩) 8 8), (55, .int .i64 8), (56, .int .i64 7), (57, .bool true)] wj7 [] (by kernel_rfl) trivial ?_
      refine XL_nil ?_
      refine X_seq ?_
      refine X_cond true rfl ?_
      refine X_skip ?_
      refine X_seq ?_
      refine X_block ?_
      refine X_seq ?_
      refine X_region ?_
      refine XL_run 1 [] [(1, .slice (some ⟨w.heap.size, 0, none⟩) 8 8), (2, .slice (some ⟨w_1.heap.size, 0, none⟩) 8 8), (3, .int .i64 6), (4, .iface 26 (.string (⟨#[]⟩ : ByteArray))), (26, .slice (some ⟨w.heap.size, 0, none⟩) 8 8), (27, .int .i64 8), (28, .int .i64 6), (54, .slice (some ⟨w.heap.size, 0, none⟩) 8 8), (55, .int .i64 8), (56, .int .i64 7), (58, .int .i64 7)] wj7 [] (by kernel_rfl) trivial ?_
      have hB_121 : Below w_1.heap.size w_1 wj7 := (bt (bt (bt (bt (bt hb_7 HBi) hb_108) hb_111) hb_113) HBj7)
      refine XL_run 4 [(59, .idx ⟨w.heap.size, 0, none⟩), (60, .load (.iface 26 (.string (⟨#[97]⟩ : ByteArray))))] [(1, .slice (some ⟨w.heap.size, 0, none⟩) 8 8), (2, .slice (some ⟨w_1.heap.size, 0, none⟩) 8 8), (3, .int .i64 6), (4, .iface 26 (.string (⟨#[]⟩ : ByteArray))), (5, .int .i64 7), (6, .iface 26 (.string (⟨#[97]⟩ : ByteArray))), (26, .slice (some ⟨w.heap.size, 0, none⟩) 8 8), (27, .int .i64 8), (28, .int .i64 6), (54, .slice (some ⟨w.heap.size, 0, none⟩) 8 8), (55, .int .i64 8), (56, .int .i64 7)] wj7 [(some ⟨w.heap.size, 0, none⟩ : Option Addr) = some ⟨w.heap.size, 0, none⟩, (0 : Int) ≤ 7, (7 : Int) < (8 : Int), LoadsAs Try.prog 32 (⟨w.heap.size, 7, none⟩) (.iface 26 (.string (⟨#[97]⟩ : ByteArray))) wj7] (by kernel_rfl) ⟨rfl, (by decide), (by decide), loads1 rfl (Blk.cell (Blk.below hk_3 hB_121) 7 _ rfl), trivial⟩ ?_
      refine XL_nil ?_
      refine X_seq ?_
      refine X_region ?_
      refine XL_run 7 [] [(1, .slice (some ⟨w.heap.size, 0, none⟩) 8 8), (2, .slice (some ⟨w_1.heap.size, 0, none⟩) 8 8), (3, .int .i64 6), (4, .iface 26 (.string (⟨#[]⟩ : ByteArray))), (26, .slice (some ⟨w.heap.size, 0, none⟩) 8 8), (27, .int .i64 8), (28, .int .i64 6), (54, .slice (some ⟨w.heap.size, 0, none⟩) 8 8), (55, .int .i64 8), (56, .int .i64 7), (67, .bool false)] wj7 [] (by kernel_rfl) trivial ?_
      refine XL_nil ?_
      refine X_cond false rfl ?_
      refine X_skip ?_
      refine X_region ?_
      refine XL_run 2 [] [(1, .slice (some ⟨w.heap.size, 0, none⟩) 8 8), (2, .slice (some ⟨w_1.heap.size, 0, none⟩) 8 8), (3, .int .i64 6), (4, .iface 26 (.string (⟨#[]⟩ : ByteArray))), (26, .slice (some ⟨w.heap.size, 0, none⟩) 8 8), (27, .int .i64 8), (28, .int .i64 6), (54, .slice (some ⟨w.heap.size, 0, none⟩) 8 8), (55, .int .i64 8), (56, .int .i64 8)] wj7 [] (by kernel_rfl) trivial ?_
      refine XL_nil ?_
      refine ⟨8, by kernel_rfl, ?_, ?_⟩
      · exact ⟨by omega, HBj7⟩
      · decide
    · refine X_seq ?_
      refine X_region ?_
      refine XL_run 1 [] [(1, .slice (some ⟨w.heap.size, 0, none⟩) 8 8), (2, .slice (some ⟨w_1.heap.size, 0, none⟩) 8 8), (3, .int .i64 6), (4, .iface 26 (.string (⟨#[]⟩ : ByteArray))), (26, .slice (some ⟨w.heap.size, 0, none⟩) 8 8), (27, .int .i64 8), (28, .int .i64 6), (54, .slice (some ⟨w.heap.size, 0, none⟩) 8 8), (55, .int .i64 8), (56, .int .i64 8), (57, .bool false)] wj7 [] (by kernel_rfl) trivial ?_
      refine XL_nil ?_
      refine X_seq ?_
      refine X_cond false rfl ?_
      refine X_exit ?_
      refine X_region ?_
      refine XL_run 2 [] [(1, .slice (some ⟨w.heap.size, 0, none⟩) 8 8), (2, .slice (some ⟨w_1.heap.size, 0, none⟩) 8 8), (26, .slice (some ⟨w.heap.size, 0, none⟩) 8 8), (27, .int .i64 8), (28, .int .i64 7)] wj7 [] (by kernel_rfl) trivial ?_
      refine XL_nil ?_
      have hB_122 : Below w_6.heap.size w_6 wj7 := (bt (bt (bt (bt HBi hb_108) hb_111) hb_113) HBj7)
      refine ⟨7, by kernel_rfl, ?_, ?_⟩
      · exact ⟨by omega, hB_122⟩
      · decide
  · refine X_seq ?_
    refine X_region ?_
    refine XL_run 1 [] [(1, .slice (some ⟨w.heap.size, 0, none⟩) 8 8), (2, .slice (some ⟨w_1.heap.size, 0, none⟩) 8 8), (26, .slice (some ⟨w.heap.size, 0, none⟩) 8 8), (27, .int .i64 8), (28, .int .i64 7), (29, .bool true)] wi [] (by kernel_rfl) trivial ?_
    refine XL_nil ?_
    refine X_seq ?_
    refine X_cond true rfl ?_
    refine X_skip ?_
    refine X_seq ?_
    refine X_block ?_
    refine X_seq ?_
    refine X_region ?_
    refine XL_run 1 [] [(1, .slice (some ⟨w.heap.size, 0, none⟩) 8 8), (2, .slice (some ⟨w_1.heap.size, 0, none⟩) 8 8), (26, .slice (some ⟨w.heap.size, 0, none⟩) 8 8), (27, .int .i64 8), (28, .int .i64 7), (30, .int .i64 7)] wi [] (by kernel_rfl) trivial ?_
    refine XL_run 4 [(31, .idx ⟨w.heap.size, 0, none⟩), (32, .load (.iface 26 (.string (⟨#[97]⟩ : ByteArray))))] [(1, .slice (some ⟨w.heap.size, 0, none⟩) 8 8), (2, .slice (some ⟨w_1.heap.size, 0, none⟩) 8 8), (3, .int .i64 7), (4, .iface 26 (.string (⟨#[97]⟩ : ByteArray))), (26, .slice (some ⟨w.heap.size, 0, none⟩) 8 8), (27, .int .i64 8), (28, .int .i64 7)] wi [(some ⟨w.heap.size, 0, none⟩ : Option Addr) = some ⟨w.heap.size, 0, none⟩, (0 : Int) ≤ 7, (7 : Int) < (8 : Int), LoadsAs Try.prog 32 (⟨w.heap.size, 7, none⟩) (.iface 26 (.string (⟨#[97]⟩ : ByteArray))) wi] (by kernel_rfl) ⟨rfl, (by decide), (by decide), loads1 rfl (Blk.cell (Blk.below hk_3 (bt hb_7 HBi)) 7 _ rfl), trivial⟩ ?_
    refine XL_nil ?_
    refine X_seq ?_
    refine X_seq ?_
    refine X_grow [] 21 #[false, false, false, false, false, false, false, false, false, false, false, false, false, false, false, false, false, false, false, false, false] (by kernel_rfl) (by kernel_rfl) (by kernel_rfl) (fun wd_123 hb_124 hh_125 => ?_)
    refine XB_run (fuel' := 15) (Below.refl _ _) [0, 1, 2, 3, 5, 6] [] [.iface 26 (.string (⟨#[97]⟩ : ByteArray)), .bool false, .bool false, .iface 26 (.string (⟨#[97]⟩ : ByteArray)), .slice (some ⟨w_1.heap.size, 0, none⟩) 8 8, .int .i64 7] #[true, true, true, true, false, true, true, false, false, false, false, false, false, false, false, false, false, false, false, false, false] [(1, .slice (some ⟨w.heap.size, 0, none⟩) 8 8), (2, .slice (some ⟨w_1.heap.size, 0, none⟩) 8 8), (3, .int .i64 7), (4, .iface 26 (.string (⟨#[97]⟩ : ByteArray))), (26, .slice (some ⟨w.heap.size, 0, none⟩) 8 8), (27, .int .i64 8), (28, .int .i64 7), (35, .bool false), (36, .iface 26 (.string (⟨#[97]⟩ : ByteArray))), (38, .slice (some ⟨w_1.heap.size, 0, none⟩) 8 8), (39, .int .i64 7)] (fun w_ => []) (fun _ _ _ _ h => h) (fun w_ => by kernel_rfl) rfl (fun w_ hC_ => trivial) ?_
    refine XB_run (fuel' := 12) (Below.refl _ _) [7, 8, 9] [(40, .idx ⟨w_1.heap.size, 0, none⟩), (42, .load (.int .i64 3))] [.pointer (some ⟨w_1.heap.size, 21, none⟩), .pointer (some ⟨w_1.heap.size, 21, none⟩), .int .i64 3] #[true, true, true, true, false, true, true, true, true, true, false, false, false, false, false, false, false, false, false, false, false] [(1, .slice (some ⟨w.heap.size, 0, none⟩) 8 8), (2, .slice (some ⟨w_1.heap.size, 0, none⟩) 8 8), (3, .int .i64 7), (4, .iface 26 (.string (⟨#[97]⟩ : ByteArray))), (26, .slice (some ⟨w.heap.size, 0, none⟩) 8 8), (27, .int .i64 8), (28, .int .i64 7), (35, .bool false), (36, .iface 26 (.string (⟨#[97]⟩ : ByteArray))), (42, .int .i64 3)] (fun w_ => [(some ⟨w_1.heap.size, 0, none⟩ : Option Addr) = some ⟨w_1.heap.size, 0, none⟩, (0 : Int) ≤ 7, (7 : Int) < (8 : Int), LoadsAs Try.prog 3 (⟨w_1.heap.size, 21, none⟩) (.int .i64 3) w_]) (fun _ _ _ _ h => h) (fun w_ => by kernel_rfl) rfl (fun w_ hC_ => ⟨rfl, (by decide), (by decide), loads1 rfl (Blk.cell (Blk.below hk_8 (bt (bt HBi hb_124) hC_)) 21 _ rfl), trivial⟩) ?_
    refine XB_mid (fuel' := 11) 4 #[true, true, true, true, true, true, true, true, true, true, false, false, false, false, false, false, false, false, false, false, false] _ rfl (by kernel_rfl) (by kernel_rfl) rfl ?_
    refine XL_inv 26 #[.string (⟨#[97]⟩ : ByteArray)] rfl rfl (by kernel_rfl) (by kernel_rfl) (text_kind (⟨#[97]⟩ : ByteArray) _) ?_
    rintro e w_126 ⟨rfl, hb_127⟩; refine ⟨_, rfl, ?_⟩
    refine XL_nil ?_
    refine ⟨hb_127, ?_⟩
    refine XB_run (fuel' := 5) hb_127 [10, 11, 12, 13, 15, 16] [] [.bool false, .bool false, .bool false, .iface 26 (.string (⟨#[97]⟩ : ByteArray)), .slice (some ⟨w_1.heap.size, 0, none⟩) 8 8, .int .i64 7] #[true, true, true, true, true, true, true, true, true, true, true, true, true, true, false, true, true, false, false, false, false] [(1, .slice (some ⟨w.heap.size, 0, none⟩) 8 8), (2, .slice (some ⟨w_1.heap.size, 0, none⟩) 8 8), (3, .int .i64 7), (4, .iface 26 (.string (⟨#[97]⟩ : ByteArray))), (26, .slice (some ⟨w.heap.size, 0, none⟩) 8 8), (27, .int .i64 8), (28, .int .i64 7), (45, .bool false), (46, .iface 26 (.string (⟨#[97]⟩ : ByteArray))), (48, .slice (some ⟨w_1.heap.size, 0, none⟩) 8 8), (49, .int .i64 7)] (fun w_ => []) (fun _ _ _ _ h => h) (fun w_ => by kernel_rfl) rfl (fun w_ hC_ => trivial) ?_
    refine XB_run (fuel' := 3) hb_127 [17, 18] [(50, .idx ⟨w_1.heap.size, 0, none⟩), (51, .load (.agg #[.int .i64 3, .int .i64 0, .string (⟨#[97]⟩ : ByteArray)]))] [.pointer (some ⟨w_1.heap.size, 21, none⟩), .agg #[.int .i64 3, .int .i64 0, .string (⟨#[97]⟩ : ByteArray)]] #[true, true, true, true, true, true, true, true, true, true, true, true, true, true, false, true, true, true, true, false, false] [(1, .slice (some ⟨w.heap.size, 0, none⟩) 8 8), (2, .slice (some ⟨w_1.heap.size, 0, none⟩) 8 8), (3, .int .i64 7), (4, .iface 26 (.string (⟨#[97]⟩ : ByteArray))), (26, .slice (some ⟨w.heap.size, 0, none⟩) 8 8), (27, .int .i64 8), (28, .int .i64 7), (45, .bool false), (46, .iface 26 (.string (⟨#[97]⟩ : ByteArray))), (51, .agg #[.int .i64 3, .int .i64 0, .string (⟨#[97]⟩ : ByteArray)])] (fun w_ => [(some ⟨w_1.heap.size, 0, none⟩ : Option Addr) = some ⟨w_1.heap.size, 0, none⟩, (0 : Int) ≤ 7, (7 : Int) < (8 : Int), LoadsAs Try.prog 29 (⟨w_1.heap.size, 21, none⟩) (.agg #[.int .i64 3, .int .i64 0, .string (⟨#[97]⟩ : ByteArray)]) w_]) (fun _ _ _ _ h => h) (fun w_ => by kernel_rfl) rfl (fun w_ hC_ => ⟨rfl, (by decide), (by decide), loadsB rfl rfl (Blk.below hk_8 (bt (bt HBi hb_124) hC_)) 21 ⟨by kernel_rfl, by kernel_rfl⟩, trivial⟩) ?_
    refine XB_mid (fuel' := 2) 14 #[true, true, true, true, true, true, true, true, true, true, true, true, true, true, true, true, true, true, true, false, false] _ rfl (by kernel_rfl) (by kernel_rfl) rfl ?_
    refine XL_inv 27 #[.string (⟨#[97]⟩ : ByteArray)] rfl rfl (by kernel_rfl) (by kernel_rfl) (text_plain (⟨#[97]⟩ : ByteArray) _) ?_
    rintro e w_128 ⟨rfl, hb_129⟩; refine ⟨_, rfl, ?_⟩
    refine XL_nil ?_
    refine ⟨(bt hb_127 hb_129), ?_⟩
    refine XB_run (fuel' := 0) (bt hb_127 hb_129) [19, 20] [] [.bool false, .bool false] #[true, true, true, true, true, true, true, true, true, true, true, true, true, true, true, true, true, true, true, true, true] [(1, .slice (some ⟨w.heap.size, 0, none⟩) 8 8), (2, .slice (some ⟨w_1.heap.size, 0, none⟩) 8 8), (3, .int .i64 7), (4, .iface 26 (.string (⟨#[97]⟩ : ByteArray))), (26, .slice (some ⟨w.heap.size, 0, none⟩) 8 8), (27, .int .i64 8), (28, .int .i64 7), (53, .bool false)] (fun w_ => []) (fun _ _ _ _ h => h) (fun w_ => by kernel_rfl) rfl (fun w_ hC_ => trivial) ?_
    refine XB_done (by kernel_rfl) ?_
    refine X_cond false rfl ?_
    refine X_skip ?_
    refine X_seq ?_
    refine X_region ?_
    refine XL_run 3 [] [(1, .slice (some ⟨w.heap.size, 0, none⟩) 8 8), (2, .slice (some ⟨w_1.heap.size, 0, none⟩) 8 8), (3, .int .i64 7), (4, .iface 26 (.string (⟨#[97]⟩ : ByteArray))), (26, .slice (some ⟨w.heap.size, 0, none⟩) 8 8), (27, .int .i64 8), (28, .int .i64 7), (54, .slice (some ⟨w.heap.size, 0, none⟩) 8 8), (55, .int .i64 8), (56, .int .i64 0)] w_128 [] (by kernel_rfl) trivial ?_
    refine XL_nil ?_
    refine X_block ?_
    refine X_loop (ι := Nat) (fun j8 => [(1, .slice (some ⟨w.heap.size, 0, none⟩) 8 8), (2, .slice (some ⟨w_1.heap.size, 0, none⟩) 8 8), (3, .int .i64 7), (4, .iface 26 (.string (⟨#[97]⟩ : ByteArray))), (26, .slice (some ⟨w.heap.size, 0, none⟩) 8 8), (27, .int .i64 8), (28, .int .i64 7), (54, .slice (some ⟨w.heap.size, 0, none⟩) 8 8), (55, .int .i64 8), (56, .int .i64 (j8 : Int))]) (fun j8 wj8 => j8 ≤ 8 ∧ Below w_128.heap.size w_128 wj8) (fun j8 => 8 - j8) 0 ⟨by omega, Below.refl _ _⟩ (by kernel_rfl) ?_
    rintro j8 wj8 ⟨hj8, HBj8⟩
    obtain rfl | rfl | rfl | rfl | rfl | rfl | rfl | rfl | rfl : j8 = 0 ∨ j8 = 1 ∨ j8 = 2 ∨ j8 = 3 ∨ j8 = 4 ∨ j8 = 5 ∨ j8 = 6 ∨ j8 = 7 ∨ j8 = 8 := by omega
    · refine X_seq ?_
      refine X_region ?_
      refine XL_run 1 [] [(1, .slice (some ⟨w.heap.size, 0, none⟩) 8 8), (2, .slice (some ⟨w_1.heap.size, 0, none⟩) 8 8), (3, .int .i64 7), (4, .iface 26 (.string (⟨#[97]⟩ : ByteArray))), (26, .slice (some ⟨w.heap.size, 0, none⟩) 8 8), (27, .int .i64 8), (28, .int .i64 7), (54, .slice (some ⟨w.heap.size, 0, none⟩) 8 8), (55, .int .i64 8), (56, .int .i64 0), (57, .bool true)] wj8 [] (by kernel_rfl) trivial ?_
      refine XL_nil ?_
      refine X_seq ?_
      refine X_cond true rfl ?_
      refine X_skip ?_
      refine X_seq ?_
      refine X_block ?_
      refine X_seq ?_
      refine X_region ?_
      refine XL_run 1 [] [(1, .slice (some ⟨w.heap.size, 0, none⟩) 8 8), (2, .slice (some ⟨w_1.heap.size, 0, none⟩) 8 8), (3, .int .i64 7), (4, .iface 26 (.string (⟨#[97]⟩ : ByteArray))), (26, .slice (some ⟨w.heap.size, 0, none⟩) 8 8), (27, .int .i64 8), (28, .int .i64 7), (54, .slice (some ⟨w.heap.size, 0, none⟩) 8 8), (55, .int .i64 8), (56, .int .i64 0), (58, .int .i64 0)] wj8 [] (by kernel_rfl) trivial ?_
      have hB_130 : Below w_1.heap.size w_1 wj8 := (bt (bt (bt (bt (bt hb_7 HBi) hb_124) hb_127) hb_129) HBj8)
      refine XL_run 4 [(59, .idx ⟨w.heap.size, 0, none⟩), (60, .load (.iface 23 (.agg #[])))] [(1, .slice (some ⟨w.heap.size, 0, none⟩) 8 8), (2, .slice (some ⟨w_1.heap.size, 0, none⟩) 8 8), (3, .int .i64 7), (4, .iface 26 (.string (⟨#[97]⟩ : ByteArray))), (5, .int .i64 0), (6, .iface 23 (.agg #[])), (26, .slice (some ⟨w.heap.size, 0, none⟩) 8 8), (27, .int .i64 8), (28, .int .i64 7), (54, .slice (some ⟨w.heap.size, 0, none⟩) 8 8), (55, .int .i64 8), (56, .int .i64 0)] wj8 [(some ⟨w.heap.size, 0, none⟩ : Option Addr) = some ⟨w.heap.size, 0, none⟩, (0 : Int) ≤ 0, (0 : Int) < (8 : Int), LoadsAs Try.prog 32 (⟨w.heap.size, 0, none⟩) (.iface 23 (.agg #[])) wj8] (by kernel_rfl) ⟨rfl, (by decide), (by decide), loads1 rfl (Blk.cell (Blk.below hk_3 hB_130) 0 _ rfl), trivial⟩ ?_
      refine XL_nil ?_
      refine X_seq ?_
      refine X_region ?_
      refine XL_run 7 [] [(1, .slice (some ⟨w.heap.size, 0, none⟩) 8 8), (2, .slice (some ⟨w_1.heap.size, 0, none⟩) 8 8), (3, .int .i64 7), (4, .iface 26 (.string (⟨#[97]⟩ : ByteArray))), (26, .slice (some ⟨w.heap.size, 0, none⟩) 8 8), (27, .int .i64 8), (28, .int .i64 7), (54, .slice (some ⟨w.heap.size, 0, none⟩) 8 8), (55, .int .i64 8), (56, .int .i64 0), (67, .bool false)] wj8 [] (by kernel_rfl) trivial ?_
      refine XL_nil ?_
      refine X_cond false rfl ?_
      refine X_skip ?_
      refine X_region ?_
      refine XL_run 2 [] [(1, .slice (some ⟨w.heap.size, 0, none⟩) 8 8), (2, .slice (some ⟨w_1.heap.size, 0, none⟩) 8 8), (3, .int .i64 7), (4, .iface 26 (.string (⟨#[97]⟩ : ByteArray))), (26, .slice (some ⟨w.heap.size, 0, none⟩) 8 8), (27, .int .i64 8), (28, .int .i64 7), (54, .slice (some ⟨w.heap.size, 0, none⟩) 8 8), (55, .int .i64 8), (56, .int .i64 1)] wj8 [] (by kernel_rfl) trivial ?_
      refine XL_nil ?_
      refine ⟨1, by kernel_rfl, ?_, ?_⟩
      · exact ⟨by omega, HBj8⟩
      · decide
    · refine X_seq ?_
      refine X_region ?_
      refine XL_run 1 [] [(1, .slice (some ⟨w.heap.size, 0, none⟩) 8 8), (2, .slice (some ⟨w_1.heap.size, 0, none⟩) 8 8), (3, .int .i64 7), (4, .iface 26 (.string (⟨#[97]⟩ : ByteArray))), (26, .slice (some ⟨w.heap.size, 0, none⟩) 8 8), (27, .int .i64 8), (28, .int .i64 7), (54, .slice (some ⟨w.heap.size, 0, none⟩) 8 8), (55, .int .i64 8), (56, .int .i64 1), (57, .bool true)] wj8 [] (by kernel_rfl) trivial ?_
      refine XL_nil ?_
      refine X_seq ?_
      refine X_cond true rfl ?_
      refine X_skip ?_
      refine X_seq ?_
      refine X_block ?_
      refine X_seq ?_
      refine X_region ?_
      refine XL_run 1 [] [(1, .slice (some ⟨w.heap.size, 0, none⟩) 8 8), (2, .slice (some ⟨w_1.heap.size, 0, none⟩) 8 8), (3, .int .i64 7), (4, .iface 26 (.string (⟨#[97]⟩ : ByteArray))), (26, .slice (some ⟨w.heap.size, 0, none⟩) 8 8), (27, .int .i64 8), (28, .int .i64 7), (54, .slice (some ⟨w.heap.size, 0, none⟩) 8 8), (55, .int .i64 8), (56, .int .i64 1), (58, .int .i64 1)] wj8 [] (by kernel_rfl) trivial ?_
      have hB_131 : Below w_1.heap.size w_1 wj8 := (bt (bt (bt (bt (bt hb_7 HBi) hb_124) hb_127) hb_129) HBj8)
      refine XL_run 4 [(59, .idx ⟨w.heap.size, 0, none⟩), (60, .load (.iface 24 (.bool false)))] [(1, .slice (some ⟨w.heap.size, 0, none⟩) 8 8), (2, .slice (some ⟨w_1.heap.size, 0, none⟩) 8 8), (3, .int .i64 7), (4, .iface 26 (.string (⟨#[97]⟩ : ByteArray))), (5, .int .i64 1), (6, .iface 24 (.bool false)), (26, .slice (some ⟨w.heap.size, 0, none⟩) 8 8), (27, .int .i64 8), (28, .int .i64 7), (54, .slice (some ⟨w.heap.size, 0, none⟩) 8 8), (55, .int .i64 8), (56, .int .i64 1)] wj8 [(some ⟨w.heap.size, 0, none⟩ : Option Addr) = some ⟨w.heap.size, 0, none⟩, (0 : Int) ≤ 1, (1 : Int) < (8 : Int), LoadsAs Try.prog 32 (⟨w.heap.size, 1, none⟩) (.iface 24 (.bool false)) wj8] (by kernel_rfl) ⟨rfl, (by decide), (by decide), loads1 rfl (Blk.cell (Blk.below hk_3 hB_131) 1 _ rfl), trivial⟩ ?_
      refine XL_nil ?_
      refine X_seq ?_
      refine X_region ?_
      refine XL_run 7 [] [(1, .slice (some ⟨w.heap.size, 0, none⟩) 8 8), (2, .slice (some ⟨w_1.heap.size, 0, none⟩) 8 8), (3, .int .i64 7), (4, .iface 26 (.string (⟨#[97]⟩ : ByteArray))), (26, .slice (some ⟨w.heap.size, 0, none⟩) 8 8), (27, .int .i64 8), (28, .int .i64 7), (54, .slice (some ⟨w.heap.size, 0, none⟩) 8 8), (55, .int .i64 8), (56, .int .i64 1), (67, .bool false)] wj8 [] (by kernel_rfl) trivial ?_
      refine XL_nil ?_
      refine X_cond false rfl ?_
      refine X_skip ?_
      refine X_region ?_
      refine XL_run 2 [] [(1, .slice (some ⟨w.heap.size, 0, none⟩) 8 8), (2, .slice (some ⟨w_1.heap.size, 0, none⟩) 8 8), (3, .int .i64 7), (4, .iface 26 (.string (⟨#[97]⟩ : ByteArray))), (26, .slice (some ⟨w.heap.size, 0, none⟩) 8 8), (27, .int .i64 8), (28, .int .i64 7), (54, .slice (some ⟨w.heap.size, 0, none⟩) 8 8), (55, .int .i64 8), (56, .int .i64 2)] wj8 [] (by kernel_rfl) trivial ?_
      refine XL_nil ?_
      refine ⟨2, by kernel_rfl, ?_, ?_⟩
      · exact ⟨by omega, HBj8⟩
      · decide
    · refine X_seq ?_
      refine X_region ?_
      refine XL_run 1 [] [(1, .slice (some ⟨w.heap.size, 0, none⟩) 8 8), (2, .slice (some ⟨w_1.heap.size, 0, none⟩) 8 8), (3, .int .i64 7), (4, .iface 26 (.string (⟨#[97]⟩ : ByteArray))), (26, .slice (some ⟨w.heap.size, 0, none⟩) 8 8), (27, .int .i64 8), (28, .int .i64 7), (54, .slice (some ⟨w.heap.size, 0, none⟩) 8 8), (55, .int .i64 8), (56, .int .i64 2), (57, .bool true)] wj8 [] (by kernel_rfl) trivial ?_
      refine XL_nil ?_
      refine X_seq ?_
      refine X_cond true rfl ?_
      refine X_skip ?_
      refine X_seq ?_
      refine X_block ?_
      refine X_seq ?_
      refine X_region ?_
      refine XL_run 1 [] [(1, .slice (some ⟨w.heap.size, 0, none⟩) 8 8), (2, .slice (some ⟨w_1.heap.size, 0, none⟩) 8 8), (3, .int .i64 7), (4, .iface 26 (.string (⟨#[97]⟩ : ByteArray))), (26, .slice (some ⟨w.heap.size, 0, none⟩) 8 8), (27, .int .i64 8), (28, .int .i64 7), (54, .slice (some ⟨w.heap.size, 0, none⟩) 8 8), (55, .int .i64 8), (56, .int .i64 2), (58, .int .i64 2)] wj8 [] (by kernel_rfl) trivial ?_
      have hB_132 : Below w_1.heap.size w_1 wj8 := (bt (bt (bt (bt (bt hb_7 HBi) hb_124) hb_127) hb_129) HBj8)
      refine XL_run 4 [(59, .idx ⟨w.heap.size, 0, none⟩), (60, .load (.iface 24 (.bool true)))] [(1, .slice (some ⟨w.heap.size, 0, none⟩) 8 8), (2, .slice (some ⟨w_1.heap.size, 0, none⟩) 8 8), (3, .int .i64 7), (4, .iface 26 (.string (⟨#[97]⟩ : ByteArray))), (5, .int .i64 2), (6, .iface 24 (.bool true)), (26, .slice (some ⟨w.heap.size, 0, none⟩) 8 8), (27, .int .i64 8), (28, .int .i64 7), (54, .slice (some ⟨w.heap.size, 0, none⟩) 8 8), (55, .int .i64 8), (56, .int .i64 2)] wj8 [(some ⟨w.heap.size, 0, none⟩ : Option Addr) = some ⟨w.heap.size, 0, none⟩, (0 : Int) ≤ 2, (2 : Int) < (8 : Int), LoadsAs Try.prog 32 (⟨w.heap.size, 2, none⟩) (.iface 24 (.bool true)) wj8] (by kernel_rfl) ⟨rfl, (by decide), (by decide), loads1 rfl (Blk.cell (Blk.below hk_3 hB_132) 2 _ rfl), trivial⟩ ?_
      refine XL_nil ?_
      refine X_seq ?_
      refine X_region ?_
      refine XL_run 7 [] [(1, .slice (some ⟨w.heap.size, 0, none⟩) 8 8), (2, .slice (some ⟨w_1.heap.size, 0, none⟩) 8 8), (3, .int .i64 7), (4, .iface 26 (.string (⟨#[97]⟩ : ByteArray))), (26, .slice (some ⟨w.heap.size, 0, none⟩) 8 8), (27, .int .i64 8), (28, .int .i64 7), (54, .slice (some ⟨w.heap.size, 0, none⟩) 8 8), (55, .int .i64 8), (56, .int .i64 2), (67, .bool false)] wj8 [] (by kernel_rfl) trivial ?_
      refine XL_nil ?_
      refine X_cond false rfl ?_
      refine X_skip ?_
      refine X_region ?_
      refine XL_run 2 [] [(1, .slice (some ⟨w.heap.size, 0, none⟩) 8 8), (2, .slice (some ⟨w_1.heap.size, 0, none⟩) 8 8), (3, .int .i64 7), (4, .iface 26 (.string (⟨#[97]⟩ : ByteArray))), (26, .slice (some ⟨w.heap.size, 0, none⟩) 8 8), (27, .int .i64 8), (28, .int .i64 7), (54, .slice (some ⟨w.heap.size, 0, none⟩) 8 8), (55, .int .i64 8), (56, .int .i64 3)] wj8 [] (by kernel_rfl) trivial ?_
      refine XL_nil ?_
      refine ⟨3, by kernel_rfl, ?_, ?_⟩
      · exact ⟨by omega, HBj8⟩
      · decide
    · refine X_seq ?_
      refine X_region ?_
      refine XL_run 1 [] [(1, .slice (some ⟨w.heap.size, 0, none⟩) 8 8), (2, .slice (some ⟨w_1.heap.size, 0, none⟩) 8 8), (3, .int .i64 7), (4, .iface 26 (.string (⟨#[97]⟩ : ByteArray))), (26, .slice (some ⟨w.heap.size, 0, none⟩) 8 8), (27, .int .i64 8), (28, .int .i64 7), (54, .slice (some ⟨w.heap.size, 0, none⟩) 8 8), (55, .int .i64 8), (56, .int .i64 3), (57, .bool true)] wj8 [] (by kernel_rfl) trivial ?_
      refine XL_nil ?_
      refine X_seq ?_
      refine X_cond true rfl ?_
      refine X_skip ?_
      refine X_seq ?_
      refine X_block ?_
      refine X_seq ?_
      refine X_region ?_
      refine XL_run 1 [] [(1, .slice (some ⟨w.heap.size, 0, none⟩) 8 8), (2, .slice (some ⟨w_1.heap.size, 0, none⟩) 8 8), (3, .int .i64 7), (4, .iface 26 (.string (⟨#[97]⟩ : ByteArray))), (26, .slice (some ⟨w.heap.size, 0, none⟩) 8 8), (27, .int .i64 8), (28, .int .i64 7), (54, .slice (some ⟨w.heap.size, 0, none⟩) 8 8), (55, .int .i64 8), (56, .int .i64 3), (58, .int .i64 3)] wj8 [] (by kernel_rfl) trivial ?_
      have hB_133 : Below w_1.heap.size w_1 wj8 := (bt (bt (bt (bt (bt hb_7 HBi) hb_124) hb_127) hb_129) HBj8)
      refine XL_run 4 [(59, .idx ⟨w.heap.size, 0, none⟩), (60, .load (.iface 25 (.int .i64 0)))] [(1, .slice (some ⟨w.heap.size, 0, none⟩) 8 8), (2, .slice (some ⟨w_1.heap.size, 0, none⟩) 8 8), (3, .int .i64 7), (4, .iface 26 (.string (⟨#[97]⟩ : ByteArray))), (5, .int .i64 3), (6, .iface 25 (.int .i64 0)), (26, .slice (some ⟨w.heap.size, 0, none⟩) 8 8), (27, .int .i64 8), (28, .int .i64 7), (54, .slice (some ⟨w.heap.size, 0, none⟩) 8 8), (55, .int .i64 8), (56, .int .i64 3)] wj8 [(some ⟨w.heap.size, 0, none⟩ : Option Addr) = some ⟨w.heap.size, 0, none⟩, (0 : Int) ≤ 3, (3 : Int) < (8 : Int), LoadsAs Try.prog 32 (⟨w.heap.size, 3, none⟩) (.iface 25 (.int .i64 0)) wj8] (by kernel_rfl) ⟨rfl, (by decide), (by decide), loads1 rfl (Blk.cell (Blk.below hk_3 hB_133) 3 _ rfl), trivial⟩ ?_
      refine XL_nil ?_
      refine X_seq ?_
      refine X_region ?_
      refine XL_run 7 [] [(1, .slice (some ⟨w.heap.size, 0, none⟩) 8 8), (2, .slice (some ⟨w_1.heap.size, 0, none⟩) 8 8), (3, .int .i64 7), (4, .iface 26 (.string (⟨#[97]⟩ : ByteArray))), (26, .slice (some ⟨w.heap.size, 0, none⟩) 8 8), (27, .int .i64 8), (28, .int .i64 7), (54, .slice (some ⟨w.heap.size, 0, none⟩) 8 8), (55, .int .i64 8), (56, .int .i64 3), (67, .bool false)] wj8 [] (by kernel_rfl) trivial ?_
      refine XL_nil ?_
      refine X_cond false rfl ?_
      refine X_skip ?_
      refine X_region ?_
      refine XL_run 2 [] [(1, .slice (some ⟨w.heap.size, 0, none⟩) 8 8), (2, .slice (some ⟨w_1.heap.size, 0, none⟩) 8 8), (3, .int .i64 7), (4, .iface 26 (.string (⟨#[97]⟩ : ByteArray))), (26, .slice (some ⟨w.heap.size, 0, none⟩) 8 8), (27, .int .i64 8), (28, .int .i64 7), (54, .slice (some ⟨w.heap.size, 0, none⟩) 8 8), (55, .int .i64 8), (56, .int .i64 4)] wj8 [] (by kernel_rfl) trivial ?_
      refine XL_nil ?_
      refine ⟨4, by kernel_rfl, ?_, ?_⟩
      · exact ⟨by omega, HBj8⟩
      · decide
    · refine X_seq ?_
      refine X_region ?_
      refine XL_run 1 [] [(1, .slice (some ⟨w.heap.size, 0, none⟩) 8 8), (2, .slice (some ⟨w_1.heap.size, 0, none⟩) 8 8), (3, .int .i64 7), (4, .iface 26 (.string (⟨#[97]⟩ : ByteArray))), (26, .slice (some ⟨w.heap.size, 0, none⟩) 8 8), (27, .int .i64 8), (28, .int .i64 7), (54, .slice (some ⟨w.heap.size, 0, none⟩) 8 8), (55, .int .i64 8), (56, .int .i64 4), (57, .bool true)] wj8 [] (by kernel_rfl) trivial ?_
      refine XL_nil ?_
      refine X_seq ?_
      refine X_cond true rfl ?_
      refine X_skip ?_
      refine X_seq ?_
      refine X_block ?_
      refine X_seq ?_
      refine X_region ?_
      refine XL_run 1 [] [(1, .slice (some ⟨w.heap.size, 0, none⟩) 8 8), (2, .slice (some ⟨w_1.heap.size, 0, none⟩) 8 8), (3, .int .i64 7), (4, .iface 26 (.string (⟨#[97]⟩ : ByteArray))), (26, .slice (some ⟨w.heap.size, 0, none⟩) 8 8), (27, .int .i64 8), (28, .int .i64 7), (54, .slice (some ⟨w.heap.size, 0, none⟩) 8 8), (55, .int .i64 8), (56, .int .i64 4), (58, .int .i64 4)] wj8 [] (by kernel_rfl) trivial ?_
      have hB_134 : Below w_1.heap.size w_1 wj8 := (bt (bt (bt (bt (bt hb_7 HBi) hb_124) hb_127) hb_129) HBj8)
      refine XL_run 4 [(59, .idx ⟨w.heap.size, 0, none⟩), (60, .load (.iface 25 (.int .i64 1)))] [(1, .slice (some ⟨w.heap.size, 0, none⟩) 8 8), (2, .slice (some ⟨w_1.heap.size, 0, none⟩) 8 8), (3, .int .i64 7), (4, .iface 26 (.string (⟨#[97]⟩ : ByteArray))), (5, .int .i64 4), (6, .iface 25 (.int .i64 1)), (26, .slice (some ⟨w.heap.size, 0, none⟩) 8 8), (27, .int .i64 8), (28, .int .i64 7), (54, .slice (some ⟨w.heap.size, 0, none⟩) 8 8), (55, .int .i64 8), (56, .int .i64 4)] wj8 [(some ⟨w.heap.size, 0, none⟩ : Option Addr) = some ⟨w.heap.size, 0, none⟩, (0 : Int) ≤ 4, (4 : Int) < (8 : Int), LoadsAs Try.prog 32 (⟨w.heap.size, 4, none⟩) (.iface 25 (.int .i64 1)) wj8] (by kernel_rfl) ⟨rfl, (by decide), (by decide), loads1 rfl (Blk.cell (Blk.below hk_3 hB_134) 4 _ rfl), trivial⟩ ?_
      refine XL_nil ?_
      refine X_seq ?_
      refine X_region ?_
      refine XL_run 7 [] [(1, .slice (some ⟨w.heap.size, 0, none⟩) 8 8), (2, .slice (some ⟨w_1.heap.size, 0, none⟩) 8 8), (3, .int .i64 7), (4, .iface 26 (.string (⟨#[97]⟩ : ByteArray))), (26, .slice (some ⟨w.heap.size, 0, none⟩) 8 8), (27, .int .i64 8), (28, .int .i64 7), (54, .slice (some ⟨w.heap.size, 0, none⟩) 8 8), (55, .int .i64 8), (56, .int .i64 4), (67, .bool false)] wj8 [] (by kernel_rfl) trivial ?_
      refine XL_nil ?_
      refine X_cond false rfl ?_
      refine X_skip ?_
      refine X_region ?_
      refine XL_run 2 [] [(1, .slice (some ⟨w.heap.size, 0, none⟩) 8 8), (2, .slice (some ⟨w_1.heap.size, 0, none⟩) 8 8), (3, .int .i64 7), (4, .iface 26 (.string (⟨#[97]⟩ : ByteArray))), (26, .slice (some ⟨w.heap.size, 0, none⟩) 8 8), (27, .int .i64 8), (28, .int .i64 7), (54, .slice (some ⟨w.heap.size, 0, none⟩) 8 8), (55, .int .i64 8), (56, .int .i64 5)] wj8 [] (by kernel_rfl) trivial ?_
      refine XL_nil ?_
      refine ⟨5, by kernel_rfl, ?_, ?_⟩
      · exact ⟨by omega, HBj8⟩
      · decide
    · refine X_seq ?_
      refine X_region ?_
      refine XL_run 1 [] [(1, .slice (some ⟨w.heap.size, 0, none⟩) 8 8), (2, .slice (some ⟨w_1.heap.size, 0, none⟩) 8 8), (3, .int .i64 7), (4, .iface 26 (.string (⟨#[97]⟩ : ByteArray))), (26, .slice (some ⟨w.heap.size, 0, none⟩) 8 8), (27, .int .i64 8), (28, .int .i64 7), (54, .slice (some ⟨w.heap.size, 0, none⟩) 8 8), (55, .int .i64 8), (56, .int .i64 5), (57, .bool true)] wj8 [] (by kernel_rfl) trivial ?_
      refine XL_nil ?_
      refine X_seq ?_
      refine X_cond true rfl ?_
      refine X_skip ?_
      refine X_seq ?_
      refine X_block ?_
      refine X_seq ?_
      refine X_region ?_
      refine XL_run 1 [] [(1, .slice (some ⟨w.heap.size, 0, none⟩) 8 8), (2, .slice (some ⟨w_1.heap.size, 0, none⟩) 8 8), (3, .int .i64 7), (4, .iface 26 (.string (⟨#[97]⟩ : ByteArray))), (26, .slice (some ⟨w.heap.size, 0, none⟩) 8 8), (27, .int .i64 8), (28, .int .i64 7), (54, .slice (some ⟨w.heap.size, 0, none⟩) 8 8), (55, .int .i64 8), (56, .int .i64 5), (58, .int .i64 5)] wj8 [] (by kernel_rfl) trivial ?_
      have hB_135 : Below w_1.heap.size w_1 wj8 := (bt (bt (bt (bt (bt hb_7 HBi) hb_124) hb_127) hb_129) HBj8)
      refine XL_run 4 [(59, .idx ⟨w.heap.size, 0, none⟩), (60, .load (.iface 25 (.int .i64 (-5))))] [(1, .slice (some ⟨w.heap.size, 0, none⟩) 8 8), (2, .slice (some ⟨w_1.heap.size, 0, none⟩) 8 8), (3, .int .i64 7), (4, .iface 26 (.string (⟨#[97]⟩ : ByteArray))), (5, .int .i64 5), (6, .iface 25 (.int .i64 (-5))), (26, .slice (some ⟨w.heap.size, 0, none⟩) 8 8), (27, .int .i64 8), (28, .int .i64 7), (54, .slice (some ⟨w.heap.size, 0, none⟩) 8 8), (55, .int .i64 8), (56, .int .i64 5)] wj8 [(some ⟨w.heap.size, 0, none⟩ : Option Addr) = some ⟨w.heap.size, 0, none⟩, (0 : Int) ≤ 5, (5 : Int) < (8 : Int), LoadsAs Try.prog 32 (⟨w.heap.size, 5, none⟩) (.iface 25 (.int .i64 (-5))) wj8] (by kernel_rfl) ⟨rfl, (by decide), (by decide), loads1 rfl (Blk.cell (Blk.below hk_3 hB_135) 5 _ rfl), trivial⟩ ?_
      refine XL_nil ?_
      refine X_seq ?_
      refine X_region ?_
      refine XL_run 7 [] [(1, .slice (some ⟨w.heap.size, 0, none⟩) 8 8), (2, .slice (some ⟨w_1.heap.size, 0, none⟩) 8 8), (3, .int .i64 7), (4, .iface 26 (.string (⟨#[97]⟩ : ByteArray))), (26, .slice (some ⟨w.heap.size, 0, none⟩) 8 8), (27, .int .i64 8), (28, .int .i64 7), (54, .slice (some ⟨w.heap.size, 0, none⟩) 8 8), (55, .int .i64 8), (56, .int .i64 5), (67, .bool false)] wj8 [] (by kernel_rfl) trivial ?_
      refine XL_nil ?_
      refine X_cond false rfl ?_
      refine X_skip ?_
      refine X_region ?_
      refine XL_run 2 [] [(1, .slice (some ⟨w.heap.size, 0, none⟩) 8 8), (2, .slice (some ⟨w_1.heap.size, 0, none⟩) 8 8), (3, .int .i64 7), (4, .iface 26 (.string (⟨#[97]⟩ : ByteArray))), (26, .slice (some ⟨w.heap.size, 0, none⟩) 8 8), (27, .int .i64 8), (28, .int .i64 7), (54, .slice (some ⟨w.heap.size, 0, none⟩) 8 8), (55, .int .i64 8), (56, .int .i64 6)] wj8 [] (by kernel_rfl) trivial ?_
      refine XL_nil ?_
      refine ⟨6, by kernel_rfl, ?_, ?_⟩
      · exact ⟨by omega, HBj8⟩
      · decide
    · refine X_seq ?_
      refine X_region ?_
      refine XL_run 1 [] [(1, .slice (some ⟨w.heap.size, 0, none⟩) 8 8), (2, .slice (some ⟨w_1.heap.size, 0, none⟩) 8 8), (3, .int .i64 7), (4, .iface 26 (.string (⟨#[97]⟩ : ByteArray))), (26, .slice (some ⟨w.heap.size, 0, none⟩) 8 8), (27, .int .i64 8), (28, .int .i64 7), (54, .slice (some ⟨w.heap.size, 0, none⟩) 8 8), (55, .int .i64 8), (56, .int .i64 6), (57, .bool true)] wj8 [] (by kernel_rfl) trivial ?_
      refine XL_nil ?_
      refine X_seq ?_
      refine X_cond true rfl ?_
      refine X_skip ?_
      refine X_seq ?_
      refine X_block ?_
      refine X_seq ?_
      refine X_region ?_
      refine XL_run 1 [] [(1, .slice (some ⟨w.heap.size, 0, none⟩) 8 8), (2, .slice (some ⟨w_1.heap.size, 0, none⟩) 8 8), (3, .int .i64 7), (4, .iface 26 (.string (⟨#[97]⟩ : ByteArray))), (26, .slice (some ⟨w.heap.size, 0, none⟩) 8 8), (27, .int .i64 8), (28, .int .i64 7), (54, .slice (some ⟨w.heap.size, 0, none⟩) 8 8), (55, .int .i64 8), (56, .int .i64 6), (58, .int .i64 6)] wj8 [] (by kernel_rfl) trivial ?_
      have hB_136 : Below w_1.heap.size w_1 wj8 := (bt (bt (bt (bt (bt hb_7 HBi) hb_124) hb_127) hb_129) HBj8)
      refine XL_run 4 [(59, .idx ⟨w.heap.size, 0, none⟩), (60, .load (.iface 26 (.string (⟨#[]⟩ : ByteArray))))] [(1, .slice (some ⟨w.heap.size, 0, none⟩) 8 8), (2, .slice (some ⟨w_1.heap.size, 0, none⟩) 8 8), (3, .int .i64 7), (4, .iface 26 (.string (⟨#[97]⟩ : ByteArray))), (5, .int .i64 6), (6, .iface 26 (.string (⟨#[]⟩ : ByteArray))), (26, .slice (some ⟨w.heap.size, 0, none⟩) 8 8), (27, .int .i64 8), (28, .int .i64 7), (54, .slice (some ⟨w.heap.size, 0, none⟩) 8 8), (55, .int .i64 8), (56, .int .i64 6)] wj8 [(some ⟨w.heap.size, 0, none⟩ : Option Addr) = some ⟨w.heap.size, 0, none⟩, (0 : Int) ≤ 6, (6 : Int) < (8 : Int), LoadsAs Try.prog 32 (⟨w.heap.size, 6, none⟩) (.iface 26 (.string (⟨#[]⟩ : ByteArray))) wj8] (by kernel_rfl) ⟨rfl, (by decide), (by decide), loads1 rfl (Blk.cell (Blk.below hk_3 hB_136) 6 _ rfl), trivial⟩ ?_
      refine XL_nil ?_
      refine X_seq ?_
      refine X_region ?_
      refine XL_run 7 [] [(1, .slice (some ⟨w.heap.size, 0, none⟩) 8 8), (2, .slice (some ⟨w_1.heap.size, 0, none⟩) 8 8), (3, .int .i64 7), (4, .iface 26 (.string (⟨#[97]⟩ : ByteArray))), (26, .slice (some ⟨w.heap.size, 0, none⟩) 8 8), (27, .int .i64 8), (28, .int .i64 7), (54, .slice (some ⟨w.heap.size, 0, none⟩) 8 8), (55, .int .i64 8), (56, .int .i64 6), (67, .bool false)] wj8 [] (by kernel_rfl) trivial ?_
      refine XL_nil ?_
      refine X_cond false rfl ?_
      refine X_skip ?_
      refine X_region ?_
      refine XL_run 2 [] [(1, .slice (some ⟨w.heap.size, 0, none⟩) 8 8), (2, .slice (some ⟨w_1.heap.size, 0, none⟩) 8 8), (3, .int .i64 7), (4, .iface 26 (.string (⟨#[97]⟩ : ByteArray))), (26, .slice (some ⟨w.heap.size, 0, none⟩) 8 8), (27, .int .i64 8), (28, .int .i64 7), (54, .slice (some ⟨w.heap.size, 0, none⟩) 8 8), (55, .int .i64 8), (56, .int .i64 7)] wj8 [] (by kernel_rfl) trivial ?_
      refine XL_nil ?_
      refine ⟨7, by kernel_rfl, ?_, ?_⟩
      · exact ⟨by omega, HBj8⟩
      · decide
    · refine X_seq ?_
      refine X_region ?_
      refine XL_run 1 [] [(1, .slice (some ⟨w.heap.size, 0, none⟩) 8 8), (2, .slice (some ⟨w_1.heap.size, 0, none⟩) 8 8), (3, .int .i64 7), (4, .iface 26 (.string (⟨#[97]⟩ : ByteArray))), (26, .slice (some ⟨w.heap.size, 0, none⟩) 8 8), (27, .int .i64 8), (28, .int .i64 7), (54, .slice (some ⟨w.heap.size, 0, none⟩) 8 8), (55, .int .i64 8), (56, .int .i64 7), (57, .bool true)] wj8 [] (by kernel_rfl) trivial ?_
      refine XL_nil ?_
      refine X_seq ?_
      refine X_cond true rfl ?_
      refine X_skip ?_
      refine X_seq ?_
      refine X_block ?_
      refine X_seq ?_
      refine X_region ?_
      refine XL_run 1 [] [(1, .slice (some ⟨w.heap.size, 0, none⟩) 8 8), (2, .slice (some ⟨w_1.heap.size, 0, none⟩) 8 8), (3, .int .i64 7), (4, .iface 26 (.string (⟨#[97]⟩ : ByteArray))), (26, .slice (some ⟨w.heap.size, 0, none⟩) 8 8), (27, .int .i64 8), (28, .int .i64 7), (54, .slice (some ⟨w.heap.size, 0, none⟩) 8 8), (55, .int .i64 8), (56, .int .i64 7), (58, .int .i64 7)] wj8 [] (by kernel_rfl) trivial ?_
      have hB_137 : Below w_1.heap.size w_1 wj8 := (bt (bt (bt (bt (bt hb_7 HBi) hb_124) hb_127) hb_129) HBj8)
      refine XL_run 4 [(59, .idx ⟨w.heap.size, 0, none⟩), (60, .load (.iface 26 (.string (⟨#[97]⟩ : ByteArray))))] [(1, .slice (some ⟨w.heap.size, 0, none⟩) 8 8), (2, .slice (some ⟨w_1.heap.size, 0, none⟩) 8 8), (3, .int .i64 7), (4, .iface 26 (.string (⟨#[97]⟩ : ByteArray))), (5, .int .i64 7), (6, .iface 26 (.string (⟨#[97]⟩ : ByteArray))), (26, .slice (some ⟨w.heap.size, 0, none⟩) 8 8), (27, .int .i64 8), (28, .int .i64 7), (54, .slice (some ⟨w.heap.size, 0, none⟩) 8 8), (55, .int .i64 8), (56, .int .i64 7)] wj8 [(some ⟨w.heap.size, 0, none⟩ : Option Addr) = some ⟨w.heap.size, 0, none⟩, (0 : Int) ≤ 7, (7 : Int) < (8 : Int), LoadsAs Try.prog 32 (⟨w.heap.size, 7, none⟩) (.iface 26 (.string (⟨#[97]⟩ : ByteArray))) wj8] (by kernel_rfl) ⟨rfl, (by decide), (by decide), loads1 rfl (Blk.cell (Blk.below hk_3 hB_137) 7 _ rfl), trivial⟩ ?_
      refine XL_nil ?_
      refine X_seq ?_
      refine X_region ?_
      refine XL_run 7 [] [(1, .slice (some ⟨w.heap.size, 0, none⟩) 8 8), (2, .slice (some ⟨w_1.heap.size, 0, none⟩) 8 8), (3, .int .i64 7), (4, .iface 26 (.string (⟨#[97]⟩ : ByteArray))), (26, .slice (some ⟨w.heap.size, 0, none⟩) 8 8), (27, .int .i64 8), (28, .int .i64 7), (54, .slice (some ⟨w.heap.size, 0, none⟩) 8 8), (55, .int .i64 8), (56, .int .i64 7), (67, .bool false)] wj8 [] (by kernel_rfl) trivial ?_
      refine XL_nil ?_
      refine X_cond false rfl ?_
      refine X_skip ?_
      refine X_region ?_
      refine XL_run 2 [] [(1, .slice (some ⟨w.heap.size, 0, none⟩) 8 8), (2, .slice (some ⟨w_1.heap.size, 0, none⟩) 8 8), (3, .int .i64 7), (4, .iface 26 (.string (⟨#[97]⟩ : ByteArray))), (26, .slice (some ⟨w.heap.size, 0, none⟩) 8 8), (27, .int .i64 8), (28, .int .i64 7), (54, .slice (some ⟨w.heap.size, 0, none⟩) 8 8), (55, .int .i64 8), (56, .int .i64 8)] wj8 [] (by kernel_rfl) trivial ?_
      refine XL_nil ?_
      refine ⟨8, by kernel_rfl, ?_, ?_⟩
      · exact ⟨by omega, HBj8⟩
      · decide
    · refine X_seq ?_
      refine X_region ?_
      refine XL_run 1 [] [(1, .slice (some ⟨w.heap.size, 0, none⟩) 8 8), (2, .slice (some ⟨w_1.heap.size, 0, none⟩) 8 8), (3, .int .i64 7), (4, .iface 26 (.string (⟨#[97]⟩ : ByteArray))), (26, .slice (some ⟨w.heap.size, 0, none⟩) 8 8), (27, .int .i64 8), (28, .int .i64 7), (54, .slice (some ⟨w.heap.size, 0, none⟩) 8 8), (55, .int .i64 8), (56, .int .i64 8), (57, .bool false)] wj8 [] (by kernel_rfl) trivial ?_
      refine XL_nil ?_
      refine X_seq ?_
      refine X_cond false rfl ?_
      refine X_exit ?_
      refine X_region ?_
      refine XL_run 2 [] [(1, .slice (some ⟨w.heap.size, 0, none⟩) 8 8), (2, .slice (some ⟨w_1.heap.size, 0, none⟩) 8 8), (26, .slice (some ⟨w.heap.size, 0, none⟩) 8 8), (27, .int .i64 8), (28, .int .i64 8)] wj8 [] (by kernel_rfl) trivial ?_
      refine XL_nil ?_
      have hB_138 : Below w_6.heap.size w_6 wj8 := (bt (bt (bt (bt HBi hb_124) hb_127) hb_129) HBj8)
      refine ⟨8, by kernel_rfl, ?_, ?_⟩
      · exact ⟨by omega, hB_138⟩
      · decide
  · refine X_seq ?_
    refine X_region ?_
    refine XL_run 1 [] [(1, .slice (some ⟨w.heap.size, 0, none⟩) 8 8), (2, .slice (some ⟨w_1.heap.size, 0, none⟩) 8 8), (26, .slice (some ⟨w.heap.size, 0, none⟩) 8 8), (27, .int .i64 8), (28, .int .i64 8), (29, .bool false)] wi [] (by kernel_rfl) trivial ?_
    refine XL_nil ?_
    refine X_seq ?_
    refine X_cond false rfl ?_
    refine X_exit ?_
    refine X_seq ?_
    refine X_region ?_
    refine XL_run 1 [] [(0, .bool true)] wi [] (by kernel_rfl) trivial ?_
    refine XL_nil ?_
    refine X_ret ?_
    refine RX.ret_ok (P := Try.prog) (fn := Try.f3) (N := 70) (R := R_) [.bool true] (by kernel_rfl) (hR_ _ _ ?_)
    exact ⟨rfl, (bt (bt hb_2 hb_7) HBi)⟩
end Go.Proofs.Ytlnfgkafnpbeeaa
