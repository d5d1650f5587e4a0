/- What vellumref01 answers. Conditions: sizes. -/
import Derived.Test.YtkehomiogkoomaaDoorB1
import Derived.Test.YtkehomiogkoomaaDoorUtf4
import Derived.Test.YtkehomiogkoomaaDoorAn2
import Derived.Test.YtkehomiogkoomaaDoorStr
set_option linter.unusedVariables false
set_option linter.unusedSimpArgs false
set_option maxRecDepth 100000
namespace Go.Proofs.YtkehomiogkoomaaDoor
open Go Go.RowKit Go.Proofs.YtkehomiogkoomaaDoorW.PrintWords RX
theorem ent144 : Ent Tryd.prog 144 := ent_of Tryd.func144 (by kernel_rfl) rfl
theorem ent145 : Ent Tryd.prog 145 := ent_of Tryd.func145 (by kernel_rfl) rfl
theorem ent141 : Ent Tryd.prog 141 := ent_of Tryd.func141 (by kernel_rfl) rfl
theorem ent90 : Ent Tryd.prog 90 := ent_of Tryd.func90 (by kernel_rfl) rfl
theorem ent88 : Ent Tryd.prog 88 := ent_of Tryd.func88 (by kernel_rfl) rfl
theorem tmN {k : IntKind} (b c : Nat) : Value.int k (Int.tmod (b : Int) (c : Int)) = .int k ((b % c : Nat) : Int) := by rw [Int.tmod_eq_emod_of_nonneg (by omega)]; rfl
theorem tdN (b c : Nat) (h : b ≤ 2147483647) : Value.int .i32 (IntKind.i32.wrap (Int.tdiv (b : Int) (c : Int))) = .int .i32 ((b / c : Nat) : Int) := by
 have key : ∀ q : Nat, q ≤ 2147483647 → Value.int .i32 (IntKind.i32.wrap (q : Int)) = .int .i32 (q : Int) := fun q hq => by rw [IntWalk.i32_in _ ⟨by omega, by omega⟩]
 rw [Int.tdiv_eq_ediv_of_nonneg (by omega)]
 exact key _ (Nat.le_trans (Nat.div_le_self b c) h)
theorem refScalar_any (r : Int) (w : World) : Calls Tryd.prog 144 #[.int .i32 r] w fun e w' => e = .returned (.bool (decide (U.vz r))) ∧ Below w.heap.size w w' := by
 refine RX.enter Tryd.func144 rfl 17 rfl [(0, .int .i32 r)] rfl (by kernel_rfl) (fun R_ hR_ => ?_)
 refine sq (rg (xe0 1 [(0, .int .i32 r)] ?_))
 refine nl (sq (rg (xr0 1 [(3, .int .i32 r)] [] ?_)))
 by_cases c_1 : r ≥ 0
 ·refine xr 3 [(4, .eq (.bool true))] [(5, .bool true), (6, .int .i32 r)] [3] [Value.bool (decide (r ≥ 0)) = Value.bool true] ⟨congrArg Value.bool (decide_eq_true (c_1)), trivial⟩ ?_
  by_cases c_2 : r < 55296
  ·refine xe 11 [(7, .eq (.bool true))] [(2, .bool true)] [Value.bool (decide (r < 55296)) = Value.bool true] ⟨congrArg Value.bool (decide_eq_true (c_2)), trivial⟩ ?_
   refine nl (X_ret (rk [.bool true] (hR_ _ _ ?_)))
   rw [decide_eq_true (by unfold U.vz U.vr; omega)]
   exact ⟨rfl, (Below.refl _ _)⟩
  refine xr 4 [(7, .eq (.bool false))] [(9, .bool false), (10, .int .i32 r)] [5, 6] [Value.bool (decide (r < 55296)) = Value.bool false] ⟨congrArg Value.bool (decide_eq_false (c_2)), trivial⟩ ?_
  by_cases c_3 : r ≥ 57344
  ·refine xr 3 [(11, .eq (.bool true))] [(12, .bool true), (13, .int .i32 r)] [0, 10] [Value.bool (decide (r ≥ 57344)) = Value.bool true] ⟨congrArg Value.bool (decide_eq_true (c_3)), trivial⟩ ?_
   by_cases c_4 : r ≤ 1114111
   ·refine xe 4 [(14, .eq (.bool true))] [(2, .bool true)] [Value.bool (decide (r ≤ 1114111)) = Value.bool true] ⟨congrArg Value.bool (decide_eq_true (c_4)), trivial⟩ ?_
    refine nl (X_ret (rk [.bool true] (hR_ _ _ ?_)))
    rw [decide_eq_true (by unfold U.vz U.vr; omega)]
    exact ⟨rfl, (Below.refl _ _)⟩
   refine xe 4 [(14, .eq (.bool false))] [(2, .bool false)] [Value.bool (decide (r ≤ 1114111)) = Value.bool false] ⟨congrArg Value.bool (decide_eq_false (c_4)), trivial⟩ ?_
   refine nl (X_ret (rk [.bool false] (hR_ _ _ ?_)))
   rw [decide_eq_false (by unfold U.vz U.vr; omega)]
   exact ⟨rfl, (Below.refl _ _)⟩
  refine xe 7 [(11, .eq (.bool false))] [(2, .bool false)] [Value.bool (decide (r ≥ 57344)) = Value.bool false] ⟨congrArg Value.bool (decide_eq_false (c_3)), trivial⟩ ?_
  refine nl (X_ret (rk [.bool false] (hR_ _ _ ?_)))
  rw [decide_eq_false (by unfold U.vz U.vr; omega)]
  exact ⟨rfl, (Below.refl _ _)⟩
 refine xr 7 [(4, .eq (.bool false))] [(9, .bool false), (10, .int .i32 r)] [3] [Value.bool (decide (r ≥ 0)) = Value.bool false] ⟨congrArg Value.bool (decide_eq_false (c_1)), trivial⟩ ?_
 by_cases c_5 : r ≥ 57344
 ·refine xr 3 [(11, .eq (.bool true))] [(12, .bool true), (13, .int .i32 r)] [0, 10] [Value.bool (decide (r ≥ 57344)) = Value.bool true] ⟨congrArg Value.bool (decide_eq_true (c_5)), trivial⟩ ?_
  by_cases c_6 : r ≤ 1114111
  ·refine xe 4 [(14, .eq (.bool true))] [(2, .bool true)] [Value.bool (decide (r ≤ 1114111)) = Value.bool true] ⟨congrArg Value.bool (decide_eq_true (c_6)), trivial⟩ ?_
   refine nl (X_ret (rk [.bool true] (hR_ _ _ ?_)))
   rw [decide_eq_true (by unfold U.vz U.vr; omega)]
   exact ⟨rfl, (Below.refl _ _)⟩
  refine xe 4 [(14, .eq (.bool false))] [(2, .bool false)] [Value.bool (decide (r ≤ 1114111)) = Value.bool false] ⟨congrArg Value.bool (decide_eq_false (c_6)), trivial⟩ ?_
  refine nl (X_ret (rk [.bool false] (hR_ _ _ ?_)))
  rw [decide_eq_false (by unfold U.vz U.vr; omega)]
  exact ⟨rfl, (Below.refl _ _)⟩
 refine xe 7 [(11, .eq (.bool false))] [(2, .bool false)] [Value.bool (decide (r ≥ 57344)) = Value.bool false] ⟨congrArg Value.bool (decide_eq_false (c_5)), trivial⟩ ?_
 refine nl (X_ret (rk [.bool false] (hR_ _ _ ?_)))
 rw [decide_eq_false (by unfold U.vz U.vr; omega)]
 exact ⟨rfl, (Below.refl _ _)⟩
theorem str_of {xs : List Int} {ys : List UInt8} (h : xs.map (fun n => UInt8.ofNat n.toNat) = ys) {m : Nat} (e : U.enc m = ys) : strOfNums xs = U.encB m := by
 unfold strOfNums U.encB
 rw [h, e]
set_option maxHeartbeats 1000000 in
theorem encode_any (k : Nat) (hv : U.vr k) (w : World) : Calls Tryd.prog 145 #[.int .i32 (k : Int)] w fun e w' => e = .returned (.string (U.encB k)) ∧ Below w.heap.size w w' := by
 have hv' := hv
 unfold U.vr at hv'
 refine RX.enter Tryd.func145 rfl 61 rfl [(0, .int .i32 (k : Int))] rfl (by kernel_rfl) (fun R_ hR_ => ?_)
 refine sq (rg (xe0 1 [(0, .int .i32 (k : Int))] ?_))
 refine nl (sq (bk (sq (rg (xr0 1 [(4, .int .i32 (k : Int))] [] ?_)))))
 by_cases c_1 : (k : Int) < 128
 ·refine xr 2 [(5, .eq (.bool true))] [(3, .bool true)] [4] [Value.bool (decide ((k : Int) < 128)) = Value.bool true] ⟨congrArg Value.bool (decide_eq_true (c_1)), trivial⟩ ?_
  refine nl (ct (sq (rg (xwe 3 [(7, .eq (.int .u8 (k : Int)))] [(8, .slice (some ⟨w.heap.size, 0, none⟩) 1 1)] (w.alloc (.cells #[.int .u8 (k : Int)] 5)) [Value.int .u8 (IntKind.u8.wrap ((k : Int))) = Value.int .u8 (k : Int)] ⟨wr_u8 (by omega) (by omega), trivial⟩ ?_))))
  obtain ⟨w_2, hw_6, hb_3, hk_4, hz_5⟩ := new_world w #[.int .u8 (k : Int)] 5
  rw [hw_6]
  have hr_7 := Kd.R_litB (Kd.int .u8) (W := w) (e := 5) (cs := #[.int .u8 (k : Int)]) [(k : Int)] hk_4 (repsInt [(k : Int)]) (Nat.le_of_ble_eq_true (by kernel_rfl))
  refine xe 2 [(9, .as (.string (strOfNums ([(k : Int)]))))] [(2, .string (strOfNums ([(k : Int)])))] [RunsAs Tryd.prog [(8, .slice (some ⟨w.heap.size, 0, none⟩) 1 1)] (Go.Op.convert 231 9 (Go.Operand.tmp 8)) 9 (.string (strOfNums ([(k : Int)]))) w_2] ⟨runs_conv rfl (conv_bytesC ([(k : Int)]) Tryd.underlying231 Tryd.underlying5 Tryd.underlying9 hr_7), trivial⟩ ?_
  refine nl (X_ret (rk [.string (strOfNums ([(k : Int)]))] (hR_ _ _ ?_)))
  rw [show (strOfNums ([(k : Int)])) = U.encB k from str_of (by simp only [List.map_cons, List.map_nil]; rfl) (U.enc_1 (by omega))]
  exact ⟨rfl, hb_3⟩
 refine xr 2 [(5, .eq (.bool false))] [(3, .bool false)] [4] [Value.bool (decide ((k : Int) < 128)) = Value.bool false] ⟨congrArg Value.bool (decide_eq_false (c_1)), trivial⟩ ?_
 refine nl (cf (sq (rg (xr0 1 [(11, .int .i32 (k : Int))] [3] ?_))))
 by_cases c_8 : (k : Int) < 2048
 ·refine xr 2 [(12, .eq (.bool true))] [(10, .bool true)] [11] [Value.bool (decide ((k : Int) < 2048)) = Value.bool true] ⟨congrArg Value.bool (decide_eq_true (c_8)), trivial⟩ ?_
  refine nl (ct (sq (rg (xwe 9 [(14, .eq (.int .i32 ((k / 64 : Nat) : Int))), (15, .eq (.int .i32 (192 + ((k / 64 : Nat) : Int)))), (16, .eq (.int .u8 (192 + ((k / 64 : Nat) : Int)))), (18, .eq (.int .i32 ((k % 64 : Nat) : Int))), (19, .eq (.int .i32 (128 + ((k % 64 : Nat) : Int)))), (20, .eq (.int .u8 (128 + ((k % 64 : Nat) : Int))))] [(21, .slice (some ⟨w.heap.size, 0, none⟩) 2 2)] (w.alloc (.cells #[.int .u8 (192 + ((k / 64 : Nat) : Int)), .int .u8 (128 + ((k % 64 : Nat) : Int))] 5)) [Value.int .i32 (IntKind.i32.wrap (Int.tdiv (k : Int) 64)) = .int .i32 ((k / 64 : Nat) : Int), Value.int .i32 (IntKind.i32.wrap (192 + ((k / 64 : Nat) : Int))) = Value.int .i32 (192 + ((k / 64 : Nat) : Int)), Value.int .u8 (IntKind.u8.wrap (192 + ((k / 64 : Nat) : Int))) = Value.int .u8 (192 + ((k / 64 : Nat) : Int)), Value.int .i32 (Int.tmod (k : Int) 64) = .int .i32 ((k % 64 : Nat) : Int), Value.int .i32 (IntKind.i32.wrap (128 + ((k % 64 : Nat) : Int))) = Value.int .i32 (128 + ((k % 64 : Nat) : Int)), Value.int .u8 (IntKind.u8.wrap (128 + ((k % 64 : Nat) : Int))) = Value.int .u8 (128 + ((k % 64 : Nat) : Int))] ⟨tdN k 64 (by omega), wr_i32 (by omega) (by omega), wr_u8 (by omega) (by omega), tmN k 64, wr_i32 (by omega) (by omega), wr_u8 (by omega) (by omega), trivial⟩ ?_))))
  obtain ⟨w_9, hw_13, hb_10, hk_11, hz_12⟩ := new_world w #[.int .u8 (192 + ((k / 64 : Nat) : Int)), .int .u8 (128 + ((k % 64 : Nat) : Int))] 5
  rw [hw_13]
  have hr_14 := Kd.R_litB (Kd.int .u8) (W := w) (e := 5) (cs := #[.int .u8 (192 + ((k / 64 : Nat) : Int)), .int .u8 (128 + ((k % 64 : Nat) : Int))]) [192 + ((k / 64 : Nat) : Int), 128 + ((k % 64 : Nat) : Int)] hk_11 (repsInt [192 + ((k / 64 : Nat) : Int), 128 + ((k % 64 : Nat) : Int)]) (Nat.le_of_ble_eq_true (by kernel_rfl))
  refine xe 2 [(22, .as (.string (strOfNums ([192 + ((k / 64 : Nat) : Int), 128 + ((k % 64 : Nat) : Int)]))))] [(2, .string (strOfNums ([192 + ((k / 64 : Nat) : Int), 128 + ((k % 64 : Nat) : Int)])))] [RunsAs Tryd.prog [(21, .slice (some ⟨w.heap.size, 0, none⟩) 2 2)] (Go.Op.convert 231 9 (Go.Operand.tmp 21)) 9 (.string (strOfNums ([192 + ((k / 64 : Nat) : Int), 128 + ((k % 64 : Nat) : Int)]))) w_9] ⟨runs_conv rfl (conv_bytesC ([192 + ((k / 64 : Nat) : Int), 128 + ((k % 64 : Nat) : Int)]) Tryd.underlying231 Tryd.underlying5 Tryd.underlying9 hr_14), trivial⟩ ?_
  refine nl (X_ret (rk [.string (strOfNums ([192 + ((k / 64 : Nat) : Int), 128 + ((k % 64 : Nat) : Int)]))] (hR_ _ _ ?_)))
  rw [show (strOfNums ([192 + ((k / 64 : Nat) : Int), 128 + ((k % 64 : Nat) : Int)])) = U.encB k from str_of (by simp only [List.map_cons, List.map_nil]; rfl) (U.enc_2 (by omega) (by omega))]
  exact ⟨rfl, hb_10⟩
 refine xr 2 [(12, .eq (.bool false))] [(10, .bool false)] [11] [Value.bool (decide ((k : Int) < 2048)) = Value.bool false] ⟨congrArg Value.bool (decide_eq_false (c_8)), trivial⟩ ?_
 refine nl (cf (sq (rg (xr0 1 [(24, .int .i32 (k : Int))] [10] ?_))))
 by_cases c_15 : (k : Int) < 65536
 ·refine xe 2 [(25, .eq (.bool true))] [(0, .int .i32 (k : Int)), (23, .bool true)] [Value.bool (decide ((k : Int) < 65536)) = Value.bool true] ⟨congrArg Value.bool (decide_eq_true (c_15)), trivial⟩ ?_
  refine nl (ct (sq (rg (xwe 14 [(27, .eq (.int .i32 ((k / 4096 : Nat) : Int))), (28, .eq (.int .i32 (224 + ((k / 4096 : Nat) : Int)))), (29, .eq (.int .u8 (224 + ((k / 4096 : Nat) : Int)))), (31, .eq (.int .i32 ((k / 64 : Nat) : Int))), (32, .eq (.int .i32 (((k / 64) % 64 : Nat) : Int))), (33, .eq (.int .i32 (128 + (((k / 64) % 64 : Nat) : Int)))), (34, .eq (.int .u8 (128 + (((k / 64) % 64 : Nat) : Int)))), (36, .eq (.int .i32 ((k % 64 : Nat) : Int))), (37, .eq (.int .i32 (128 + ((k % 64 : Nat) : Int)))), (38, .eq (.int .u8 (128 + ((k % 64 : Nat) : Int))))] [(39, .slice (some ⟨w.heap.size, 0, none⟩) 3 3)] (w.alloc (.cells #[.int .u8 (224 + ((k / 4096 : Nat) : Int)), .int .u8 (128 + (((k / 64) % 64 : Nat) : Int)), .int .u8 (128 + ((k % 64 : Nat) : Int))] 5)) [Value.int .i32 (IntKind.i32.wrap (Int.tdiv (k : Int) 4096)) = .int .i32 ((k / 4096 : Nat) : Int), Value.int .i32 (IntKind.i32.wrap (224 + ((k / 4096 : Nat) : Int))) = Value.int .i32 (224 + ((k / 4096 : Nat) : Int)), Value.int .u8 (IntKind.u8.wrap (224 + ((k / 4096 : Nat) : Int))) = Value.int .u8 (224 + ((k / 4096 : Nat) : Int)), Value.int .i32 (IntKind.i32.wrap (Int.tdiv (k : Int) 64)) = .int .i32 ((k / 64 : Nat) : Int), Value.int .i32 (Int.tmod ((k / 64 : Nat) : Int) 64) = .int .i32 (((k / 64) % 64 : Nat) : Int), Value.int .i32 (IntKind.i32.wrap (128 + (((k / 64) % 64 : Nat) : Int))) = Value.int .i32 (128 + (((k / 64) % 64 : Nat) : Int)), Value.int .u8 (IntKind.u8.wrap (128 + (((k / 64) % 64 : Nat) : Int))) = Value.int .u8 (128 + (((k / 64) % 64 : Nat) : Int)), Value.int .i32 (Int.tmod (k : Int) 64) = .int .i32 ((k % 64 : Nat) : Int), Value.int .i32 (IntKind.i32.wrap (128 + ((k % 64 : Nat) : Int))) = Value.int .i32 (128 + ((k % 64 : Nat) : Int)), Value.int .u8 (IntKind.u8.wrap (128 + ((k % 64 : Nat) : Int))) = Value.int .u8 (128 + ((k % 64 : Nat) : Int))] ⟨tdN k 4096 (by omega), wr_i32 (by omega) (by omega), wr_u8 (by omega) (by omega), tdN k 64 (by omega), tmN (k / 64) 64, wr_i32 (by omega) (by omega), wr_u8 (by omega) (by omega), tmN k 64, wr_i32 (by omega) (by omega), wr_u8 (by omega) (by omega), trivial⟩ ?_))))
  obtain ⟨w_16, hw_20, hb_17, hk_18, hz_19⟩ := new_world w #[.int .u8 (224 + ((k / 4096 : Nat) : Int)), .int .u8 (128 + (((k / 64) % 64 : Nat) : Int)), .int .u8 (128 + ((k % 64 : Nat) : Int))] 5
  rw [hw_20]
  have hr_21 := Kd.R_litB (Kd.int .u8) (W := w) (e := 5) (cs := #[.int .u8 (224 + ((k / 4096 : Nat) : Int)), .int .u8 (128 + (((k / 64) % 64 : Nat) : Int)), .int .u8 (128 + ((k % 64 : Nat) : Int))]) [224 + ((k / 4096 : Nat) : Int), 128 + (((k / 64) % 64 : Nat) : Int), 128 + ((k % 64 : Nat) : Int)] hk_18 (repsInt [224 + ((k / 4096 : Nat) : Int), 128 + (((k / 64) % 64 : Nat) : Int), 128 + ((k % 64 : Nat) : Int)]) (Nat.le_of_ble_eq_true (by kernel_rfl))
  refine xe 2 [(40, .as (.string (strOfNums ([224 + ((k / 4096 : Nat) : Int), 128 + (((k / 64) % 64 : Nat) : Int), 128 + ((k % 64 : Nat) : Int)]))))] [(2, .string (strOfNums ([224 + ((k / 4096 : Nat) : Int), 128 + (((k / 64) % 64 : Nat) : Int), 128 + ((k % 64 : Nat) : Int)])))] [RunsAs Tryd.prog [(39, .slice (some ⟨w.heap.size, 0, none⟩) 3 3)] (Go.Op.convert 231 9 (Go.Operand.tmp 39)) 9 (.string (strOfNums ([224 + ((k / 4096 : Nat) : Int), 128 + (((k / 64) % 64 : Nat) : Int), 128 + ((k % 64 : Nat) : Int)]))) w_16] ⟨runs_conv rfl (conv_bytesC ([224 + ((k / 4096 : Nat) : Int), 128 + (((k / 64) % 64 : Nat) : Int), 128 + ((k % 64 : Nat) : Int)]) Tryd.underlying231 Tryd.underlying5 Tryd.underlying9 hr_21), trivial⟩ ?_
  refine nl (X_ret (rk [.string (strOfNums ([224 + ((k / 4096 : Nat) : Int), 128 + (((k / 64) % 64 : Nat) : Int), 128 + ((k % 64 : Nat) : Int)]))] (hR_ _ _ ?_)))
  rw [show (strOfNums ([224 + ((k / 4096 : Nat) : Int), 128 + (((k / 64) % 64 : Nat) : Int), 128 + ((k % 64 : Nat) : Int)])) = U.encB k from str_of (by simp only [List.map_cons, List.map_nil]; rfl) (U.enc_3 (by unfold U.vr; omega) (by omega) (by omega))]
  exact ⟨rfl, hb_17⟩
 refine xe 2 [(25, .eq (.bool false))] [(0, .int .i32 (k : Int)), (23, .bool false)] [Value.bool (decide ((k : Int) < 65536)) = Value.bool false] ⟨congrArg Value.bool (decide_eq_false (c_15)), trivial⟩ ?_
 refine nl (cf (sk (sq (rg (xwe 19 [(42, .eq (.int .i32 ((k / 262144 : Nat) : Int))), (43, .eq (.int .i32 (240 + ((k / 262144 : Nat) : Int)))), (44, .eq (.int .u8 (240 + ((k / 262144 : Nat) : Int)))), (46, .eq (.int .i32 ((k / 4096 : Nat) : Int))), (47, .eq (.int .i32 (((k / 4096) % 64 : Nat) : Int))), (48, .eq (.int .i32 (128 + (((k / 4096) % 64 : Nat) : Int)))), (49, .eq (.int .u8 (128 + (((k / 4096) % 64 : Nat) : Int)))), (51, .eq (.int .i32 ((k / 64 : Nat) : Int))), (52, .eq (.int .i32 (((k / 64) % 64 : Nat) : Int))), (53, .eq (.int .i32 (128 + (((k / 64) % 64 : Nat) : Int)))), (54, .eq (.int .u8 (128 + (((k / 64) % 64 : Nat) : Int)))), (56, .eq (.int .i32 ((k % 64 : Nat) : Int))), (57, .eq (.int .i32 (128 + ((k % 64 : Nat) : Int)))), (58, .eq (.int .u8 (128 + ((k % 64 : Nat) : Int))))] [(59, .slice (some ⟨w.heap.size, 0, none⟩) 4 4)] (w.alloc (.cells #[.int .u8 (240 + ((k / 262144 : Nat) : Int)), .int .u8 (128 + (((k / 4096) % 64 : Nat) : Int)), .int .u8 (128 + (((k / 64) % 64 : Nat) : Int)), .int .u8 (128 + ((k % 64 : Nat) : Int))] 5)) [Value.int .i32 (IntKind.i32.wrap (Int.tdiv (k : Int) 262144)) = .int .i32 ((k / 262144 : Nat) : Int), Value.int .i32 (IntKind.i32.wrap (240 + ((k / 262144 : Nat) : Int))) = Value.int .i32 (240 + ((k / 262144 : Nat) : Int)), Value.int .u8 (IntKind.u8.wrap (240 + ((k / 262144 : Nat) : Int))) = Value.int .u8 (240 + ((k / 262144 : Nat) : Int)), Value.int .i32 (IntKind.i32.wrap (Int.tdiv (k : Int) 4096)) = .int .i32 ((k / 4096 : Nat) : Int), Value.int .i32 (Int.tmod ((k / 4096 : Nat) : Int) 64) = .int .i32 (((k / 4096) % 64 : Nat) : Int), Value.int .i32 (IntKind.i32.wrap (128 + (((k / 4096) % 64 : Nat) : Int))) = Value.int .i32 (128 + (((k / 4096) % 64 : Nat) : Int)), Value.int .u8 (IntKind.u8.wrap (128 + (((k / 4096) % 64 : Nat) : Int))) = Value.int .u8 (128 + (((k / 4096) % 64 : Nat) : Int)), Value.int .i32 (IntKind.i32.wrap (Int.tdiv (k : Int) 64)) = .int .i32 ((k / 64 : Nat) : Int), Value.int .i32 (Int.tmod ((k / 64 : Nat) : Int) 64) = .int .i32 (((k / 64) % 64 : Nat) : Int), Value.int .i32 (IntKind.i32.wrap (128 + (((k / 64) % 64 : Nat) : Int))) = Value.int .i32 (128 + (((k / 64) % 64 : Nat) : Int)), Value.int .u8 (IntKind.u8.wrap (128 + (((k / 64) % 64 : Nat) : Int))) = Value.int .u8 (128 + (((k / 64) % 64 : Nat) : Int)), Value.int .i32 (Int.tmod (k : Int) 64) = .int .i32 ((k % 64 : Nat) : Int), Value.int .i32 (IntKind.i32.wrap (128 + ((k % 64 : Nat) : Int))) = Value.int .i32 (128 + ((k % 64 : Nat) : Int)), Value.int .u8 (IntKind.u8.wrap (128 + ((k % 64 : Nat) : Int))) = Value.int .u8 (128 + ((k % 64 : Nat) : Int))] ⟨tdN k 262144 (by omega), wr_i32 (by omega) (by omega), wr_u8 (by omega) (by omega), tdN k 4096 (by omega), tmN (k / 4096) 64, wr_i32 (by omega) (by omega), wr_u8 (by omega) (by omega), tdN k 64 (by omega), tmN (k / 64) 64, wr_i32 (by omega) (by omega), wr_u8 (by omega) (by omega), tmN k 64, wr_i32 (by omega) (by omega), wr_u8 (by omega) (by omega), trivial⟩ ?_)))))
 obtain ⟨w_22, hw_26, hb_23, hk_24, hz_25⟩ := new_world w #[.int .u8 (240 + ((k / 262144 : Nat) : Int)), .int .u8 (128 + (((k / 4096) % 64 : Nat) : Int)), .int .u8 (128 + (((k / 64) % 64 : Nat) : Int)), .int .u8 (128 + ((k % 64 : Nat) : Int))] 5
 rw [hw_26]
 have hr_27 := Kd.R_litB (Kd.int .u8) (W := w) (e := 5) (cs := #[.int .u8 (240 + ((k / 262144 : Nat) : Int)), .int .u8 (128 + (((k / 4096) % 64 : Nat) : Int)), .int .u8 (128 + (((k / 64) % 64 : Nat) : Int)), .int .u8 (128 + ((k % 64 : Nat) : Int))]) [240 + ((k / 262144 : Nat) : Int), 128 + (((k / 4096) % 64 : Nat) : Int), 128 + (((k / 64) % 64 : Nat) : Int), 128 + ((k % 64 : Nat) : Int)] hk_24 (repsInt [240 + ((k / 262144 : Nat) : Int), 128 + (((k / 4096) % 64 : Nat) : Int), 128 + (((k / 64) % 64 : Nat) : Int), 128 + ((k % 64 : Nat) : Int)]) (Nat.le_of_ble_eq_true (by kernel_rfl))
 refine xe 2 [(60, .as (.string (strOfNums ([240 + ((k / 262144 : Nat) : Int), 128 + (((k / 4096) % 64 : Nat) : Int), 128 + (((k / 64) % 64 : Nat) : Int), 128 + ((k % 64 : Nat) : Int)]))))] [(2, .string (strOfNums ([240 + ((k / 262144 : Nat) : Int), 128 + (((k / 4096) % 64 : Nat) : Int), 128 + (((k / 64) % 64 : Nat) : Int), 128 + ((k % 64 : Nat) : Int)])))] [RunsAs Tryd.prog [(59, .slice (some ⟨w.heap.size, 0, none⟩) 4 4)] (Go.Op.convert 231 9 (Go.Operand.tmp 59)) 9 (.string (strOfNums ([240 + ((k / 262144 : Nat) : Int), 128 + (((k / 4096) % 64 : Nat) : Int), 128 + (((k / 64) % 64 : Nat) : Int), 128 + ((k % 64 : Nat) : Int)]))) w_22] ⟨runs_conv rfl (conv_bytesC ([240 + ((k / 262144 : Nat) : Int), 128 + (((k / 4096) % 64 : Nat) : Int), 128 + (((k / 64) % 64 : Nat) : Int), 128 + ((k % 64 : Nat) : Int)]) Tryd.underlying231 Tryd.underlying5 Tryd.underlying9 hr_27), trivial⟩ ?_
 refine nl (X_ret (rk [.string (strOfNums ([240 + ((k / 262144 : Nat) : Int), 128 + (((k / 4096) % 64 : Nat) : Int), 128 + (((k / 64) % 64 : Nat) : Int), 128 + ((k % 64 : Nat) : Int)]))] (hR_ _ _ ?_)))
 rw [show (strOfNums ([240 + ((k / 262144 : Nat) : Int), 128 + (((k / 4096) % 64 : Nat) : Int), 128 + (((k / 64) % 64 : Nat) : Int), 128 + ((k % 64 : Nat) : Int)])) = U.encB k from str_of (by simp only [List.map_cons, List.map_nil]; rfl) (U.enc_4 (by unfold U.vr; omega) (by omega))]
 exact ⟨rfl, hb_23⟩
end Go.Proofs.YtkehomiogkoomaaDoor
