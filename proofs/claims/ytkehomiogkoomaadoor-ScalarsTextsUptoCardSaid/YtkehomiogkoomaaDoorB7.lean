/- What vellumref01 answers. Conditions: sizes. -/
import Derived.Test.YtkehomiogkoomaaDoorB1
import Derived.Test.YtkehomiogkoomaaDoorUtf4
import Derived.Test.YtkehomiogkoomaaDoorAn2
import Derived.Test.YtkehomiogkoomaaDoorStr2
set_option linter.unusedVariables false
set_option linter.unusedSimpArgs false
set_option maxRecDepth 100000
namespace Go.Proofs.YtkehomiogkoomaaDoor
open Go Go.RowKit Go.Proofs.YtkehomiogkoomaaDoorW.PrintWords RX
theorem info5 : (Tryd.prog.info? 5).map (fun i => (i.zero, i.size, i.bytes)) = some (some (.int .u8 0), 1, 1) := by kernel_rfl
theorem ent144 : Ent Tryd.prog 144 := ent_of Tryd.func144 (by kernel_rfl) rfl
theorem ent145 : Ent Tryd.prog 145 := ent_of Tryd.func145 (by kernel_rfl) rfl
theorem ent141 : Ent Tryd.prog 141 := ent_of Tryd.func141 (by kernel_rfl) rfl
theorem ent90 : Ent Tryd.prog 90 := ent_of Tryd.func90 (by kernel_rfl) rfl
theorem ent88 : Ent Tryd.prog 88 := ent_of Tryd.func88 (by kernel_rfl) rfl
theorem ent19 : Ent Tryd.prog 19 := ent_of Tryd.func19 (by kernel_rfl) rfl
theorem ent17 : Ent Tryd.prog 17 := ent_of Tryd.func17 (by kernel_rfl) rfl
theorem ent94 : Ent Tryd.prog 94 := ent_of Tryd.func94 (by kernel_rfl) rfl
theorem tmN {k : IntKind} (b c : Nat) : Value.int k (Int.tmod (b : Int) (c : Int)) = .int k ((b % c : Nat) : Int) := by rw [Int.tmod_eq_emod_of_nonneg (by omega)]; rfl
theorem tdN (b c : Nat) (h : b ≤ 2147483647) : Value.int .i32 (IntKind.i32.wrap (Int.tdiv (b : Int) (c : Int))) = .int .i32 ((b / c : Nat) : Int) := by
  have key : ∀ q : Nat, q ≤ 2147483647 → Value.int .i32 (IntKind.i32.wrap (q : Int)) = .int .i32 (q : Int) := fun q hq => by rw [IntWalk.i32_in _ ⟨by omega, by omega⟩]
  rw [Int.tdiv_eq_ediv_of_nonneg (by omega)]
  exact key _ (Nat.le_trans (Nat.div_le_self b c) h)
theorem refScalar_any (r : Int) (w : World) : Calls Tryd.prog 144 #[.int .i32 r] w fun e w' => e = .returned (.bool (decide (U.vz r))) ∧ Below w.heap.size w w' := by
  refine RX.enter Tryd.func144 rfl 17 rfl [(0, .int .i32 r)] rfl (by kernel_rfl) (fun R_ hR_ => ?_)
  refine X_seq ?_
  refine X_region ?_
  refine XL_run 1 [] [(0, .int .i32 r)] w [] (by kernel_rfl) trivial ?_
  refine XL_nil ?_
  refine X_seq ?_
  refine X_region ?_
  refine XL_run 1 [] [(0, .int .i32 r), (3, .int .i32 r)] w [] (by kernel_rfl) trivial ?_
  by_cases c_1 : r ≥ 0
  · refine XL_run 3 [(4, .eq (.bool true))] [(0, .int .i32 r), (5, .bool true), (6, .int .i32 r)] w [Value.bool (decide (r ≥ 0)) = Value.bool true] (by kernel_rfl) ⟨congrArg Value.bool (decide_eq_true (c_1)), trivial⟩ ?_
    by_cases c_2 : r < 55296
    · refine XL_run 11 [(7, .eq (.bool true))] [(2, .bool true)] w [Value.bool (decide (r < 55296)) = Value.bool true] (by kernel_rfl) ⟨congrArg Value.bool (decide_eq_true (c_2)), trivial⟩ ?_
      refine XL_nil ?_
      refine X_ret ?_
      refine RX.ret_ok (P := Tryd.prog) (fn := Tryd.f144) (N := 17) (R := R_) [.bool true] (by kernel_rfl) (hR_ _ _ ?_)
      rw [decide_eq_true (by unfold U.vz U.vr; omega)]
      exact ⟨rfl, (Below.refl _ _)⟩
    · refine XL_run 4 [(7, .eq (.bool false))] [(0, .int .i32 r), (9, .bool false), (10, .int .i32 r)] w [Value.bool (decide (r < 55296)) = Value.bool false] (by kernel_rfl) ⟨congrArg Value.bool (decide_eq_false (c_2)), trivial⟩ ?_
      by_cases c_3 : r ≥ 57344
      · refine XL_run 3 [(11, .eq (.bool true))] [(9, .bool false), (12, .bool true), (13, .int .i32 r)] w [Value.bool (decide (r ≥ 57344)) = Value.bool true] (by kernel_rfl) ⟨congrArg Value.bool (decide_eq_true (c_3)), trivial⟩ ?_
        by_cases c_4 : r ≤ 1114111
        · refine XL_run 4 [(14, .eq (.bool true))] [(2, .bool true)] w [Value.bool (decide (r ≤ 1114111)) = Value.bool true] (by kernel_rfl) ⟨congrArg Value.bool (decide_eq_true (c_4)), trivial⟩ ?_
          refine XL_nil ?_
          refine X_ret ?_
          refine RX.ret_ok (P := Tryd.prog) (fn := Tryd.f144) (N := 17) (R := R_) [.bool true] (by kernel_rfl) (hR_ _ _ ?_)
          rw [decide_eq_true (by unfold U.vz U.vr; omega)]
          exact ⟨rfl, (Below.refl _ _)⟩
        · refine XL_run 4 [(14, .eq (.bool false))] [(2, .bool false)] w [Value.bool (decide (r ≤ 1114111)) = Value.bool false] (by kernel_rfl) ⟨congrArg Value.bool (decide_eq_false (c_4)), trivial⟩ ?_
          refine XL_nil ?_
          refine X_ret ?_
          refine RX.ret_ok (P := Tryd.prog) (fn := Tryd.f144) (N := 17) (R := R_) [.bool false] (by kernel_rfl) (hR_ _ _ ?_)
          rw [decide_eq_false (by unfold U.vz U.vr; omega)]
          exact ⟨rfl, (Below.refl _ _)⟩
      · refine XL_run 7 [(11, .eq (.bool false))] [(2, .bool false)] w [Value.bool (decide (r ≥ 57344)) = Value.bool false] (by kernel_rfl) ⟨congrArg Value.bool (decide_eq_false (c_3)), trivial⟩ ?_
        refine XL_nil ?_
        refine X_ret ?_
        refine RX.ret_ok (P := Tryd.prog) (fn := Tryd.f144) (N := 17) (R := R_) [.bool false] (by kernel_rfl) (hR_ _ _ ?_)
        rw [decide_eq_false (by unfold U.vz U.vr; omega)]
        exact ⟨rfl, (Below.refl _ _)⟩
  · refine XL_run 7 [(4, .eq (.bool false))] [(0, .int .i32 r), (9, .bool false), (10, .int .i32 r)] w [Value.bool (decide (r ≥ 0)) = Value.bool false] (by kernel_rfl) ⟨congrArg Value.bool (decide_eq_false (c_1)), trivial⟩ ?_
    by_cases c_5 : r ≥ 57344
    · refine XL_run 3 [(11, .eq (.bool true))] [(9, .bool false), (12, .bool true), (13, .int .i32 r)] w [Value.bool (decide (r ≥ 57344)) = Value.bool true] (by kernel_rfl) ⟨congrArg Value.bool (decide_eq_true (c_5)), trivial⟩ ?_
      by_cases c_6 : r ≤ 1114111
      · refine XL_run 4 [(14, .eq (.bool true))] [(2, .bool true)] w [Value.bool (decide (r ≤ 1114111)) = Value.bool true] (by kernel_rfl) ⟨congrArg Value.bool (decide_eq_true (c_6)), trivial⟩ ?_
        refine XL_nil ?_
        refine X_ret ?_
        refine RX.ret_ok (P := Tryd.prog) (fn := Tryd.f144) (N := 17) (R := R_) [.bool true] (by kernel_rfl) (hR_ _ _ ?_)
        rw [decide_eq_true (by unfold U.vz U.vr; omega)]
        exact ⟨rfl, (Below.refl _ _)⟩
      · refine XL_run 4 [(14, .eq (.bool false))] [(2, .bool false)] w [Value.bool (decide (r ≤ 1114111)) = Value.bool false] (by kernel_rfl) ⟨congrArg Value.bool (decide_eq_false (c_6)), trivial⟩ ?_
        refine XL_nil ?_
        refine X_ret ?_
        refine RX.ret_ok (P := Tryd.prog) (fn := Tryd.f144) (N := 17) (R := R_) [.bool false] (by kernel_rfl) (hR_ _ _ ?_)
        rw [decide_eq_false (by unfold U.vz U.vr; omega)]
        exact ⟨rfl, (Below.refl _ _)⟩
    · refine XL_run 7 [(11, .eq (.bool false))] [(2, .bool false)] w [Value.bool (decide (r ≥ 57344)) = Value.bool false] (by kernel_rfl) ⟨congrArg Value.bool (decide_eq_false (c_5)), trivial⟩ ?_
      refine XL_nil ?_
      refine X_ret ?_
      refine RX.ret_ok (P := Tryd.prog) (fn := Tryd.f144) (N := 17) (R := R_) [.bool false] (by kernel_rfl) (hR_ _ _ ?_)
      rw [decide_eq_false (by unfold U.vz U.vr; omega)]
      exact ⟨rfl, (Below.refl _ _)⟩
theorem str_of {xs : List Int} {ys : List UInt8} (h : xs.map (fun n => UInt8.ofNat n.toNat) = ys) {m : Nat} (e : U.enc m = ys) : strOfNums xs = U.encB m := by
  unfold strOfNums U.encB
  rw [h, e]
theorem toNat_add_cast (a b : Nat) : ((a : Int) + (b : Int)).toNat = a + b := by omega
set_option maxHeartbeats 1000000 in
theorem encode_any (k : Nat) (hv : U.vr k) (w : World) : Calls Tryd.prog 145 #[.int .i32 (k : Int)] w fun e w' => e = .returned (.string (U.encB k)) ∧ Below w.heap.size w w' := by
  have hv' := hv
  unfold U.vr at hv'
  refine RX.enter Tryd.func145 rfl 61 rfl [(0, .int .i32 (k : Int))] rfl (by kernel_rfl) (fun R_ hR_ => ?_)
  refine X_seq ?_
  refine X_region ?_
  refine XL_run 1 [] [(0, .int .i32 (k : Int))] w [] (by kernel_rfl) trivial ?_
  refine XL_nil ?_
  refine X_seq ?_
  refine X_block ?_
  refine X_seq ?_
  refine X_region ?_
  refine XL_run 1 [] [(0, .int .i32 (k : Int)), (4, .int .i32 (k : Int))] w [] (by kernel_rfl) trivial ?_
  by_cases c_1 : (k : Int) < 128
  · refine XL_run 2 [(5, .eq (.bool true))] [(0, .int .i32 (k : Int)), (3, .bool true)] w [Value.bool (decide ((k : Int) < 128)) = Value.bool true] (by kernel_rfl) ⟨congrArg Value.bool (decide_eq_true (c_1)), trivial⟩ ?_
    refine XL_nil ?_
    refine X_cond true rfl ?_
    refine X_seq ?_
    refine X_region ?_
    refine XL_run 3 [(7, .eq (.int .u8 (k : Int)))] [(8, .slice (some ⟨w.heap.size, 0, none⟩) 1 1)] (w.alloc (.cells #[.int .u8 (k : Int)] 5)) [Value.int .u8 (IntKind.u8.wrap ((k : Int))) = Value.int .u8 (k : Int)] (by kernel_rfl) ⟨wr_u8 (by omega) (by omega), trivial⟩ ?_
    obtain ⟨w_2, hw_6, hb_3, hk_4, hz_5⟩ := new_world w #[.int .u8 (k : Int)] 5
    rw [hw_6]
    have hr_7 := Kd.R_litB (Kd.int .u8) (W := w) (e := 5) (cs := #[.int .u8 (k : Int)]) [(k : Int)] hk_4 (repsInt [(k : Int)]) (Nat.le_of_ble_eq_true (by kernel_rfl))
    refine XL_run 2 [(9, .as (.string (strOfNums ([(k : Int)]))))] [(2, .string (strOfNums ([(k : Int)])))] w_2 [RunsAs Tryd.prog [(8, .slice (some ⟨w.heap.size, 0, none⟩) 1 1)] (Go.Op.convert 231 9 (Go.Operand.tmp 8)) 9 (.string (strOfNums ([(k : Int)]))) w_2] (by kernel_rfl) ⟨runs_conv rfl (conv_bytesC ([(k : Int)]) Tryd.underlying231 Tryd.underlying5 Tryd.underlying9 hr_7), trivial⟩ ?_
    refine XL_nil ?_
    refine X_ret ?_
    refine RX.ret_ok (P := Tryd.prog) (fn := Tryd.f145) (N := 61) (R := R_) [.string (strOfNums ([(k : Int)]))] (by kernel_rfl) (hR_ _ _ ?_)
    rw [show (strOfNums ([(k : Int)])) = U.encB k from str_of (by simp only [List.map_cons, List.map_nil]; rfl) (U.enc_1 (by omega))]
    exact ⟨rfl, hb_3⟩
  · refine XL_run 2 [(5, .eq (.bool false))] [(0, .int .i32 (k : Int)), (3, .bool false)] w [Value.bool (decide ((k : Int) < 128)) = Value.bool false] (by kernel_rfl) ⟨congrArg Value.bool (decide_eq_false (c_1)), trivial⟩ ?_
    refine XL_nil ?_
    refine X_cond false rfl ?_
    refine X_seq ?_
    refine X_region ?_
    refine XL_run 1 [] [(0, .int .i32 (k : Int)), (11, .int .i32 (k : Int))] w [] (by kernel_rfl) trivial ?_
    by_cases c_8 : (k : Int) < 2048
    · refine XL_run 2 [(12, .eq (.bool true))] [(0, .int .i32 (k : Int)), (10, .bool true)] w [Value.bool (decide ((k : Int) < 2048)) = Value.bool true] (by kernel_rfl) ⟨congrArg Value.bool (decide_eq_true (c_8)), trivial⟩ ?_
      refine XL_nil ?_
      refine X_cond true rfl ?_
      refine X_seq ?_
      refine X_region ?_
      refine XL_run 9 [(14, .eq (.int .i32 ((k / 64 : Nat) : Int))), (15, .eq (.int .i32 (192 + ((k / 64 : Nat) : Int)))), (16, .eq (.int .u8 (192 + ((k / 64 : Nat) : Int)))), (18, .eq (.int .i32 ((k % 64 : Nat) : Int))), (19, .eq (.int .i32 (128 + ((k % 64 : Nat) : Int)))), (20, .eq (.int .u8 (128 + ((k % 64 : Nat) : Int))))] [(21, .slice (some ⟨w.heap.size, 0, none⟩) 2 2)] (w.alloc (.cells #[.int .u8 (192 + ((k / 64 : Nat) : Int)), .int .u8 (128 + ((k % 64 : Nat) : Int))] 5)) [Value.int .i32 (IntKind.i32.wrap (Int.tdiv (k : Int) 64)) = .int .i32 ((k / 64 : Nat) : Int), Value.int .i32 (IntKind.i32.wrap (192 + ((k / 64 : Nat) : Int))) = Value.int .i32 (192 + ((k / 64 : Nat) : Int)), Value.int .u8 (IntKind.u8.wrap (192 + ((k / 64 : Nat) : Int))) = Value.int .u8 (192 + ((k / 64 : Nat) : Int)), Value.int .i32 (Int.tmod (k : Int) 64) = .int .i32 ((k % 64 : Nat) : Int), Value.int .i32 (IntKind.i32.wrap (128 + ((k % 64 : Nat) : Int))) = Value.int .i32 (128 + ((k % 64 : Nat) : Int)), Value.int .u8 (IntKind.u8.wrap (128 + ((k % 64 : Nat) : Int))) = Value.int .u8 (128 + ((k % 64 : Nat) : Int))] (by kernel_rfl) ⟨tdN k 64 (by omega), wr_i32 (by omega) (by omega), wr_u8 (by omega) (by omega), tmN k 64, wr_i32 (by omega) (by omega), wr_u8 (by omega) (by omega), trivial⟩ ?_
      obtain ⟨w_9, hw_13, hb_10, hk_11, hz_12⟩ := new_world w #[.int .u8 (192 + ((k / 64 : Nat) : Int)), .int .u8 (128 + ((k % 64 : Nat) : Int))] 5
      rw [hw_13]
      have hr_14 := Kd.R_litB (Kd.int .u8) (W := w) (e := 5) (cs := #[.int .u8 (192 + ((k / 64 : Nat) : Int)), .int .u8 (128 + ((k % 64 : Nat) : Int))]) [192 + ((k / 64 : Nat) : Int), 128 + ((k % 64 : Nat) : Int)] hk_11 (repsInt [192 + ((k / 64 : Nat) : Int), 128 + ((k % 64 : Nat) : Int)]) (Nat.le_of_ble_eq_true (by kernel_rfl))
      refine XL_run 2 [(22, .as (.string (strOfNums ([192 + ((k / 64 : Nat) : Int), 128 + ((k % 64 : Nat) : Int)]))))] [(2, .string (strOfNums ([192 + ((k / 64 : Nat) : Int), 128 + ((k % 64 : Nat) : Int)])))] w_9 [RunsAs Tryd.prog [(21, .slice (some ⟨w.heap.size, 0, none⟩) 2 2)] (Go.Op.convert 231 9 (Go.Operand.tmp 21)) 9 (.string (strOfNums ([192 + ((k / 64 : Nat) : Int), 128 + ((k % 64 : Nat) : Int)]))) w_9] (by kernel_rfl) ⟨runs_conv rfl (conv_bytesC ([192 + ((k / 64 : Nat) : Int), 128 + ((k % 64 : Nat) : Int)]) Tryd.underlying231 Tryd.underlying5 Tryd.underlying9 hr_14), trivial⟩ ?_
      refine XL_nil ?_
      refine X_ret ?_
      refine RX.ret_ok (P := Tryd.prog) (fn := Tryd.f145) (N := 61) (R := R_) [.string (strOfNums ([192 + ((k / 64 : Nat) : Int), 128 + ((k % 64 : Nat) : Int)]))] (by kernel_rfl) (hR_ _ _ ?_)
      rw [show (strOfNums ([192 + ((k / 64 : Nat) : Int), 128 + ((k % 64 : Nat) : Int)])) = U.encB k from str_of (by simp only [List.map_cons, List.map_nil]; rfl) (U.enc_2 (by omega) (by omega))]
      exact ⟨rfl, hb_10⟩
    · refine XL_run 2 [(12, .eq (.bool false))] [(0, .int .i32 (k : Int)), (10, .bool false)] w [Value.bool (decide ((k : Int) < 2048)) = Value.bool false] (by kernel_rfl) ⟨congrArg Value.bool (decide_eq_false (c_8)), trivial⟩ ?_
      refine XL_nil ?_
      refine X_cond false rfl ?_
      refine X_seq ?_
      refine X_region ?_
      refine XL_run 1 [] [(0, .int .i32 (k : Int)), (24, .int .i32 (k : Int))] w [] (by kernel_rfl) trivial ?_
      by_cases c_15 : (k : Int) < 65536
      · refine XL_run 2 [(25, .eq (.bool true))] [(0, .int .i32 (k : Int)), (23, .bool true)] w [Value.bool (decide ((k : Int) < 65536)) = Value.bool true] (by kernel_rfl) ⟨congrArg Value.bool (decide_eq_true (c_15)), trivial⟩ ?_
        refine XL_nil ?_
        refine X_cond true rfl ?_
        refine X_seq ?_
        refine X_region ?_
        refine XL_run 14 [(27, .eq (.int .i32 ((k / 4096 : Nat) : Int))), (28, .eq (.int .i32 (224 + ((k / 4096 : Nat) : Int)))), (29, .eq (.int .u8 (224 + ((k / 4096 : Nat) : Int)))), (31, .eq (.int .i32 ((k / 64 : Nat) : Int))), (32, .eq (.int .i32 (((k / 64) % 64 : Nat) : Int))), (33, .eq (.int .i32 (128 + (((k / 64) % 64 : Nat) : Int)))), (34, .eq (.int .u8 (128 + (((k / 64) % 64 : Nat) : Int)))), (36, .eq (.int .i32 ((k % 64 : Nat) : Int))), (37, .eq (.int .i32 (128 + ((k % 64 : Nat) : Int)))), (38, .eq (.int .u8 (128 + ((k % 64 : Nat) : Int))))] [(39, .slice (some ⟨w.heap.size, 0, none⟩) 3 3)] (w.alloc (.cells #[.int .u8 (224 + ((k / 4096 : Nat) : Int)), .int .u8 (128 + (((k / 64) % 64 : Nat) : Int)), .int .u8 (128 + ((k % 64 : Nat) : Int))] 5)) [Value.int .i32 (IntKind.i32.wrap (Int.tdiv (k : Int) 4096)) = .int .i32 ((k / 4096 : Nat) : Int), Value.int .i32 (IntKind.i32.wrap (224 + ((k / 4096 : Nat) : Int))) = Value.int .i32 (224 + ((k / 4096 : Nat) : Int)), Value.int .u8 (IntKind.u8.wrap (224 + ((k / 4096 : Nat) : Int))) = Value.int .u8 (224 + ((k / 4096 : Nat) : Int)), Value.int .i32 (IntKind.i32.wrap (Int.tdiv (k : Int) 64)) = .int .i32 ((k / 64 : Nat) : Int), Value.int .i32 (Int.tmod ((k / 64 : Nat) : Int) 64) = .int .i32 (((k / 64) % 64 : Nat) : Int), Value.int .i32 (IntKind.i32.wrap (128 + (((k / 64) % 64 : Nat) : Int))) = Value.int .i32 (128 + (((k / 64) % 64 : Nat) : Int)), Value.int .u8 (IntKind.u8.wrap (128 + (((k / 64) % 64 : Nat) : Int))) = Value.int .u8 (128 + (((k / 64) % 64 : Nat) : Int)), Value.int .i32 (Int.tmod (k : Int) 64) = .int .i32 ((k % 64 : Nat) : Int), Value.int .i32 (IntKind.i32.wrap (128 + ((k % 64 : Nat) : Int))) = Value.int .i32 (128 + ((k % 64 : Nat) : Int)), Value.int .u8 (IntKind.u8.wrap (128 + ((k % 64 : Nat) : Int))) = Value.int .u8 (128 + ((k % 64 : Nat) : Int))] (by kernel_rfl) ⟨tdN k 4096 (by omega), wr_i32 (by omega) (by omega), wr_u8 (by omega) (by omega), tdN k 64 (by omega), tmN (k / 64) 64, wr_i32 (by omega) (by omega), wr_u8 (by omega) (by omega), tmN k 64, wr_i32 (by omega) (by omega), wr_u8 (by omega) (by omega), trivial⟩ ?_
        obtain ⟨w_16, hw_20, hb_17, hk_18, hz_19⟩ := new_world w #[.int .u8 (224 + ((k / 4096 : Nat) : Int)), .int .u8 (128 + (((k / 64) % 64 : Nat) : Int)), .int .u8 (128 + ((k % 64 : Nat) : Int))] 5
        rw [hw_20]
        have hr_21 := Kd.R_litB (Kd.int .u8) (W := w) (e := 5) (cs := #[.int .u8 (224 + ((k / 4096 : Nat) : Int)), .int .u8 (128 + (((k / 64) % 64 : Nat) : Int)), .int .u8 (128 + ((k % 64 : Nat) : Int))]) [224 + ((k / 4096 : Nat) : Int), 128 + (((k / 64) % 64 : Nat) : Int), 128 + ((k % 64 : Nat) : Int)] hk_18 (repsInt [224 + ((k / 4096 : Nat) : Int), 128 + (((k / 64) % 64 : Nat) : Int), 128 + ((k % 64 : Nat) : Int)]) (Nat.le_of_ble_eq_true (by kernel_rfl))
        refine XL_run 2 [(40, .as (.string (strOfNums ([224 + ((k / 4096 : Nat) : Int), 128 + (((k / 64) % 64 : Nat) : Int), 128 + ((k % 64 : Nat) : Int)]))))] [(2, .string (strOfNums ([224 + ((k / 4096 : Nat) : Int), 128 + (((k / 64) % 64 : Nat) : Int), 128 + ((k % 64 : Nat) : Int)])))] w_16 [RunsAs Tryd.prog [(39, .slice (some ⟨w.heap.size, 0, none⟩) 3 3)] (Go.Op.convert 231 9 (Go.Operand.tmp 39)) 9 (.string (strOfNums ([224 + ((k / 4096 : Nat) : Int), 128 + (((k / 64) % 64 : Nat) : Int), 128 + ((k % 64 : Nat) : Int)]))) w_16] (by kernel_rfl) ⟨runs_conv rfl (conv_bytesC ([224 + ((k / 4096 : Nat) : Int), 128 + (((k / 64) % 64 : Nat) : Int), 128 + ((k % 64 : Nat) : Int)]) Tryd.underlying231 Tryd.underlying5 Tryd.underlying9 hr_21), trivial⟩ ?_
        refine XL_nil ?_
        refine X_ret ?_
        refine RX.ret_ok (P := Tryd.prog) (fn := Tryd.f145) (N := 61) (R := R_) [.string (strOfNums ([224 + ((k / 4096 : Nat) : Int), 128 + (((k / 64) % 64 : Nat) : Int), 128 + ((k % 64 : Nat) : Int)]))] (by kernel_rfl) (hR_ _ _ ?_)
        rw [show (strOfNums ([224 + ((k / 4096 : Nat) : Int), 128 + (((k / 64) % 64 : Nat) : Int), 128 + ((k % 64 : Nat) : Int)])) = U.encB k from str_of (by simp only [List.map_cons, List.map_nil]; rfl) (U.enc_3 (by unfold U.vr; omega) (by omega) (by omega))]
        exact ⟨rfl, hb_17⟩
      · refine XL_run 2 [(25, .eq (.bool false))] [(0, .int .i32 (k : Int)), (23, .bool false)] w [Value.bool (decide ((k : Int) < 65536)) = Value.bool false] (by kernel_rfl) ⟨congrArg Value.bool (decide_eq_false (c_15)), trivial⟩ ?_
        refine XL_nil ?_
        refine X_cond false rfl ?_
        refine X_skip ?_
        refine X_seq ?_
        refine X_region ?_
        refine XL_run 19 [(42, .eq (.int .i32 ((k / 262144 : Nat) : Int))), (43, .eq (.int .i32 (240 + ((k / 262144 : Nat) : Int)))), (44, .eq (.int .u8 (240 + ((k / 262144 : Nat) : Int)))), (46, .eq (.int .i32 ((k / 4096 : Nat) : Int))), (47, .eq (.int .i32 (((k / 4096) % 64 : Nat) : Int))), (48, .eq (.int .i32 (128 + (((k / 4096) % 64 : Nat) : Int)))), (49, .eq (.int .u8 (128 + (((k / 4096) % 64 : Nat) : Int)))), (51, .eq (.int .i32 ((k / 64 : Nat) : Int))), (52, .eq (.int .i32 (((k / 64) % 64 : Nat) : Int))), (53, .eq (.int .i32 (128 + (((k / 64) % 64 : Nat) : Int)))), (54, .eq (.int .u8 (128 + (((k / 64) % 64 : Nat) : Int)))), (56, .eq (.int .i32 ((k % 64 : Nat) : Int))), (57, .eq (.int .i32 (128 + ((k % 64 : Nat) : Int)))), (58, .eq (.int .u8 (128 + ((k % 64 : Nat) : Int))))] [(59, .slice (some ⟨w.heap.size, 0, none⟩) 4 4)] (w.alloc (.cells #[.int .u8 (240 + ((k / 262144 : Nat) : Int)), .int .u8 (128 + (((k / 4096) % 64 : Nat) : Int)), .int .u8 (128 + (((k / 64) % 64 : Nat) : Int)), .int .u8 (128 + ((k % 64 : Nat) : Int))] 5)) [Value.int .i32 (IntKind.i32.wrap (Int.tdiv (k : Int) 262144)) = .int .i32 ((k / 262144 : Nat) : Int), Value.int .i32 (IntKind.i32.wrap (240 + ((k / 262144 : Nat) : Int))) = Value.int .i32 (240 + ((k / 262144 : Nat) : Int)), Value.int .u8 (IntKind.u8.wrap (240 + ((k / 262144 : Nat) : Int))) = Value.int .u8 (240 + ((k / 262144 : Nat) : Int)), Value.int .i32 (IntKind.i32.wrap (Int.tdiv (k : Int) 4096)) = .int .i32 ((k / 4096 : Nat) : Int), Value.int .i32 (Int.tmod ((k / 4096 : Nat) : Int) 64) = .int .i32 (((k / 4096) % 64 : Nat) : Int), Value.int .i32 (IntKind.i32.wrap (128 + (((k / 4096) % 64 : Nat) : Int))) = Value.int .i32 (128 + (((k / 4096) % 64 : Nat) : Int)), Value.int .u8 (IntKind.u8.wrap (128 + (((k / 4096) % 64 : Nat) : Int))) = Value.int .u8 (128 + (((k / 4096) % 64 : Nat) : Int)), Value.int .i32 (IntKind.i32.wrap (Int.tdiv (k : Int) 64)) = .int .i32 ((k / 64 : Nat) : Int), Value.int .i32 (Int.tmod ((k / 64 : Nat) : Int) 64) = .int .i32 (((k / 64) % 64 : Nat) : Int), Value.int .i32 (IntKind.i32.wrap (128 + (((k / 64) % 64 : Nat) : Int))) = Value.int .i32 (128 + (((k / 64) % 64 : Nat) : Int)), Value.int .u8 (IntKind.u8.wrap (128 + (((k / 64) % 64 : Nat) : Int))) = Value.int .u8 (128 + (((k / 64) % 64 : Nat) : Int)), Value.int .i32 (Int.tmod (k : Int) 64) = .int .i32 ((k % 64 : Nat) : Int), Value.int .i32 (IntKind.i32.wrap (128 + ((k % 64 : Nat) : Int))) = Value.int .i32 (128 + ((k % 64 : Nat) : Int)), Value.int .u8 (IntKind.u8.wrap (128 + ((k % 64 : Nat) : Int))) = Value.int .u8 (128 + ((k % 64 : Nat) : Int))] (by kernel_rfl) ⟨tdN k 262144 (by omega), wr_i32 (by omega) (by omega), wr_u8 (by omega) (by omega), tdN k 4096 (by omega), tmN (k / 4096) 64, wr_i32 (by omega) (by omega), wr_u8 (by omega) (by omega), tdN k 64 (by omega), tmN (k / 64) 64, wr_i32 (by omega) (by omega), wr_u8 (by omega) (by omega), tmN k 64, wr_i32 (by omega) (by omega), wr_u8 (by omega) (by omega), trivial⟩ ?_
        obtain ⟨w_22, hw_26, hb_23, hk_24, hz_25⟩ := new_world w #[.int .u8 (240 + ((k / 262144 : Nat) : Int)), .int .u8 (128 + (((k / 4096) % 64 : Nat) : Int)), .int .u8 (128 + (((k / 64) % 64 : Nat) : Int)), .int .u8 (128 + ((k % 64 : Nat) : Int))] 5
        rw [hw_26]
        have hr_27 := Kd.R_litB (Kd.int .u8) (W := w) (e := 5) (cs := #[.int .u8 (240 + ((k / 262144 : Nat) : Int)), .int .u8 (128 + (((k / 4096) % 64 : Nat) : Int)), .int .u8 (128 + (((k / 64) % 64 : Nat) : Int)), .int .u8 (128 + ((k % 64 : Nat) : Int))]) [240 + ((k / 262144 : Nat) : Int), 128 + (((k / 4096) % 64 : Nat) : Int), 128 + (((k / 64) % 64 : Nat) : Int), 128 + ((k % 64 : Nat) : Int)] hk_24 (repsInt [240 + ((k / 262144 : Nat) : Int), 128 + (((k / 4096) % 64 : Nat) : Int), 128 + (((k / 64) % 64 : Nat) : Int), 128 + ((k % 64 : Nat) : Int)]) (Nat.le_of_ble_eq_true (by kernel_rfl))
        refine XL_run 2 [(60, .as (.string (strOfNums ([240 + ((k / 262144 : Nat) : Int), 128 + (((k / 4096) % 64 : Nat) : Int), 128 + (((k / 64) % 64 : Nat) : Int), 128 + ((k % 64 : Nat) : Int)]))))] [(2, .string (strOfNums ([240 + ((k / 262144 : Nat) : Int), 128 + (((k / 4096) % 64 : Nat) : Int), 128 + (((k / 64) % 64 : Nat) : Int), 128 + ((k % 64 : Nat) : Int)])))] w_22 [RunsAs Tryd.prog [(59, .slice (some ⟨w.heap.size, 0, none⟩) 4 4)] (Go.Op.convert 231 9 (Go.Operand.tmp 59)) 9 (.string (strOfNums ([240 + ((k / 262144 : Nat) : Int), 128 + (((k / 4096) % 64 : Nat) : Int), 128 + (((k / 64) % 64 : Nat) : Int), 128 + ((k % 64 : Nat) : Int)]))) w_22] (by kernel_rfl) ⟨runs_conv rfl (conv_bytesC ([240 + ((k / 262144 : Nat) : Int), 128 + (((k / 4096) % 64 : Nat) : Int), 128 + (((k / 64) % 64 : Nat) : Int), 128 + ((k % 64 : Nat) : Int)]) Tryd.underlying231 Tryd.underlying5 Tryd.underlying9 hr_27), trivial⟩ ?_
        refine XL_nil ?_
        refine X_ret ?_
        refine RX.ret_ok (P := Tryd.prog) (fn := Tryd.f145) (N := 61) (R := R_) [.string (strOfNums ([240 + ((k / 262144 : Nat) : Int), 128 + (((k / 4096) % 64 : Nat) : Int), 128 + (((k / 64) % 64 : Nat) : Int), 128 + ((k % 64 : Nat) : Int)]))] (by kernel_rfl) (hR_ _ _ ?_)
        rw [show (strOfNums ([240 + ((k / 262144 : Nat) : Int), 128 + (((k / 4096) % 64 : Nat) : Int), 128 + (((k / 64) % 64 : Nat) : Int), 128 + ((k % 64 : Nat) : Int)])) = U.encB k from str_of (by simp only [List.map_cons, List.map_nil]; rfl) (U.enc_4 (by unfold U.vr; omega) (by omega))]
        exact ⟨rfl, hb_23⟩
theorem refWidth_any (r : Int) (w : World) : Calls Tryd.prog 94 #[.int .i32 r] w fun e w' => e = .returned (.int .i64 (U.widthP r : Int)) ∧ Below w.heap.size w w' := by
  refine RX.enter Tryd.func94 rfl 11 rfl [(0, .int .i32 r)] rfl (by kernel_rfl) (fun R_ hR_ => ?_)
  refine X_seq ?_
  refine X_region ?_
  refine XL_run 1 [] [(0, .int .i32 r)] w [] (by kernel_rfl) trivial ?_
  refine XL_nil ?_
  refine X_seq ?_
  refine X_region ?_
  refine XL_run 1 [] [(0, .int .i32 r), (4, .int .i32 r)] w [] (by kernel_rfl) trivial ?_
  refine XL_call 144 rfl rfl rfl ent144 [.int .i32 r] (by kernel_rfl) (refScalar_any r _) ?_
  rintro e w_1 ⟨rfl, hb_2⟩; refine ⟨_, rfl, ?_⟩
  refine XL_run 1 [] [(0, .int .i32 r), (3, .bool (decide (U.vz r)))] w_1 [] (by kernel_rfl) trivial ?_
  refine XL_nil ?_
  refine X_seq ?_
  refine X_seq ?_
  refine X_region ?_
  refine XL_run 1 [] [(0, .int .i32 r), (6, .bool (decide (U.vz r)))] w_1 [] (by kernel_rfl) trivial ?_
  by_cases c_3 : decide (U.vz r) = true
  · rw [show (decide (U.vz r) : Bool) = true from by simpa using c_3]
    refine XL_run 1 [] [(0, .int .i32 r), (7, .bool false)] w_1 [] (by kernel_rfl) trivial ?_
    refine XL_nil ?_
    refine X_cond false rfl ?_
    refine X_skip ?_
    refine X_seq ?_
    refine X_region ?_
    refine XL_run 1 [] [(8, .int .i32 r)] w_1 [] (by kernel_rfl) trivial ?_
    obtain ⟨k, hk⟩ := Int.eq_ofNat_of_zero_le (of_decide_eq_true c_3).1
    have hv : U.vr k := by have h_ := (of_decide_eq_true c_3).2; rw [hk, Int.toNat_natCast] at h_; exact h_
    subst hk
    refine XL_call 145 rfl rfl rfl ent145 [.int .i32 (k : Int)] (by kernel_rfl) (encode_any k hv _) ?_
    rintro e w_4 ⟨rfl, hb_5⟩; refine ⟨_, rfl, ?_⟩
    have hle := U.enc_len k
    refine XL_run 2 [] [(2, .int .i64 ((U.encB k).size : Int))] w_4 [] (by kernel_rfl) trivial ?_
    refine XL_nil ?_
    refine X_ret ?_
    refine RX.ret_ok (P := Tryd.prog) (fn := Tryd.f94) (N := 11) (R := R_) [.int .i64 ((U.encB k).size : Int)] (by kernel_rfl) (hR_ _ _ ?_)
    rw [widthP_pos hv, ← U.encB_size]
    exact ⟨rfl, (bt hb_2 hb_5)⟩
  · rw [show (decide (U.vz r) : Bool) = false from by simpa using c_3]
    refine XL_run 1 [] [(0, .int .i32 r), (7, .bool true)] w_1 [] (by kernel_rfl) trivial ?_
    refine XL_nil ?_
    refine X_cond true rfl ?_
    refine X_seq ?_
    refine X_region ?_
    refine XL_run 1 [] [(2, .int .i64 0)] w_1 [] (by kernel_rfl) trivial ?_
    refine XL_nil ?_
    refine X_ret ?_
    refine RX.ret_ok (P := Tryd.prog) (fn := Tryd.f94) (N := 11) (R := R_) [.int .i64 0] (by kernel_rfl) (hR_ _ _ ?_)
    rw [widthP_neg (fun h_ => c_3 (decide_eq_true h_))]
    exact ⟨rfl, hb_2⟩
/-- the bytes of these scalars -/
def tbytes (xs : List Int) : List Int := xs.flatMap fun r => bytesOf (U.encB r.toNat)
theorem tbytes_snoc (xs : List Int) (r : Int) : tbytes (xs ++ [r]) = tbytes xs ++ bytesOf (U.encB r.toNat) := by simp [tbytes]
theorem tbytes_le (xs : List Int) : (tbytes xs).length ≤ 4 * xs.length := by
  induction xs with
  | nil => simp [tbytes]
  | cons x xs ih =>
    have e : tbytes (x :: xs) = bytesOf (U.encB x.toNat) ++ tbytes xs := by simp [tbytes]
    have := (U.enc_len x.toNat).2
    rw [e, List.length_append, bytesOf_length, U.encB_size, List.length_cons]
    omega
theorem strOf_append (xs ys : List Int) : U.bl (strOfNums (xs ++ ys)) = U.bl (strOfNums xs) ++ U.bl (strOfNums ys) := by simp [U.bl, strOfNums]
theorem strOf_bytesOf (s : ByteArray) : U.bl (strOfNums (bytesOf s)) = U.bl s := by
  simp only [U.bl, strOfNums, bytesOf, List.map_map]
  conv => rhs; rw [← List.map_id s.data.toList]
  refine List.map_congr_left fun b _ => ?_
  simp
theorem text_bytes {xs : List Int} (h : ∀ r ∈ xs, U.vz r) : strOfNums (tbytes xs) = runesBytes xs := by
  obtain ⟨rs, rfl, hr⟩ := U.vz_map h
  refine U.bl_inj ?_
  rw [U.runesBytes_flat]
  clear h hr
  induction rs with
  | nil => rfl
  | cons r rs ih =>
    have e : tbytes ((r :: rs).map fun (r : Nat) => (r : Int)) = bytesOf (U.encB r) ++ tbytes (rs.map fun (r : Nat) => (r : Int)) := by simp [tbytes]
    rw [e, strOf_append, ih, strOf_bytesOf, U.bl_encB, U.flat_cons]
theorem take_snoc {xs : List Int} {i : Nat} (h : i < xs.length) : xs.take (i + 1) = xs.take i ++ [rd xs (i : Int)] := by
  unfold rd
  rw [Int.toNat_natCast, List.take_succ_eq_append_getElem h, List.getD_eq_getElem?_getD, List.getElem?_eq_getElem h]
  rfl
end Go.Proofs.YtkehomiogkoomaaDoor
