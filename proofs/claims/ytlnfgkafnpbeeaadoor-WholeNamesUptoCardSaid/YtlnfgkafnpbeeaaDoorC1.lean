/- WholeNames returns true. Conditions: the errors' variables, their texts. -/
import Derived.Test.YtlnfgkafnpbeeaaDoorErrT
import Derived.Test.YtlnfgkafnpbeeaaDoorInv
import Derived.Test.YtlnfgkafnpbeeaaDoorStr
import Derived.Test.YtlnfgkafnpbeeaaDoorAn2
set_option linter.unusedVariables false
set_option linter.unusedSimpArgs false
set_option maxRecDepth 100000
namespace Go.Proofs.YtlnfgkafnpbeeaaDoor
open Go Go.RowKit Go.Proofs.YtlnfgkafnpbeeaaDoorW.PrintWords RX
def nm (i : Nat) : ByteArray := List.getD [(⟨#[117, 116, 102, 45, 56]⟩ : ByteArray), (⟨#[106, 115, 111, 110]⟩ : ByteArray), (⟨#[110, 101, 115, 116, 105, 110, 103]⟩ : ByteArray), (⟨#[110, 117, 109, 98, 101, 114]⟩ : ByteArray), (⟨#[107, 105, 110, 100]⟩ : ByteArray), (⟨#[107, 101, 121]⟩ : ByteArray), (⟨#[110, 117, 108, 108]⟩ : ByteArray), (⟨#[97, 116, 116, 114, 105, 98, 117, 116, 101, 115]⟩ : ByteArray), (⟨#[111, 112, 101, 114, 97, 116, 105, 111, 110]⟩ : ByteArray), (⟨#[108, 105, 109, 105, 116]⟩ : ByteArray), (⟨#[108, 111, 110, 103]⟩ : ByteArray), (⟨#[114, 97, 110, 103, 101]⟩ : ByteArray), (⟨#[115, 99, 104, 101, 109, 97]⟩ : ByteArray), (⟨#[101, 110, 100]⟩ : ByteArray), (⟨#[101, 109, 112, 116, 121]⟩ : ByteArray), (⟨#[109, 97, 114, 107]⟩ : ByteArray), (⟨#[114, 101, 112, 108, 105, 99, 97]⟩ : ByteArray), (⟨#[98, 121, 116, 101, 115]⟩ : ByteArray), (⟨#[99, 111, 109, 109, 97, 110, 100]⟩ : ByteArray)] i ByteArray.empty
def etx (n : Nat) : List UInt8 := [118, 101, 108, 108, 117, 109, 58, 32] ++ (nm (n - 1)).data.toList
theorem nums_at {i : Nat} (h : i < 19) : List.getD [1, 2, 3, 4, 5, 6, 7, 8, 9, 10, 11, 12, 13, 14, 15, 16, 17, 18, 19] i 0 = i + 1 := by
  match i, h with
  | 0, _ => rfl
  | 1, _ => rfl
  | 2, _ => rfl
  | 3, _ => rfl
  | 4, _ => rfl
  | 5, _ => rfl
  | 6, _ => rfl
  | 7, _ => rfl
  | 8, _ => rfl
  | 9, _ => rfl
  | 10, _ => rfl
  | 11, _ => rfl
  | 12, _ => rfl
  | 13, _ => rfl
  | 14, _ => rfl
  | 15, _ => rfl
  | 16, _ => rfl
  | 17, _ => rfl
  | 18, _ => rfl
  | k + 19, h => omega
theorem nm_at (i : Nat) : List.getD [(⟨#[117, 116, 102, 45, 56]⟩ : ByteArray), (⟨#[106, 115, 111, 110]⟩ : ByteArray), (⟨#[110, 101, 115, 116, 105, 110, 103]⟩ : ByteArray), (⟨#[110, 117, 109, 98, 101, 114]⟩ : ByteArray), (⟨#[107, 105, 110, 100]⟩ : ByteArray), (⟨#[107, 101, 121]⟩ : ByteArray), (⟨#[110, 117, 108, 108]⟩ : ByteArray), (⟨#[97, 116, 116, 114, 105, 98, 117, 116, 101, 115]⟩ : ByteArray), (⟨#[111, 112, 101, 114, 97, 116, 105, 111, 110]⟩ : ByteArray), (⟨#[108, 105, 109, 105, 116]⟩ : ByteArray), (⟨#[108, 111, 110, 103]⟩ : ByteArray), (⟨#[114, 97, 110, 103, 101]⟩ : ByteArray), (⟨#[115, 99, 104, 101, 109, 97]⟩ : ByteArray), (⟨#[101, 110, 100]⟩ : ByteArray), (⟨#[101, 109, 112, 116, 121]⟩ : ByteArray), (⟨#[109, 97, 114, 107]⟩ : ByteArray), (⟨#[114, 101, 112, 108, 105, 99, 97]⟩ : ByteArray), (⟨#[98, 121, 116, 101, 115]⟩ : ByteArray), (⟨#[99, 111, 109, 109, 97, 110, 100]⟩ : ByteArray)] i ByteArray.empty = nm i := rfl
theorem nm_size (i : Nat) : (nm i).size ≤ 100 := by
  by_cases h : i < 19
  · match i, h with
    | 0, _ => decide
    | 1, _ => decide
    | 2, _ => decide
    | 3, _ => decide
    | 4, _ => decide
    | 5, _ => decide
    | 6, _ => decide
    | 7, _ => decide
    | 8, _ => decide
    | 9, _ => decide
    | 10, _ => decide
    | 11, _ => decide
    | 12, _ => decide
    | 13, _ => decide
    | 14, _ => decide
    | 15, _ => decide
    | 16, _ => decide
    | 17, _ => decide
    | 18, _ => decide
    | k + 19, h => omega
  · unfold nm
    rw [List.getD_eq_getElem?_getD, List.getElem?_eq_none (by simp; omega)]
    decide
theorem etx_eq (i : Nat) : (⟨(etx (i + 1)).toArray⟩ : ByteArray) = (⟨#[118, 101, 108, 108, 117, 109, 58, 32]⟩ : ByteArray) ++ nm i := by
  have h : ∀ s : ByteArray, (⟨([118, 101, 108, 108, 117, 109, 58, 32] ++ s.data.toList).toArray⟩ : ByteArray) = (⟨#[118, 101, 108, 108, 117, 109, 58, 32]⟩ : ByteArray) ++ s := fun s => by
    cases s
    rename_i d
    refine bytes_ext ?_
    rw [ByteArray.toList_eq, ByteArray.toList_eq]
    simp
  exact h (nm i)
theorem entE : Ent Tryd.prog 60 := ent_of Tryd.func60 (by kernel_rfl) rfl
theorem error_any (n : Nat) (h0 : 1 ≤ n) (h1 : n ≤ 19) (w : World) (es : List Addr) (hX : ErrTxt etx w es) : Calls Tryd.prog 60 #[.pointer (some (errAt es n))] w fun e w' => e = .returned (.string ⟨(etx n).toArray⟩) ∧ Below w.heap.size w w' := by
  refine RX.enter Tryd.func60 rfl 7 rfl [(0, .pointer (some (errAt es n)))] rfl (by kernel_rfl) (fun R_ hR_ => ?_)
  refine X_seq ?_
  refine X_region ?_
  refine XL_run 1 [] [(0, .pointer (some (errAt es n)))] w [] (by kernel_rfl) trivial ?_
  refine XL_nil ?_
  refine X_seq ?_
  refine X_region ?_
  refine XL_run 5 [(6, .load (.string (⟨(etx n).toArray⟩ : ByteArray)))] [(2, .string (⟨(etx n).toArray⟩ : ByteArray))] w [LoadsAs Tryd.prog 9 (errAt es n) (.string (⟨(etx n).toArray⟩ : ByteArray)) w] (by kernel_rfl) ⟨loads1 rfl (hX n h0 h1), trivial⟩ ?_
  refine XL_nil ?_
  refine X_ret ?_
  refine RX.ret_ok (P := Tryd.prog) (fn := Tryd.f60) (N := 7) (R := R_) [.string (⟨(etx n).toArray⟩ : ByteArray)] (by kernel_rfl) (hR_ _ _ ?_)
  exact ⟨rfl, (Below.refl _ _)⟩
set_option maxHeartbeats 4000000 in
theorem names_any (w : World) (es : List Addr) (hE : Errs w es) (hX : ErrTxt etx w es) : Calls Tryd.prog 10 #[] w fun e w' => e = .returned (.bool true) ∧ Below w.heap.size w w' := by
  refine RX.enter Tryd.func10 rfl 58 rfl [] rfl (by kernel_rfl) (fun R_ hR_ => ?_)
  refine X_seq ?_
  refine X_region ?_
  refine XL_run 1 [] [] w [] (by kernel_rfl) trivial ?_
  refine XL_nil ?_
  refine X_seq ?_
  refine X_cond false rfl ?_
  refine X_skip ?_
  refine X_seq ?_
  refine X_region ?_
  refine XL_run 20 [(6, .load (.iface 80 (.pointer (some (errAt es 1))))), (7, .load (.iface 80 (.pointer (some (errAt es 2))))), (8, .load (.iface 80 (.pointer (some (errAt es 3))))), (9, .load (.iface 80 (.pointer (some (errAt es 4))))), (10, .load (.iface 80 (.pointer (some (errAt es 5))))), (11, .load (.iface 80 (.pointer (some (errAt es 6))))), (12, .load (.iface 80 (.pointer (some (errAt es 7))))), (13, .load (.iface 80 (.pointer (some (errAt es 8))))), (14, .load (.iface 80 (.pointer (some (errAt es 9))))), (15, .load (.iface 80 (.pointer (some (errAt es 10))))), (16, .load (.iface 80 (.pointer (some (errAt es 11))))), (17, .load (.iface 80 (.pointer (some (errAt es 12))))), (18, .load (.iface 80 (.pointer (some (errAt es 13))))), (19, .load (.iface 80 (.pointer (some (errAt es 14))))), (20, .load (.iface 80 (.pointer (some (errAt es 15))))), (21, .load (.iface 80 (.pointer (some (errAt es 16))))), (22, .load (.iface 80 (.pointer (some (errAt es 17))))), (23, .load (.iface 80 (.pointer (some (errAt es 18))))), (24, .load (.iface 80 (.pointer (some (errAt es 19)))))] [(25, .slice (some ⟨w.heap.size, 0, none⟩) 19 19)] (w.alloc (.cells #[.iface 80 (.pointer (some (errAt es 1))), .iface 80 (.pointer (some (errAt es 2))), .iface 80 (.pointer (some (errAt es 3))), .iface 80 (.pointer (some (errAt es 4))), .iface 80 (.pointer (some (errAt es 5))), .iface 80 (.pointer (some (errAt es 6))), .iface 80 (.pointer (some (errAt es 7))), .iface 80 (.pointer (some (errAt es 8))), .iface 80 (.pointer (some (errAt es 9))), .iface 80 (.pointer (some (errAt es 10))), .iface 80 (.pointer (some (errAt es 11))), .iface 80 (.pointer (some (errAt es 12))), .iface 80 (.pointer (some (errAt es 13))), .iface 80 (.pointer (some (errAt es 14))), .iface 80 (.pointer (some (errAt es 15))), .iface 80 (.pointer (some (errAt es 16))), .iface 80 (.pointer (some (errAt es 17))), .iface 80 (.pointer (some (errAt es 18))), .iface 80 (.pointer (some (errAt es 19)))] 25)) [LoadsAs Tryd.prog 25 (⟨0, 0, none⟩) (.iface 80 (.pointer (some (errAt es 1)))) w, LoadsAs Tryd.prog 25 (⟨1, 0, none⟩) (.iface 80 (.pointer (some (errAt es 2)))) w, LoadsAs Tryd.prog 25 (⟨2, 0, none⟩) (.iface 80 (.pointer (some (errAt es 3)))) w, LoadsAs Tryd.prog 25 (⟨3, 0, none⟩) (.iface 80 (.pointer (some (errAt es 4)))) w, LoadsAs Tryd.prog 25 (⟨4, 0, none⟩) (.iface 80 (.pointer (some (errAt es 5)))) w, LoadsAs Tryd.prog 25 (⟨5, 0, none⟩) (.iface 80 (.pointer (some (errAt es 6)))) w, LoadsAs Tryd.prog 25 (⟨6, 0, none⟩) (.iface 80 (.pointer (some (errAt es 7)))) w, LoadsAs Tryd.prog 25 (⟨7, 0, none⟩) (.iface 80 (.pointer (some (errAt es 8)))) w, LoadsAs Tryd.prog 25 (⟨8, 0, none⟩) (.iface 80 (.pointer (some (errAt es 9)))) w, LoadsAs Tryd.prog 25 (⟨9, 0, none⟩) (.iface 80 (.pointer (some (errAt es 10)))) w, LoadsAs Tryd.prog 25 (⟨10, 0, none⟩) (.iface 80 (.pointer (some (errAt es 11)))) w, LoadsAs Tryd.prog 25 (⟨11, 0, none⟩) (.iface 80 (.pointer (some (errAt es 12)))) w, LoadsAs Tryd.prog 25 (⟨12, 0, none⟩) (.iface 80 (.pointer (some (errAt es 13)))) w, LoadsAs Tryd.prog 25 (⟨13, 0, none⟩) (.iface 80 (.pointer (some (errAt es 14)))) w, LoadsAs Tryd.prog 25 (⟨14, 0, none⟩) (.iface 80 (.pointer (some (errAt es 15)))) w, LoadsAs Tryd.prog 25 (⟨15, 0, none⟩) (.iface 80 (.pointer (some (errAt es 16)))) w, LoadsAs Tryd.prog 25 (⟨16, 0, none⟩) (.iface 80 (.pointer (some (errAt es 17)))) w, LoadsAs Tryd.prog 25 (⟨17, 0, none⟩) (.iface 80 (.pointer (some (errAt es 18)))) w, LoadsAs Tryd.prog 25 (⟨18, 0, none⟩) (.iface 80 (.pointer (some (errAt es 19)))) w] (by kernel_rfl) ⟨loads1 rfl (hE.load 1 0 (by decide) (by decide) rfl), loads1 rfl (hE.load 2 1 (by decide) (by decide) rfl), loads1 rfl (hE.load 3 2 (by decide) (by decide) rfl), loads1 rfl (hE.load 4 3 (by decide) (by decide) rfl), loads1 rfl (hE.load 5 4 (by decide) (by decide) rfl), loads1 rfl (hE.load 6 5 (by decide) (by decide) rfl), loads1 rfl (hE.load 7 6 (by decide) (by decide) rfl), loads1 rfl (hE.load 8 7 (by decide) (by decide) rfl), loads1 rfl (hE.load 9 8 (by decide) (by decide) rfl), loads1 rfl (hE.load 10 9 (by decide) (by decide) rfl), loads1 rfl (hE.load 11 10 (by decide) (by decide) rfl), loads1 rfl (hE.load 12 11 (by decide) (by decide) rfl), loads1 rfl (hE.load 13 12 (by decide) (by decide) rfl), loads1 rfl (hE.load 14 13 (by decide) (by decide) rfl), loads1 rfl (hE.load 15 14 (by decide) (by decide) rfl), loads1 rfl (hE.load 16 15 (by decide) (by decide) rfl), loads1 rfl (hE.load 17 16 (by decide) (by decide) rfl), loads1 rfl (hE.load 18 17 (by decide) (by decide) rfl), loads1 rfl (hE.load 19 18 (by decide) (by decide) rfl), trivial⟩ ?_
  obtain ⟨w_1, hw_5, hb_2, hk_3, hz_4⟩ := new_world w #[.iface 80 (.pointer (some (errAt es 1))), .iface 80 (.pointer (some (errAt es 2))), .iface 80 (.pointer (some (errAt es 3))), .iface 80 (.pointer (some (errAt es 4))), .iface 80 (.pointer (some (errAt es 5))), .iface 80 (.pointer (some (errAt es 6))), .iface 80 (.pointer (some (errAt es 7))), .iface 80 (.pointer (some (errAt es 8))), .iface 80 (.pointer (some (errAt es 9))), .iface 80 (.pointer (some (errAt es 10))), .iface 80 (.pointer (some (errAt es 11))), .iface 80 (.pointer (some (errAt es 12))), .iface 80 (.pointer (some (errAt es 13))), .iface 80 (.pointer (some (errAt es 14))), .iface 80 (.pointer (some (errAt es 15))), .iface 80 (.pointer (some (errAt es 16))), .iface 80 (.pointer (some (errAt es 17))), .iface 80 (.pointer (some (errAt es 18))), .iface 80 (.pointer (some (errAt es 19)))] 25
  rw [hw_5]
  refine XL_run 1 [] [(1, .slice (some ⟨w.heap.size, 0, none⟩) 19 19)] w_1 [] (by kernel_rfl) trivial ?_
  refine XL_nil ?_
  refine X_seq ?_
  refine X_region ?_
  refine XL_run 1 [] [(1, .slice (some ⟨w.heap.size, 0, none⟩) 19 19), (26, .slice (some ⟨w_1.heap.size, 0, none⟩) 19 19)] (w_1.alloc (.cells #[.string (⟨#[117, 116, 102, 45, 56]⟩ : ByteArray), .string (⟨#[106, 115, 111, 110]⟩ : ByteArray), .string (⟨#[110, 101, 115, 116, 105, 110, 103]⟩ : ByteArray), .string (⟨#[110, 117, 109, 98, 101, 114]⟩ : ByteArray), .string (⟨#[107, 105, 110, 100]⟩ : ByteArray), .string (⟨#[107, 101, 121]⟩ : ByteArray), .string (⟨#[110, 117, 108, 108]⟩ : ByteArray), .string (⟨#[97, 116, 116, 114, 105, 98, 117, 116, 101, 115]⟩ : ByteArray), .string (⟨#[111, 112, 101, 114, 97, 116, 105, 111, 110]⟩ : ByteArray), .string (⟨#[108, 105, 109, 105, 116]⟩ : ByteArray), .string (⟨#[108, 111, 110, 103]⟩ : ByteArray), .string (⟨#[114, 97, 110, 103, 101]⟩ : ByteArray), .string (⟨#[115, 99, 104, 101, 109, 97]⟩ : ByteArray), .string (⟨#[101, 110, 100]⟩ : ByteArray), .string (⟨#[101, 109, 112, 116, 121]⟩ : ByteArray), .string (⟨#[109, 97, 114, 107]⟩ : ByteArray), .string (⟨#[114, 101, 112, 108, 105, 99, 97]⟩ : ByteArray), .string (⟨#[98, 121, 116, 101, 115]⟩ : ByteArray), .string (⟨#[99, 111, 109, 109, 97, 110, 100]⟩ : ByteArray)] 9)) [] (by kernel_rfl) trivial ?_
  obtain ⟨w_6, hw_10, hb_7, hk_8, hz_9⟩ := new_world w_1 #[.string (⟨#[117, 116, 102, 45, 56]⟩ : ByteArray), .string (⟨#[106, 115, 111, 110]⟩ : ByteArray), .string (⟨#[110, 101, 115, 116, 105, 110, 103]⟩ : ByteArray), .string (⟨#[110, 117, 109, 98, 101, 114]⟩ : ByteArray), .string (⟨#[107, 105, 110, 100]⟩ : ByteArray), .string (⟨#[107, 101, 121]⟩ : ByteArray), .string (⟨#[110, 117, 108, 108]⟩ : ByteArray), .string (⟨#[97, 116, 116, 114, 105, 98, 117, 116, 101, 115]⟩ : ByteArray), .string (⟨#[111, 112, 101, 114, 97, 116, 105, 111, 110]⟩ : ByteArray), .string (⟨#[108, 105, 109, 105, 116]⟩ : ByteArray), .string (⟨#[108, 111, 110, 103]⟩ : ByteArray), .string (⟨#[114, 97, 110, 103, 101]⟩ : ByteArray), .string (⟨#[115, 99, 104, 101, 109, 97]⟩ : ByteArray), .string (⟨#[101, 110, 100]⟩ : ByteArray), .string (⟨#[101, 109, 112, 116, 121]⟩ : ByteArray), .string (⟨#[109, 97, 114, 107]⟩ : ByteArray), .string (⟨#[114, 101, 112, 108, 105, 99, 97]⟩ : ByteArray), .string (⟨#[98, 121, 116, 101, 115]⟩ : ByteArray), .string (⟨#[99, 111, 109, 109, 97, 110, 100]⟩ : ByteArray)] 9
  rw [hw_10]
  refine XL_run 1 [] [(1, .slice (some ⟨w.heap.size, 0, none⟩) 19 19), (2, .slice (some ⟨w_1.heap.size, 0, none⟩) 19 19)] w_6 [] (by kernel_rfl) trivial ?_
  refine XL_nil ?_
  refine X_seq ?_
  refine X_seq ?_
  refine X_region ?_
  refine XL_run 3 [] [(1, .slice (some ⟨w.heap.size, 0, none⟩) 19 19), (2, .slice (some ⟨w_1.heap.size, 0, none⟩) 19 19), (27, .slice (some ⟨w.heap.size, 0, none⟩) 19 19), (28, .int .i64 19), (29, .int .i64 0)] w_6 [] (by kernel_rfl) trivial ?_
  refine XL_nil ?_
  refine X_block ?_
  refine X_loop (ι := Nat) (fun i => [(1, .slice (some ⟨w.heap.size, 0, none⟩) 19 19), (2, .slice (some ⟨w_1.heap.size, 0, none⟩) 19 19), (27, .slice (some ⟨w.heap.size, 0, none⟩) 19 19), (28, .int .i64 19), (29, .int .i64 (i : Int))]) (fun i wi => i ≤ 19 ∧ Below w_6.heap.size w_6 wi) (fun i => 19 - i) 0 ⟨by omega, Below.refl _ _⟩ (by kernel_rfl) ?_
  rintro i wi ⟨hi, HBi⟩
  refine X_seq ?_
  refine X_region ?_
  by_cases c_11 : (i : Int) < 19
  · refine XL_run 1 [(30, .eq (.bool true))] [(1, .slice (some ⟨w.heap.size, 0, none⟩) 19 19), (2, .slice (some ⟨w_1.heap.size, 0, none⟩) 19 19), (27, .slice (some ⟨w.heap.size, 0, none⟩) 19 19), (28, .int .i64 19), (29, .int .i64 (i : Int)), (30, .bool true)] wi [Value.bool (decide ((i : Int) < 19)) = Value.bool true] (by kernel_rfl) ⟨congrArg Value.bool (decide_eq_true (c_11)), trivial⟩ ?_
    refine XL_nil ?_
    refine X_seq ?_
    refine X_cond true rfl ?_
    refine X_skip ?_
    refine X_seq ?_
    refine X_block ?_
    refine X_seq ?_
    refine X_region ?_
    refine XL_run 1 [] [(1, .slice (some ⟨w.heap.size, 0, none⟩) 19 19), (2, .slice (some ⟨w_1.heap.size, 0, none⟩) 19 19), (27, .slice (some ⟨w.heap.size, 0, none⟩) 19 19), (28, .int .i64 19), (29, .int .i64 (i : Int)), (31, .int .i64 (i : Int))] wi [] (by kernel_rfl) trivial ?_
    have hr_12 := Kd.R_litB (kErr es) (W := w) (e := 25) (cs := #[.iface 80 (.pointer (some (errAt es 1))), .iface 80 (.pointer (some (errAt es 2))), .iface 80 (.pointer (some (errAt es 3))), .iface 80 (.pointer (some (errAt es 4))), .iface 80 (.pointer (some (errAt es 5))), .iface 80 (.pointer (some (errAt es 6))), .iface 80 (.pointer (some (errAt es 7))), .iface 80 (.pointer (some (errAt es 8))), .iface 80 (.pointer (some (errAt es 9))), .iface 80 (.pointer (some (errAt es 10))), .iface 80 (.pointer (some (errAt es 11))), .iface 80 (.pointer (some (errAt es 12))), .iface 80 (.pointer (some (errAt es 13))), .iface 80 (.pointer (some (errAt es 14))), .iface 80 (.pointer (some (errAt es 15))), .iface 80 (.pointer (some (errAt es 16))), .iface 80 (.pointer (some (errAt es 17))), .iface 80 (.pointer (some (errAt es 18))), .iface 80 (.pointer (some (errAt es 19)))]) [1, 2, 3, 4, 5, 6, 7, 8, 9, 10, 11, 12, 13, 14, 15, 16, 17, 18, 19] hk_3 (repsErr [1, 2, 3, 4, 5, 6, 7, 8, 9, 10, 11, 12, 13, 14, 15, 16, 17, 18, 19]) (Nat.le_of_ble_eq_true (by kernel_rfl))
    obtain ⟨ad_13, ha_14, hc_15⟩ := Kd.atErr (Kd.R_C (Kd.R_below hr_12 (bt hb_7 HBi))) (i := (i : Int)) (by omega) (by show (i : Int) < (19 : Int); omega)
    rw [show ([1, 2, 3, 4, 5, 6, 7, 8, 9, 10, 11, 12, 13, 14, 15, 16, 17, 18, 19]).getD ((i : Int)).toNat 0 = i + 1 from nums_at (by omega)] at hc_15
    refine XL_run 4 [(32, .idx ad_13), (33, .load (.iface 80 (.pointer (some (errAt es (i + 1))))))] [(1, .slice (some ⟨w.heap.size, 0, none⟩) 19 19), (2, .slice (some ⟨w_1.heap.size, 0, none⟩) 19 19), (3, .int .i64 (i : Int)), (4, .iface 80 (.pointer (some (errAt es (i + 1))))), (27, .slice (some ⟨w.heap.size, 0, none⟩) 19 19), (28, .int .i64 19), (29, .int .i64 (i : Int))] wi [(some ⟨w.heap.size, 0, none⟩) = some ad_13, (0 : Int) ≤ (i : Int), (i : Int) < (19 : Int), LoadsAs Tryd.prog 25 (ad_13.add ((i : Int).toNat * 1)) (.iface 80 (.pointer (some (errAt es (i + 1))))) wi] (by kernel_rfl) ⟨ha_14, (by omega), (by show (i : Int) < (19 : Int); omega), loads1 rfl (elem_cell hc_15 0 _ rfl), trivial⟩ ?_
    refine XL_nil ?_
    refine X_seq ?_
    refine X_seq ?_
    refine X_grow [] 12 #[false, false, false, false, false, false, false, false, false, false, false, false] (by kernel_rfl) (by kernel_rfl) (by kernel_rfl) (fun wd_16 hb_17 hh_18 => ?_)
    refine XB_run (fuel' := 6) (Below.refl _ _) [0, 1, 2, 3, 5, 6] [] [.iface 80 (.pointer (some (errAt es (i + 1)))), .bool false, .bool false, .iface 80 (.pointer (some (errAt es (i + 1)))), .slice (some ⟨w_1.heap.size, 0, none⟩) 19 19, .int .i64 (i : Int)] #[true, true, true, true, false, true, true, false, false, false, false, false] [(1, .slice (some ⟨w.heap.size, 0, none⟩) 19 19), (2, .slice (some ⟨w_1.heap.size, 0, none⟩) 19 19), (3, .int .i64 (i : Int)), (4, .iface 80 (.pointer (some (errAt es (i + 1))))), (27, .slice (some ⟨w.heap.size, 0, none⟩) 19 19), (28, .int .i64 19), (29, .int .i64 (i : Int)), (36, .bool false), (37, .iface 80 (.pointer (some (errAt es (i + 1))))), (39, .slice (some ⟨w_1.heap.size, 0, none⟩) 19 19), (40, .int .i64 (i : Int))] (fun w_ => []) (fun _ _ _ _ h => h) (fun w_ => by kernel_rfl) rfl (fun w_ hC_ => trivial) ?_
    have hr_19 := Kd.R_litB Kd.string (W := w_1) (e := 9) (cs := #[.string (⟨#[117, 116, 102, 45, 56]⟩ : ByteArray), .string (⟨#[106, 115, 111, 110]⟩ : ByteArray), .string (⟨#[110, 101, 115, 116, 105, 110, 103]⟩ : ByteArray), .string (⟨#[110, 117, 109, 98, 101, 114]⟩ : ByteArray), .string (⟨#[107, 105, 110, 100]⟩ : ByteArray), .string (⟨#[107, 101, 121]⟩ : ByteArray), .string (⟨#[110, 117, 108, 108]⟩ : ByteArray), .string (⟨#[97, 116, 116, 114, 105, 98, 117, 116, 101, 115]⟩ : ByteArray), .string (⟨#[111, 112, 101, 114, 97, 116, 105, 111, 110]⟩ : ByteArray), .string (⟨#[108, 105, 109, 105, 116]⟩ : ByteArray), .string (⟨#[108, 111, 110, 103]⟩ : ByteArray), .string (⟨#[114, 97, 110, 103, 101]⟩ : ByteArray), .string (⟨#[115, 99, 104, 101, 109, 97]⟩ : ByteArray), .string (⟨#[101, 110, 100]⟩ : ByteArray), .string (⟨#[101, 109, 112, 116, 121]⟩ : ByteArray), .string (⟨#[109, 97, 114, 107]⟩ : ByteArray), .string (⟨#[114, 101, 112, 108, 105, 99, 97]⟩ : ByteArray), .string (⟨#[98, 121, 116, 101, 115]⟩ : ByteArray), .string (⟨#[99, 111, 109, 109, 97, 110, 100]⟩ : ByteArray)]) [(⟨#[117, 116, 102, 45, 56]⟩ : ByteArray), (⟨#[106, 115, 111, 110]⟩ : ByteArray), (⟨#[110, 101, 115, 116, 105, 110, 103]⟩ : ByteArray), (⟨#[110, 117, 109, 98, 101, 114]⟩ : ByteArray), (⟨#[107, 105, 110, 100]⟩ : ByteArray), (⟨#[107, 101, 121]⟩ : ByteArray), (⟨#[110, 117, 108, 108]⟩ : ByteArray), (⟨#[97, 116, 116, 114, 105, 98, 117, 116, 101, 115]⟩ : ByteArray), (⟨#[111, 112, 101, 114, 97, 116, 105, 111, 110]⟩ : ByteArray), (⟨#[108, 105, 109, 105, 116]⟩ : ByteArray), (⟨#[108, 111, 110, 103]⟩ : ByteArray), (⟨#[114, 97, 110, 103, 101]⟩ : ByteArray), (⟨#[115, 99, 104, 101, 109, 97]⟩ : ByteArray), (⟨#[101, 110, 100]⟩ : ByteArray), (⟨#[101, 109, 112, 116, 121]⟩ : ByteArray), (⟨#[109, 97, 114, 107]⟩ : ByteArray), (⟨#[114, 101, 112, 108, 105, 99, 97]⟩ : ByteArray), (⟨#[98, 121, 116, 101, 115]⟩ : ByteArray), (⟨#[99, 111, 109, 109, 97, 110, 100]⟩ : ByteArray)] hk_8 (repsStr [(⟨#[117, 116, 102, 45, 56]⟩ : ByteArray), (⟨#[106, 115, 111, 110]⟩ : ByteArray), (⟨#[110, 101, 115, 116, 105, 110, 103]⟩ : ByteArray), (⟨#[110, 117, 109, 98, 101, 114]⟩ : ByteArray), (⟨#[107, 105, 110, 100]⟩ : ByteArray), (⟨#[107, 101, 121]⟩ : ByteArray), (⟨#[110, 117, 108, 108]⟩ : ByteArray), (⟨#[97, 116, 116, 114, 105, 98, 117, 116, 101, 115]⟩ : ByteArray), (⟨#[111, 112, 101, 114, 97, 116, 105, 111, 110]⟩ : ByteArray), (⟨#[108, 105, 109, 105, 116]⟩ : ByteArray), (⟨#[108, 111, 110, 103]⟩ : ByteArray), (⟨#[114, 97, 110, 103, 101]⟩ : ByteArray), (⟨#[115, 99, 104, 101, 109, 97]⟩ : ByteArray), (⟨#[101, 110, 100]⟩ : ByteArray), (⟨#[101, 109, 112, 116, 121]⟩ : ByteArray), (⟨#[109, 97, 114, 107]⟩ : ByteArray), (⟨#[114, 101, 112, 108, 105, 99, 97]⟩ : ByteArray), (⟨#[98, 121, 116, 101, 115]⟩ : ByteArray), (⟨#[99, 111, 109, 109, 97, 110, 100]⟩ : ByteArray)]) (Nat.le_of_ble_eq_true (by kernel_rfl))
    obtain ⟨ad_20, ha_21, hc_22⟩ := Kd.atStr (Kd.R_C (Kd.R_below hr_19 (bt HBi hb_17))) (i := (i : Int)) (by omega) (by show (i : Int) < (19 : Int); omega)
    rw [show ([(⟨#[117, 116, 102, 45, 56]⟩ : ByteArray), (⟨#[106, 115, 111, 110]⟩ : ByteArray), (⟨#[110, 101, 115, 116, 105, 110, 103]⟩ : ByteArray), (⟨#[110, 117, 109, 98, 101, 114]⟩ : ByteArray), (⟨#[107, 105, 110, 100]⟩ : ByteArray), (⟨#[107, 101, 121]⟩ : ByteArray), (⟨#[110, 117, 108, 108]⟩ : ByteArray), (⟨#[97, 116, 116, 114, 105, 98, 117, 116, 101, 115]⟩ : ByteArray), (⟨#[111, 112, 101, 114, 97, 116, 105, 111, 110]⟩ : ByteArray), (⟨#[108, 105, 109, 105, 116]⟩ : ByteArray), (⟨#[108, 111, 110, 103]⟩ : ByteArray), (⟨#[114, 97, 110, 103, 101]⟩ : ByteArray), (⟨#[115, 99, 104, 101, 109, 97]⟩ : ByteArray), (⟨#[101, 110, 100]⟩ : ByteArray), (⟨#[101, 109, 112, 116, 121]⟩ : ByteArray), (⟨#[109, 97, 114, 107]⟩ : ByteArray), (⟨#[114, 101, 112, 108, 105, 99, 97]⟩ : ByteArray), (⟨#[98, 121, 116, 101, 115]⟩ : ByteArray), (⟨#[99, 111, 109, 109, 97, 110, 100]⟩ : ByteArray)]).getD ((i : Int)).toNat ByteArray.empty = nm i from nm_at i] at hc_22
    refine XB_run (fuel' := 3) (Below.refl _ _) [7, 8, 9] [(41, .idx ad_20), (42, .load (.string (nm i))), (43, .as (.string ((⟨#[118, 101, 108, 108, 117, 109, 58, 32]⟩ : ByteArray) ++ (nm i))))] [.pointer (some (ad_20.add ((i : Int).toNat * 1))), .string (nm i), .string ((⟨#[118, 101, 108, 108, 117, 109, 58, 32]⟩ : ByteArray) ++ (nm i))] #[true, true, true, true, false, true, true, true, true, true, false, false] [(1, .slice (some ⟨w.heap.size, 0, none⟩) 19 19), (2, .slice (some ⟨w_1.heap.size, 0, none⟩) 19 19), (3, .int .i64 (i : Int)), (4, .iface 80 (.pointer (some (errAt es (i + 1))))), (27, .slice (some ⟨w.heap.size, 0, none⟩) 19 19), (28, .int .i64 19), (29, .int .i64 (i : Int)), (36, .bool false), (37, .iface 80 (.pointer (some (errAt es (i + 1))))), (43, .string ((⟨#[118, 101, 108, 108, 117, 109, 58, 32]⟩ : ByteArray) ++ (nm i)))] (fun w_ => [(some ⟨w_1.heap.size, 0, none⟩) = some ad_20, (0 : Int) ≤ (i : Int), (i : Int) < (19 : Int), LoadsAs Tryd.prog 9 (ad_20.add ((i : Int).toNat * 1)) (.string (nm i)) w_, RunsAs Tryd.prog [(42, .string (nm i))] (Go.Op.binOp Go.BinOp.add 9 (Go.Operand.const (Go.Value.string { data := #[118, 101, 108, 108, 117, 109, 58, 32] })) (Go.Operand.tmp 42) 9) 9 (.string ((⟨#[118, 101, 108, 108, 117, 109, 58, 32]⟩ : ByteArray) ++ (nm i))) w_]) (fun _ _ _ _ h => h) (fun w_ => by kernel_rfl) rfl (fun w_ hC_ => ⟨ha_21, (by omega), (by show (i : Int) < (19 : Int); omega), loads1 rfl (elem_cell (cells_below hc_22 hC_) 0 _ rfl), runs_bin rfl rfl rfl (run_sadd (by have h8_ : ((⟨#[118, 101, 108, 108, 117, 109, 58, 32]⟩ : ByteArray)).size = 8 := rfl; have hnz_ := nm_size i; omega)), trivial⟩) ?_
    refine XB_mid (fuel' := 2) 4 #[true, true, true, true, true, true, true, true, true, true, false, false] _ rfl (by kernel_rfl) (by kernel_rfl) rfl ?_
    refine XL_inv 60 #[.pointer (some (errAt es (i + 1)))] rfl rfl (by kernel_rfl) (by kernel_rfl) (error_any (i + 1) (by omega) (by omega) _ es (hX.below (bt (bt (bt hb_2 hb_7) HBi) hb_17))) ?_
    rintro e w_23 ⟨rfl, hb_24⟩; refine ⟨_, rfl, ?_⟩
    rw [etx_eq i]
    have hnz := nm_size i
    refine XL_nil ?_
    refine ⟨hb_24, ?_⟩
    refine XB_run (fuel' := 0) hb_24 [10, 11] [(44, .eq (.bool false))] [.bool false, .bool false] #[true, true, true, true, true, true, true, true, true, true, true, true] [(1, .slice (some ⟨w.heap.size, 0, none⟩) 19 19), (2, .slice (some ⟨w_1.heap.size, 0, none⟩) 19 19), (3, .int .i64 (i : Int)), (4, .iface 80 (.pointer (some (errAt es (i + 1))))), (27, .slice (some ⟨w.heap.size, 0, none⟩) 19 19), (28, .int .i64 19), (29, .int .i64 (i : Int)), (45, .bool false)] (fun w_ => [Value.bool (!((⟨#[118, 101, 108, 108, 117, 109, 58, 32]⟩ : ByteArray) ++ (nm i)).toList == ((⟨#[118, 101, 108, 108, 117, 109, 58, 32]⟩ : ByteArray) ++ (nm i)).toList) = Value.bool false]) (fun _ _ _ _ h => h) (fun w_ => by kernel_rfl) rfl (fun w_ hC_ => ⟨congrArg Value.bool (strNeF (rfl)), trivial⟩) ?_
    refine XB_done (by kernel_rfl) ?_
    refine X_cond false rfl ?_
    refine X_skip ?_
    refine X_seq ?_
    refine X_region ?_
    refine XL_run 1 [] [(1, .slice (some ⟨w.heap.size, 0, none⟩) 19 19), (2, .slice (some ⟨w_1.heap.size, 0, none⟩) 19 19), (3, .int .i64 (i : Int)), (4, .iface 80 (.pointer (some (errAt es (i + 1))))), (5, .int .i64 0), (27, .slice (some ⟨w.heap.size, 0, none⟩) 19 19), (28, .int .i64 19), (29, .int .i64 (i : Int))] w_23 [] (by kernel_rfl) trivial ?_
    refine XL_nil ?_
    refine X_block ?_
    refine X_loop (ι := Nat) (fun j => [(1, .slice (some ⟨w.heap.size, 0, none⟩) 19 19), (2, .slice (some ⟨w_1.heap.size, 0, none⟩) 19 19), (3, .int .i64 (i : Int)), (4, .iface 80 (.pointer (some (errAt es (i + 1))))), (5, .int .i64 (j : Int)), (27, .slice (some ⟨w.heap.size, 0, none⟩) 19 19), (28, .int .i64 19), (29, .int .i64 (i : Int))]) (fun j wj => j ≤ i ∧ Below w_23.heap.size w_23 wj) (fun j => i - j) 0 ⟨by omega, Below.refl _ _⟩ (by kernel_rfl) ?_
    rintro j wj ⟨hj, HBj⟩
    refine X_seq ?_
    refine X_seq ?_
    refine X_region ?_
    refine XL_run 2 [] [(1, .slice (some ⟨w.heap.size, 0, none⟩) 19 19), (2, .slice (some ⟨w_1.heap.size, 0, none⟩) 19 19), (3, .int .i64 (i : Int)), (4, .iface 80 (.pointer (some (errAt es (i + 1))))), (5, .int .i64 (j : Int)), (27, .slice (some ⟨w.heap.size, 0, none⟩) 19 19), (28, .int .i64 19), (29, .int .i64 (i : Int)), (46, .int .i64 (j : Int)), (47, .int .i64 (i : Int))] wj [] (by kernel_rfl) trivial ?_
    by_cases c_25 : (j : Int) < (i : Int)
    · refine XL_run 1 [(48, .eq (.bool true))] [(1, .slice (some ⟨w.heap.size, 0, none⟩) 19 19), (2, .slice (some ⟨w_1.heap.size, 0, none⟩) 19 19), (3, .int .i64 (i : Int)), (4, .iface 80 (.pointer (some (errAt es (i + 1))))), (5, .int .i64 (j : Int)), (27, .slice (some ⟨w.heap.size, 0, none⟩) 19 19), (28, .int .i64 19), (29, .int .i64 (i : Int)), (48, .bool true)] wj [Value.bool (decide ((j : Int) < (i : Int))) = Value.bool true] (by kernel_rfl) ⟨congrArg Value.bool (decide_eq_true (c_25)), trivial⟩ ?_
      refine XL_nil ?_
      refine X_cond true rfl ?_
      refine X_skip ?_
      refine X_seq ?_
      refine X_block ?_
      refine X_seq ?_
      refine X_region ?_
      refine XL_run 2 [] [(1, .slice (some ⟨w.heap.size, 0, none⟩) 19 19), (2, .slice (some ⟨w_1.heap.size, 0, none⟩) 19 19), (3, .int .i64 (i : Int)), (4, .iface 80 (.pointer (some (errAt es (i + 1))))), (5, .int .i64 (j : Int)), (27, .slice (some ⟨w.heap.size, 0, none⟩) 19 19), (28, .int .i64 19), (29, .int .i64 (i : Int)), (51, .slice (some ⟨w.heap.size, 0, none⟩) 19 19), (52, .int .i64 (j : Int))] wj [] (by kernel_rfl) trivial ?_
      have hB_26 : Below w_1.heap.size w_1 wj := (bt (bt (bt (bt hb_7 HBi) hb_17) hb_24) HBj)
      obtain ⟨ad_27, ha_28, hc_29⟩ := Kd.atErr (Kd.R_C (Kd.R_below hr_12 hB_26)) (i := (j : Int)) (by omega) (by show (j : Int) < (19 : Int); omega)
      rw [show ([1, 2, 3, 4, 5, 6, 7, 8, 9, 10, 11, 12, 13, 14, 15, 16, 17, 18, 19]).getD ((j : Int)).toNat 0 = j + 1 from nums_at (by omega)] at hc_29
      refine XL_run 3 [(53, .idx ad_27), (54, .load (.iface 80 (.pointer (some (errAt es (j + 1))))))] [(1, .slice (some ⟨w.heap.size, 0, none⟩) 19 19), (2, .slice (some ⟨w_1.heap.size, 0, none⟩) 19 19), (3, .int .i64 (i : Int)), (4, .iface 80 (.pointer (some (errAt es (i + 1))))), (5, .int .i64 (j : Int)), (27, .slice (some ⟨w.heap.size, 0, none⟩) 19 19), (28, .int .i64 19), (29, .int .i64 (i : Int)), (54, .iface 80 (.pointer (some (errAt es (j + 1))))), (55, .iface 80 (.pointer (some (errAt es (i + 1)))))] wj [(some ⟨w.heap.size, 0, none⟩) = some ad_27, (0 : Int) ≤ (j : Int), (j : Int) < (19 : Int), LoadsAs Tryd.prog 25 (ad_27.add ((j : Int).toNat * 1)) (.iface 80 (.pointer (some (errAt es (j + 1))))) wj] (by kernel_rfl) ⟨ha_28, (by omega), (by show (j : Int) < (19 : Int); omega), loads1 rfl (elem_cell hc_29 0 _ rfl), trivial⟩ ?_
      by_cases c_30 : (j + 1) = (i + 1)
      · exfalso; omega
      · have hB_31 : Below w.heap.size w wj := (bt (bt (bt (bt (bt hb_2 hb_7) HBi) hb_17) hb_24) HBj)
        refine XL_run 1 [(56, .as (.bool false))] [(1, .slice (some ⟨w.heap.size, 0, none⟩) 19 19), (2, .slice (some ⟨w_1.heap.size, 0, none⟩) 19 19), (3, .int .i64 (i : Int)), (4, .iface 80 (.pointer (some (errAt es (i + 1))))), (5, .int .i64 (j : Int)), (27, .slice (some ⟨w.heap.size, 0, none⟩) 19 19), (28, .int .i64 19), (29, .int .i64 (i : Int)), (56, .bool false)] wj [RunsAs Tryd.prog [(54, .iface 80 (.pointer (some (errAt es (j + 1))))), (55, .iface 80 (.pointer (some (errAt es (i + 1)))))] (Go.Op.binOp Go.BinOp.eql 25 (Go.Operand.tmp 54) (Go.Operand.tmp 55) 25) 4 (.bool false) wj] (by kernel_rfl) ⟨runs_bin rfl rfl rfl (by have h := (hE.below hB_31).eql (n := (j + 1)) (m := (i + 1)) (by omega) (by omega) (by omega) (by omega); rw [decide_eq_false c_30] at h; exact h), trivial⟩ ?_
        refine XL_nil ?_
        refine X_cond false rfl ?_
        refine X_skip ?_
        refine X_region ?_
        refine XL_run 3 [(50, .eq (.int .i64 ((j : Int) + 1)))] [(1, .slice (some ⟨w.heap.size, 0, none⟩) 19 19), (2, .slice (some ⟨w_1.heap.size, 0, none⟩) 19 19), (3, .int .i64 (i : Int)), (4, .iface 80 (.pointer (some (errAt es (i + 1))))), (5, .int .i64 ((j : Int) + 1)), (27, .slice (some ⟨w.heap.size, 0, none⟩) 19 19), (28, .int .i64 19), (29, .int .i64 (i : Int))] wj [Value.int .i64 (IntKind.i64.wrap ((j : Int) + 1)) = Value.int .i64 ((j : Int) + 1)] (by kernel_rfl) ⟨wr_i64 (by omega) (by omega), trivial⟩ ?_
        refine XL_nil ?_
        refine ⟨(j + 1), by kernel_rfl, ?_, ?_⟩
        · exact ⟨by omega, HBj⟩
        · (try dsimp only); omega
    · refine XL_run 1 [(48, .eq (.bool false))] [(1, .slice (some ⟨w.heap.size, 0, none⟩) 19 19), (2, .slice (some ⟨w_1.heap.size, 0, none⟩) 19 19), (3, .int .i64 (i : Int)), (4, .iface 80 (.pointer (some (errAt es (i + 1))))), (5, .int .i64 (j : Int)), (27, .slice (some ⟨w.heap.size, 0, none⟩) 19 19), (28, .int .i64 19), (29, .int .i64 (i : Int)), (48, .bool false)] wj [Value.bool (decide ((j : Int) < (i : Int))) = Value.bool false] (by kernel_rfl) ⟨congrArg Value.bool (decide_eq_false (c_25)), trivial⟩ ?_
      refine XL_nil ?_
      refine X_cond false rfl ?_
      refine X_exit ?_
      refine X_region ?_
      refine XL_run 2 [(57, .eq (.int .i64 ((i : Int) + 1)))] [(1, .slice (some ⟨w.heap.size, 0, none⟩) 19 19), (2, .slice (some ⟨w_1.heap.size, 0, none⟩) 19 19), (27, .slice (some ⟨w.heap.size, 0, none⟩) 19 19), (28, .int .i64 19), (29, .int .i64 ((i : Int) + 1))] wj [Value.int .i64 (IntKind.i64.wrap ((i : Int) + 1)) = Value.int .i64 ((i : Int) + 1)] (by kernel_rfl) ⟨wr_i64 (by omega) (by omega), trivial⟩ ?_
      refine XL_nil ?_
      refine ⟨(i + 1), by kernel_rfl, ?_, ?_⟩
      · exact ⟨by omega, (bt (bt (bt HBi hb_17) hb_24) HBj)⟩
      · (try dsimp only); omega
  · refine XL_run 1 [(30, .eq (.bool false))] [(1, .slice (some ⟨w.heap.size, 0, none⟩) 19 19), (2, .slice (some ⟨w_1.heap.size, 0, none⟩) 19 19), (27, .slice (some ⟨w.heap.size, 0, none⟩) 19 19), (28, .int .i64 19), (29, .int .i64 (i : Int)), (30, .bool false)] wi [Value.bool (decide ((i : Int) < 19)) = Value.bool false] (by kernel_rfl) ⟨congrArg Value.bool (decide_eq_false (c_11)), trivial⟩ ?_
    refine XL_nil ?_
    refine X_seq ?_
    refine X_cond false rfl ?_
    refine X_exit ?_
    refine X_seq ?_
    refine X_cond false rfl ?_
    refine X_skip ?_
    refine X_seq ?_
    refine X_cond false rfl ?_
    refine X_skip ?_
    refine X_seq ?_
    refine X_cond false rfl ?_
    refine X_skip ?_
    refine X_seq ?_
    refine X_region ?_
    refine XL_run 1 [] [(0, .bool true)] wi [] (by kernel_rfl) trivial ?_
    refine XL_nil ?_
    refine X_ret ?_
    refine RX.ret_ok (P := Tryd.prog) (fn := Tryd.f10) (N := 58) (R := R_) [.bool true] (by kernel_rfl) (hR_ _ _ ?_)
    exact ⟨rfl, (bt (bt hb_2 hb_7) HBi)⟩
end Go.Proofs.YtlnfgkafnpbeeaaDoor
