import Derived.Test.YtkehomiogkoomaaDoorRef3
import Derived.Test.YtkehomiogkoomaaDoorHand
/- What vellumhand.Attrs, Ops, Kept and KeptOps do. Conditions: sizes. -/
set_option linter.unusedVariables false
set_option linter.unusedSimpArgs false
set_option maxRecDepth 100000
namespace Go.Proofs.YtkehomiogkoomaaDoor
open Go Go.RowKit Go.Proofs.YtkehomiogkoomaaDoorW.PrintWords RX
theorem ent31 : Ent Tryd.prog 31 := ent_of Tryd.func31 (by kernel_rfl) rfl
theorem ent41 : Ent Tryd.prog 41 := ent_of Tryd.func41 (by kernel_rfl) rfl
theorem hAttrs_any (A : Option Addr) (c : Nat) (xs : List At) (w : World) (hx : kAttr.C w A xs.length xs) (hn : xs.length ≤ 100000000) : Calls Tryd.prog 31 #[.slice A xs.length c] w fun e w' => ∃ A' c', e = .returned (.slice A' xs.length c') ∧ kAttrsH.M w' w.heap.size (OkFrom w.heap.size) xs [.slice A' xs.length c'] ∧ Below w.heap.size w w' := by
 have hpl : xs.length ≤ 9223372036854775807 := hx.2.1
 refine RX.enter Tryd.func31 rfl 18 rfl [(0, .slice A xs.length c)] rfl (by kernel_rfl) (fun R_ hR_ => ?_)
 refine sq (rg (xe0 1 [(0, .slice A xs.length c)] ?_))
 refine nl (sq (sq (rg (xr0 2 [(5, .int .i64 (xs.length : Int))] [] ?_))))
 by_cases c_1 : (xs.length : Int) = 0
 ·refine xr 1 [(6, .eq (.bool true))] [(6, .bool true)] [5] [Value.bool ((xs.length : Int) == 0) = Value.bool true] ⟨congrArg Value.bool (beq_iff_eq.2 (c_1)), trivial⟩ ?_
  refine nl (ct (sq (rg (xe0 1 [(2, .slice none 0 0)] ?_))))
  refine nl (X_ret (rk [.slice none 0 0] (hR_ _ _ ?_)))
  have h0 : xs = [] := List.eq_nil_of_length_eq_zero (by omega)
  subst h0
  exact ⟨none, 0, rfl, ⟨none, 0, rfl, .inl ⟨rfl, rfl, rfl⟩⟩, (Below.refl _ _)⟩
 refine xr 1 [(6, .eq (.bool false))] [(6, .bool false)] [5] [Value.bool ((xs.length : Int) == 0) = Value.bool false] ⟨congrArg Value.bool (beq_eq_false_iff_ne.2 (c_1)), trivial⟩ ?_
 refine nl (cf (sk (sq (rg (xw 1 [] [(7, .slice (some ⟨w.heap.size, 0, none⟩) 0 0)] [6] (w.alloc (.cells #[] 71)) [] trivial ?_)))))
 obtain ⟨w_2, hw_6, hb_3, hk_4, hz_5⟩ := new_world w #[] 71
 rw [hw_6]
 refine xr0 1 [(8, .slice A xs.length c)] [] ?_
 have hr_7 := Kd.R_litB kAttr (W := w) (e := 71) (cs := #[]) [] hk_4 (repsAttr []) (Nat.le_of_ble_eq_true (by kernel_rfl))
 refine XL_appendAll (c' := c) kAttr rfl rfl rfl w.heap.size 71 (.agg #[.string ByteArray.empty, .int .i64 0, .int .i64 0, .string ByteArray.empty]) 48 Tryd.underlying45 info71 rfl (by decide) (by omega) ([]) xs (by kernel_rfl) hr_7 (Kd.C_below hx hb_3) kAttr_KM (hb_3).size (by first | omega | (simp; omega)) ?_
 intro A_8 c_9 w_10 hr_11 hc_12 hg_13 hl_14 ha_15
 have he_16 : ([] ++ xs) = xs := List.nil_append _
 rw [he_16] at hr_11 ⊢
 refine xw 3 [] [(9, .slice A_8 xs.length c_9), (12, .slice (some ⟨w_10.heap.size, 0, none⟩) 2 2)] [7, 8] (w_10.alloc (.cells #[.string (⟨#[115, 112, 97, 114, 101]⟩ : ByteArray), .int .i64 0, .int .i64 0, .string ByteArray.empty, .string (⟨#[114, 111, 111, 109]⟩ : ByteArray), .int .i64 0, .int .i64 0, .string ByteArray.empty] 71)) [] trivial ?_
 obtain ⟨w_17, hw_21, hb_18, hk_19, hz_20⟩ := new_world w_10 #[.string (⟨#[115, 112, 97, 114, 101]⟩ : ByteArray), .int .i64 0, .int .i64 0, .string ByteArray.empty, .string (⟨#[114, 111, 111, 109]⟩ : ByteArray), .int .i64 0, .int .i64 0, .string ByteArray.empty] 71
 rw [hw_21]
 have hr_22 := Kd.R_litB kAttr (W := w_10) (e := 71) (cs := #[.string (⟨#[115, 112, 97, 114, 101]⟩ : ByteArray), .int .i64 0, .int .i64 0, .string ByteArray.empty, .string (⟨#[114, 111, 111, 109]⟩ : ByteArray), .int .i64 0, .int .i64 0, .string ByteArray.empty]) [((⟨#[115, 112, 97, 114, 101]⟩ : ByteArray), 0, 0, ByteArray.empty), ((⟨#[114, 111, 111, 109]⟩ : ByteArray), 0, 0, ByteArray.empty)] hk_19 (repsAttr [((⟨#[115, 112, 97, 114, 101]⟩ : ByteArray), 0, 0, ByteArray.empty), ((⟨#[114, 111, 111, 109]⟩ : ByteArray), 0, 0, ByteArray.empty)]) (Nat.le_of_ble_eq_true (by kernel_rfl))
 have hB_31 : Below w.heap.size w w_17 := (bt (bgo hb_3 hg_13 hl_14 (Nat.le_refl _)) hb_18)
 refine XL_appendAll (c' := 2) kAttr rfl rfl rfl w.heap.size 71 (.agg #[.string ByteArray.empty, .int .i64 0, .int .i64 0, .string ByteArray.empty]) 48 Tryd.underlying45 info71 rfl (by decide) (by omega) xs ([((⟨#[115, 112, 97, 114, 101]⟩ : ByteArray), 0, 0, ByteArray.empty), ((⟨#[114, 111, 111, 109]⟩ : ByteArray), 0, 0, ByteArray.empty)]) (by kernel_rfl) (Kd.R_below hr_11 hb_18) (Kd.R_C hr_22) kAttr_KM (hB_31).size (by first | omega | (simp; omega)) ?_
 intro A_23 c_24 w_25 hr_26 hc_27 hg_28 hl_29 ha_30
 have he_32 : (xs ++ ([((⟨#[115, 112, 97, 114, 101]⟩ : ByteArray), 0, 0, ByteArray.empty), ((⟨#[114, 111, 111, 109]⟩ : ByteArray), 0, 0, ByteArray.empty)])) = (xs ++ spL) := rfl
 rw [he_32] at hr_26 ⊢
 refine xe0 1 [(0, .slice A xs.length c), (3, .slice A_23 ((xs ++ spL).length) c_24)] ?_
 refine nl (sq (X_region ?_))
 have hC_33 : kAttr.C w_25 A_23 xs.length xs := by have h := RX.Kd.C_take (m := xs.length) (Kd.R_C hr_26) (by first | omega | (simp; done) | (simp; omega)); rwa [show (List.take xs.length (xs ++ spL)) = xs from List.take_left ..] at h
 refine xe 5 [(17, .as (.slice A_23 xs.length c_24))] [(2, .slice A_23 xs.length c_24)] [RunsAs Tryd.prog [(14, .slice A_23 ((xs ++ spL).length) c_24), (16, .int .i64 (xs.length : Int))] (Go.Op.slice 45 (Go.Operand.tmp 14) none (some (Go.Operand.tmp 16)) none) 45 (.slice A_23 xs.length c_24) w_25] ⟨runs_slice_h (h := (xs.length : Int)) rfl rfl rfl rfl (by omega) (by have h := hc_27; (try simp only [List.length_append, List.length_cons, List.length_nil] at h); omega), trivial⟩ ?_
 refine nl (X_ret (rk [.slice A_23 xs.length c_24] (hR_ _ _ ?_)))
 have hR := hr_26
 rw [List.length_append, show spL.length = 2 from rfl] at hR
 exact ⟨_, _, rfl, ⟨_, _, rfl, .inr ⟨_, rfl, Kd.R_low hR (Nat.le_refl _)⟩⟩, (bgo hB_31 hg_28 hl_29 (Nat.le_refl _))⟩
theorem hand_key (xs : List At) (j : Nat) : ((xs ++ spL).getD (xs.length + j) at0) = spL.getD j at0 := by
 rw [List.getD_eq_getElem?_getD, List.getElem?_append_right (Nat.le_add_right _ _), Nat.add_sub_cancel_left, ← List.getD_eq_getElem?_getD]
theorem hand_key0 (xs : List At) : ((xs ++ spL).getD xs.length at0).1 = (⟨#[115, 112, 97, 114, 101]⟩ : ByteArray) := by have h := hand_key xs 0; rw [Nat.add_zero] at h; rw [h]; rfl
theorem hand_key1 (xs : List At) : ((xs ++ spL).getD ((xs.length : Int) + 1).toNat at0).1 = (⟨#[114, 111, 111, 109]⟩ : ByteArray) := by rw [show ((xs.length : Int) + 1).toNat = xs.length + 1 by omega, hand_key]; rfl
theorem hKept_any (A : Option Addr) (c : Nat) (B : Option Addr) (d : Nat) (xs : List At) (w : World) (hx : kAttr.C w A xs.length xs) (hS : xs = [] ∨ xs.length + 2 ≤ c ∧ kAttr.C w A (xs.length + 2) (xs ++ spL)) (hy : kAttr.C w B xs.length xs) (hn : xs.length ≤ 100000000) : Calls Tryd.prog 41 #[.slice A xs.length c, .slice B xs.length d] w fun e w' => e = .returned (.bool true) ∧ Below w.heap.size w w' := by
 have hpl : xs.length ≤ 9223372036854775807 := hy.2.1
 refine RX.enter Tryd.func41 rfl 35 rfl [(0, .slice A xs.length c), (1, .slice B xs.length d)] rfl (by kernel_rfl) (fun R_ hR_ => ?_)
 refine sq (rg (xe0 1 [(0, .slice A xs.length c), (1, .slice B xs.length d)] ?_))
 refine nl (sq (sq (rg (xr0 2 [(6, .slice A xs.length c), (7, .slice B xs.length d)] [] ?_))))
 refine xc 46 ent46 [.slice A xs.length c, .slice B xs.length d] (refSame_any _ _ _ _ xs xs _ hx hy) ?_
 rintro e w_1 ⟨rfl, hb_2⟩; refine ⟨_, rfl, ?_⟩
 rw [show decide (xs = xs) = true from decide_eq_true rfl]
 refine xr0 1 [(9, .bool false)] [6, 7, 8] ?_
 refine nl (cf (sk (sq (sq (rg (xr0 2 [(11, .int .i64 (xs.length : Int))] [9] ?_))))))
 by_cases c_3 : (xs.length : Int) = 0
 ·refine xr 1 [(12, .eq (.bool true))] [(12, .bool true)] [11] [Value.bool ((xs.length : Int) == 0) = Value.bool true] ⟨congrArg Value.bool (beq_iff_eq.2 (c_3)), trivial⟩ ?_
  refine nl (ct (sq (rg (xe0 1 [(4, .bool true)] ?_))))
  refine nl (X_ret (rk [.bool true] (hR_ _ _ ?_)))
  exact ⟨rfl, hb_2⟩
 refine xr 1 [(12, .eq (.bool false))] [(12, .bool false)] [11] [Value.bool ((xs.length : Int) == 0) = Value.bool false] ⟨congrArg Value.bool (beq_eq_false_iff_ne.2 (c_3)), trivial⟩ ?_
 refine nl (cf (sk (sq (rg (xr 4 [(16, .eq (.int .i64 ((xs.length : Int) + 2)))] [(13, .slice A xs.length c), (16, .int .i64 ((xs.length : Int) + 2))] [0, 12] [Value.int .i64 (IntKind.i64.wrap ((xs.length : Int) + 2)) = Value.int .i64 ((xs.length : Int) + 2)] ⟨wr_i64 (by omega) (by omega), trivial⟩ ?_)))))
 have hS_4 : xs.length + 2 ≤ c ∧ kAttr.C w A (xs.length + 2) (xs ++ spL) := hS.resolve_left (fun h_ => by have h2_ := congrArg List.length h_; simp only [List.length_nil] at h2_; omega)
 refine xe 2 [(17, .as (.slice A (xs.length + 2) c))] [(1, .slice B xs.length d), (5, .slice A (xs.length + 2) c)] [RunsAs Tryd.prog [(13, .slice A xs.length c), (16, .int .i64 ((xs.length : Int) + 2))] (Go.Op.slice 45 (Go.Operand.tmp 13) none (some (Go.Operand.tmp 16)) none) 45 (.slice A (xs.length + 2) c) w_1] ⟨runs_slice_h (h := (xs.length : Int) + 2) rfl rfl rfl rfl (by omega) (by have h_ := hS_4.1; omega), trivial⟩ ?_
 refine nl (sq (rg (xr0 3 [(18, .slice A (xs.length + 2) c), (20, .int .i64 (xs.length : Int))] [] ?_)))
 obtain ⟨ad_5, ha_6, hc_7⟩ := Kd.atAttr (Kd.C_below hS_4.2 hb_2) (i := (xs.length : Int)) (by omega) (by omega)
 replace hc_7 : CellsAt w_1 (ad_5.add ((xs.length : Int).toNat * 4)) [.string (((xs ++ spL).getD xs.length at0).1), .int .i64 (((xs ++ spL).getD xs.length at0).2.1), .int .i64 (((xs ++ spL).getD xs.length at0).2.2.1), .string (((xs ++ spL).getD xs.length at0).2.2.2)] := hc_7
 refine xe 9 [(21, .idx ad_5), (23, .load (.string (((xs ++ spL).getD xs.length at0).1))), (24, .eq (.bool true)), (29, .eq (.int .i64 ((xs.length : Int) + 1)))] [(25, .bool true), (26, .slice A (xs.length + 2) c), (29, .int .i64 ((xs.length : Int) + 1))] [A = some ad_5, (0 : Int) ≤ (xs.length : Int), (xs.length : Int) < ((xs.length + 2) : Int), LoadsAs Tryd.prog 9 (ad_5.add ((xs.length : Int).toNat * 4)) (.string (((xs ++ spL).getD xs.length at0).1)) w_1, Value.bool ((((xs ++ spL).getD xs.length at0).1).toList == (⟨#[115, 112, 97, 114, 101]⟩ : ByteArray).toList) = Value.bool true, Value.int .i64 (IntKind.i64.wrap ((xs.length : Int) + 1)) = Value.int .i64 ((xs.length : Int) + 1)] ⟨ha_6, (by omega), (by omega), loads1 rfl (elem_cell hc_7 0 _ rfl), congrArg Value.bool (strEqT ((hand_key0 xs))), wr_i64 (by omega) (by omega), trivial⟩ ?_
 obtain ⟨ad_8, ha_9, hc_10⟩ := Kd.atAttr (Kd.C_below hS_4.2 hb_2) (i := (xs.length : Int) + 1) (by omega) (by omega)
 replace hc_10 : CellsAt w_1 (ad_8.add (((xs.length : Int) + 1).toNat * 4)) [.string (((xs ++ spL).getD ((xs.length : Int) + 1).toNat at0).1), .int .i64 (((xs ++ spL).getD ((xs.length : Int) + 1).toNat at0).2.1), .int .i64 (((xs ++ spL).getD ((xs.length : Int) + 1).toNat at0).2.2.1), .string (((xs ++ spL).getD ((xs.length : Int) + 1).toNat at0).2.2.2)] := hc_10
 refine xe 6 [(30, .idx ad_8), (32, .load (.string (((xs ++ spL).getD ((xs.length : Int) + 1).toNat at0).1))), (33, .eq (.bool true))] [(4, .bool true)] [A = some ad_8, (0 : Int) ≤ (xs.length : Int) + 1, (xs.length : Int) + 1 < ((xs.length + 2) : Int), LoadsAs Tryd.prog 9 (ad_8.add (((xs.length : Int) + 1).toNat * 4)) (.string (((xs ++ spL).getD ((xs.length : Int) + 1).toNat at0).1)) w_1, Value.bool ((((xs ++ spL).getD ((xs.length : Int) + 1).toNat at0).1).toList == (⟨#[114, 111, 111, 109]⟩ : ByteArray).toList) = Value.bool true] ⟨ha_9, (by omega), (by omega), loads1 rfl (elem_cell hc_10 0 _ rfl), congrArg Value.bool (strEqT ((hand_key1 xs))), trivial⟩ ?_
 refine nl (X_ret (rk [.bool true] (hR_ _ _ ?_)))
 exact ⟨rfl, hb_2⟩
end Go.Proofs.YtkehomiogkoomaaDoor
