/- AttrsJoins returns true. Conditions: sizes that the row bounds, the tables of utf8, Errs. -/
import Derived.Test.YtdkdajofppjnaaaDoorR4
import Derived.Test.YtdkdajofppjnaaaDoorNum
set_option linter.unusedVariables false
set_option linter.unusedSimpArgs false
set_option maxRecDepth 100000
namespace Go.Proofs.YtdkdajofppjnaaaDoor
open Go Go.RowKit Go.Proofs.YtdkdajofppjnaaaDoorW.PrintWords RX
theorem ent19 : Ent Tryd.prog 19 := ent_of Tryd.func19 (by kernel_rfl) rfl
theorem ent17 : Ent Tryd.prog 17 := ent_of Tryd.func17 (by kernel_rfl) rfl
theorem ent25 : Ent Tryd.prog 25 := ent_of Tryd.func25 (by kernel_rfl) rfl
theorem plainErr_le (k n : Int) (t : ByteArray) : plainErr k n t ≤ 19 := by unfold plainErr; repeat (first | omega | split)
theorem pairErr_le (x : At) : pairErr x ≤ 19 := by
  have := plainErr_le x.2.1 x.2.2.1 x.2.2.2
  unfold pairErr
  repeat (first | omega | split)
theorem attrAt_le (n : Bool) (xs : List At) (i : Nat) : attrAt n xs i ≤ 19 := by
  have := pairErr_le (xs.getD i at0)
  unfold attrAt
  repeat (first | omega | split)
theorem chkUpto_le (n : Bool) (xs : List At) : ∀ i, chkUpto n xs i ≤ 19
  | 0 => by simp [chkUpto]
  | i + 1 => by
    have h1 := chkUpto_le n xs i
    have h2 := attrAt_le n xs i
    show (if chkUpto n xs i ≠ 0 then chkUpto n xs i else attrAt n xs i) ≤ 19
    split <;> omega
theorem chk2_le (na nb : Bool) (xs ys : List At) : chk2 na xs nb ys ≤ 19 := by
  have h1 := chkUpto_le na xs xs.length
  have h2 := chkUpto_le nb ys ys.length
  unfold chk2 chkA
  split <;> omega
theorem composeP_le (b : Bool) (xs ys : List At) : (composeP b xs ys).2 ≤ 19 := by have := chk2_le true true xs ys; unfold composeP; split <;> simp_all
theorem applyP_le (xs ys : List At) : (applyP xs ys).2 ≤ 19 := by have := chk2_le false true xs ys; unfold applyP; split <;> simp_all
theorem diffP_le (xs ys : List At) : (diffP xs ys).2 ≤ 19 := by have := chk2_le false false xs ys; unfold diffP; split <;> simp_all
theorem invertP_le (xs ys : List At) : (invertP xs ys).2 ≤ 19 := by have := chk2_le true false xs ys; unfold invertP; split <;> simp_all
theorem transformP_le (b : Bool) (xs ys : List At) : (transformP b xs ys).2 ≤ 19 := by have := chk2_le true true xs ys; unfold transformP; split <;> simp_all
theorem same_any (A B : Option Addr) (c d : Nat) (zs : List At) (w : World) (hx : kAttr.C w A zs.length zs) (hy : kAttr.C w B zs.length zs) (es : List Addr) (n : Nat) (hn : n ≤ 19) (hE : Errs w es) :
    Calls Tryd.prog 19 #[.slice A zs.length c, errV es n, .slice B zs.length d, .int .i64 (n : Int)] w fun e w' => e = .returned (.bool true) ∧ Below w.heap.size w w' := by
  refine RX.enter Tryd.func19 rfl 18 rfl [(0, .slice A zs.length c), (1, errV es n), (2, .slice B zs.length d), (3, .int .i64 (n : Int))] rfl (by kernel_rfl) (fun R_ hR_ => ?_)
  refine X_seq ?_
  refine X_region ?_
  refine XL_run 1 [] [(0, .slice A zs.length c), (1, errV es n), (2, .slice B zs.length d), (3, .int .i64 (n : Int))] w [] (by kernel_rfl) trivial ?_
  refine XL_nil ?_
  refine X_seq ?_
  refine X_region ?_
  refine XL_run 2 [] [(1, errV es n), (3, .int .i64 (n : Int)), (9, .slice A zs.length c), (10, .slice B zs.length d)] w [] (by kernel_rfl) trivial ?_
  refine XL_call 24 rfl rfl rfl ent24 [.slice A zs.length c, .slice B zs.length d] (by kernel_rfl) (refSame_any _ _ _ _ zs zs _ hx hy) ?_
  rintro e w_1 ⟨rfl, hb_2⟩; refine ⟨_, rfl, ?_⟩
  rw [show decide (zs = zs) = true from decide_eq_true rfl]
  refine XL_run 2 [] [(3, .int .i64 (n : Int)), (12, .bool true), (13, errV es n)] w_1 [] (by kernel_rfl) trivial ?_
  refine XL_call 26 rfl rfl rfl ent26 [errV es n] (by kernel_rfl) (num_any es n hn _ (hE.below hb_2)) ?_
  rintro e w_3 ⟨rfl, hb_4⟩; refine ⟨_, rfl, ?_⟩
  refine XL_run 4 [(16, .eq (.bool true))] [(8, .bool true)] w_3 [Value.bool ((n : Int) == (n : Int)) = Value.bool true] (by kernel_rfl) ⟨congrArg Value.bool (beq_self_eq_true _), trivial⟩ ?_
  refine XL_nil ?_
  refine X_ret ?_
  refine RX.ret_ok (P := Tryd.prog) (fn := Tryd.f19) (N := 18) (R := R_) [.bool true] (by kernel_rfl) (hR_ _ _ ?_)
  exact ⟨rfl, (bt hb_2 hb_4)⟩
def spr : At := ((⟨#[115, 112, 97, 114, 101]⟩ : ByteArray), 0, 0, ByteArray.empty)
def rom : At := ((⟨#[114, 111, 111, 109]⟩ : ByteArray), 0, 0, ByteArray.empty)
/-- a list of its own, with spare room -/
def Spare (w : World) (A : Option Addr) (c : Nat) (xs : List At) : Prop := (xs = [] ∧ A = none ∧ c = 0) ∨ (xs ≠ [] ∧ (xs ++ [spr, rom]).length ≤ c ∧ kAttr.C w A (xs ++ [spr, rom]).length (xs ++ [spr, rom]))
theorem Spare.C {w : World} {A : Option Addr} {c : Nat} {xs : List At} (h : Spare w A c xs) : kAttr.C w A xs.length xs := by
  rcases h with ⟨rfl, rfl, rfl⟩ | ⟨_, _, h⟩
  · exact ⟨rfl, by simp, fun h => by simp at h⟩
  · have := RX.Kd.C_take h (m := xs.length) (by simp)
    rwa [List.take_left' rfl] at this
theorem Spare.le {w : World} {A : Option Addr} {c : Nat} {xs : List At} (h : Spare w A c xs) : xs.length ≤ c := by
  rcases h with ⟨rfl, rfl, rfl⟩ | ⟨_, h, _⟩
  · exact Nat.le_refl _
  · rw [List.length_append] at h; omega
theorem Spare.below {w w1 : World} {A : Option Addr} {c : Nat} {xs : List At} (h : Spare w A c xs) (hb : Below w.heap.size w w1) : Spare w1 A c xs := by
  rcases h with h | ⟨h1, h2, h3⟩
  · exact .inl h
  · exact .inr ⟨h1, h2, Kd.C_below h3 hb⟩
theorem hattrs_any (A : Option Addr) (c : Nat) (xs : List At) (w : World) (hx : kAttr.C w A xs.length xs) (hl : xs.length ≤ 400000000) :
    Calls Tryd.prog 17 #[.slice A xs.length c] w fun e w' => ∃ A' c', e = .returned (.slice A' xs.length c') ∧ Spare w' A' c' xs ∧ Below w.heap.size w w' := by
  refine RX.enter Tryd.func17 rfl 18 rfl [(0, .slice A xs.length c)] rfl (by kernel_rfl) (fun R_ hR_ => ?_)
  refine X_seq ?_
  refine X_region ?_
  refine XL_run 1 [] [(0, .slice A xs.length c)] w [] (by kernel_rfl) trivial ?_
  refine XL_nil ?_
  refine X_seq ?_
  refine X_seq ?_
  refine X_region ?_
  refine XL_run 2 [] [(0, .slice A xs.length c), (5, .int .i64 (xs.length : Int))] w [] (by kernel_rfl) trivial ?_
  by_cases c_1 : (xs.length : Int) = 0
  · refine XL_run 1 [(6, .eq (.bool true))] [(0, .slice A xs.length c), (6, .bool true)] w [Value.bool ((xs.length : Int) == 0) = Value.bool true] (by kernel_rfl) ⟨congrArg Value.bool (beq_iff_eq.2 (c_1)), trivial⟩ ?_
    refine XL_nil ?_
    refine X_cond true rfl ?_
    refine X_seq ?_
    refine X_region ?_
    refine XL_run 1 [] [(2, .slice none 0 0)] w [] (by kernel_rfl) trivial ?_
    refine XL_nil ?_
    refine X_ret ?_
    refine RX.ret_ok (P := Tryd.prog) (fn := Tryd.f17) (N := 18) (R := R_) [.slice none 0 0] (by kernel_rfl) (hR_ _ _ ?_)
    obtain rfl : xs = [] := List.length_eq_zero_iff.1 (by omega)
    exact ⟨none, 0, rfl, .inl ⟨rfl, rfl, rfl⟩, (Below.refl _ _)⟩
  · refine XL_run 1 [(6, .eq (.bool false))] [(0, .slice A xs.length c), (6, .bool false)] w [Value.bool ((xs.length : Int) == 0) = Value.bool false] (by kernel_rfl) ⟨congrArg Value.bool (beq_eq_false_iff_ne.2 (c_1)), trivial⟩ ?_
    refine XL_nil ?_
    refine X_cond false rfl ?_
    refine X_skip ?_
    refine X_seq ?_
    refine X_region ?_
    refine XL_run 1 [] [(0, .slice A xs.length c), (7, .slice (some ⟨w.heap.size, 0, none⟩) 0 0)] (w.alloc (.cells #[] 55)) [] (by kernel_rfl) trivial ?_
    obtain ⟨w_2, hw_6, hb_3, hk_4, hz_5⟩ := new_world w #[] 55
    rw [hw_6]
    refine XL_run 1 [] [(0, .slice A xs.length c), (7, .slice (some ⟨w.heap.size, 0, none⟩) 0 0), (8, .slice A xs.length c)] w_2 [] (by kernel_rfl) trivial ?_
    have hr_7 := Kd.R_litB kAttr (W := w) (e := 55) (cs := #[]) [] hk_4 (repsAttr []) (Nat.le_of_ble_eq_true (by kernel_rfl))
    refine XL_appendAll (c' := c) kAttr rfl rfl rfl w.heap.size 55 (.agg #[.string ByteArray.empty, .int .i64 0, .int .i64 0, .string ByteArray.empty]) 48 Tryd.underlying22 info55 rfl (by decide) (by omega) ([]) xs (by kernel_rfl) hr_7 (Kd.C_below hx hb_3) kAttr_KM (hb_3).size (by first | omega | (simp; omega)) ?_
    intro A_8 c_9 w_10 hr_11 hc_12 hg_13 hl_14 ha_15
    have he_16 : ([] ++ xs) = xs := List.nil_append xs
    rw [he_16] at hr_11 ⊢
    refine XL_run 3 [] [(0, .slice A xs.length c), (9, .slice A_8 xs.length c_9), (12, .slice (some ⟨w_10.heap.size, 0, none⟩) 2 2)] (w_10.alloc (.cells #[.string (⟨#[115, 112, 97, 114, 101]⟩ : ByteArray), .int .i64 0, .int .i64 0, .string ByteArray.empty, .string (⟨#[114, 111, 111, 109]⟩ : ByteArray), .int .i64 0, .int .i64 0, .string ByteArray.empty] 55)) [] (by kernel_rfl) trivial ?_
    obtain ⟨w_17, hw_21, hb_18, hk_19, hz_20⟩ := new_world w_10 #[.string (⟨#[115, 112, 97, 114, 101]⟩ : ByteArray), .int .i64 0, .int .i64 0, .string ByteArray.empty, .string (⟨#[114, 111, 111, 109]⟩ : ByteArray), .int .i64 0, .int .i64 0, .string ByteArray.empty] 55
    rw [hw_21]
    have hr_22 := Kd.R_litB kAttr (W := w_10) (e := 55) (cs := #[.string (⟨#[115, 112, 97, 114, 101]⟩ : ByteArray), .int .i64 0, .int .i64 0, .string ByteArray.empty, .string (⟨#[114, 111, 111, 109]⟩ : ByteArray), .int .i64 0, .int .i64 0, .string ByteArray.empty]) [((⟨#[115, 112, 97, 114, 101]⟩ : ByteArray), 0, 0, ByteArray.empty), ((⟨#[114, 111, 111, 109]⟩ : ByteArray), 0, 0, ByteArray.empty)] hk_19 (repsAttr [((⟨#[115, 112, 97, 114, 101]⟩ : ByteArray), 0, 0, ByteArray.empty), ((⟨#[114, 111, 111, 109]⟩ : ByteArray), 0, 0, ByteArray.empty)]) (Nat.le_of_ble_eq_true (by kernel_rfl))
    have hB_31 : Below w.heap.size w w_17 := (bt (bgo hb_3 hg_13 hl_14 (Nat.le_refl _)) hb_18)
    refine XL_appendAll (c' := 2) kAttr rfl rfl rfl w.heap.size 55 (.agg #[.string ByteArray.empty, .int .i64 0, .int .i64 0, .string ByteArray.empty]) 48 Tryd.underlying22 info55 rfl (by decide) (by omega) xs ([((⟨#[115, 112, 97, 114, 101]⟩ : ByteArray), 0, 0, ByteArray.empty), ((⟨#[114, 111, 111, 109]⟩ : ByteArray), 0, 0, ByteArray.empty)]) (by kernel_rfl) (Kd.R_below hr_11 hb_18) (Kd.R_C hr_22) kAttr_KM (hB_31).size (by first | omega | (simp; omega)) ?_
    intro A_23 c_24 w_25 hr_26 hc_27 hg_28 hl_29 ha_30
    have he_32 : (xs ++ ([((⟨#[115, 112, 97, 114, 101]⟩ : ByteArray), 0, 0, ByteArray.empty), ((⟨#[114, 111, 111, 109]⟩ : ByteArray), 0, 0, ByteArray.empty)])) = (xs ++ [spr, rom]) := rfl
    rw [he_32] at hr_26 ⊢
    refine XL_run 1 [] [(0, .slice A xs.length c), (3, .slice A_23 ((xs ++ [spr, rom]).length) c_24)] w_25 [] (by kernel_rfl) trivial ?_
    refine XL_nil ?_
    refine X_seq ?_
    refine X_region ?_
    have hC_33 : kAttr.C w_25 A_23 xs.length xs := by have h := RX.Kd.C_take (m := xs.length) (Kd.R_C hr_26) (by first | omega | (simp; done) | (simp; omega)); rwa [show (List.take xs.length (xs ++ [spr, rom])) = xs from List.take_left' rfl] at h
    refine XL_run 5 [(17, .as (.slice A_23 xs.length c_24))] [(2, .slice A_23 xs.length c_24)] w_25 [RunsAs Tryd.prog [(14, .slice A_23 ((xs ++ [spr, rom]).length) c_24), (16, .int .i64 (xs.length : Int))] (Go.Op.slice 22 (Go.Operand.tmp 14) none (some (Go.Operand.tmp 16)) none) 22 (.slice A_23 xs.length c_24) w_25] (by kernel_rfl) ⟨runs_slice_h (h := (xs.length : Int)) rfl rfl rfl rfl (by omega) (by have h := hc_27; (try simp only [List.length_append, List.length_cons, List.length_nil] at h); omega), trivial⟩ ?_
    refine XL_nil ?_
    refine X_ret ?_
    refine RX.ret_ok (P := Tryd.prog) (fn := Tryd.f17) (N := 18) (R := R_) [.slice A_23 xs.length c_24] (by kernel_rfl) (hR_ _ _ ?_)
    exact ⟨_, _, rfl, .inr ⟨fun e_ => by subst e_; simp at *, (RX.Kd.R_len hr_26).2, RX.Kd.R_C hr_26⟩, (bgo hB_31 hg_28 hl_29 (Nat.le_refl _))⟩
theorem kept_sp (A B : Option Addr) (c d : Nat) (xs : List At) (w : World) (hx : kAttr.C w A xs.length xs) (hy : kAttr.C w B xs.length xs) (hne : ¬ (xs.length : Int) = 0) (hc : (xs ++ [spr, rom]).length ≤ c) (hS : kAttr.C w A (xs ++ [spr, rom]).length (xs ++ [spr, rom])) (hl : xs.length ≤ 400000000) :
    Calls Tryd.prog 25 #[.slice A xs.length c, .slice B xs.length d] w fun e w' => e = .returned (.bool true) ∧ Below w.heap.size w w' := by
  have hll : (xs ++ [spr, rom]).length = xs.length + 2 := by simp
  have h0 : ((xs ++ [spr, rom]).getD xs.length at0) = spr := by simp [List.getD_eq_getElem?_getD]
  have h1 : ((xs ++ [spr, rom]).getD (xs.length + 1) at0) = rom := by simp [List.getD_eq_getElem?_getD]
  refine RX.enter Tryd.func25 rfl 35 rfl [(0, .slice A xs.length c), (1, .slice B xs.length d)] rfl (by kernel_rfl) (fun R_ hR_ => ?_)
  refine X_seq ?_
  refine X_region ?_
  refine XL_run 1 [] [(0, .slice A xs.length c), (1, .slice B xs.length d)] w [] (by kernel_rfl) trivial ?_
  refine XL_nil ?_
  refine X_seq ?_
  refine X_seq ?_
  refine X_region ?_
  refine XL_run 2 [] [(0, .slice A xs.length c), (1, .slice B xs.length d), (6, .slice A xs.length c), (7, .slice B xs.length d)] w [] (by kernel_rfl) trivial ?_
  refine XL_call 24 rfl rfl rfl ent24 [.slice A xs.length c, .slice B xs.length d] (by kernel_rfl) (refSame_any _ _ _ _ xs xs _ hx hy) ?_
  rintro e w_1 ⟨rfl, hb_2⟩; refine ⟨_, rfl, ?_⟩
  rw [show decide (xs = xs) = true from decide_eq_true rfl]
  refine XL_run 1 [] [(0, .slice A xs.length c), (1, .slice B xs.length d), (9, .bool false)] w_1 [] (by kernel_rfl) trivial ?_
  refine XL_nil ?_
  refine X_cond false rfl ?_
  refine X_skip ?_
  refine X_seq ?_
  refine X_seq ?_
  refine X_region ?_
  refine XL_run 3 [(12, .eq (.bool false))] [(0, .slice A xs.length c), (1, .slice B xs.length d), (12, .bool false)] w_1 [Value.bool ((xs.length : Int) == 0) = Value.bool false] (by kernel_rfl) ⟨congrArg Value.bool (beq_eq_false_iff_ne.2 (hne)), trivial⟩ ?_
  refine XL_nil ?_
  refine X_cond false rfl ?_
  refine X_skip ?_
  refine X_seq ?_
  refine X_region ?_
  refine XL_run 4 [(16, .eq (.int .i64 ((xs.length : Int) + 2)))] [(1, .slice B xs.length d), (13, .slice A xs.length c), (16, .int .i64 ((xs.length : Int) + 2))] w_1 [Value.int .i64 (IntKind.i64.wrap ((xs.length : Int) + 2)) = Value.int .i64 ((xs.length : Int) + 2)] (by kernel_rfl) ⟨wr_i64 (by omega) (by omega), trivial⟩ ?_
  refine XL_run 2 [(17, .as (.slice A ((xs ++ [spr, rom]).length) c))] [(1, .slice B xs.length d), (5, .slice A ((xs ++ [spr, rom]).length) c)] w_1 [RunsAs Tryd.prog [(13, .slice A xs.length c), (16, .int .i64 ((xs.length : Int) + 2))] (Go.Op.slice 22 (Go.Operand.tmp 13) none (some (Go.Operand.tmp 16)) none) 22 (.slice A ((xs ++ [spr, rom]).length) c) w_1] (by kernel_rfl) ⟨(by have h_ := runs_slice_h (P := Tryd.prog) (l := [(13, .slice A xs.length c), (16, .int .i64 ((xs.length : Int) + 2))]) (t := 22) (e := 55) (ty := 22) (sz := 4) (x := .tmp 13) (hi := .tmp 16) (A := A) (n := xs.length) (c := c) (k := .i64) (h := (xs.length : Int) + 2) (w := w_1) rfl rfl rfl rfl (by omega) (by omega); rw [show ((xs.length : Int) + 2).toNat = (xs ++ [spr, rom]).length from by omega] at h_; exact h_), trivial⟩ ?_
  refine XL_nil ?_
  refine X_seq ?_
  refine X_region ?_
  refine XL_run 3 [] [(1, .slice B xs.length d), (5, .slice A ((xs ++ [spr, rom]).length) c), (18, .slice A ((xs ++ [spr, rom]).length) c), (20, .int .i64 (xs.length : Int))] w_1 [] (by kernel_rfl) trivial ?_
  obtain ⟨ad_3, ha_4, hc_5⟩ := Kd.atAttr (Kd.C_below hS hb_2) (i := (xs.length : Int)) (by omega) (by omega)
  replace hc_5 : CellsAt w_1 (ad_3.add ((xs.length : Int).toNat * 4)) [.string (((xs ++ [spr, rom]).getD xs.length at0).1), .int .i64 (((xs ++ [spr, rom]).getD xs.length at0).2.1), .int .i64 (((xs ++ [spr, rom]).getD xs.length at0).2.2.1), .string (((xs ++ [spr, rom]).getD xs.length at0).2.2.2)] := hc_5
  refine XL_run 9 [(21, .idx ad_3), (23, .load (.string (((xs ++ [spr, rom]).getD xs.length at0).1))), (24, .eq (.bool true)), (29, .eq (.int .i64 ((xs.length : Int) + 1)))] [(25, .bool true), (26, .slice A ((xs ++ [spr, rom]).length) c), (29, .int .i64 ((xs.length : Int) + 1))] w_1 [A = some ad_3, (0 : Int) ≤ (xs.length : Int), (xs.length : Int) < ((xs ++ [spr, rom]).length : Int), LoadsAs Tryd.prog 9 (ad_3.add ((xs.length : Int).toNat * 4)) (.string (((xs ++ [spr, rom]).getD xs.length at0).1)) w_1, Value.bool ((((xs ++ [spr, rom]).getD xs.length at0).1).toList == (⟨#[115, 112, 97, 114, 101]⟩ : ByteArray).toList) = Value.bool true, Value.int .i64 (IntKind.i64.wrap ((xs.length : Int) + 1)) = Value.int .i64 ((xs.length : Int) + 1)] (by kernel_rfl) ⟨ha_4, (by omega), (by omega), loads1 rfl (elem_cell hc_5 0 _ rfl), congrArg Value.bool (strEqT ((by rw [h0]; rfl))), wr_i64 (by omega) (by omega), trivial⟩ ?_
  obtain ⟨ad_6, ha_7, hc_8⟩ := Kd.atAttr (Kd.C_below hS hb_2) (i := (xs.length : Int) + 1) (by omega) (by omega)
  replace hc_8 : CellsAt w_1 (ad_6.add (((xs.length : Int) + 1).toNat * 4)) [.string (((xs ++ [spr, rom]).getD ((xs.length : Int) + 1).toNat at0).1), .int .i64 (((xs ++ [spr, rom]).getD ((xs.length : Int) + 1).toNat at0).2.1), .int .i64 (((xs ++ [spr, rom]).getD ((xs.length : Int) + 1).toNat at0).2.2.1), .string (((xs ++ [spr, rom]).getD ((xs.length : Int) + 1).toNat at0).2.2.2)] := hc_8
  refine XL_run 6 [(30, .idx ad_6), (32, .load (.string (((xs ++ [spr, rom]).getD ((xs.length : Int) + 1).toNat at0).1))), (33, .eq (.bool true))] [(4, .bool true)] w_1 [A = some ad_6, (0 : Int) ≤ (xs.length : Int) + 1, (xs.length : Int) + 1 < ((xs ++ [spr, rom]).length : Int), LoadsAs Tryd.prog 9 (ad_6.add (((xs.length : Int) + 1).toNat * 4)) (.string (((xs ++ [spr, rom]).getD ((xs.length : Int) + 1).toNat at0).1)) w_1, Value.bool ((((xs ++ [spr, rom]).getD ((xs.length : Int) + 1).toNat at0).1).toList == (⟨#[114, 111, 111, 109]⟩ : ByteArray).toList) = Value.bool true] (by kernel_rfl) ⟨ha_7, (by omega), (by omega), loads1 rfl (elem_cell hc_8 0 _ rfl), congrArg Value.bool (strEqT ((by rw [show ((xs.length : Int) + 1).toNat = xs.length + 1 from by omega, h1]; rfl))), trivial⟩ ?_
  refine XL_nil ?_
  refine X_ret ?_
  refine RX.ret_ok (P := Tryd.prog) (fn := Tryd.f25) (N := 35) (R := R_) [.bool true] (by kernel_rfl) (hR_ _ _ ?_)
  exact ⟨rfl, hb_2⟩
theorem kept_nil (B : Option Addr) (d : Nat) (w : World) (hy : kAttr.C w B 0 []) : Calls Tryd.prog 25 #[.slice none 0 0, .slice B 0 d] w fun e w' => e = .returned (.bool true) ∧ Below w.heap.size w w' := by
  have hn0 : kAttr.C w none 0 [] := ⟨rfl, by simp, fun h => by simp at h⟩
  refine RX.enter Tryd.func25 rfl 35 rfl [(0, .slice none 0 0), (1, .slice B 0 d)] rfl (by kernel_rfl) (fun R_ hR_ => ?_)
  refine X_seq ?_
  refine X_region ?_
  refine XL_run 1 [] [(0, .slice none 0 0), (1, .slice B 0 d)] w [] (by kernel_rfl) trivial ?_
  refine XL_nil ?_
  refine X_seq ?_
  refine X_seq ?_
  refine X_region ?_
  refine XL_run 2 [] [(0, .slice none 0 0), (1, .slice B 0 d), (6, .slice none 0 0), (7, .slice B 0 d)] w [] (by kernel_rfl) trivial ?_
  refine XL_call 24 rfl rfl rfl ent24 [.slice none 0 0, .slice B 0 d] (by kernel_rfl) (refSame_any none B 0 d [] [] _ hn0 hy) ?_
  rintro e w_1 ⟨rfl, hb_2⟩; refine ⟨_, rfl, ?_⟩
  rw [show decide (([] : List At) = []) = true from rfl]
  refine XL_run 1 [] [(0, .slice none 0 0), (1, .slice B 0 d), (9, .bool false)] w_1 [] (by kernel_rfl) trivial ?_
  refine XL_nil ?_
  refine X_cond false rfl ?_
  refine X_skip ?_
  refine X_seq ?_
  refine X_seq ?_
  refine X_region ?_
  refine XL_run 3 [] [(0, .slice none 0 0), (1, .slice B 0 d), (12, .bool true)] w_1 [] (by kernel_rfl) trivial ?_
  refine XL_nil ?_
  refine X_cond true rfl ?_
  refine X_seq ?_
  refine X_region ?_
  refine XL_run 1 [] [(4, .bool true)] w_1 [] (by kernel_rfl) trivial ?_
  refine XL_nil ?_
  refine X_ret ?_
  refine RX.ret_ok (P := Tryd.prog) (fn := Tryd.f25) (N := 35) (R := R_) [.bool true] (by kernel_rfl) (hR_ _ _ ?_)
  exact ⟨rfl, hb_2⟩
theorem kept_any (A B : Option Addr) (c d : Nat) (xs : List At) (w : World) (hS : Spare w A c xs) (hy : kAttr.C w B xs.length xs) (hl : xs.length ≤ 400000000) :
    Calls Tryd.prog 25 #[.slice A xs.length c, .slice B xs.length d] w fun e w' => e = .returned (.bool true) ∧ Below w.heap.size w w' := by
  have hx := hS.C
  rcases hS with ⟨rfl, rfl, rfl⟩ | ⟨h1, h2, h3⟩
  · exact kept_nil B d w hy
  · exact kept_sp A B c d xs w hx hy (fun e => h1 (List.length_eq_zero_iff.1 (by omega))) h2 h3 hl
end Go.Proofs.YtdkdajofppjnaaaDoor
