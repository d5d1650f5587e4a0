/- ScalarsNumbers returns true. Conditions: sizes, the tables of utf8, the errors' variables. -/
import Derived.Test.YtlnfgkafnpbeeaaDoorB7
set_option linter.unusedVariables false
set_option linter.unusedSimpArgs false
set_option maxRecDepth 100000
namespace Go.Proofs.YtlnfgkafnpbeeaaDoor
open Go Go.RowKit Go.Proofs.YtlnfgkafnpbeeaaDoorW.PrintWords RX
theorem textP_bad {l : List Int} (h : ¬ ∀ r ∈ l, U.vz r) : U.textP l = (⟨#[]⟩, 1) := if_neg h
theorem pairP_le (a b : Int) : (U.pairP a b).2 ≤ 1 := by unfold U.pairP; split <;> simp
theorem gd_step {xs : List Int} {i : Nat} {gd b : Bool} (h : gd = true ↔ ∀ q : Nat, q < i → U.vz (rd xs (q : Int))) (hb : b = (gd && decide (U.vz (rd xs (i : Int))))) : b = true ↔ ∀ q : Nat, q < i + 1 → U.vz (rd xs (q : Int)) := by
  rw [hb, Bool.and_eq_true, decide_eq_true_iff, h]
  constructor
  · rintro ⟨h1, h2⟩ q hq
    by_cases e : q = i
    · subst e; exact h2
    · exact h1 q (by omega)
  · intro h1
    exact ⟨fun q hq => h1 q (by omega), h1 i (by omega)⟩
theorem gd_all {xs : List Int} {i : Nat} {gd : Bool} (h : gd = true ↔ ∀ q : Nat, q < i → U.vz (rd xs (q : Int))) (hi : i = xs.length) : gd = true ↔ ∀ r ∈ xs, U.vz r := by
  rw [h]
  subst hi
  constructor
  · intro h1 r hr
    obtain ⟨q, hq, rfl⟩ := List.mem_iff_getElem.1 hr
    have := h1 q hq
    unfold rd at this
    rwa [Int.toNat_natCast, List.getD_eq_getElem?_getD, List.getElem?_eq_getElem hq] at this
  · intro h1 q hq
    unfold rd
    rw [Int.toNat_natCast, List.getD_eq_getElem?_getD, List.getElem?_eq_getElem hq]
    exact h1 _ (List.getElem_mem hq)
set_option maxHeartbeats 4000000 in
theorem snumbers_any (A0 : Option Addr) (c0 : Nat) (xs : List Int) (a b : Int) (w : World) (hx : (Kd.int .i32).C w A0 xs.length xs) (hl : xs.length ≤ 1048576) (ha0 : -2147483648 ≤ a) (ha1 : a ≤ 2147483647) (hb0 : -2147483648 ≤ b) (hb1 : b ≤ 2147483647) (hT : Tabs w) (es : List Addr) (hE : Errs w es) :
    Calls Tryd.prog 3 #[.slice A0 xs.length c0, .int .i32 a, .int .i32 b] w fun e w' => e = .returned (.bool true) ∧ Below w.heap.size w w' := by
  have hA : ErrsA w es := hE.on (by decide)
  have hpp := pairP_le a b
  refine RX.enter Tryd.func3 rfl 110 rfl [(0, .slice A0 xs.length c0), (1, .int .i32 a), (2, .int .i32 b)] rfl (by kernel_rfl) (fun R_ hR_ => ?_)
  refine X_seq ?_
  refine X_region ?_
  refine XL_run 1 [] [(0, .slice A0 xs.length c0), (1, .int .i32 a), (2, .int .i32 b)] w [] (by kernel_rfl) trivial ?_
  refine XL_nil ?_
  refine X_seq ?_
  refine X_seq ?_
  refine X_region ?_
  refine XL_call 11 rfl rfl rfl ent11 [] (by kernel_rfl) (lives_any _ (hT.below (Below.refl _ _)) es (hE.below (Below.refl _ _))) ?_
  rintro e w_1 ⟨rfl, hb_2⟩; refine ⟨_, rfl, ?_⟩
  refine XL_run 1 [] [(0, .slice A0 xs.length c0), (1, .int .i32 a), (2, .int .i32 b), (18, .bool false)] w_1 [] (by kernel_rfl) trivial ?_
  refine XL_nil ?_
  refine X_cond false rfl ?_
  refine X_skip ?_
  refine X_seq ?_
  refine X_region ?_
  refine XL_run 1 [] [(0, .slice A0 xs.length c0), (1, .int .i32 a), (2, .int .i32 b), (19, .slice (some ⟨w_1.heap.size, 0, none⟩) 0 0)] (w_1.alloc (.cells #[] 21)) [] (by kernel_rfl) trivial ?_
  obtain ⟨w_3, hw_7, hb_4, hk_5, hz_6⟩ := new_world w_1 #[] 21
  rw [hw_7]
  refine XL_run 1 [] [(0, .slice A0 xs.length c0), (1, .int .i32 a), (2, .int .i32 b), (19, .slice (some ⟨w_1.heap.size, 0, none⟩) 0 0), (20, .slice A0 xs.length c0)] w_3 [] (by kernel_rfl) trivial ?_
  have hr_8 := Kd.R_litB (Kd.int .i32) (W := w_1) (e := 21) (cs := #[]) [] hk_5 (repsInt []) (Nat.le_of_ble_eq_true (by kernel_rfl))
  refine XL_appendAll (c' := c0) (Kd.int .i32) rfl rfl rfl w_1.heap.size 21 (.int .i32 0) 4 Tryd.underlying22 info21 rfl (by decide) (by omega) ([]) xs (by kernel_rfl) hr_8 (Kd.C_below hx (bt hb_2 hb_4)) (fun _ _ h => h) (hb_4).size (by first | omega | (simp; omega)) ?_
  intro A_9 c_10 w_11 hr_12 hc_13 hg_14 hl_15 ha_16
  refine XL_run 1 [] [(0, .slice A0 xs.length c0), (1, .int .i32 a), (2, .int .i32 b), (21, .slice A_9 (([] ++ xs).length) c_10), (22, .slice (some ⟨w_11.heap.size, 0, none⟩) 1 1)] (w_11.alloc (.cells #[.int .i32 7] 21)) [] (by kernel_rfl) trivial ?_
  obtain ⟨w_17, hw_21, hb_18, hk_19, hz_20⟩ := new_world w_11 #[.int .i32 7] 21
  rw [hw_21]
  rw [← hw_21]
  refine XL_append (Kd.int .i32) rfl rfl rfl w_1.heap.size 21 (.int .i32 0) 4 Tryd.underlying22 info21 rfl (by decide) (by omega) ([] ++ xs) 7 [.int .i32 7] (fun _ => False) (by kernel_rfl) rfl (fun _ h => h.elim) hr_12 ((bgo hb_4 hg_14 hl_15 (Nat.le_refl _))).size (by first | omega | (simp; omega)) ?_
  intro A_22 c_23 w_24 hr_25 hc_26 hg_27 hl_28 ha_29
  refine XL_run 1 [] [(0, .slice A0 xs.length c0), (1, .int .i32 a), (2, .int .i32 b), (7, .slice A_22 ((([] ++ xs) ++ [7]).length) c_23)] w_24 [] (by kernel_rfl) trivial ?_
  refine XL_nil ?_
  refine X_seq ?_
  refine X_region ?_
  have hC_30 : (Kd.int .i32).C w_24 A_22 xs.length xs := by have h := RX.Kd.C_take (m := xs.length) (Kd.R_C hr_25) (by first | omega | (simp; done) | (simp; omega)); rwa [show (List.take xs.length (([] ++ xs) ++ [7])) = xs from (by simp)] at h
  refine XL_run 4 [(28, .as (.slice A_22 xs.length c_23))] [(0, .slice A0 xs.length c0), (1, .int .i32 a), (2, .int .i32 b), (7, .slice A_22 ((([] ++ xs) ++ [7]).length) c_23), (28, .slice A_22 xs.length c_23)] w_24 [RunsAs Tryd.prog [(25, .slice A_22 ((([] ++ xs) ++ [7]).length) c_23), (27, .int .i64 (xs.length : Int))] (Go.Op.slice 22 (Go.Operand.tmp 25) none (some (Go.Operand.tmp 27)) none) 22 (.slice A_22 xs.length c_23) w_24] (by kernel_rfl) ⟨runs_slice_h (h := (xs.length : Int)) rfl rfl rfl rfl (by omega) (by have h := hc_26; (try simp only [List.length_append, List.length_cons, List.length_nil] at h); omega), trivial⟩ ?_
  have hB_31 : Below w.heap.size w w_24 := (bgo (bgo (bt hb_2 hb_4) hg_14 hl_15 (hb_2).size) hg_27 hl_28 (hb_2).size)
  refine XL_call 12 rfl rfl rfl ent12 [.slice A_22 xs.length c_23] (by kernel_rfl) (text_any A_22 c_23 xs _ hC_30 es (hA.below hB_31)) ?_
  rintro e w_32 ⟨rfl, hb_33⟩; refine ⟨_, rfl, ?_⟩
  refine XL_run 5 [] [(0, .slice A0 xs.length c0), (1, .int .i32 a), (2, .int .i32 b), (7, .slice A_22 ((([] ++ xs) ++ [7]).length) c_23), (8, .string ((U.textP xs).1)), (9, errV es ((U.textP xs).2))] w_32 [] (by kernel_rfl) trivial ?_
  refine XL_nil ?_
  refine X_seq ?_
  refine X_region ?_
  refine XL_run 1 [] [(0, .slice A0 xs.length c0), (1, .int .i32 a), (2, .int .i32 b), (7, .slice A_22 ((([] ++ xs) ++ [7]).length) c_23), (8, .string ((U.textP xs).1)), (9, errV es ((U.textP xs).2)), (10, .bool true)] w_32 [] (by kernel_rfl) trivial ?_
  refine XL_nil ?_
  refine X_seq ?_
  refine X_seq ?_
  refine X_region ?_
  refine XL_run 3 [] [(0, .slice A0 xs.length c0), (1, .int .i32 a), (2, .int .i32 b), (7, .slice A_22 ((([] ++ xs) ++ [7]).length) c_23), (8, .string ((U.textP xs).1)), (9, errV es ((U.textP xs).2)), (10, .bool true), (32, .slice A0 xs.length c0), (33, .int .i64 (xs.length : Int)), (34, .int .i64 0)] w_32 [] (by kernel_rfl) trivial ?_
  refine XL_nil ?_
  refine X_block ?_
  refine X_loop (ι := Nat × Bool) (fun ⟨i, gd⟩ => [(0, .slice A0 xs.length c0), (1, .int .i32 a), (2, .int .i32 b), (7, .slice A_22 ((([] ++ xs) ++ [7]).length) c_23), (8, .string ((U.textP xs).1)), (9, errV es ((U.textP xs).2)), (10, .bool gd), (32, .slice A0 xs.length c0), (33, .int .i64 (xs.length : Int)), (34, .int .i64 (i : Int))]) (fun ⟨i, gd⟩ wl => i ≤ xs.length ∧ (gd = true ↔ ∀ q : Nat, q < i → U.vz (rd xs (q : Int))) ∧ Below w_32.heap.size w_32 wl) (fun ⟨i, gd⟩ => xs.length - i) (0, true) ⟨by omega, ⟨fun _ q hq => by omega, fun _ => rfl⟩, Below.refl _ _⟩ (by kernel_rfl) ?_
  rintro ⟨i, gd⟩ wl ⟨hi, hgd, HB⟩
  refine X_seq ?_
  refine X_region ?_
  by_cases c_34 : (i : Int) < (xs.length : Int)
  · refine XL_run 1 [(35, .eq (.bool true))] [(0, .slice A0 xs.length c0), (1, .int .i32 a), (2, .int .i32 b), (7, .slice A_22 ((([] ++ xs) ++ [7]).length) c_23), (8, .string ((U.textP xs).1)), (9, errV es ((U.textP xs).2)), (10, .bool gd), (32, .slice A0 xs.length c0), (33, .int .i64 (xs.length : Int)), (34, .int .i64 (i : Int)), (35, .bool true)] wl [Value.bool (decide ((i : Int) < (xs.length : Int))) = Value.bool true] (by kernel_rfl) ⟨congrArg Value.bool (decide_eq_true (c_34)), trivial⟩ ?_
    refine XL_nil ?_
    refine X_seq ?_
    refine X_cond true rfl ?_
    refine X_skip ?_
    refine X_seq ?_
    refine X_block ?_
    refine X_seq ?_
    refine X_region ?_
    obtain ⟨ad_35, ha_36, hc_37⟩ := Kd.atI (Kd.C_below hx (bt (bt hB_31 hb_33) HB)) (i := (i : Int)) (by omega) (by omega)
    refine XL_run 3 [(36, .idx ad_35), (37, .load (.int .i32 (rd xs (i : Int))))] [(0, .slice A0 xs.length c0), (1, .int .i32 a), (2, .int .i32 b), (7, .slice A_22 ((([] ++ xs) ++ [7]).length) c_23), (8, .string ((U.textP xs).1)), (9, errV es ((U.textP xs).2)), (10, .bool gd), (12, .int .i32 (rd xs (i : Int))), (32, .slice A0 xs.length c0), (33, .int .i64 (xs.length : Int)), (34, .int .i64 (i : Int))] wl [A0 = some ad_35, (0 : Int) ≤ (i : Int), (i : Int) < (xs.length : Int), LoadsAs Tryd.prog 21 (ad_35.add ((i : Int).toNat * 1)) (.int .i32 (rd xs (i : Int))) wl] (by kernel_rfl) ⟨ha_36, (by omega), (by omega), loads1 rfl (elem_cell hc_37 0 _ rfl), trivial⟩ ?_
    refine XL_nil ?_
    refine X_seq ?_
    refine X_region ?_
    refine XL_run 1 [] [(0, .slice A0 xs.length c0), (1, .int .i32 a), (2, .int .i32 b), (7, .slice A_22 ((([] ++ xs) ++ [7]).length) c_23), (8, .string ((U.textP xs).1)), (9, errV es ((U.textP xs).2)), (10, .bool gd), (12, .int .i32 (rd xs (i : Int))), (32, .slice A0 xs.length c0), (33, .int .i64 (xs.length : Int)), (34, .int .i64 (i : Int)), (38, .int .i32 (rd xs (i : Int)))] wl [] (by kernel_rfl) trivial ?_
    refine XL_call 13 rfl rfl rfl ent13 [.int .i32 (rd xs (i : Int))] (by kernel_rfl) (refScalar_any (rd xs (i : Int)) _) ?_
    rintro e w_38 ⟨rfl, hb_39⟩; refine ⟨_, rfl, ?_⟩
    refine XL_run 1 [] [(0, .slice A0 xs.length c0), (1, .int .i32 a), (2, .int .i32 b), (7, .slice A_22 ((([] ++ xs) ++ [7]).length) c_23), (8, .string ((U.textP xs).1)), (9, errV es ((U.textP xs).2)), (10, .bool gd), (12, .int .i32 (rd xs (i : Int))), (13, .bool (decide (U.vz (rd xs (i : Int))))), (32, .slice A0 xs.length c0), (33, .int .i64 (xs.length : Int)), (34, .int .i64 (i : Int))] w_38 [] (by kernel_rfl) trivial ?_
    refine XL_nil ?_
    refine X_seq ?_
    refine X_region ?_
    refine XL_run 2 [] [(0, .slice A0 xs.length c0), (1, .int .i32 a), (2, .int .i32 b), (7, .slice A_22 ((([] ++ xs) ++ [7]).length) c_23), (8, .string ((U.textP xs).1)), (9, errV es ((U.textP xs).2)), (12, .int .i32 (rd xs (i : Int))), (13, .bool (decide (U.vz (rd xs (i : Int))))), (32, .slice A0 xs.length c0), (33, .int .i64 (xs.length : Int)), (34, .int .i64 (i : Int)), (41, .bool gd)] w_38 [] (by kernel_rfl) trivial ?_
    by_cases c_40 : gd = true
    · rw [show (gd : Bool) = true from by simpa using c_40]
      refine XL_run 3 [] [(0, .slice A0 xs.length c0), (1, .int .i32 a), (2, .int .i32 b), (7, .slice A_22 ((([] ++ xs) ++ [7]).length) c_23), (8, .string ((U.textP xs).1)), (9, errV es ((U.textP xs).2)), (10, .bool (decide (U.vz (rd xs (i : Int))))), (12, .int .i32 (rd xs (i : Int))), (32, .slice A0 xs.length c0), (33, .int .i64 (xs.length : Int)), (34, .int .i64 (i : Int))] w_38 [] (by kernel_rfl) trivial ?_
      refine XL_nil ?_
      refine X_seq ?_
      refine X_region ?_
      refine XL_run 1 [] [(0, .slice A0 xs.length c0), (1, .int .i32 a), (2, .int .i32 b), (7, .slice A_22 ((([] ++ xs) ++ [7]).length) c_23), (8, .string ((U.textP xs).1)), (9, errV es ((U.textP xs).2)), (10, .bool (decide (U.vz (rd xs (i : Int))))), (12, .int .i32 (rd xs (i : Int))), (32, .slice A0 xs.length c0), (33, .int .i64 (xs.length : Int)), (34, .int .i64 (i : Int)), (44, .int .i32 (rd xs (i : Int)))] w_38 [] (by kernel_rfl) trivial ?_
      refine XL_call 14 rfl rfl rfl ent14 [.int .i32 (rd xs (i : Int))] (by kernel_rfl) (width_any (rd xs (i : Int)) _) ?_
      rintro e w_41 ⟨rfl, hb_42⟩; refine ⟨_, rfl, ?_⟩
      refine XL_run 1 [] [(0, .slice A0 xs.length c0), (1, .int .i32 a), (2, .int .i32 b), (7, .slice A_22 ((([] ++ xs) ++ [7]).length) c_23), (8, .string ((U.textP xs).1)), (9, errV es ((U.textP xs).2)), (10, .bool (decide (U.vz (rd xs (i : Int))))), (32, .slice A0 xs.length c0), (33, .int .i64 (xs.length : Int)), (34, .int .i64 (i : Int)), (45, .int .i64 (U.widthP (rd xs (i : Int)) : Int)), (46, .int .i32 (rd xs (i : Int)))] w_41 [] (by kernel_rfl) trivial ?_
      refine XL_call 15 rfl rfl rfl ent15 [.int .i32 (rd xs (i : Int))] (by kernel_rfl) (refWidth_any (rd xs (i : Int)) _) ?_
      rintro e w_43 ⟨rfl, hb_44⟩; refine ⟨_, rfl, ?_⟩
      refine XL_run 1 [(48, .eq (.bool false))] [(0, .slice A0 xs.length c0), (1, .int .i32 a), (2, .int .i32 b), (7, .slice A_22 ((([] ++ xs) ++ [7]).length) c_23), (8, .string ((U.textP xs).1)), (9, errV es ((U.textP xs).2)), (10, .bool (decide (U.vz (rd xs (i : Int))))), (32, .slice A0 xs.length c0), (33, .int .i64 (xs.length : Int)), (34, .int .i64 (i : Int)), (48, .bool false)] w_43 [Value.bool ((U.widthP (rd xs (i : Int)) : Int) != (U.widthP (rd xs (i : Int)) : Int)) = Value.bool false] (by kernel_rfl) ⟨congrArg Value.bool (bneF rfl), trivial⟩ ?_
      refine XL_nil ?_
      refine X_cond false rfl ?_
      refine X_skip ?_
      refine X_region ?_
      refine XL_run 2 [(49, .eq (.int .i64 ((i : Int) + 1)))] [(0, .slice A0 xs.length c0), (1, .int .i32 a), (2, .int .i32 b), (7, .slice A_22 ((([] ++ xs) ++ [7]).length) c_23), (8, .string ((U.textP xs).1)), (9, errV es ((U.textP xs).2)), (10, .bool (decide (U.vz (rd xs (i : Int))))), (32, .slice A0 xs.length c0), (33, .int .i64 (xs.length : Int)), (34, .int .i64 ((i : Int) + 1))] w_43 [Value.int .i64 (IntKind.i64.wrap ((i : Int) + 1)) = Value.int .i64 ((i : Int) + 1)] (by kernel_rfl) ⟨wr_i64 (by omega) (by omega), trivial⟩ ?_
      refine XL_nil ?_
      refine ⟨(i + 1, decide (U.vz (rd xs (i : Int)))), by kernel_rfl, ?_, ?_⟩
      · exact ⟨by omega, gd_step hgd (by simp_all), (bt (bt (bt HB hb_39) hb_42) hb_44)⟩
      · (try dsimp only); omega
    · rw [show (gd : Bool) = false from by simpa using c_40]
      refine XL_run 3 [] [(0, .slice A0 xs.length c0), (1, .int .i32 a), (2, .int .i32 b), (7, .slice A_22 ((([] ++ xs) ++ [7]).length) c_23), (8, .string ((U.textP xs).1)), (9, errV es ((U.textP xs).2)), (10, .bool false), (12, .int .i32 (rd xs (i : Int))), (32, .slice A0 xs.length c0), (33, .int .i64 (xs.length : Int)), (34, .int .i64 (i : Int))] w_38 [] (by kernel_rfl) trivial ?_
      refine XL_nil ?_
      refine X_seq ?_
      refine X_region ?_
      refine XL_run 1 [] [(0, .slice A0 xs.length c0), (1, .int .i32 a), (2, .int .i32 b), (7, .slice A_22 ((([] ++ xs) ++ [7]).length) c_23), (8, .string ((U.textP xs).1)), (9, errV es ((U.textP xs).2)), (10, .bool false), (12, .int .i32 (rd xs (i : Int))), (32, .slice A0 xs.length c0), (33, .int .i64 (xs.length : Int)), (34, .int .i64 (i : Int)), (44, .int .i32 (rd xs (i : Int)))] w_38 [] (by kernel_rfl) trivial ?_
      refine XL_call 14 rfl rfl rfl ent14 [.int .i32 (rd xs (i : Int))] (by kernel_rfl) (width_any (rd xs (i : Int)) _) ?_
      rintro e w_45 ⟨rfl, hb_46⟩; refine ⟨_, rfl, ?_⟩
      refine XL_run 1 [] [(0, .slice A0 xs.length c0), (1, .int .i32 a), (2, .int .i32 b), (7, .slice A_22 ((([] ++ xs) ++ [7]).length) c_23), (8, .string ((U.textP xs).1)), (9, errV es ((U.textP xs).2)), (10, .bool false), (32, .slice A0 xs.length c0), (33, .int .i64 (xs.length : Int)), (34, .int .i64 (i : Int)), (45, .int .i64 (U.widthP (rd xs (i : Int)) : Int)), (46, .int .i32 (rd xs (i : Int)))] w_45 [] (by kernel_rfl) trivial ?_
      refine XL_call 15 rfl rfl rfl ent15 [.int .i32 (rd xs (i : Int))] (by kernel_rfl) (refWidth_any (rd xs (i : Int)) _) ?_
      rintro e w_47 ⟨rfl, hb_48⟩; refine ⟨_, rfl, ?_⟩
      refine XL_run 1 [(48, .eq (.bool false))] [(0, .slice A0 xs.length c0), (1, .int .i32 a), (2, .int .i32 b), (7, .slice A_22 ((([] ++ xs) ++ [7]).length) c_23), (8, .string ((U.textP xs).1)), (9, errV es ((U.textP xs).2)), (10, .bool false), (32, .slice A0 xs.length c0), (33, .int .i64 (xs.length : Int)), (34, .int .i64 (i : Int)), (48, .bool false)] w_47 [Value.bool ((U.widthP (rd xs (i : Int)) : Int) != (U.widthP (rd xs (i : Int)) : Int)) = Value.bool false] (by kernel_rfl) ⟨congrArg Value.bool (bneF rfl), trivial⟩ ?_
      refine XL_nil ?_
      refine X_cond false rfl ?_
      refine X_skip ?_
      refine X_region ?_
      refine XL_run 2 [(49, .eq (.int .i64 ((i : Int) + 1)))] [(0, .slice A0 xs.length c0), (1, .int .i32 a), (2, .int .i32 b), (7, .slice A_22 ((([] ++ xs) ++ [7]).length) c_23), (8, .string ((U.textP xs).1)), (9, errV es ((U.textP xs).2)), (10, .bool false), (32, .slice A0 xs.length c0), (33, .int .i64 (xs.length : Int)), (34, .int .i64 ((i : Int) + 1))] w_47 [Value.int .i64 (IntKind.i64.wrap ((i : Int) + 1)) = Value.int .i64 ((i : Int) + 1)] (by kernel_rfl) ⟨wr_i64 (by omega) (by omega), trivial⟩ ?_
      refine XL_nil ?_
      refine ⟨(i + 1, false), by kernel_rfl, ?_, ?_⟩
      · exact ⟨by omega, gd_step hgd (by simp_all), (bt (bt (bt HB hb_39) hb_46) hb_48)⟩
      · (try dsimp only); omega
  · refine XL_run 1 [(35, .eq (.bool false))] [(0, .slice A0 xs.length c0), (1, .int .i32 a), (2, .int .i32 b), (7, .slice A_22 ((([] ++ xs) ++ [7]).length) c_23), (8, .string ((U.textP xs).1)), (9, errV es ((U.textP xs).2)), (10, .bool gd), (32, .slice A0 xs.length c0), (33, .int .i64 (xs.length : Int)), (34, .int .i64 (i : Int)), (35, .bool false)] wl [Value.bool (decide ((i : Int) < (xs.length : Int))) = Value.bool false] (by kernel_rfl) ⟨congrArg Value.bool (decide_eq_false (c_34)), trivial⟩ ?_
    refine XL_nil ?_
    refine X_seq ?_
    refine X_cond false rfl ?_
    refine X_exit ?_
    refine X_seq ?_
    refine X_seq ?_
    refine X_region ?_
    have hC_49 : (Kd.int .i32).C wl A_22 xs.length xs := by have h := RX.Kd.C_take (m := xs.length) (Kd.R_C (Kd.R_below hr_25 (bt hb_33 HB))) (by first | omega | (simp; done) | (simp; omega)); rwa [show (List.take xs.length (([] ++ xs) ++ [7])) = xs from (by simp)] at h
    refine XL_run 5 [(53, .as (.slice A_22 xs.length c_23))] [(0, .slice A0 xs.length c0), (1, .int .i32 a), (2, .int .i32 b), (7, .slice A_22 ((([] ++ xs) ++ [7]).length) c_23), (8, .string ((U.textP xs).1)), (9, errV es ((U.textP xs).2)), (10, .bool gd), (53, .slice A_22 xs.length c_23), (54, .slice A0 xs.length c0)] wl [RunsAs Tryd.prog [(50, .slice A_22 ((([] ++ xs) ++ [7]).length) c_23), (52, .int .i64 (xs.length : Int))] (Go.Op.slice 22 (Go.Operand.tmp 50) none (some (Go.Operand.tmp 52)) none) 22 (.slice A_22 xs.length c_23) wl] (by kernel_rfl) ⟨runs_slice_h (h := (xs.length : Int)) rfl rfl rfl rfl (by omega) (by have h := hc_26; (try simp only [List.length_append, List.length_cons, List.length_nil] at h); omega), trivial⟩ ?_
    refine XL_call 16 rfl rfl rfl ent16 [.slice A_22 xs.length c_23, .slice A0 xs.length c0] (by kernel_rfl) (srunes_any _ _ _ _ xs xs _ hC_49 (Kd.C_below hx (bt (bt hB_31 hb_33) HB))) ?_
    rintro e w_50 ⟨rfl, hb_51⟩; refine ⟨_, rfl, ?_⟩
    rw [decide_eq_true (show xs = xs from rfl)]
    have hga := gd_all hgd (by omega)
    refine XL_run 5 [] [(0, .slice A0 xs.length c0), (1, .int .i32 a), (2, .int .i32 b), (8, .string ((U.textP xs).1)), (9, errV es ((U.textP xs).2)), (10, .bool gd), (57, .bool false), (58, .slice A_22 ((([] ++ xs) ++ [7]).length) c_23), (60, .int .i64 (xs.length : Int))] w_50 [] (by kernel_rfl) trivial ?_
    obtain ⟨ad_52, ha_53, hc_54⟩ := Kd.atI (Kd.R_C (Kd.R_below hr_25 (bt (bt hb_33 HB) hb_51))) (i := (xs.length : Int)) (by omega) (by simp only [List.length_append, List.length_cons, List.length_nil]; omega)
    refine XL_run 4 [(61, .idx ad_52), (62, .load (.int .i32 (rd (([] ++ xs) ++ [7]) (xs.length : Int)))), (63, .eq (.bool false))] [(0, .slice A0 xs.length c0), (1, .int .i32 a), (2, .int .i32 b), (8, .string ((U.textP xs).1)), (9, errV es ((U.textP xs).2)), (10, .bool gd), (64, .bool false)] w_50 [A_22 = some ad_52, (0 : Int) ≤ (xs.length : Int), (xs.length : Int) < ((([] ++ xs) ++ [7]).length : Int), LoadsAs Tryd.prog 21 (ad_52.add ((xs.length : Int).toNat * 1)) (.int .i32 (rd (([] ++ xs) ++ [7]) (xs.length : Int))) w_50, Value.bool (rd (([] ++ xs) ++ [7]) (xs.length : Int) != 7) = Value.bool false] (by kernel_rfl) ⟨ha_53, (by omega), (by simp only [List.length_append, List.length_cons, List.length_nil]; omega), loads1 rfl (elem_cell hc_54 0 _ rfl), congrArg Value.bool (bneF ((last_rd ([] ++ xs) 7))), trivial⟩ ?_
    refine XL_nil ?_
    refine X_cond false rfl ?_
    refine X_skip ?_
    refine X_seq ?_
    refine X_seq ?_
    refine X_region ?_
    refine XL_run 2 [] [(0, .slice A0 xs.length c0), (1, .int .i32 a), (2, .int .i32 b), (8, .string ((U.textP xs).1)), (9, errV es ((U.textP xs).2)), (10, .bool gd), (66, .bool gd)] w_50 [] (by kernel_rfl) trivial ?_
    by_cases c_55 : gd = true
    · have hall := hga.1 c_55
      have htx := textP_good hall
      have htx2 : (U.textP xs).2 = 0 := by rw [htx]
      rw [show (gd : Bool) = true from by simpa using c_55]
      refine XL_run 1 [] [(0, .slice A0 xs.length c0), (1, .int .i32 a), (2, .int .i32 b), (8, .string ((U.textP xs).1)), (9, errV es ((U.textP xs).2)), (10, .bool true), (66, .bool true), (67, errV es ((U.textP xs).2))] w_50 [] (by kernel_rfl) trivial ?_
      by_cases c_56 : (U.textP xs).2 = 0
      · rw [show errV es ((U.textP xs).2) = .nilIface from by rw [c_56]; rfl]
        refine XL_run 4 [] [(1, .int .i32 a), (2, .int .i32 b), (8, .string ((U.textP xs).1)), (9, .nilIface), (10, .bool true), (66, .bool true), (69, .bool false), (70, .string ((U.textP xs).1)), (71, .slice A0 xs.length c0)] w_50 [] (by kernel_rfl) trivial ?_
        refine XL_call 17 rfl rfl rfl ent17 [.slice A0 xs.length c0] (by kernel_rfl) (refText_any A0 c0 xs _ (Kd.C_below hx (bt (bt (bt hB_31 hb_33) HB) hb_51)) (by omega) hall) ?_
        rintro e w_57 ⟨rfl, hb_58⟩; refine ⟨_, rfl, ?_⟩
        refine XL_run 16 [(73, .eq (.bool false))] [(1, .int .i32 a), (2, .int .i32 b), (88, .bool false)] w_57 [Value.bool (!((U.textP xs).1).toList == (runesBytes xs).toList) = Value.bool false] (by kernel_rfl) ⟨congrArg Value.bool (strNeF ((by rw [htx]))), trivial⟩ ?_
        refine XL_nil ?_
        refine X_cond false rfl ?_
        refine X_skip ?_
        refine X_seq ?_
        refine X_region ?_
        refine XL_run 2 [] [(1, .int .i32 a), (2, .int .i32 b), (90, .int .i32 a), (91, .int .i32 b)] w_57 [] (by kernel_rfl) trivial ?_
        have hB_59 : Below w.heap.size w w_57 := (bt (bt (bt (bt hB_31 hb_33) HB) hb_51) hb_58)
        refine XL_call 19 rfl rfl rfl ent19 [.int .i32 a, .int .i32 b] (by kernel_rfl) (spair_any a b _ es (hA.below hB_59)) ?_
        rintro e w_60 ⟨rfl, hb_61⟩; refine ⟨_, rfl, ?_⟩
        refine XL_run 5 [] [(1, .int .i32 a), (2, .int .i32 b), (9, errV es ((U.pairP a b).2)), (14, .int .i32 ((U.pairP a b).1))] w_60 [] (by kernel_rfl) trivial ?_
        refine XL_nil ?_
        refine X_seq ?_
        refine X_region ?_
        refine XL_run 2 [] [(9, errV es ((U.pairP a b).2)), (14, .int .i32 ((U.pairP a b).1)), (96, .int .i32 a), (97, .int .i32 b)] w_60 [] (by kernel_rfl) trivial ?_
        refine XL_call 20 rfl rfl rfl ent20 [.int .i32 a, .int .i32 b] (by kernel_rfl) (refPair_any a b _) ?_
        rintro e w_62 ⟨rfl, hb_63⟩; refine ⟨_, rfl, ?_⟩
        refine XL_run 5 [] [(9, errV es ((U.pairP a b).2)), (14, .int .i32 ((U.pairP a b).1)), (15, .int .i32 ((U.pairP a b).1)), (16, .int .i64 ((U.pairP a b).2 : Int))] w_62 [] (by kernel_rfl) trivial ?_
        refine XL_nil ?_
        refine X_seq ?_
        refine X_region ?_
        refine XL_run 5 [(103, .eq (.bool true))] [(16, .int .i64 ((U.pairP a b).2 : Int)), (104, .bool true), (105, errV es ((U.pairP a b).2))] w_62 [Value.bool ((U.pairP a b).1 == (U.pairP a b).1) = Value.bool true] (by kernel_rfl) ⟨congrArg Value.bool (beq_self_eq_true _), trivial⟩ ?_
        refine XL_call 18 rfl rfl rfl ent18 [errV es ((U.pairP a b).2)] (by kernel_rfl) (num_any es ((U.pairP a b).2) (by omega) _ (hE.below (bt (bt hB_59 hb_61) hb_63))) ?_
        rintro e w_64 ⟨rfl, hb_65⟩; refine ⟨_, rfl, ?_⟩
        refine XL_run 1 [] [(104, .bool true), (106, .int .i64 (((U.pairP a b).2) : Int)), (107, .int .i64 ((U.pairP a b).2 : Int))] w_64 [] (by kernel_rfl) trivial ?_
        by_cases c_66 : (((U.pairP a b).2) : Int) = ((U.pairP a b).2 : Int)
        · refine XL_run 3 [(108, .eq (.bool true))] [(6, .bool true)] w_64 [Value.bool ((((U.pairP a b).2) : Int) == ((U.pairP a b).2 : Int)) = Value.bool true] (by kernel_rfl) ⟨congrArg Value.bool (beq_iff_eq.2 (c_66)), trivial⟩ ?_
          refine XL_nil ?_
          refine X_ret ?_
          refine RX.ret_ok (P := Tryd.prog) (fn := Tryd.f3) (N := 110) (R := R_) [.bool true] (by kernel_rfl) (hR_ _ _ ?_)
          exact ⟨rfl, (bt (bt (bt hB_59 hb_61) hb_63) hb_65)⟩
        · refine XL_run 3 [(108, .eq (.bool false))] [(6, .bool false)] w_64 [Value.bool ((((U.pairP a b).2) : Int) == ((U.pairP a b).2 : Int)) = Value.bool false] (by kernel_rfl) ⟨congrArg Value.bool (beq_eq_false_iff_ne.2 (c_66)), trivial⟩ ?_
          refine XL_nil ?_
          refine X_ret ?_
          refine RX.ret_ok (P := Tryd.prog) (fn := Tryd.f3) (N := 110) (R := R_) [.bool false] (by kernel_rfl) (hR_ _ _ ?_)
          exfalso; omega
      · exfalso; omega
    · have htx := textP_bad (fun h_ => c_55 (hga.2 h_))
      have htx2 : (U.textP xs).2 = 1 := by rw [htx]
      rw [show (gd : Bool) = false from by simpa using c_55]
      refine XL_run 14 [] [(1, .int .i32 a), (2, .int .i32 b), (8, .string ((U.textP xs).1)), (76, .bool false), (79, .bool true), (80, errV es ((U.textP xs).2))] w_50 [] (by kernel_rfl) trivial ?_
      refine XL_call 18 rfl rfl rfl ent18 [errV es ((U.textP xs).2)] (by kernel_rfl) (num_any es ((U.textP xs).2) (by omega) _ (hE.below (bt (bt (bt hB_31 hb_33) HB) hb_51))) ?_
      rintro e w_67 ⟨rfl, hb_68⟩; refine ⟨_, rfl, ?_⟩
      refine XL_run 7 [(82, .eq (.bool false)), (85, .eq (.bool false))] [(1, .int .i32 a), (2, .int .i32 b), (88, .bool false)] w_67 [Value.bool ((((U.textP xs).2) : Int) != 1) = Value.bool false, Value.bool (!((U.textP xs).1).toList == (⟨#[]⟩ : ByteArray).toList) = Value.bool false] (by kernel_rfl) ⟨congrArg Value.bool (bneF ((by omega))), congrArg Value.bool (strNeF ((by rw [htx]))), trivial⟩ ?_
      refine XL_nil ?_
      refine X_cond false rfl ?_
      refine X_skip ?_
      refine X_seq ?_
      refine X_region ?_
      refine XL_run 2 [] [(1, .int .i32 a), (2, .int .i32 b), (90, .int .i32 a), (91, .int .i32 b)] w_67 [] (by kernel_rfl) trivial ?_
      have hB_69 : Below w.heap.size w w_67 := (bt (bt (bt (bt hB_31 hb_33) HB) hb_51) hb_68)
      refine XL_call 19 rfl rfl rfl ent19 [.int .i32 a, .int .i32 b] (by kernel_rfl) (spair_any a b _ es (hA.below hB_69)) ?_
      rintro e w_70 ⟨rfl, hb_71⟩; refine ⟨_, rfl, ?_⟩
      refine XL_run 5 [] [(1, .int .i32 a), (2, .int .i32 b), (9, errV es ((U.pairP a b).2)), (14, .int .i32 ((U.pairP a b).1))] w_70 [] (by kernel_rfl) trivial ?_
      refine XL_nil ?_
      refine X_seq ?_
      refine X_region ?_
      refine XL_run 2 [] [(9, errV es ((U.pairP a b).2)), (14, .int .i32 ((U.pairP a b).1)), (96, .int .i32 a), (97, .int .i32 b)] w_70 [] (by kernel_rfl) trivial ?_
      refine XL_call 20 rfl rfl rfl ent20 [.int .i32 a, .int .i32 b] (by kernel_rfl) (refPair_any a b _) ?_
      rintro e w_72 ⟨rfl, hb_73⟩; refine ⟨_, rfl, ?_⟩
      refine XL_run 5 [] [(9, errV es ((U.pairP a b).2)), (14, .int .i32 ((U.pairP a b).1)), (15, .int .i32 ((U.pairP a b).1)), (16, .int .i64 ((U.pairP a b).2 : Int))] w_72 [] (by kernel_rfl) trivial ?_
      refine XL_nil ?_
      refine X_seq ?_
      refine X_region ?_
      refine XL_run 5 [(103, .eq (.bool true))] [(16, .int .i64 ((U.pairP a b).2 : Int)), (104, .bool true), (105, errV es ((U.pairP a b).2))] w_72 [Value.bool ((U.pairP a b).1 == (U.pairP a b).1) = Value.bool true] (by kernel_rfl) ⟨congrArg Value.bool (beq_self_eq_true _), trivial⟩ ?_
      refine XL_call 18 rfl rfl rfl ent18 [errV es ((U.pairP a b).2)] (by kernel_rfl) (num_any es ((U.pairP a b).2) (by omega) _ (hE.below (bt (bt hB_69 hb_71) hb_73))) ?_
      rintro e w_74 ⟨rfl, hb_75⟩; refine ⟨_, rfl, ?_⟩
      refine XL_run 1 [] [(104, .bool true), (106, .int .i64 (((U.pairP a b).2) : Int)), (107, .int .i64 ((U.pairP a b).2 : Int))] w_74 [] (by kernel_rfl) trivial ?_
      by_cases c_76 : (((U.pairP a b).2) : Int) = ((U.pairP a b).2 : Int)
      · refine XL_run 3 [(108, .eq (.bool true))] [(6, .bool true)] w_74 [Value.bool ((((U.pairP a b).2) : Int) == ((U.pairP a b).2 : Int)) = Value.bool true] (by kernel_rfl) ⟨congrArg Value.bool (beq_iff_eq.2 (c_76)), trivial⟩ ?_
        refine XL_nil ?_
        refine X_ret ?_
        refine RX.ret_ok (P := Tryd.prog) (fn := Tryd.f3) (N := 110) (R := R_) [.bool true] (by kernel_rfl) (hR_ _ _ ?_)
        exact ⟨rfl, (bt (bt (bt hB_69 hb_71) hb_73) hb_75)⟩
      · refine XL_run 3 [(108, .eq (.bool false))] [(6, .bool false)] w_74 [Value.bool ((((U.pairP a b).2) : Int) == ((U.pairP a b).2 : Int)) = Value.bool false] (by kernel_rfl) ⟨congrArg Value.bool (beq_eq_false_iff_ne.2 (c_76)), trivial⟩ ?_
        refine XL_nil ?_
        refine X_ret ?_
        refine RX.ret_ok (P := Tryd.prog) (fn := Tryd.f3) (N := 110) (R := R_) [.bool false] (by kernel_rfl) (hR_ _ _ ?_)
        exfalso; omega
end Go.Proofs.YtlnfgkafnpbeeaaDoor
