/- OpsTypes returns true. Conditions: sizes, the tables of utf8, the errors' variables. -/
import Derived.Test.YtekfdfafhfhfbaaDoorO4a
set_option linter.unusedVariables false
set_option linter.unusedSimpArgs false
set_option maxRecDepth 100000
namespace Go.Proofs.YtekfdfafhfhfbaaDoor
open Go Go.RowKit Go.Proofs.YtekfdfafhfhfbaaDoorW.PrintWords RX
theorem ent6 : Ent Tryd.prog 6 := ent_of Tryd.func6 (by kernel_rfl) rfl
theorem ent174 : Ent Tryd.prog 174 := ent_of Tryd.func174 (by kernel_rfl) rfl
theorem ent176 : Ent Tryd.prog 176 := ent_of Tryd.func176 (by kernel_rfl) rfl
theorem ent178 : Ent Tryd.prog 178 := ent_of Tryd.func178 (by kernel_rfl) rfl
theorem ent180 : Ent Tryd.prog 180 := ent_of Tryd.func180 (by kernel_rfl) rfl
theorem plainOk_kind {k n : Int} {t : ByteArray} (h : plainOk k n t = true) : (k = 0 ∧ n = 0 ∧ t = ⟨#[]⟩) ∨ (k = 1 ∧ (n = 0 ∨ n = 1) ∧ t = ⟨#[]⟩) ∨ (k = 2 ∧ t = ⟨#[]⟩) ∨ (k = 3 ∧ n = 0) := of_decide_eq_true h
theorem pErr_val {o : OpA} (h : pErr o = 0) (hk : o.kind = 2) : plainOk o.vk o.vn o.vt = true := by
  unfold pErr at h
  by_cases h1 : hasP o = false
  · rw [if_pos h1] at h; cases h
  · rw [if_neg h1, if_pos (by omega)] at h
    have h2 := (refuse_utf h).2.1 hk
    unfold plainErr at h2
    cases h3 : plainOk o.vk o.vn o.vt with
    | true => rfl
    | false => rw [if_pos h3] at h2; cases h2
theorem flagPlain_any (k n : Int) (t : ByteArray) (w : World) (h : plainOk k n t = true) (hk : k = 1) : Calls Tryd.prog 174 #[.bool (decide (n = 1))] w fun e w' => e = .returned (.agg #[.int .i64 k, .int .i64 n, .string t]) ∧ Below w.heap.size w w' := by
  have h' := plainOk_kind h
  have ht :  t = ⟨#[]⟩ := by rcases h' with h' | h' | h' | h' <;> simp_all <;> omega
  have hn : (n = 1) ∨ n = 0 := by rcases h' with h' | h' | h' | h' <;> simp_all <;> omega
  subst hk
  refine RX.enter Tryd.func174 rfl 6 rfl [(0, .bool (decide (n = 1)))] rfl (by kernel_rfl) (fun R_ hR_ => ?_)
  refine X_seq ?_
  refine X_region ?_
  refine XL_run 1 [] [(0, .bool (decide (n = 1))), (2, .pointer (some ⟨w.heap.size, 0, none⟩))] (w.alloc (.cells #[.int .i64 0, .int .i64 0, .string ByteArray.empty] 30)) [] (by kernel_rfl) trivial ?_
  obtain ⟨w_1, hw_5, hb_2, hk_3, hz_4⟩ := new_world w #[.int .i64 0, .int .i64 0, .string ByteArray.empty] 30
  rw [hw_5]
  refine XL_nil ?_
  refine X_seq ?_
  refine X_seq ?_
  refine X_region ?_
  refine XL_run 1 [] [(2, .pointer (some ⟨w.heap.size, 0, none⟩)), (3, .bool (decide (n = 1)))] w_1 [] (by kernel_rfl) trivial ?_
  refine XL_nil ?_
  by_cases c_6 : decide (n = 1) = true
  · rw [show (decide (n = 1) : Bool) = true from by simpa using c_6]
    refine X_cond true rfl ?_
    refine X_seq ?_
    refine X_region ?_
    refine XL_run 1 [] [(2, .pointer (some ⟨w.heap.size, 0, none⟩)), (4, .agg #[.int .i64 1, .int .i64 1, .string ByteArray.empty])] w_1 [] (by kernel_rfl) trivial ?_
    refine XL_store (v := .agg #[.int .i64 1, .int .i64 1, .string ByteArray.empty]) rfl rfl rfl (by kernel_rfl) hk_3 0 [.int .i64 1, .int .i64 1, .string ByteArray.empty] #[.int .i64 1, .int .i64 1, .string ByteArray.empty] ⟨by kernel_rfl, rfl, by kernel_rfl⟩ ⟨by kernel_rfl, by kernel_rfl⟩ (Nat.le_of_ble_eq_true (by kernel_rfl)) (fun w_7 hg_8 hk_9 hz_10 => ?_)
    refine XL_nil ?_
    refine X_ret ?_
    refine RX.ret_cell (P := Tryd.prog) (fn := Tryd.f174) (N := 6) (R := R_) (c := 2) (t := 30) (p := ⟨w.heap.size, 0, none⟩) (v := .agg #[.int .i64 1, .int .i64 1, .string ByteArray.empty]) rfl rfl (loadsB rfl rfl hk_9 0 ⟨by kernel_rfl, by kernel_rfl⟩) (hR_ _ _ ?_)
    subst ht
    obtain rfl : n = 1 := by have h1_ := c_6; have h2_ := hn; simp at h1_; omega
    exact ⟨rfl, (bg hb_2 hg_8 (Nat.le_refl _))⟩
  · rw [show (decide (n = 1) : Bool) = false from by simpa using c_6]
    refine X_cond false rfl ?_
    refine X_skip ?_
    refine X_seq ?_
    refine X_region ?_
    refine XL_run 1 [] [(2, .pointer (some ⟨w.heap.size, 0, none⟩)), (5, .agg #[.int .i64 1, .int .i64 0, .string ByteArray.empty])] w_1 [] (by kernel_rfl) trivial ?_
    refine XL_store (v := .agg #[.int .i64 1, .int .i64 0, .string ByteArray.empty]) rfl rfl rfl (by kernel_rfl) hk_3 0 [.int .i64 1, .int .i64 0, .string ByteArray.empty] #[.int .i64 1, .int .i64 0, .string ByteArray.empty] ⟨by kernel_rfl, rfl, by kernel_rfl⟩ ⟨by kernel_rfl, by kernel_rfl⟩ (Nat.le_of_ble_eq_true (by kernel_rfl)) (fun w_11 hg_12 hk_13 hz_14 => ?_)
    refine XL_nil ?_
    refine X_ret ?_
    refine RX.ret_cell (P := Tryd.prog) (fn := Tryd.f174) (N := 6) (R := R_) (c := 2) (t := 30) (p := ⟨w.heap.size, 0, none⟩) (v := .agg #[.int .i64 1, .int .i64 0, .string ByteArray.empty]) rfl rfl (loadsB rfl rfl hk_13 0 ⟨by kernel_rfl, by kernel_rfl⟩) (hR_ _ _ ?_)
    subst ht
    obtain rfl : n = 0 := by have h1_ := c_6; have h2_ := hn; simp at h1_; omega
    exact ⟨rfl, (bg hb_2 hg_12 (Nat.le_refl _))⟩
theorem numberPlain_any (k n : Int) (t : ByteArray) (w : World) (h : plainOk k n t = true) (hk : k = 2) : Calls Tryd.prog 176 #[.int .i64 n] w fun e w' => e = .returned (.agg #[.int .i64 k, .int .i64 n, .string t]) ∧ Below w.heap.size w w' := by
  have h' := plainOk_kind h
  have ht :  t = ⟨#[]⟩ := by rcases h' with h' | h' | h' | h' <;> simp_all <;> omega
  have hn : k = 2 ∨ n = 0 := by rcases h' with h' | h' | h' | h' <;> simp_all <;> omega
  subst hk
  refine RX.enter Tryd.func176 rfl 5 rfl [(0, .int .i64 n)] rfl (by kernel_rfl) (fun R_ hR_ => ?_)
  refine X_seq ?_
  refine X_region ?_
  refine XL_run 1 [] [(0, .int .i64 n), (2, .pointer (some ⟨w.heap.size, 0, none⟩))] (w.alloc (.cells #[.int .i64 0, .int .i64 0, .string ByteArray.empty] 30)) [] (by kernel_rfl) trivial ?_
  obtain ⟨w_1, hw_5, hb_2, hk_3, hz_4⟩ := new_world w #[.int .i64 0, .int .i64 0, .string ByteArray.empty] 30
  rw [hw_5]
  refine XL_nil ?_
  refine X_seq ?_
  refine X_region ?_
  refine XL_run 2 [] [(2, .pointer (some ⟨w.heap.size, 0, none⟩)), (4, .agg #[.int .i64 2, .int .i64 n, .string ByteArray.empty])] w_1 [] (by kernel_rfl) trivial ?_
  refine XL_store (v := .agg #[.int .i64 2, .int .i64 n, .string ByteArray.empty]) rfl rfl rfl (by kernel_rfl) hk_3 0 [.int .i64 2, .int .i64 n, .string ByteArray.empty] #[.int .i64 2, .int .i64 n, .string ByteArray.empty] ⟨by kernel_rfl, rfl, by kernel_rfl⟩ ⟨by kernel_rfl, by kernel_rfl⟩ (Nat.le_of_ble_eq_true (by kernel_rfl)) (fun w_6 hg_7 hk_8 hz_9 => ?_)
  refine XL_nil ?_
  refine X_ret ?_
  refine RX.ret_cell (P := Tryd.prog) (fn := Tryd.f176) (N := 5) (R := R_) (c := 2) (t := 30) (p := ⟨w.heap.size, 0, none⟩) (v := .agg #[.int .i64 2, .int .i64 n, .string ByteArray.empty]) rfl rfl (loadsB rfl rfl hk_8 0 ⟨by kernel_rfl, by kernel_rfl⟩) (hR_ _ _ ?_)
  subst ht
  exact ⟨rfl, (bg hb_2 hg_7 (Nat.le_refl _))⟩
theorem textPlain_any (k n : Int) (t : ByteArray) (w : World) (h : plainOk k n t = true) (hk : k = 3) : Calls Tryd.prog 178 #[.string t] w fun e w' => e = .returned (.agg #[.int .i64 k, .int .i64 n, .string t]) ∧ Below w.heap.size w w' := by
  have h' := plainOk_kind h
  have ht : k = 3 ∨ t = ⟨#[]⟩ := by rcases h' with h' | h' | h' | h' <;> simp_all <;> omega
  have hn :  n = 0 := by rcases h' with h' | h' | h' | h' <;> simp_all <;> omega
  subst hk
  refine RX.enter Tryd.func178 rfl 5 rfl [(0, .string t)] rfl (by kernel_rfl) (fun R_ hR_ => ?_)
  refine X_seq ?_
  refine X_region ?_
  refine XL_run 1 [] [(0, .string t), (2, .pointer (some ⟨w.heap.size, 0, none⟩))] (w.alloc (.cells #[.int .i64 0, .int .i64 0, .string ByteArray.empty] 30)) [] (by kernel_rfl) trivial ?_
  obtain ⟨w_1, hw_5, hb_2, hk_3, hz_4⟩ := new_world w #[.int .i64 0, .int .i64 0, .string ByteArray.empty] 30
  rw [hw_5]
  refine XL_nil ?_
  refine X_seq ?_
  refine X_region ?_
  refine XL_run 2 [] [(2, .pointer (some ⟨w.heap.size, 0, none⟩)), (4, .agg #[.int .i64 3, .int .i64 0, .string t])] w_1 [] (by kernel_rfl) trivial ?_
  refine XL_store (v := .agg #[.int .i64 3, .int .i64 0, .string t]) rfl rfl rfl (by kernel_rfl) hk_3 0 [.int .i64 3, .int .i64 0, .string t] #[.int .i64 3, .int .i64 0, .string t] ⟨by kernel_rfl, rfl, by kernel_rfl⟩ ⟨by kernel_rfl, by kernel_rfl⟩ (Nat.le_of_ble_eq_true (by kernel_rfl)) (fun w_6 hg_7 hk_8 hz_9 => ?_)
  refine XL_nil ?_
  refine X_ret ?_
  refine RX.ret_cell (P := Tryd.prog) (fn := Tryd.f178) (N := 5) (R := R_) (c := 2) (t := 30) (p := ⟨w.heap.size, 0, none⟩) (v := .agg #[.int .i64 3, .int .i64 0, .string t]) rfl rfl (loadsB rfl rfl hk_8 0 ⟨by kernel_rfl, by kernel_rfl⟩) (hR_ _ _ ?_)
  subst hn
  exact ⟨rfl, (bg hb_2 hg_7 (Nat.le_refl _))⟩
theorem nullPlain_any (k n : Int) (t : ByteArray) (w : World) (h : plainOk k n t = true) (hk : k = 0) : Calls Tryd.prog 180 #[.agg #[]] w fun e w' => e = .returned (.agg #[.int .i64 k, .int .i64 n, .string t]) ∧ Below w.heap.size w w' := by
  have h' := plainOk_kind h
  have ht :  t = ⟨#[]⟩ := by rcases h' with h' | h' | h' | h' <;> simp_all <;> omega
  have hn :  n = 0 := by rcases h' with h' | h' | h' | h' <;> simp_all <;> omega
  subst hk
  refine RX.enter Tryd.func180 rfl 4 rfl [(0, .agg #[])] rfl (by kernel_rfl) (fun R_ hR_ => ?_)
  refine X_seq ?_
  refine X_region ?_
  refine XL_run 1 [] [] (w.alloc (.cells #[] 137)) [] (by kernel_rfl) trivial ?_
  obtain ⟨w_1, hw_5, hb_2, hk_3, hz_4⟩ := new_world w #[] 137
  rw [hw_5]
  refine XL_run 1 [] [(2, .pointer (some ⟨w_1.heap.size, 0, none⟩))] (w_1.alloc (.cells #[.int .i64 0, .int .i64 0, .string ByteArray.empty] 30)) [] (by kernel_rfl) trivial ?_
  obtain ⟨w_6, hw_10, hb_7, hk_8, hz_9⟩ := new_world w_1 #[.int .i64 0, .int .i64 0, .string ByteArray.empty] 30
  rw [hw_10]
  refine XL_nil ?_
  refine X_seq ?_
  refine X_region ?_
  refine XL_run 1 [] [(2, .pointer (some ⟨w_1.heap.size, 0, none⟩)), (3, .agg #[.int .i64 0, .int .i64 0, .string ByteArray.empty])] w_6 [] (by kernel_rfl) trivial ?_
  refine XL_store (v := .agg #[.int .i64 0, .int .i64 0, .string ByteArray.empty]) rfl rfl rfl (by kernel_rfl) hk_8 0 [.int .i64 0, .int .i64 0, .string ByteArray.empty] #[.int .i64 0, .int .i64 0, .string ByteArray.empty] ⟨by kernel_rfl, rfl, by kernel_rfl⟩ ⟨by kernel_rfl, by kernel_rfl⟩ (Nat.le_of_ble_eq_true (by kernel_rfl)) (fun w_11 hg_12 hk_13 hz_14 => ?_)
  refine XL_nil ?_
  refine X_ret ?_
  refine RX.ret_cell (P := Tryd.prog) (fn := Tryd.f180) (N := 4) (R := R_) (c := 2) (t := 30) (p := ⟨w_1.heap.size, 0, none⟩) (v := .agg #[.int .i64 0, .int .i64 0, .string ByteArray.empty]) rfl rfl (loadsB rfl rfl hk_13 0 ⟨by kernel_rfl, by kernel_rfl⟩) (hR_ _ _ ?_)
  subst ht
  subst hn
  exact ⟨rfl, (bg (bt hb_2 hb_7) hg_12 (hb_2).size)⟩
set_option maxHeartbeats 8000000 in
theorem opsTypes_any (A : Option Addr) (c : Nat) (xs : List OpA) (w : World) (hx : kOp.C w A xs.length xs) (hn : xs.length ≤ 1048576) (hz : ∀ i, i < xs.length → opSz (xs.getD i op0)) (hT : Tabs w) (es : List Addr) (hO : ErrsO w es) : Calls Tryd.prog 6 #[.slice A xs.length c] w fun e w' => e = .returned (.bool true) ∧ Below w.heap.size w w' := by
  have hpl : xs.length ≤ 9223372036854775807 := hx.2.1
  have hml : (List.map pOf xs).length = xs.length := List.length_map ..
  refine RX.enter Tryd.func6 rfl 114 rfl [(0, .slice A xs.length c)] rfl (by kernel_rfl) (fun R_ hR_ => ?_)
  refine X_seq ?_
  refine X_region ?_
  refine XL_run 1 [] [(0, .slice A xs.length c)] w [] (by kernel_rfl) trivial ?_
  refine XL_nil ?_
  refine X_seq ?_
  refine X_seq ?_
  refine X_region ?_
  refine XL_call 15 rfl rfl rfl ent15 [] (by kernel_rfl) (fixed_any _ (hT.below (Below.refl _ _)) es (hO.below (Below.refl _ _))) ?_
  rintro e w_1 ⟨rfl, hb_2⟩; refine ⟨_, rfl, ?_⟩
  refine XL_run 1 [] [(0, .slice A xs.length c), (14, .bool false)] w_1 [] (by kernel_rfl) trivial ?_
  refine XL_nil ?_
  refine X_cond false rfl ?_
  refine X_skip ?_
  refine X_seq ?_
  refine X_region ?_
  refine XL_run 1 [] [(0, .slice A xs.length c), (16, .slice A xs.length c)] w_1 [] (by kernel_rfl) trivial ?_
  refine XL_call 26 rfl rfl rfl ent26 [.slice A xs.length c] (by kernel_rfl) (of_any _ _ xs _ (Kd.C_below hx hb_2) (by omega) hz (hT.below hb_2) es (hO.below hb_2)) ?_
  rintro e w_6 ⟨A_3, c_4, rfl, hr_5, hb_7⟩; refine ⟨_, rfl, ?_⟩
  refine XL_run 7 [] [(0, .slice A xs.length c), (3, .slice A_3 ((ofP xs).length) c_4), (5, errV es (badE xs))] w_6 [] (by kernel_rfl) trivial ?_
  refine XL_nil ?_
  refine X_seq ?_
  refine X_seq ?_
  refine X_region ?_
  refine XL_run 1 [] [(0, .slice A xs.length c), (3, .slice A_3 ((ofP xs).length) c_4), (21, errV es (badE xs))] w_6 [] (by kernel_rfl) trivial ?_
  by_cases c_8 : (badE xs) = 0
  · rw [show errV es (badE xs) = .nilIface from by rw [c_8]; rfl]
    refine XL_run 1 [] [(0, .slice A xs.length c), (3, .slice A_3 ((ofP xs).length) c_4), (22, .bool false)] w_6 [] (by kernel_rfl) trivial ?_
    refine XL_nil ?_
    refine X_cond false rfl ?_
    refine X_skip ?_
    refine X_seq ?_
    refine X_seq ?_
    refine X_region ?_
    rw [ofP_ok c_8] at hr_5 ⊢
    refine XL_run 5 [(30, .eq (.bool false))] [(0, .slice A xs.length c), (3, .slice A_3 ((List.map pOf xs).length) c_4), (30, .bool false)] w_6 [Value.bool (((List.map pOf xs).length : Int) != (xs.length : Int)) = Value.bool false] (by kernel_rfl) ⟨congrArg Value.bool (bneF ((by omega))), trivial⟩ ?_
    refine XL_nil ?_
    refine X_cond false rfl ?_
    refine X_skip ?_
    refine X_seq ?_
    refine X_seq ?_
    refine X_region ?_
    refine XL_run 3 [] [(0, .slice A xs.length c), (31, .slice A_3 ((List.map pOf xs).length) c_4), (32, .int .i64 ((List.map pOf xs).length : Int)), (33, .int .i64 0)] w_6 [] (by kernel_rfl) trivial ?_
    refine XL_nil ?_
    refine X_block ?_
    refine X_loop (ι := Nat) (fun i => [(0, .slice A xs.length c), (31, .slice A_3 ((List.map pOf xs).length) c_4), (32, .int .i64 ((List.map pOf xs).length : Int)), (33, .int .i64 (i : Int))]) (fun i wl => i ≤ xs.length ∧ Below w_6.heap.size w_6 wl) (fun i => xs.length - i) 0 ⟨by omega, Below.refl _ _⟩ (by kernel_rfl) ?_
    rintro i wl ⟨hi, HB⟩
    refine X_seq ?_
    refine X_region ?_
    by_cases c_9 : (i : Int) < ((List.map pOf xs).length : Int)
    · refine XL_run 1 [(34, .eq (.bool true))] [(0, .slice A xs.length c), (31, .slice A_3 ((List.map pOf xs).length) c_4), (32, .int .i64 ((List.map pOf xs).length : Int)), (33, .int .i64 (i : Int)), (34, .bool true)] wl [Value.bool (decide ((i : Int) < ((List.map pOf xs).length : Int))) = Value.bool true] (by kernel_rfl) ⟨congrArg Value.bool (decide_eq_true (c_9)), trivial⟩ ?_
      refine XL_nil ?_
      refine X_seq ?_
      refine X_cond true rfl ?_
      refine X_skip ?_
      refine X_seq ?_
      refine X_block ?_
      refine X_seq ?_
      refine X_region ?_
      refine XL_run 1 [] [(0, .slice A xs.length c), (31, .slice A_3 ((List.map pOf xs).length) c_4), (32, .int .i64 ((List.map pOf xs).length : Int)), (33, .int .i64 (i : Int)), (35, .int .i64 (i : Int))] wl [] (by kernel_rfl) trivial ?_
      obtain ⟨ad_10, v_13, ha_11, hc_12, hK_14⟩ := Kd.atPiece (Kd.R_C (Kd.R_below hr_5 HB)) (i := (i : Int)) (by omega) (by omega)
      replace hK_14 : kPiece.K wl ((List.map pOf xs).getD i piece0) [v_13] := hK_14
      refine XL_run 1 [(36, .idx ad_10)] [(0, .slice A xs.length c), (31, .slice A_3 ((List.map pOf xs).length) c_4), (32, .int .i64 ((List.map pOf xs).length : Int)), (33, .int .i64 (i : Int)), (35, .int .i64 (i : Int)), (36, .pointer (some (ad_10.add ((i : Int).toNat * 1))))] wl [A_3 = some ad_10, (0 : Int) ≤ (i : Int), (i : Int) < ((List.map pOf xs).length : Int)] (by kernel_rfl) ⟨ha_11, (by omega), (by omega), trivial⟩ ?_
      rw [map_getD pOf op0 piece0 (show i < xs.length by omega)] at hK_14
      have hpe_15 := badE_getD c_8 (show i < xs.length by omega)
      rcases kind_of_ok hpe_15 with hk | hk | hk | hk
      · rw [pOf_ins hk] at hK_14
        obtain ⟨A_16, c_17, e_18, hl_19, hC_20⟩ := kPiece_ins hK_14
        obtain rfl := (List.cons.inj e_18).1
        refine XL_run 3 [(37, .load (.iface 51 (.agg #[.slice A_16 ((xs.getD i op0).attrs.length) c_17, .string ((xs.getD i op0).text), .int .i64 ((U.sc (xs.getD i op0).text).length : Int)])))] [(0, .slice A xs.length c), (6, .int .i64 (i : Int)), (7, .iface 51 (.agg #[.slice A_16 ((xs.getD i op0).attrs.length) c_17, .string ((xs.getD i op0).text), .int .i64 ((U.sc (xs.getD i op0).text).length : Int)])), (31, .slice A_3 ((List.map pOf xs).length) c_4), (32, .int .i64 ((List.map pOf xs).length : Int)), (33, .int .i64 (i : Int))] wl [LoadsAs Tryd.prog 47 (ad_10.add ((i : Int).toNat * 1)) (.iface 51 (.agg #[.slice A_16 ((xs.getD i op0).attrs.length) c_17, .string ((xs.getD i op0).text), .int .i64 ((U.sc (xs.getD i op0).text).length : Int)])) wl] (by kernel_rfl) ⟨loads1 rfl (elem_cell hc_12 0 _ rfl), trivial⟩ ?_
        refine XL_nil ?_
        refine X_seq ?_
        refine X_region ?_
        refine XL_run 1 [] [(0, .slice A xs.length c), (6, .int .i64 (i : Int)), (7, .iface 51 (.agg #[.slice A_16 ((xs.getD i op0).attrs.length) c_17, .string ((xs.getD i op0).text), .int .i64 ((U.sc (xs.getD i op0).text).length : Int)])), (8, .int .i64 0), (31, .slice A_3 ((List.map pOf xs).length) c_4), (32, .int .i64 ((List.map pOf xs).length : Int)), (33, .int .i64 (i : Int))] wl [] (by kernel_rfl) trivial ?_
        refine XL_nil ?_
        refine X_seq ?_
        refine X_seq ?_
        refine X_region ?_
        refine XL_run 1 [] [(0, .slice A xs.length c), (6, .int .i64 (i : Int)), (7, .iface 51 (.agg #[.slice A_16 ((xs.getD i op0).attrs.length) c_17, .string ((xs.getD i op0).text), .int .i64 ((U.sc (xs.getD i op0).text).length : Int)])), (8, .int .i64 0), (31, .slice A_3 ((List.map pOf xs).length) c_4), (32, .int .i64 ((List.map pOf xs).length : Int)), (33, .int .i64 (i : Int)), (38, .iface 51 (.agg #[.slice A_16 ((xs.getD i op0).attrs.length) c_17, .string ((xs.getD i op0).text), .int .i64 ((U.sc (xs.getD i op0).text).length : Int)]))] wl [] (by kernel_rfl) trivial ?_
        refine XL_nil ?_
        refine X_block ?_
        refine X_seq ?_
        refine X_region ?_
        refine XL_run 3 [] [(0, .slice A xs.length c), (6, .int .i64 (i : Int)), (7, .iface 51 (.agg #[.slice A_16 ((xs.getD i op0).attrs.length) c_17, .string ((xs.getD i op0).text), .int .i64 ((U.sc (xs.getD i op0).text).length : Int)])), (8, .int .i64 0), (31, .slice A_3 ((List.map pOf xs).length) c_4), (32, .int .i64 ((List.map pOf xs).length : Int)), (33, .int .i64 (i : Int)), (38, .iface 51 (.agg #[.slice A_16 ((xs.getD i op0).attrs.length) c_17, .string ((xs.getD i op0).text), .int .i64 ((U.sc (xs.getD i op0).text).length : Int)])), (40, .bool true), (41, .agg #[.slice A_16 ((xs.getD i op0).attrs.length) c_17, .string ((xs.getD i op0).text), .int .i64 ((U.sc (xs.getD i op0).text).length : Int)])] wl [] (by kernel_rfl) trivial ?_
        refine XL_nil ?_
        refine X_cond true rfl ?_
        refine X_seq ?_
        refine X_region ?_
        refine XL_run 1 [] [(0, .slice A xs.length c), (6, .int .i64 (i : Int)), (7, .iface 51 (.agg #[.slice A_16 ((xs.getD i op0).attrs.length) c_17, .string ((xs.getD i op0).text), .int .i64 ((U.sc (xs.getD i op0).text).length : Int)])), (9, .pointer (some ⟨wl.heap.size, 0, none⟩)), (31, .slice A_3 ((List.map pOf xs).length) c_4), (32, .int .i64 ((List.map pOf xs).length : Int)), (33, .int .i64 (i : Int)), (41, .agg #[.slice A_16 ((xs.getD i op0).attrs.length) c_17, .string ((xs.getD i op0).text), .int .i64 ((U.sc (xs.getD i op0).text).length : Int)])] (wl.alloc (.cells #[.slice none 0 0, .string ByteArray.empty, .int .i64 0] 51)) [] (by kernel_rfl) trivial ?_
        obtain ⟨w_21, hw_25, hb_22, hk_23, hz_24⟩ := new_world wl #[.slice none 0 0, .string ByteArray.empty, .int .i64 0] 51
        rw [hw_25]
        refine XL_store (v := .agg #[.slice A_16 ((xs.getD i op0).attrs.length) c_17, .string ((xs.getD i op0).text), .int .i64 ((U.sc (xs.getD i op0).text).length : Int)]) rfl rfl rfl (by kernel_rfl) hk_23 0 [.slice A_16 ((xs.getD i op0).attrs.length) c_17, .string ((xs.getD i op0).text), .int .i64 ((U.sc (xs.getD i op0).text).length : Int)] #[.slice A_16 ((xs.getD i op0).attrs.length) c_17, .string ((xs.getD i op0).text), .int .i64 ((U.sc (xs.getD i op0).text).length : Int)] ⟨by kernel_rfl, rfl, by kernel_rfl⟩ ⟨by kernel_rfl, by kernel_rfl⟩ (Nat.le_of_ble_eq_true (by kernel_rfl)) (fun w_26 hg_27 hk_28 hz_29 => ?_)
        refine XL_nil ?_
        refine X_seq ?_
        refine X_region ?_
        refine XL_run 1 [] [(0, .slice A xs.length c), (6, .int .i64 (i : Int)), (7, .iface 51 (.agg #[.slice A_16 ((xs.getD i op0).attrs.length) c_17, .string ((xs.getD i op0).text), .int .i64 ((U.sc (xs.getD i op0).text).length : Int)])), (8, .int .i64 1), (9, .pointer (some ⟨wl.heap.size, 0, none⟩)), (31, .slice A_3 ((List.map pOf xs).length) c_4), (32, .int .i64 ((List.map pOf xs).length : Int)), (33, .int .i64 (i : Int))] w_26 [] (by kernel_rfl) trivial ?_
        refine XL_nil ?_
        refine X_seq ?_
        refine X_grow [] 15 #[false, false, false, false, false, false, false, false, false, false, false, false, false, false, false] (by kernel_rfl) (by kernel_rfl) (by kernel_rfl) (fun wd_30 hb_31 hh_32 => ?_)
        refine XB_run (fuel' := 11) (Below.refl _ _) [0, 1, 2, 3] [(43, .load (.string ((xs.getD i op0).text)))] [.pointer (some ⟨wl.heap.size, 1, none⟩), .string ((xs.getD i op0).text), .slice A xs.length c, .int .i64 (i : Int)] #[true, true, true, true, false, false, false, false, false, false, false, false, false, false, false] [(0, .slice A xs.length c), (6, .int .i64 (i : Int)), (7, .iface 51 (.agg #[.slice A_16 ((xs.getD i op0).attrs.length) c_17, .string ((xs.getD i op0).text), .int .i64 ((U.sc (xs.getD i op0).text).length : Int)])), (8, .int .i64 1), (9, .pointer (some ⟨wl.heap.size, 0, none⟩)), (31, .slice A_3 ((List.map pOf xs).length) c_4), (32, .int .i64 ((List.map pOf xs).length : Int)), (33, .int .i64 (i : Int)), (43, .string ((xs.getD i op0).text)), (44, .slice A xs.length c), (45, .int .i64 (i : Int))] (fun w_ => [LoadsAs Tryd.prog 9 (⟨wl.heap.size, 1, none⟩) (.string ((xs.getD i op0).text)) w_]) (fun _ _ _ _ h => h) (fun w_ => by kernel_rfl) rfl (fun w_ hC_ => ⟨loads1 rfl (Blk.cell (Blk.below hk_28 (bt hb_31 hC_)) 1 _ rfl), trivial⟩) ?_
        have hB_33 : Below w.heap.size w wd_30 := (bt (bg (bt (bt (bt hb_2 hb_7) HB) hb_22) hg_27 ((bt (bt hb_2 hb_7) HB)).size) hb_31)
        obtain ⟨ad_34, B_37, c_38, ha_35, hc_36, hl_39, hC_40⟩ := Kd.atOp (Kd.C_below hx hB_33) (i := (i : Int)) (by omega) (by omega)
        replace hc_36 : CellsAt wd_30 (ad_34.add ((i : Int).toNat * 7)) [.int .i64 ((xs.getD i op0).kind), .string ((xs.getD i op0).text), .int .i64 ((xs.getD i op0).vk), .int .i64 ((xs.getD i op0).vn), .string ((xs.getD i op0).vt), .int .i64 ((xs.getD i op0).count), .slice B_37 ((xs.getD i op0).attrs.length) c_38] := hc_36
        replace hl_39 : (xs.getD i op0).attrs.length ≤ c_38 := hl_39
        replace hC_40 : kAttr.C wd_30 B_37 ((xs.getD i op0).attrs.length) (xs.getD i op0).attrs := hC_40
        refine XB_run (fuel' := 3) (Below.refl _ _) [4, 5, 6, 7, 8, 9, 10, 11] [(46, .idx ad_34), (48, .load (.string ((xs.getD i op0).text))), (49, .eq (.bool false)), (52, .load (.int .i64 ((U.sc (xs.getD i op0).text).length : Int)))] [.pointer (some (ad_34.add ((i : Int).toNat * 7))), .pointer (some ((ad_34.add ((i : Int).toNat * 7)).add 1)), .string ((xs.getD i op0).text), .bool false, .bool false, .pointer (some ⟨wl.heap.size, 2, none⟩), .int .i64 ((U.sc (xs.getD i op0).text).length : Int), .iface 51 (.agg #[.slice A_16 ((xs.getD i op0).attrs.length) c_17, .string ((xs.getD i op0).text), .int .i64 ((U.sc (xs.getD i op0).text).length : Int)])] #[true, true, true, true, true, true, true, true, true, true, true, true, false, false, false] [(0, .slice A xs.length c), (6, .int .i64 (i : Int)), (8, .int .i64 1), (31, .slice A_3 ((List.map pOf xs).length) c_4), (32, .int .i64 ((List.map pOf xs).length : Int)), (33, .int .i64 (i : Int)), (50, .bool false), (52, .int .i64 ((U.sc (xs.getD i op0).text).length : Int)), (53, .iface 51 (.agg #[.slice A_16 ((xs.getD i op0).attrs.length) c_17, .string ((xs.getD i op0).text), .int .i64 ((U.sc (xs.getD i op0).text).length : Int)]))] (fun w_ => [A = some ad_34, (0 : Int) ≤ (i : Int), (i : Int) < (xs.length : Int), LoadsAs Tryd.prog 9 ((ad_34.add ((i : Int).toNat * 7)).add 1) (.string ((xs.getD i op0).text)) w_, Value.bool (!((xs.getD i op0).text).toList == ((xs.getD i op0).text).toList) = Value.bool false, LoadsAs Tryd.prog 3 (⟨wl.heap.size, 2, none⟩) (.int .i64 ((U.sc (xs.getD i op0).text).length : Int)) w_]) (fun _ _ _ _ h => h) (fun w_ => by kernel_rfl) rfl (fun w_ hC_ => ⟨ha_35, (by omega), (by omega), loads1 rfl (elem_cell (cells_below hc_36 hC_) 1 _ rfl), congrArg Value.bool (strNeF (rfl)), loads1 rfl (Blk.cell (Blk.below hk_28 (bt hb_31 hC_)) 2 _ rfl), trivial⟩) ?_
        refine XB_mid (fuel' := 2) 12 #[true, true, true, true, true, true, true, true, true, true, true, true, true, false, false] _ rfl (by kernel_rfl) (by kernel_rfl) rfl ?_
        refine XL_inv 165 #[.agg #[.slice A_16 ((xs.getD i op0).attrs.length) c_17, .string ((xs.getD i op0).text), .int .i64 ((U.sc (xs.getD i op0).text).length : Int)]] rfl rfl (by kernel_rfl) (by kernel_rfl) (insertLen_any _ _ _ _ _ _) ?_
        rintro e w_41 ⟨rfl, hb_42⟩; refine ⟨_, rfl, ?_⟩
        refine XL_nil ?_
        refine ⟨hb_42, ?_⟩
        refine XB_run (fuel' := 0) hb_42 [13, 14] [(55, .eq (.bool false))] [.bool false, .bool false] #[true, true, true, true, true, true, true, true, true, true, true, true, true, true, true] [(0, .slice A xs.length c), (6, .int .i64 (i : Int)), (8, .int .i64 1), (31, .slice A_3 ((List.map pOf xs).length) c_4), (32, .int .i64 ((List.map pOf xs).length : Int)), (33, .int .i64 (i : Int)), (56, .bool false)] (fun w_ => [Value.bool (((U.sc (xs.getD i op0).text).length : Int) != ((U.sc (xs.getD i op0).text).length : Int)) = Value.bool false]) (fun _ _ _ _ h => h) (fun w_ => by kernel_rfl) rfl (fun w_ hC_ => ⟨congrArg Value.bool (bneF rfl), trivial⟩) ?_
        refine XB_done (by kernel_rfl) ?_
        refine X_cond false rfl ?_
        refine X_skip ?_
        refine X_seq ?_
        refine X_region ?_
        refine XL_run 3 [] [(0, .slice A xs.length c), (31, .slice A_3 ((List.map pOf xs).length) c_4), (32, .int .i64 ((List.map pOf xs).length : Int)), (33, .int .i64 (i : Int)), (106, .int .i64 1), (107, .slice A xs.length c), (108, .int .i64 (i : Int))] w_41 [] (by kernel_rfl) trivial ?_
        obtain ⟨ad_43, B_46, c_47, ha_44, hc_45, hl_48, hC_49⟩ := Kd.atOp (Kd.C_below hx (bt hB_33 hb_42)) (i := (i : Int)) (by omega) (by omega)
        replace hc_45 : CellsAt w_41 (ad_43.add ((i : Int).toNat * 7)) [.int .i64 ((xs.getD i op0).kind), .string ((xs.getD i op0).text), .int .i64 ((xs.getD i op0).vk), .int .i64 ((xs.getD i op0).vn), .string ((xs.getD i op0).vt), .int .i64 ((xs.getD i op0).count), .slice B_46 ((xs.getD i op0).attrs.length) c_47] := hc_45
        replace hl_48 : (xs.getD i op0).attrs.length ≤ c_47 := hl_48
        replace hC_49 : kAttr.C w_41 B_46 ((xs.getD i op0).attrs.length) (xs.getD i op0).attrs := hC_49
        refine XL_run 4 [(109, .idx ad_43), (111, .load (.int .i64 ((xs.getD i op0).kind))), (112, .eq (.bool false))] [(0, .slice A xs.length c), (31, .slice A_3 ((List.map pOf xs).length) c_4), (32, .int .i64 ((List.map pOf xs).length : Int)), (33, .int .i64 (i : Int)), (112, .bool false)] w_41 [A = some ad_43, (0 : Int) ≤ (i : Int), (i : Int) < (xs.length : Int), LoadsAs Tryd.prog 3 (ad_43.add ((i : Int).toNat * 7)) (.int .i64 ((xs.getD i op0).kind)) w_41, Value.bool ((1 : Int) != (xs.getD i op0).kind) = Value.bool false] (by kernel_rfl) ⟨ha_44, (by omega), (by omega), loads1 rfl (elem_cell hc_45 0 _ rfl), congrArg Value.bool (bneF (hk.symm)), trivial⟩ ?_
        refine XL_nil ?_
        refine X_cond false rfl ?_
        refine X_skip ?_
        refine X_region ?_
        refine XL_run 2 [(113, .eq (.int .i64 ((i : Int) + 1)))] [(0, .slice A xs.length c), (31, .slice A_3 ((List.map pOf xs).length) c_4), (32, .int .i64 ((List.map pOf xs).length : Int)), (33, .int .i64 ((i : Int) + 1))] w_41 [Value.int .i64 (IntKind.i64.wrap ((i : Int) + 1)) = Value.int .i64 ((i : Int) + 1)] (by kernel_rfl) ⟨wr_i64 (by omega) (by omega), trivial⟩ ?_
        refine XL_nil ?_
        have hB_50 : Below w_6.heap.size w_6 w_41 := (bt (bt (bg (bt HB hb_22) hg_27 (HB).size) hb_31) hb_42)
        refine ⟨(i + 1), by kernel_rfl, ?_, ?_⟩
        · exact ⟨by omega, hB_50⟩
        · (try dsimp only); omega
      · rw [pOf_emb hk] at hK_14
        obtain ⟨A_51, c_52, e_53, hl_54, hC_55⟩ := kPiece_emb hK_14
        obtain rfl := (List.cons.inj e_53).1
        have hval : (xs.getD i op0).val = ((xs.getD i op0).vk, (xs.getD i op0).vn, (xs.getD i op0).vt) := rfl
        rw [hval] at hc_12
        refine XL_run 3 [(37, .load (.iface 56 (.agg #[.slice A_51 ((xs.getD i op0).attrs.length) c_52, .string ((xs.getD i op0).text), valV ((xs.getD i op0).vk, (xs.getD i op0).vn, (xs.getD i op0).vt)])))] [(0, .slice A xs.length c), (6, .int .i64 (i : Int)), (7, .iface 56 (.agg #[.slice A_51 ((xs.getD i op0).attrs.length) c_52, .string ((xs.getD i op0).text), valV ((xs.getD i op0).vk, (xs.getD i op0).vn, (xs.getD i op0).vt)])), (31, .slice A_3 ((List.map pOf xs).length) c_4), (32, .int .i64 ((List.map pOf xs).length : Int)), (33, .int .i64 (i : Int))] wl [LoadsAs Tryd.prog 47 (ad_10.add ((i : Int).toNat * 1)) (.iface 56 (.agg #[.slice A_51 ((xs.getD i op0).attrs.length) c_52, .string ((xs.getD i op0).text), valV ((xs.getD i op0).vk, (xs.getD i op0).vn, (xs.getD i op0).vt)])) wl] (by kernel_rfl) ⟨loads1 rfl (elem_cell hc_12 0 _ rfl), trivial⟩ ?_
        refine XL_nil ?_
        refine X_seq ?_
        refine X_region ?_
        refine XL_run 1 [] [(0, .slice A xs.length c), (6, .int .i64 (i : Int)), (7, .iface 56 (.agg #[.slice A_51 ((xs.getD i op0).attrs.length) c_52, .string ((xs.getD i op0).text), valV ((xs.getD i op0).vk, (xs.getD i op0).vn, (xs.getD i op0).vt)])), (8, .int .i64 0), (31, .slice A_3 ((List.map pOf xs).length) c_4), (32, .int .i64 ((List.map pOf xs).length : Int)), (33, .int .i64 (i : Int))] wl [] (by kernel_rfl) trivial ?_
        refine XL_nil ?_
        refine X_seq ?_
        refine X_seq ?_
        refine X_region ?_
        refine XL_run 1 [] [(0, .slice A xs.length c), (6, .int .i64 (i : Int)), (7, .iface 56 (.agg #[.slice A_51 ((xs.getD i op0).attrs.length) c_52, .string ((xs.getD i op0).text), valV ((xs.getD i op0).vk, (xs.getD i op0).vn, (xs.getD i op0).vt)])), (8, .int .i64 0), (31, .slice A_3 ((List.map pOf xs).length) c_4), (32, .int .i64 ((List.map pOf xs).length : Int)), (33, .int .i64 (i : Int)), (38, .iface 56 (.agg #[.slice A_51 ((xs.getD i op0).attrs.length) c_52, .string ((xs.getD i op0).text), valV ((xs.getD i op0).vk, (xs.getD i op0).vn, (xs.getD i op0).vt)]))] wl [] (by kernel_rfl) trivial ?_
        refine XL_nil ?_
        refine X_block ?_
        refine X_seq ?_
        refine X_region ?_
        refine XL_run 3 [] [(0, .slice A xs.length c), (6, .int .i64 (i : Int)), (7, .iface 56 (.agg #[.slice A_51 ((xs.getD i op0).attrs.length) c_52, .string ((xs.getD i op0).text), valV ((xs.getD i op0).vk, (xs.getD i op0).vn, (xs.getD i op0).vt)])), (8, .int .i64 0), (31, .slice A_3 ((List.map pOf xs).length) c_4), (32, .int .i64 ((List.map pOf xs).length : Int)), (33, .int .i64 (i : Int)), (38, .iface 56 (.agg #[.slice A_51 ((xs.getD i op0).attrs.length) c_52, .string ((xs.getD i op0).text), valV ((xs.getD i op0).vk, (xs.getD i op0).vn, (xs.getD i op0).vt)])), (40, .bool false), (41, .agg #[.slice none 0 0, .string ByteArray.empty, .int .i64 0])] wl [] (by kernel_rfl) trivial ?_
        refine XL_nil ?_
        refine X_cond false rfl ?_
        refine X_seq ?_
        refine X_region ?_
        by_cases c_56 : (xs.getD i op0).vk = 1
        · rw [valV_1 (v := ((xs.getD i op0).vk, (xs.getD i op0).vn, (xs.getD i op0).vt)) c_56]
          refine XL_run 3 [] [(0, .slice A xs.length c), (6, .int .i64 (i : Int)), (8, .int .i64 0), (31, .slice A_3 ((List.map pOf xs).length) c_4), (32, .int .i64 ((List.map pOf xs).length : Int)), (33, .int .i64 (i : Int)), (38, .iface 56 (.agg #[.slice A_51 ((xs.getD i op0).attrs.length) c_52, .string ((xs.getD i op0).text), .iface 133 (.bool (decide ((xs.getD i op0).vn = 1)))])), (58, .bool true), (59, .agg #[.slice A_51 ((xs.getD i op0).attrs.length) c_52, .string ((xs.getD i op0).text), .iface 133 (.bool (decide ((xs.getD i op0).vn = 1)))])] wl [] (by kernel_rfl) trivial ?_
          refine XL_nil ?_
          refine X_cond true rfl ?_
          refine X_seq ?_
          refine X_region ?_
          refine XL_run 1 [] [(0, .slice A xs.length c), (6, .int .i64 (i : Int)), (10, .pointer (some ⟨wl.heap.size, 0, none⟩)), (31, .slice A_3 ((List.map pOf xs).length) c_4), (32, .int .i64 ((List.map pOf xs).length : Int)), (33, .int .i64 (i : Int)), (59, .agg #[.slice A_51 ((xs.getD i op0).attrs.length) c_52, .string ((xs.getD i op0).text), .iface 133 (.bool (decide ((xs.getD i op0).vn = 1)))])] (wl.alloc (.cells #[.slice none 0 0, .string ByteArray.empty, .nilIface] 56)) [] (by kernel_rfl) trivial ?_
          obtain ⟨w_57, hw_61, hb_58, hk_59, hz_60⟩ := new_world wl #[.slice none 0 0, .string ByteArray.empty, .nilIface] 56
          rw [hw_61]
          refine XL_store (v := .agg #[.slice A_51 ((xs.getD i op0).attrs.length) c_52, .string ((xs.getD i op0).text), .iface 133 (.bool (decide ((xs.getD i op0).vn = 1)))]) rfl rfl rfl (by kernel_rfl) hk_59 0 [.slice A_51 ((xs.getD i op0).attrs.length) c_52, .string ((xs.getD i op0).text), .iface 133 (.bool (decide ((xs.getD i op0).vn = 1)))] #[.slice A_51 ((xs.getD i op0).attrs.length) c_52, .string ((xs.getD i op0).text), .iface 133 (.bool (decide ((xs.getD i op0).vn = 1)))] ⟨by kernel_rfl, rfl, by kernel_rfl⟩ ⟨by kernel_rfl, by kernel_rfl⟩ (Nat.le_of_ble_eq_true (by kernel_rfl)) (fun w_62 hg_63 hk_64 hz_65 => ?_)
          refine XL_nil ?_
          refine X_seq ?_
          refine X_region ?_
          refine XL_run 1 [] [(0, .slice A xs.length c), (6, .int .i64 (i : Int)), (8, .int .i64 2), (10, .pointer (some ⟨wl.heap.size, 0, none⟩)), (31, .slice A_3 ((List.map pOf xs).length) c_4), (32, .int .i64 ((List.map pOf xs).length : Int)), (33, .int .i64 (i : Int))] w_62 [] (by kernel_rfl) trivial ?_
          refine XL_nil ?_
          refine X_seq ?_
          refine X_grow [] 24 #[false, false, false, false, false, false, false, false, false, false, false, false, false, false, false, false, false, false, false, false, false, false, false, false] (by kernel_rfl) (by kernel_rfl) (by kernel_rfl) (fun wd_66 hb_67 hh_68 => ?_)
          refine XB_run (fuel' := 20) (Below.refl _ _) [0, 1, 2, 3] [(61, .load (.string ((xs.getD i op0).text)))] [.pointer (some ⟨wl.heap.size, 1, none⟩), .string ((xs.getD i op0).text), .slice A xs.length c, .int .i64 (i : Int)] #[true, true, true, true, false, false, false, false, false, false, false, false, false, false, false, false, false, false, false, false, false, false, false, false] [(0, .slice A xs.length c), (6, .int .i64 (i : Int)), (8, .int .i64 2), (10, .pointer (some ⟨wl.heap.size, 0, none⟩)), (31, .slice A_3 ((List.map pOf xs).length) c_4), (32, .int .i64 ((List.map pOf xs).length : Int)), (33, .int .i64 (i : Int)), (61, .string ((xs.getD i op0).text)), (62, .slice A xs.length c), (63, .int .i64 (i : Int))] (fun w_ => [LoadsAs Tryd.prog 9 (⟨wl.heap.size, 1, none⟩) (.string ((xs.getD i op0).text)) w_]) (fun _ _ _ _ h => h) (fun w_ => by kernel_rfl) rfl (fun w_ hC_ => ⟨loads1 rfl (Blk.cell (Blk.below hk_64 (bt hb_67 hC_)) 1 _ rfl), trivial⟩) ?_
          have hB_69 : Below w.heap.size w wd_66 := (bt (bg (bt (bt (bt hb_2 hb_7) HB) hb_58) hg_63 ((bt (bt hb_2 hb_7) HB)).size) hb_67)
          obtain ⟨ad_70, B_73, c_74, ha_71, hc_72, hl_75, hC_76⟩ := Kd.atOp (Kd.C_below hx hB_69) (i := (i : Int)) (by omega) (by omega)
          replace hc_72 : CellsAt wd_66 (ad_70.add ((i : Int).toNat * 7)) [.int .i64 ((xs.getD i op0).kind), .string ((xs.getD i op0).text), .int .i64 ((xs.getD i op0).vk), .int .i64 ((xs.getD i op0).vn), .string ((xs.getD i op0).vt), .int .i64 ((xs.getD i op0).count), .slice B_73 ((xs.getD i op0).attrs.length) c_74] := hc_72
          replace hl_75 : (xs.getD i op0).attrs.length ≤ c_74 := hl_75
          replace hC_76 : kAttr.C wd_66 B_73 ((xs.getD i op0).attrs.length) (xs.getD i op0).attrs := hC_76
          refine XB_run (fuel' := 6) (Below.refl _ _) [4, 5, 6, 7, 8, 9, 10, 11, 12, 13, 14, 15, 17, 18] [(64, .idx ad_70), (66, .load (.string ((xs.getD i op0).text))), (67, .eq (.bool false)), (70, .load (.iface 133 (.bool (decide ((xs.getD i op0).vn = 1))))), (75, .load (.iface 133 (.bool (decide ((xs.getD i op0).vn = 1)))))] [.pointer (some (ad_70.add ((i : Int).toNat * 7))), .pointer (some ((ad_70.add ((i : Int).toNat * 7)).add 1)), .string ((xs.getD i op0).text), .bool false, .bool false, .pointer (some ⟨wl.heap.size, 2, none⟩), .iface 133 (.bool (decide ((xs.getD i op0).vn = 1))), .bool false, .bool false, .bool false, .pointer (some ⟨wl.heap.size, 2, none⟩), .iface 133 (.bool (decide ((xs.getD i op0).vn = 1))), .slice A xs.length c, .int .i64 (i : Int)] #[true, true, true, true, true, true, true, true, true, true, true, true, true, true, true, true, false, true, true, false, false, false, false, false] [(0, .slice A xs.length c), (6, .int .i64 (i : Int)), (8, .int .i64 2), (31, .slice A_3 ((List.map pOf xs).length) c_4), (32, .int .i64 ((List.map pOf xs).length : Int)), (33, .int .i64 (i : Int)), (73, .bool false), (75, .iface 133 (.bool (decide ((xs.getD i op0).vn = 1)))), (77, .slice A xs.length c), (78, .int .i64 (i : Int))] (fun w_ => [A = some ad_70, (0 : Int) ≤ (i : Int), (i : Int) < (xs.length : Int), LoadsAs Tryd.prog 9 ((ad_70.add ((i : Int).toNat * 7)).add 1) (.string ((xs.getD i op0).text)) w_, Value.bool (!((xs.getD i op0).text).toList == ((xs.getD i op0).text).toList) = Value.bool false, LoadsAs Tryd.prog 54 (⟨wl.heap.size, 2, none⟩) (.iface 133 (.bool (decide ((xs.getD i op0).vn = 1)))) w_, LoadsAs Tryd.prog 54 (⟨wl.heap.size, 2, none⟩) (.iface 133 (.bool (decide ((xs.getD i op0).vn = 1)))) w_]) (fun _ _ _ _ h => h) (fun w_ => by kernel_rfl) rfl (fun w_ hC_ => ⟨ha_71, (by omega), (by omega), loads1 rfl (elem_cell (cells_below hc_72 hC_) 1 _ rfl), congrArg Value.bool (strNeF (rfl)), loads1 rfl (Blk.cell (Blk.below hk_64 (bt hb_67 hC_)) 2 _ rfl), loads1 rfl (Blk.cell (Blk.below hk_64 (bt hb_67 hC_)) 2 _ rfl), trivial⟩) ?_
          obtain ⟨ad_77, B_80, c_81, ha_78, hc_79, hl_82, hC_83⟩ := Kd.atOp (Kd.C_below hx hB_69) (i := (i : Int)) (by omega) (by omega)
          replace hc_79 : CellsAt wd_66 (ad_77.add ((i : Int).toNat * 7)) [.int .i64 ((xs.getD i op0).kind), .string ((xs.getD i op0).text), .int .i64 ((xs.getD i op0).vk), .int .i64 ((xs.getD i op0).vn), .string ((xs.getD i op0).vt), .int .i64 ((xs.getD i op0).count), .slice B_80 ((xs.getD i op0).attrs.length) c_81] := hc_79
          replace hl_82 : (xs.getD i op0).attrs.length ≤ c_81 := hl_82
          replace hC_83 : kAttr.C wd_66 B_80 ((xs.getD i op0).attrs.length) (xs.getD i op0).attrs := hC_83
          refine XB_run (fuel' := 3) (Below.refl _ _) [19, 20, 21] [(79, .idx ad_77), (81, .load (.agg #[.int .i64 ((xs.getD i op0).vk), .int .i64 ((xs.getD i op0).vn), .string ((xs.getD i op0).vt)]))] [.pointer (some (ad_77.add ((i : Int).toNat * 7))), .pointer (some ((ad_77.add ((i : Int).toNat * 7)).add 2)), .agg #[.int .i64 ((xs.getD i op0).vk), .int .i64 ((xs.getD i op0).vn), .string ((xs.getD i op0).vt)]] #[true, true, true, true, true, true, true, true, true, true, true, true, true, true, true, true, false, true, true, true, true, true, false, false] [(0, .slice A xs.length c), (6, .int .i64 (i : Int)), (8, .int .i64 2), (31, .slice A_3 ((List.map pOf xs).length) c_4), (32, .int .i64 ((List.map pOf xs).length : Int)), (33, .int .i64 (i : Int)), (73, .bool false), (75, .iface 133 (.bool (decide ((xs.getD i op0).vn = 1)))), (81, .agg #[.int .i64 ((xs.getD i op0).vk), .int .i64 ((xs.getD i op0).vn), .string ((xs.getD i op0).vt)])] (fun w_ => [A = some ad_77, (0 : Int) ≤ (i : Int), (i : Int) < (xs.length : Int), LoadsAs Tryd.prog 30 ((ad_77.add ((i : Int).toNat * 7)).add 2) (.agg #[.int .i64 ((xs.getD i op0).vk), .int .i64 ((xs.getD i op0).vn), .string ((xs.getD i op0).vt)]) w_]) (fun _ _ _ _ h => h) (fun w_ => by kernel_rfl) rfl (fun w_ hC_ => ⟨ha_78, (by omega), (by omega), loadsE rfl rfl (cells_below hc_79 hC_) 2 ⟨by kernel_rfl, by kernel_rfl⟩, trivial⟩) ?_
          refine XB_mid (fuel' := 2) 16 #[true, true, true, true, true, true, true, true, true, true, true, true, true, true, true, true, true, true, true, true, true, true, false, false] _ rfl (by kernel_rfl) (by kernel_rfl) rfl ?_
          refine XL_inv 174 #[.bool (decide ((xs.getD i op0).vn = 1))] rfl rfl (by kernel_rfl) (by kernel_rfl) (flagPlain_any (xs.getD i op0).vk (xs.getD i op0).vn (xs.getD i op0).vt _ (pErr_val hpe_15 hk) c_56) ?_
          rintro e w_84 ⟨rfl, hb_85⟩; refine ⟨_, rfl, ?_⟩
          refine XL_nil ?_
          refine ⟨hb_85, ?_⟩
          refine XB_run (fuel' := 0) hb_85 [22, 23] [(82, .as (.bool false))] [.bool false, .bool false] #[true, true, true, true, true, true, true, true, true, true, true, true, true, true, true, true, true, true, true, true, true, true, true, true] [(0, .slice A xs.length c), (6, .int .i64 (i : Int)), (8, .int .i64 2), (31, .slice A_3 ((List.map pOf xs).length) c_4), (32, .int .i64 ((List.map pOf xs).length : Int)), (33, .int .i64 (i : Int)), (83, .bool false)] (fun w_ => [RunsAs Tryd.prog [(76, .agg #[.int .i64 ((xs.getD i op0).vk), .int .i64 ((xs.getD i op0).vn), .string ((xs.getD i op0).vt)]), (81, .agg #[.int .i64 ((xs.getD i op0).vk), .int .i64 ((xs.getD i op0).vn), .string ((xs.getD i op0).vt)])] (Go.Op.binOp Go.BinOp.neq 30 (Go.Operand.tmp 76) (Go.Operand.tmp 81) 30) 4 (.bool false) w_]) (fun _ _ _ _ h => h) (fun w_ => by kernel_rfl) rfl (fun w_ hC_ => ⟨runs_bin rfl rfl (run_eqGuard_agg _ _ _ _ _ _ _ (by kernel_rfl)) (by have h := plain_neq ((xs.getD i op0).vk, (xs.getD i op0).vn, (xs.getD i op0).vt) ((xs.getD i op0).vk, (xs.getD i op0).vn, (xs.getD i op0).vt) w_; rw [show ple ((xs.getD i op0).vk, (xs.getD i op0).vn, (xs.getD i op0).vt) ((xs.getD i op0).vk, (xs.getD i op0).vn, (xs.getD i op0).vt) = true from (ple_iff _ _).2 rfl] at h; exact h), trivial⟩) ?_
          refine XB_done (by kernel_rfl) ?_
          refine X_cond false rfl ?_
          refine X_skip ?_
          refine X_seq ?_
          refine X_region ?_
          refine XL_run 3 [] [(0, .slice A xs.length c), (31, .slice A_3 ((List.map pOf xs).length) c_4), (32, .int .i64 ((List.map pOf xs).length : Int)), (33, .int .i64 (i : Int)), (106, .int .i64 2), (107, .slice A xs.length c), (108, .int .i64 (i : Int))] w_84 [] (by kernel_rfl) trivial ?_
          obtain ⟨ad_86, B_89, c_90, ha_87, hc_88, hl_91, hC_92⟩ := Kd.atOp (Kd.C_below hx (bt hB_69 hb_85)) (i := (i : Int)) (by omega) (by omega)
          replace hc_88 : CellsAt w_84 (ad_86.add ((i : Int).toNat * 7)) [.int .i64 ((xs.getD i op0).kind), .string ((xs.getD i op0).text), .int .i64 ((xs.getD i op0).vk), .int .i64 ((xs.getD i op0).vn), .string ((xs.getD i op0).vt), .int .i64 ((xs.getD i op0).count), .slice B_89 ((xs.getD i op0).attrs.length) c_90] := hc_88
          replace hl_91 : (xs.getD i op0).attrs.length ≤ c_90 := hl_91
          replace hC_92 : kAttr.C w_84 B_89 ((xs.getD i op0).attrs.length) (xs.getD i op0).attrs := hC_92
          refine XL_run 4 [(109, .idx ad_86), (111, .load (.int .i64 ((xs.getD i op0).kind))), (112, .eq (.bool false))] [(0, .slice A xs.length c), (31, .slice A_3 ((List.map pOf xs).length) c_4), (32, .int .i64 ((List.map pOf xs).length : Int)), (33, .int .i64 (i : Int)), (112, .bool false)] w_84 [A = some ad_86, (0 : Int) ≤ (i : Int), (i : Int) < (xs.length : Int), LoadsAs Tryd.prog 3 (ad_86.add ((i : Int).toNat * 7)) (.int .i64 ((xs.getD i op0).kind)) w_84, Value.bool ((2 : Int) != (xs.getD i op0).kind) = Value.bool false] (by kernel_rfl) ⟨ha_87, (by omega), (by omega), loads1 rfl (elem_cell hc_88 0 _ rfl), congrArg Value.bool (bneF (hk.symm)), trivial⟩ ?_
          refine XL_nil ?_
          refine X_cond false rfl ?_
          refine X_skip ?_
          refine X_region ?_
          refine XL_run 2 [(113, .eq (.int .i64 ((i : Int) + 1)))] [(0, .slice A xs.length c), (31, .slice A_3 ((List.map pOf xs).length) c_4), (32, .int .i64 ((List.map pOf xs).length : Int)), (33, .int .i64 ((i : Int) + 1))] w_84 [Value.int .i64 (IntKind.i64.wrap ((i : Int) + 1)) = Value.int .i64 ((i : Int) + 1)] (by kernel_rfl) ⟨wr_i64 (by omega) (by omega), trivial⟩ ?_
          refine XL_nil ?_
          have hB_93 : Below w_6.heap.size w_6 w_84 := (bt (bt (bg (bt HB hb_58) hg_63 (HB).size) hb_67) hb_85)
          refine ⟨(i + 1), by kernel_rfl, ?_, ?_⟩
          · exact ⟨by omega, hB_93⟩
          · (try dsimp only); omega
        · by_cases c_94 : (xs.getD i op0).vk = 2
          · rw [valV_2 (v := ((xs.getD i op0).vk, (xs.getD i op0).vn, (xs.getD i op0).vt)) c_56 c_94]
            refine XL_run 3 [] [(0, .slice A xs.length c), (6, .int .i64 (i : Int)), (8, .int .i64 0), (31, .slice A_3 ((List.map pOf xs).length) c_4), (32, .int .i64 ((List.map pOf xs).length : Int)), (33, .int .i64 (i : Int)), (38, .iface 56 (.agg #[.slice A_51 ((xs.getD i op0).attrs.length) c_52, .string ((xs.getD i op0).text), .iface 134 (.int .i64 ((xs.getD i op0).vn))])), (58, .bool true), (59, .agg #[.slice A_51 ((xs.getD i op0).attrs.length) c_52, .string ((xs.getD i op0).text), .iface 134 (.int .i64 ((xs.getD i op0).vn))])] wl [] (by kernel_rfl) trivial ?_
            refine XL_nil ?_
            refine X_cond true rfl ?_
            refine X_seq ?_
            refine X_region ?_
            refine XL_run 1 [] [(0, .slice A xs.length c), (6, .int .i64 (i : Int)), (10, .pointer (some ⟨wl.heap.size, 0, none⟩)), (31, .slice A_3 ((List.map pOf xs).length) c_4), (32, .int .i64 ((List.map pOf xs).length : Int)), (33, .int .i64 (i : Int)), (59, .agg #[.slice A_51 ((xs.getD i op0).attrs.length) c_52, .string ((xs.getD i op0).text), .iface 134 (.int .i64 ((xs.getD i op0).vn))])] (wl.alloc (.cells #[.slice none 0 0, .string ByteArray.empty, .nilIface] 56)) [] (by kernel_rfl) trivial ?_
            obtain ⟨w_95, hw_99, hb_96, hk_97, hz_98⟩ := new_world wl #[.slice none 0 0, .string ByteArray.empty, .nilIface] 56
            rw [hw_99]
            refine XL_store (v := .agg #[.slice A_51 ((xs.getD i op0).attrs.length) c_52, .string ((xs.getD i op0).text), .iface 134 (.int .i64 ((xs.getD i op0).vn))]) rfl rfl rfl (by kernel_rfl) hk_97 0 [.slice A_51 ((xs.getD i op0).attrs.length) c_52, .string ((xs.getD i op0).text), .iface 134 (.int .i64 ((xs.getD i op0).vn))] #[.slice A_51 ((xs.getD i op0).attrs.length) c_52, .string ((xs.getD i op0).text), .iface 134 (.int .i64 ((xs.getD i op0).vn))] ⟨by kernel_rfl, rfl, by kernel_rfl⟩ ⟨by kernel_rfl, by kernel_rfl⟩ (Nat.le_of_ble_eq_true (by kernel_rfl)) (fun w_100 hg_101 hk_102 hz_103 => ?_)
            refine XL_nil ?_
            refine X_seq ?_
            refine X_region ?_
            refine XL_run 1 [] [(0, .slice A xs.length c), (6, .int .i64 (i : Int)), (8, .int .i64 2), (10, .pointer (some ⟨wl.heap.size, 0, none⟩)), (31, .slice A_3 ((List.map pOf xs).length) c_4), (32, .int .i64 ((List.map pOf xs).length : Int)), (33, .int .i64 (i : Int))] w_100 [] (by kernel_rfl) trivial ?_
            refine XL_nil ?_
            refine X_seq ?_
            refine X_grow [] 24 #[false, false, false, false, false, false, false, false, false, false, false, false, false, false, false, false, false, false, false, false, false, false, false, false] (by kernel_rfl) (by kernel_rfl) (by kernel_rfl) (fun wd_104 hb_105 hh_106 => ?_)
            refine XB_run (fuel' := 20) (Below.refl _ _) [0, 1, 2, 3] [(61, .load (.string ((xs.getD i op0).text)))] [.pointer (some ⟨wl.heap.size, 1, none⟩), .string ((xs.getD i op0).text), .slice A xs.length c, .int .i64 (i : Int)] #[true, true, true, true, false, false, false, false, false, false, false, false, false, false, false, false, false, false, false, false, false, false, false, false] [(0, .slice A xs.length c), (6, .int .i64 (i : Int)), (8, .int .i64 2), (10, .pointer (some ⟨wl.heap.size, 0, none⟩)), (31, .slice A_3 ((List.map pOf xs).length) c_4), (32, .int .i64 ((List.map pOf xs).length : Int)), (33, .int .i64 (i : Int)), (61, .string ((xs.getD i op0).text)), (62, .slice A xs.length c), (63, .int .i64 (i : Int))] (fun w_ => [LoadsAs Tryd.prog 9 (⟨wl.heap.size, 1, none⟩) (.string ((xs.getD i op0).text)) w_]) (fun _ _ _ _ h => h) (fun w_ => by kernel_rfl) rfl (fun w_ hC_ => ⟨loads1 rfl (Blk.cell (Blk.below hk_102 (bt hb_105 hC_)) 1 _ rfl), trivial⟩) ?_
            have hB_107 : Below w.heap.size w wd_104 := (bt (bg (bt (bt (bt hb_2 hb_7) HB) hb_96) hg_101 ((bt (bt hb_2 hb_7) HB)).size) hb_105)
            obtain ⟨ad_108, B_111, c_112, ha_109, hc_110, hl_113, hC_114⟩ := Kd.atOp (Kd.C_below hx hB_107) (i := (i : Int)) (by omega) (by omega)
            replace hc_110 : CellsAt wd_104 (ad_108.add ((i : Int).toNat * 7)) [.int .i64 ((xs.getD i op0).kind), .string ((xs.getD i op0).text), .int .i64 ((xs.getD i op0).vk), .int .i64 ((xs.getD i op0).vn), .string ((xs.getD i op0).vt), .int .i64 ((xs.getD i op0).count), .slice B_111 ((xs.getD i op0).attrs.length) c_112] := hc_110
            replace hl_113 : (xs.getD i op0).attrs.length ≤ c_112 := hl_113
            replace hC_114 : kAttr.C wd_104 B_111 ((xs.getD i op0).attrs.length) (xs.getD i op0).attrs := hC_114
            refine XB_run (fuel' := 6) (Below.refl _ _) [4, 5, 6, 7, 8, 9, 10, 11, 12, 13, 14, 15, 17, 18] [(64, .idx ad_108), (66, .load (.string ((xs.getD i op0).text))), (67, .eq (.bool false)), (70, .load (.iface 134 (.int .i64 ((xs.getD i op0).vn)))), (75, .load (.iface 134 (.int .i64 ((xs.getD i op0).vn))))] [.pointer (some (ad_108.add ((i : Int).toNat * 7))), .pointer (some ((ad_108.add ((i : Int).toNat * 7)).add 1)), .string ((xs.getD i op0).text), .bool false, .bool false, .pointer (some ⟨wl.heap.size, 2, none⟩), .iface 134 (.int .i64 ((xs.getD i op0).vn)), .bool false, .bool false, .bool false, .pointer (some ⟨wl.heap.size, 2, none⟩), .iface 134 (.int .i64 ((xs.getD i op0).vn)), .slice A xs.length c, .int .i64 (i : Int)] #[true, true, true, true, true, true, true, true, true, true, true, true, true, true, true, true, false, true, true, false, false, false, false, false] [(0, .slice A xs.length c), (6, .int .i64 (i : Int)), (8, .int .i64 2), (31, .slice A_3 ((List.map pOf xs).length) c_4), (32, .int .i64 ((List.map pOf xs).length : Int)), (33, .int .i64 (i : Int)), (73, .bool false), (75, .iface 134 (.int .i64 ((xs.getD i op0).vn))), (77, .slice A xs.length c), (78, .int .i64 (i : Int))] (fun w_ => [A = some ad_108, (0 : Int) ≤ (i : Int), (i : Int) < (xs.length : Int), LoadsAs Tryd.prog 9 ((ad_108.add ((i : Int).toNat * 7)).add 1) (.string ((xs.getD i op0).text)) w_, Value.bool (!((xs.getD i op0).text).toList == ((xs.getD i op0).text).toList) = Value.bool false, LoadsAs Tryd.prog 54 (⟨wl.heap.size, 2, none⟩) (.iface 134 (.int .i64 ((xs.getD i op0).vn))) w_, LoadsAs Tryd.prog 54 (⟨wl.heap.size, 2, none⟩) (.iface 134 (.int .i64 ((xs.getD i op0).vn))) w_]) (fun _ _ _ _ h => h) (fun w_ => by kernel_rfl) rfl (fun w_ hC_ => ⟨ha_109, (by omega), (by omega), loads1 rfl (elem_cell (cells_below hc_110 hC_) 1 _ rfl), congrArg Value.bool (strNeF (rfl)), loads1 rfl (Blk.cell (Blk.below hk_102 (bt hb_105 hC_)) 2 _ rfl), loads1 rfl (Blk.cell (Blk.below hk_102 (bt hb_105 hC_)) 2 _ rfl), trivial⟩) ?_
            obtain ⟨ad_115, B_118, c_119, ha_116, hc_117, hl_120, hC_121⟩ := Kd.atOp (Kd.C_below hx hB_107) (i := (i : Int)) (by omega) (by omega)
            replace hc_117 : CellsAt wd_104 (ad_115.add ((i : Int).toNat * 7)) [.int .i64 ((xs.getD i op0).kind), .string ((xs.getD i op0).text), .int .i64 ((xs.getD i op0).vk), .int .i64 ((xs.getD i op0).vn), .string ((xs.getD i op0).vt), .int .i64 ((xs.getD i op0).count), .slice B_118 ((xs.getD i op0).attrs.length) c_119] := hc_117
            replace hl_120 : (xs.getD i op0).attrs.length ≤ c_119 := hl_120
            replace hC_121 : kAttr.C wd_104 B_118 ((xs.getD i op0).attrs.length) (xs.getD i op0).attrs := hC_121
            refine XB_run (fuel' := 3) (Below.refl _ _) [19, 20, 21] [(79, .idx ad_115), (81, .load (.agg #[.int .i64 ((xs.getD i op0).vk), .int .i64 ((xs.getD i op0).vn), .string ((xs.getD i op0).vt)]))] [.pointer (some (ad_115.add ((i : Int).toNat * 7))), .pointer (some ((ad_115.add ((i : Int).toNat * 7)).add 2)), .agg #[.int .i64 ((xs.getD i op0).vk), .int .i64 ((xs.getD i op0).vn), .string ((xs.getD i op0).vt)]] #[true, true, true, true, true, true, true, true, true, true, true, true, true, true, true, true, false, true, true, true, true, true, false, false] [(0, .slice A xs.length c), (6, .int .i64 (i : Int)), (8, .int .i64 2), (31, .slice A_3 ((List.map pOf xs).length) c_4), (32, .int .i64 ((List.map pOf xs).length : Int)), (33, .int .i64 (i : Int)), (73, .bool false), (75, .iface 134 (.int .i64 ((xs.getD i op0).vn))), (81, .agg #[.int .i64 ((xs.getD i op0).vk), .int .i64 ((xs.getD i op0).vn), .string ((xs.getD i op0).vt)])] (fun w_ => [A = some ad_115, (0 : Int) ≤ (i : Int), (i : Int) < (xs.length : Int), LoadsAs Tryd.prog 30 ((ad_115.add ((i : Int).toNat * 7)).add 2) (.agg #[.int .i64 ((xs.getD i op0).vk), .int .i64 ((xs.getD i op0).vn), .string ((xs.getD i op0).vt)]) w_]) (fun _ _ _ _ h => h) (fun w_ => by kernel_rfl) rfl (fun w_ hC_ => ⟨ha_116, (by omega), (by omega), loadsE rfl rfl (cells_below hc_117 hC_) 2 ⟨by kernel_rfl, by kernel_rfl⟩, trivial⟩) ?_
            refine XB_mid (fuel' := 2) 16 #[true, true, true, true, true, true, true, true, true, true, true, true, true, true, true, true, true, true, true, true, true, true, false, false] _ rfl (by kernel_rfl) (by kernel_rfl) rfl ?_
            refine XL_inv 176 #[.int .i64 ((xs.getD i op0).vn)] rfl rfl (by kernel_rfl) (by kernel_rfl) (numberPlain_any (xs.getD i op0).vk (xs.getD i op0).vn (xs.getD i op0).vt _ (pErr_val hpe_15 hk) c_94) ?_
            rintro e w_122 ⟨rfl, hb_123⟩; refine ⟨_, rfl, ?_⟩
            refine XL_nil ?_
            refine ⟨hb_123, ?_⟩
            refine XB_run (fuel' := 0) hb_123 [22, 23] [(82, .as (.bool false))] [.bool false, .bool false] #[true, true, true, true, true, true, true, true, true, true, true, true, true, true, true, true, true, true, true, true, true, true, true, true] [(0, .slice A xs.length c), (6, .int .i64 (i : Int)), (8, .int .i64 2), (31, .slice A_3 ((List.map pOf xs).length) c_4), (32, .int .i64 ((List.map pOf xs).length : Int)), (33, .int .i64 (i : Int)), (83, .bool false)] (fun w_ => [RunsAs Tryd.prog [(76, .agg #[.int .i64 ((xs.getD i op0).vk), .int .i64 ((xs.getD i op0).vn), .string ((xs.getD i op0).vt)]), (81, .agg #[.int .i64 ((xs.getD i op0).vk), .int .i64 ((xs.getD i op0).vn), .string ((xs.getD i op0).vt)])] (Go.Op.binOp Go.BinOp.neq 30 (Go.Operand.tmp 76) (Go.Operand.tmp 81) 30) 4 (.bool false) w_]) (fun _ _ _ _ h => h) (fun w_ => by kernel_rfl) rfl (fun w_ hC_ => ⟨runs_bin rfl rfl (run_eqGuard_agg _ _ _ _ _ _ _ (by kernel_rfl)) (by have h := plain_neq ((xs.getD i op0).vk, (xs.getD i op0).vn, (xs.getD i op0).vt) ((xs.getD i op0).vk, (xs.getD i op0).vn, (xs.getD i op0).vt) w_; rw [show ple ((xs.getD i op0).vk, (xs.getD i op0).vn, (xs.getD i op0).vt) ((xs.getD i op0).vk, (xs.getD i op0).vn, (xs.getD i op0).vt) = true from (ple_iff _ _).2 rfl] at h; exact h), trivial⟩) ?_
            refine XB_done (by kernel_rfl) ?_
            refine X_cond false rfl ?_
            refine X_skip ?_
            refine X_seq ?_
            refine X_region ?_
            refine XL_run 3 [] [(0, .slice A xs.length c), (31, .slice A_3 ((List.map pOf xs).length) c_4), (32, .int .i64 ((List.map pOf xs).length : Int)), (33, .int .i64 (i : Int)), (106, .int .i64 2), (107, .slice A xs.length c), (108, .int .i64 (i : Int))] w_122 [] (by kernel_rfl) trivial ?_
            obtain ⟨ad_124, B_127, c_128, ha_125, hc_126, hl_129, hC_130⟩ := Kd.atOp (Kd.C_below hx (bt hB_107 hb_123)) (i := (i : Int)) (by omega) (by omega)
            replace hc_126 : CellsAt w_122 (ad_124.add ((i : Int).toNat * 7)) [.int .i64 ((xs.getD i op0).kind), .string ((xs.getD i op0).text), .int .i64 ((xs.getD i op0).vk), .int .i64 ((xs.getD i op0).vn), .string ((xs.getD i op0).vt), .int .i64 ((xs.getD i op0).count), .slice B_127 ((xs.getD i op0).attrs.length) c_128] := hc_126
            replace hl_129 : (xs.getD i op0).attrs.length ≤ c_128 := hl_129
            replace hC_130 : kAttr.C w_122 B_127 ((xs.getD i op0).attrs.length) (xs.getD i op0).attrs := hC_130
            refine XL_run 4 [(109, .idx ad_124), (111, .load (.int .i64 ((xs.getD i op0).kind))), (112, .eq (.bool false))] [(0, .slice A xs.length c), (31, .slice A_3 ((List.map pOf xs).length) c_4), (32, .int .i64 ((List.map pOf xs).length : Int)), (33, .int .i64 (i : Int)), (112, .bool false)] w_122 [A = some ad_124, (0 : Int) ≤ (i : Int), (i : Int) < (xs.length : Int), LoadsAs Tryd.prog 3 (ad_124.add ((i : Int).toNat * 7)) (.int .i64 ((xs.getD i op0).kind)) w_122, Value.bool ((2 : Int) != (xs.getD i op0).kind) = Value.bool false] (by kernel_rfl) ⟨ha_125, (by omega), (by omega), loads1 rfl (elem_cell hc_126 0 _ rfl), congrArg Value.bool (bneF (hk.symm)), trivial⟩ ?_
            refine XL_nil ?_
            refine X_cond false rfl ?_
            refine X_skip ?_
            refine X_region ?_
            refine XL_run 2 [(113, .eq (.int .i64 ((i : Int) + 1)))] [(0, .slice A xs.length c), (31, .slice A_3 ((List.map pOf xs).length) c_4), (32, .int .i64 ((List.map pOf xs).length : Int)), (33, .int .i64 ((i : Int) + 1))] w_122 [Value.int .i64 (IntKind.i64.wrap ((i : Int) + 1)) = Value.int .i64 ((i : Int) + 1)] (by kernel_rfl) ⟨wr_i64 (by omega) (by omega), trivial⟩ ?_
            refine XL_nil ?_
            have hB_131 : Below w_6.heap.size w_6 w_122 := (bt (bt (bg (bt HB hb_96) hg_101 (HB).size) hb_105) hb_123)
            refine ⟨(i + 1), by kernel_rfl, ?_, ?_⟩
            · exact ⟨by omega, hB_131⟩
            · (try dsimp only); omega
          · by_cases c_132 : (xs.getD i op0).vk = 3
            · rw [valV_3 (v := ((xs.getD i op0).vk, (xs.getD i op0).vn, (xs.getD i op0).vt)) c_56 c_94 c_132]
              refine XL_run 3 [] [(0, .slice A xs.length c), (6, .int .i64 (i : Int)), (8, .int .i64 0), (31, .slice A_3 ((List.map pOf xs).length) c_4), (32, .int .i64 ((List.map pOf xs).length : Int)), (33, .int .i64 (i : Int)), (38, .iface 56 (.agg #[.slice A_51 ((xs.getD i op0).attrs.length) c_52, .string ((xs.getD i op0).text), .iface 135 (.string ((xs.getD i op0).vt))])), (58, .bool true), (59, .agg #[.slice A_51 ((xs.getD i op0).attrs.length) c_52, .string ((xs.getD i op0).text), .iface 135 (.string ((xs.getD i op0).vt))])] wl [] (by kernel_rfl) trivial ?_
              refine XL_nil ?_
              refine X_cond true rfl ?_
              refine X_seq ?_
              refine X_region ?_
              refine XL_run 1 [] [(0, .slice A xs.length c), (6, .int .i64 (i : Int)), (10, .pointer (some ⟨wl.heap.size, 0, none⟩)), (31, .slice A_3 ((List.map pOf xs).length) c_4), (32, .int .i64 ((List.map pOf xs).length : Int)), (33, .int .i64 (i : Int)), (59, .agg #[.slice A_51 ((xs.getD i op0).attrs.length) c_52, .string ((xs.getD i op0).text), .iface 135 (.string ((xs.getD i op0).vt))])] (wl.alloc (.cells #[.slice none 0 0, .string ByteArray.empty, .nilIface] 56)) [] (by kernel_rfl) trivial ?_
              obtain ⟨w_133, hw_137, hb_134, hk_135, hz_136⟩ := new_world wl #[.slice none 0 0, .string ByteArray.empty, .nilIface] 56
              rw [hw_137]
              refine XL_store (v := .agg #[.slice A_51 ((xs.getD i op0).attrs.length) c_52, .string ((xs.getD i op0).text), .iface 135 (.string ((xs.getD i op0).vt))]) rfl rfl rfl (by kernel_rfl) hk_135 0 [.slice A_51 ((xs.getD i op0).attrs.length) c_52, .string ((xs.getD i op0).text), .iface 135 (.string ((xs.getD i op0).vt))] #[.slice A_51 ((xs.getD i op0).attrs.length) c_52, .string ((xs.getD i op0).text), .iface 135 (.string ((xs.getD i op0).vt))] ⟨by kernel_rfl, rfl, by kernel_rfl⟩ ⟨by kernel_rfl, by kernel_rfl⟩ (Nat.le_of_ble_eq_true (by kernel_rfl)) (fun w_138 hg_139 hk_140 hz_141 => ?_)
              refine XL_nil ?_
              refine X_seq ?_
              refine X_region ?_
              refine XL_run 1 [] [(0, .slice A xs.length c), (6, .int .i64 (i : Int)), (8, .int .i64 2), (10, .pointer (some ⟨wl.heap.size, 0, none⟩)), (31, .slice A_3 ((List.map pOf xs).length) c_4), (32, .int .i64 ((List.map pOf xs).length : Int)), (33, .int .i64 (i : Int))] w_138 [] (by kernel_rfl) trivial ?_
              refine XL_nil ?_
              refine X_seq ?_
              refine X_grow [] 24 #[false, false, false, false, false, false, false, false, false, false, false, false, false, false, false, false, false, false, false, false, false, false, false, false] (by kernel_rfl) (by kernel_rfl) (by kernel_rfl) (fun wd_142 hb_143 hh_144 => ?_)
              refine XB_run (fuel' := 20) (Below.refl _ _) [0, 1, 2, 3] [(61, .load (.string ((xs.getD i op0).text)))] [.pointer (some ⟨wl.heap.size, 1, none⟩), .string ((xs.getD i op0).text), .slice A xs.length c, .int .i64 (i : Int)] #[true, true, true, true, false, false, false, false, false, false, false, false, false, false, false, false, false, false, false, false, false, false, false, false] [(0, .slice A xs.length c), (6, .int .i64 (i : Int)), (8, .int .i64 2), (10, .pointer (some ⟨wl.heap.size, 0, none⟩)), (31, .slice A_3 ((List.map pOf xs).length) c_4), (32, .int .i64 ((List.map pOf xs).length : Int)), (33, .int .i64 (i : Int)), (61, .string ((xs.getD i op0).text)), (62, .slice A xs.length c), (63, .int .i64 (i : Int))] (fun w_ => [LoadsAs Tryd.prog 9 (⟨wl.heap.size, 1, none⟩) (.string ((xs.getD i op0).text)) w_]) (fun _ _ _ _ h => h) (fun w_ => by kernel_rfl) rfl (fun w_ hC_ => ⟨loads1 rfl (Blk.cell (Blk.below hk_140 (bt hb_143 hC_)) 1 _ rfl), trivial⟩) ?_
              have hB_145 : Below w.heap.size w wd_142 := (bt (bg (bt (bt (bt hb_2 hb_7) HB) hb_134) hg_139 ((bt (bt hb_2 hb_7) HB)).size) hb_143)
              obtain ⟨ad_146, B_149, c_150, ha_147, hc_148, hl_151, hC_152⟩ := Kd.atOp (Kd.C_below hx hB_145) (i := (i : Int)) (by omega) (by omega)
              replace hc_148 : CellsAt wd_142 (ad_146.add ((i : Int).toNat * 7)) [.int .i64 ((xs.getD i op0).kind), .string ((xs.getD i op0).text), .int .i64 ((xs.getD i op0).vk), .int .i64 ((xs.getD i op0).vn), .string ((xs.getD i op0).vt), .int .i64 ((xs.getD i op0).count), .slice B_149 ((xs.getD i op0).attrs.length) c_150] := hc_148
              replace hl_151 : (xs.getD i op0).attrs.length ≤ c_150 := hl_151
              replace hC_152 : kAttr.C wd_142 B_149 ((xs.getD i op0).attrs.length) (xs.getD i op0).attrs := hC_152
              refine XB_run (fuel' := 6) (Below.refl _ _) [4, 5, 6, 7, 8, 9, 10, 11, 12, 13, 14, 15, 17, 18] [(64, .idx ad_146), (66, .load (.string ((xs.getD i op0).text))), (67, .eq (.bool false)), (70, .load (.iface 135 (.string ((xs.getD i op0).vt)))), (75, .load (.iface 135 (.string ((xs.getD i op0).vt))))] [.pointer (some (ad_146.add ((i : Int).toNat * 7))), .pointer (some ((ad_146.add ((i : Int).toNat * 7)).add 1)), .string ((xs.getD i op0).text), .bool false, .bool false, .pointer (some ⟨wl.heap.size, 2, none⟩), .iface 135 (.string ((xs.getD i op0).vt)), .bool false, .bool false, .bool false, .pointer (some ⟨wl.heap.size, 2, none⟩), .iface 135 (.string ((xs.getD i op0).vt)), .slice A xs.length c, .int .i64 (i : Int)] #[true, true, true, true, true, true, true, true, true, true, true, true, true, true, true, true, false, true, true, false, false, false, false, false] [(0, .slice A xs.length c), (6, .int .i64 (i : Int)), (8, .int .i64 2), (31, .slice A_3 ((List.map pOf xs).length) c_4), (32, .int .i64 ((List.map pOf xs).length : Int)), (33, .int .i64 (i : Int)), (73, .bool false), (75, .iface 135 (.string ((xs.getD i op0).vt))), (77, .slice A xs.length c), (78, .int .i64 (i : Int))] (fun w_ => [A = some ad_146, (0 : Int) ≤ (i : Int), (i : Int) < (xs.length : Int), LoadsAs Tryd.prog 9 ((ad_146.add ((i : Int).toNat * 7)).add 1) (.string ((xs.getD i op0).text)) w_, Value.bool (!((xs.getD i op0).text).toList == ((xs.getD i op0).text).toList) = Value.bool false, LoadsAs Tryd.prog 54 (⟨wl.heap.size, 2, none⟩) (.iface 135 (.string ((xs.getD i op0).vt))) w_, LoadsAs Tryd.prog 54 (⟨wl.heap.size, 2, none⟩) (.iface 135 (.string ((xs.getD i op0).vt))) w_]) (fun _ _ _ _ h => h) (fun w_ => by kernel_rfl) rfl (fun w_ hC_ => ⟨ha_147, (by omega), (by omega), loads1 rfl (elem_cell (cells_below hc_148 hC_) 1 _ rfl), congrArg Value.bool (strNeF (rfl)), loads1 rfl (Blk.cell (Blk.below hk_140 (bt hb_143 hC_)) 2 _ rfl), loads1 rfl (Blk.cell (Blk.below hk_140 (bt hb_143 hC_)) 2 _ rfl), trivial⟩) ?_
              obtain ⟨ad_153, B_156, c_157, ha_154, hc_155, hl_158, hC_159⟩ := Kd.atOp (Kd.C_below hx hB_145) (i := (i : Int)) (by omega) (by omega)
              replace hc_155 : CellsAt wd_142 (ad_153.add ((i : Int).toNat * 7)) [.int .i64 ((xs.getD i op0).kind), .string ((xs.getD i op0).text), .int .i64 ((xs.getD i op0).vk), .int .i64 ((xs.getD i op0).vn), .string ((xs.getD i op0).vt), .int .i64 ((xs.getD i op0).count), .slice B_156 ((xs.getD i op0).attrs.length) c_157] := hc_155
              replace hl_158 : (xs.getD i op0).attrs.length ≤ c_157 := hl_158
              replace hC_159 : kAttr.C wd_142 B_156 ((xs.getD i op0).attrs.length) (xs.getD i op0).attrs := hC_159
              refine XB_run (fuel' := 3) (Below.refl _ _) [19, 20, 21] [(79, .idx ad_153), (81, .load (.agg #[.int .i64 ((xs.getD i op0).vk), .int .i64 ((xs.getD i op0).vn), .string ((xs.getD i op0).vt)]))] [.pointer (some (ad_153.add ((i : Int).toNat * 7))), .pointer (some ((ad_153.add ((i : Int).toNat * 7)).add 2)), .agg #[.int .i64 ((xs.getD i op0).vk), .int .i64 ((xs.getD i op0).vn), .string ((xs.getD i op0).vt)]] #[true, true, true, true, true, true, true, true, true, true, true, true, true, true, true, true, false, true, true, true, true, true, false, false] [(0, .slice A xs.length c), (6, .int .i64 (i : Int)), (8, .int .i64 2), (31, .slice A_3 ((List.map pOf xs).length) c_4), (32, .int .i64 ((List.map pOf xs).length : Int)), (33, .int .i64 (i : Int)), (73, .bool false), (75, .iface 135 (.string ((xs.getD i op0).vt))), (81, .agg #[.int .i64 ((xs.getD i op0).vk), .int .i64 ((xs.getD i op0).vn), .string ((xs.getD i op0).vt)])] (fun w_ => [A = some ad_153, (0 : Int) ≤ (i : Int), (i : Int) < (xs.length : Int), LoadsAs Tryd.prog 30 ((ad_153.add ((i : Int).toNat * 7)).add 2) (.agg #[.int .i64 ((xs.getD i op0).vk), .int .i64 ((xs.getD i op0).vn), .string ((xs.getD i op0).vt)]) w_]) (fun _ _ _ _ h => h) (fun w_ => by kernel_rfl) rfl (fun w_ hC_ => ⟨ha_154, (by omega), (by omega), loadsE rfl rfl (cells_below hc_155 hC_) 2 ⟨by kernel_rfl, by kernel_rfl⟩, trivial⟩) ?_
              refine XB_mid (fuel' := 2) 16 #[true, true, true, true, true, true, true, true, true, true, true, true, true, true, true, true, true, true, true, true, true, true, false, false] _ rfl (by kernel_rfl) (by kernel_rfl) rfl ?_
              refine XL_inv 178 #[.string ((xs.getD i op0).vt)] rfl rfl (by kernel_rfl) (by kernel_rfl) (textPlain_any (xs.getD i op0).vk (xs.getD i op0).vn (xs.getD i op0).vt _ (pErr_val hpe_15 hk) c_132) ?_
              rintro e w_160 ⟨rfl, hb_161⟩; refine ⟨_, rfl, ?_⟩
              refine XL_nil ?_
              refine ⟨hb_161, ?_⟩
              refine XB_run (fuel' := 0) hb_161 [22, 23] [(82, .as (.bool false))] [.bool false, .bool false] #[true, true, true, true, true, true, true, true, true, true, true, true, true, true, true, true, true, true, true, true, true, true, true, true] [(0, .slice A xs.length c), (6, .int .i64 (i : Int)), (8, .int .i64 2), (31, .slice A_3 ((List.map pOf xs).length) c_4), (32, .int .i64 ((List.map pOf xs).length : Int)), (33, .int .i64 (i : Int)), (83, .bool false)] (fun w_ => [RunsAs Tryd.prog [(76, .agg #[.int .i64 ((xs.getD i op0).vk), .int .i64 ((xs.getD i op0).vn), .string ((xs.getD i op0).vt)]), (81, .agg #[.int .i64 ((xs.getD i op0).vk), .int .i64 ((xs.getD i op0).vn), .string ((xs.getD i op0).vt)])] (Go.Op.binOp Go.BinOp.neq 30 (Go.Operand.tmp 76) (Go.Operand.tmp 81) 30) 4 (.bool false) w_]) (fun _ _ _ _ h => h) (fun w_ => by kernel_rfl) rfl (fun w_ hC_ => ⟨runs_bin rfl rfl (run_eqGuard_agg _ _ _ _ _ _ _ (by kernel_rfl)) (by have h := plain_neq ((xs.getD i op0).vk, (xs.getD i op0).vn, (xs.getD i op0).vt) ((xs.getD i op0).vk, (xs.getD i op0).vn, (xs.getD i op0).vt) w_; rw [show ple ((xs.getD i op0).vk, (xs.getD i op0).vn, (xs.getD i op0).vt) ((xs.getD i op0).vk, (xs.getD i op0).vn, (xs.getD i op0).vt) = true from (ple_iff _ _).2 rfl] at h; exact h), trivial⟩) ?_
              refine XB_done (by kernel_rfl) ?_
              refine X_cond false rfl ?_
              refine X_skip ?_
              refine X_seq ?_
              refine X_region ?_
              refine XL_run 3 [] [(0, .slice A xs.length c), (31, .slice A_3 ((List.map pOf xs).length) c_4), (32, .int .i64 ((List.map pOf xs).length : Int)), (33, .int .i64 (i : Int)), (106, .int .i64 2), (107, .slice A xs.length c), (108, .int .i64 (i : Int))] w_160 [] (by kernel_rfl) trivial ?_
              obtain ⟨ad_162, B_165, c_166, ha_163, hc_164, hl_167, hC_168⟩ := Kd.atOp (Kd.C_below hx (bt hB_145 hb_161)) (i := (i : Int)) (by omega) (by omega)
              replace hc_164 : CellsAt w_160 (ad_162.add ((i : Int).toNat * 7)) [.int .i64 ((xs.getD i op0).kind), .string ((xs.getD i op0).text), .int .i64 ((xs.getD i op0).vk), .int .i64 ((xs.getD i op0).vn), .string ((xs.getD i op0).vt), .int .i64 ((xs.getD i op0).count), .slice B_165 ((xs.getD i op0).attrs.length) c_166] := hc_164
              replace hl_167 : (xs.getD i op0).attrs.length ≤ c_166 := hl_167
              replace hC_168 : kAttr.C w_160 B_165 ((xs.getD i op0).attrs.length) (xs.getD i op0).attrs := hC_168
              refine XL_run 4 [(109, .idx ad_162), (111, .load (.int .i64 ((xs.getD i op0).kind))), (112, .eq (.bool false))] [(0, .slice A xs.length c), (31, .slice A_3 ((List.map pOf xs).length) c_4), (32, .int .i64 ((List.map pOf xs).length : Int)), (33, .int .i64 (i : Int)), (112, .bool false)] w_160 [A = some ad_162, (0 : Int) ≤ (i : Int), (i : Int) < (xs.length : Int), LoadsAs Tryd.prog 3 (ad_162.add ((i : Int).toNat * 7)) (.int .i64 ((xs.getD i op0).kind)) w_160, Value.bool ((2 : Int) != (xs.getD i op0).kind) = Value.bool false] (by kernel_rfl) ⟨ha_163, (by omega), (by omega), loads1 rfl (elem_cell hc_164 0 _ rfl), congrArg Value.bool (bneF (hk.symm)), trivial⟩ ?_
              refine XL_nil ?_
              refine X_cond false rfl ?_
              refine X_skip ?_
              refine X_region ?_
              refine XL_run 2 [(113, .eq (.int .i64 ((i : Int) + 1)))] [(0, .slice A xs.length c), (31, .slice A_3 ((List.map pOf xs).length) c_4), (32, .int .i64 ((List.map pOf xs).length : Int)), (33, .int .i64 ((i : Int) + 1))] w_160 [Value.int .i64 (IntKind.i64.wrap ((i : Int) + 1)) = Value.int .i64 ((i : Int) + 1)] (by kernel_rfl) ⟨wr_i64 (by omega) (by omega), trivial⟩ ?_
              refine XL_nil ?_
              have hB_169 : Below w_6.heap.size w_6 w_160 := (bt (bt (bg (bt HB hb_134) hg_139 (HB).size) hb_143) hb_161)
              refine ⟨(i + 1), by kernel_rfl, ?_, ?_⟩
              · exact ⟨by omega, hB_169⟩
              · (try dsimp only); omega
            · rw [valV_0 (v := ((xs.getD i op0).vk, (xs.getD i op0).vn, (xs.getD i op0).vt)) c_56 c_94 c_132]
              refine XL_run 3 [] [(0, .slice A xs.length c), (6, .int .i64 (i : Int)), (8, .int .i64 0), (31, .slice A_3 ((List.map pOf xs).length) c_4), (32, .int .i64 ((List.map pOf xs).length : Int)), (33, .int .i64 (i : Int)), (38, .iface 56 (.agg #[.slice A_51 ((xs.getD i op0).attrs.length) c_52, .string ((xs.getD i op0).text), .iface 137 (.agg #[])])), (58, .bool true), (59, .agg #[.slice A_51 ((xs.getD i op0).attrs.length) c_52, .string ((xs.getD i op0).text), .iface 137 (.agg #[])])] wl [] (by kernel_rfl) trivial ?_
              refine XL_nil ?_
              refine X_cond true rfl ?_
              refine X_seq ?_
              refine X_region ?_
              refine XL_run 1 [] [(0, .slice A xs.length c), (6, .int .i64 (i : Int)), (10, .pointer (some ⟨wl.heap.size, 0, none⟩)), (31, .slice A_3 ((List.map pOf xs).length) c_4), (32, .int .i64 ((List.map pOf xs).length : Int)), (33, .int .i64 (i : Int)), (59, .agg #[.slice A_51 ((xs.getD i op0).attrs.length) c_52, .string ((xs.getD i op0).text), .iface 137 (.agg #[])])] (wl.alloc (.cells #[.slice none 0 0, .string ByteArray.empty, .nilIface] 56)) [] (by kernel_rfl) trivial ?_
              obtain ⟨w_170, hw_174, hb_171, hk_172, hz_173⟩ := new_world wl #[.slice none 0 0, .string ByteArray.empty, .nilIface] 56
              rw [hw_174]
              refine XL_store (v := .agg #[.slice A_51 ((xs.getD i op0).attrs.length) c_52, .string ((xs.getD i op0).text), .iface 137 (.agg #[])]) rfl rfl rfl (by kernel_rfl) hk_172 0 [.slice A_51 ((xs.getD i op0).attrs.length) c_52, .string ((xs.getD i op0).text), .iface 137 (.agg #[])] #[.slice A_51 ((xs.getD i op0).attrs.length) c_52, .string ((xs.getD i op0).text), .iface 137 (.agg #[])] ⟨by kernel_rfl, rfl, by kernel_rfl⟩ ⟨by kernel_rfl, by kernel_rfl⟩ (Nat.le_of_ble_eq_true (by kernel_rfl)) (fun w_175 hg_176 hk_177 hz_178 => ?_)
              refine XL_nil ?_
              refine X_seq ?_
              refine X_region ?_
              refine XL_run 1 [] [(0, .slice A xs.length c), (6, .int .i64 (i : Int)), (8, .int .i64 2), (10, .pointer (some ⟨wl.heap.size, 0, none⟩)), (31, .slice A_3 ((List.map pOf xs).length) c_4), (32, .int .i64 ((List.map pOf xs).length : Int)), (33, .int .i64 (i : Int))] w_175 [] (by kernel_rfl) trivial ?_
              refine XL_nil ?_
              refine X_seq ?_
              refine X_grow [] 24 #[false, false, false, false, false, false, false, false, false, false, false, false, false, false, false, false, false, false, false, false, false, false, false, false] (by kernel_rfl) (by kernel_rfl) (by kernel_rfl) (fun wd_179 hb_180 hh_181 => ?_)
              refine XB_run (fuel' := 20) (Below.refl _ _) [0, 1, 2, 3] [(61, .load (.string ((xs.getD i op0).text)))] [.pointer (some ⟨wl.heap.size, 1, none⟩), .string ((xs.getD i op0).text), .slice A xs.length c, .int .i64 (i : Int)] #[true, true, true, true, false, false, false, false, false, false, false, false, false, false, false, false, false, false, false, false, false, false, false, false] [(0, .slice A xs.length c), (6, .int .i64 (i : Int)), (8, .int .i64 2), (10, .pointer (some ⟨wl.heap.size, 0, none⟩)), (31, .slice A_3 ((List.map pOf xs).length) c_4), (32, .int .i64 ((List.map pOf xs).length : Int)), (33, .int .i64 (i : Int)), (61, .string ((xs.getD i op0).text)), (62, .slice A xs.length c), (63, .int .i64 (i : Int))] (fun w_ => [LoadsAs Tryd.prog 9 (⟨wl.heap.size, 1, none⟩) (.string ((xs.getD i op0).text)) w_]) (fun _ _ _ _ h => h) (fun w_ => by kernel_rfl) rfl (fun w_ hC_ => ⟨loads1 rfl (Blk.cell (Blk.below hk_177 (bt hb_180 hC_)) 1 _ rfl), trivial⟩) ?_
              have hB_182 : Below w.heap.size w wd_179 := (bt (bg (bt (bt (bt hb_2 hb_7) HB) hb_171) hg_176 ((bt (bt hb_2 hb_7) HB)).size) hb_180)
              obtain ⟨ad_183, B_186, c_187, ha_184, hc_185, hl_188, hC_189⟩ := Kd.atOp (Kd.C_below hx hB_182) (i := (i : Int)) (by omega) (by omega)
              replace hc_185 : CellsAt wd_179 (ad_183.add ((i : Int).toNat * 7)) [.int .i64 ((xs.getD i op0).kind), .string ((xs.getD i op0).text), .int .i64 ((xs.getD i op0).vk), .int .i64 ((xs.getD i op0).vn), .string ((xs.getD i op0).vt), .int .i64 ((xs.getD i op0).count), .slice B_186 ((xs.getD i op0).attrs.length) c_187] := hc_185
              replace hl_188 : (xs.getD i op0).attrs.length ≤ c_187 := hl_188
              replace hC_189 : kAttr.C wd_179 B_186 ((xs.getD i op0).attrs.length) (xs.getD i op0).attrs := hC_189
              refine XB_run (fuel' := 6) (Below.refl _ _) [4, 5, 6, 7, 8, 9, 10, 11, 12, 13, 14, 15, 17, 18] [(64, .idx ad_183), (66, .load (.string ((xs.getD i op0).text))), (67, .eq (.bool false)), (70, .load (.iface 137 (.agg #[]))), (75, .load (.iface 137 (.agg #[])))] [.pointer (some (ad_183.add ((i : Int).toNat * 7))), .pointer (some ((ad_183.add ((i : Int).toNat * 7)).add 1)), .string ((xs.getD i op0).text), .bool false, .bool false, .pointer (some ⟨wl.heap.size, 2, none⟩), .iface 137 (.agg #[]), .bool false, .bool false, .bool false, .pointer (some ⟨wl.heap.size, 2, none⟩), .iface 137 (.agg #[]), .slice A xs.length c, .int .i64 (i : Int)] #[true, true, true, true, true, true, true, true, true, true, true, true, true, true, true, true, false, true, true, false, false, false, false, false] [(0, .slice A xs.length c), (6, .int .i64 (i : Int)), (8, .int .i64 2), (31, .slice A_3 ((List.map pOf xs).length) c_4), (32, .int .i64 ((List.map pOf xs).length : Int)), (33, .int .i64 (i : Int)), (73, .bool false), (75, .iface 137 (.agg #[])), (77, .slice A xs.length c), (78, .int .i64 (i : Int))] (fun w_ => [A = some ad_183, (0 : Int) ≤ (i : Int), (i : Int) < (xs.length : Int), LoadsAs Tryd.prog 9 ((ad_183.add ((i : Int).toNat * 7)).add 1) (.string ((xs.getD i op0).text)) w_, Value.bool (!((xs.getD i op0).text).toList == ((xs.getD i op0).text).toList) = Value.bool false, LoadsAs Tryd.prog 54 (⟨wl.heap.size, 2, none⟩) (.iface 137 (.agg #[])) w_, LoadsAs Tryd.prog 54 (⟨wl.heap.size, 2, none⟩) (.iface 137 (.agg #[])) w_]) (fun _ _ _ _ h => h) (fun w_ => by kernel_rfl) rfl (fun w_ hC_ => ⟨ha_184, (by omega), (by omega), loads1 rfl (elem_cell (cells_below hc_185 hC_) 1 _ rfl), congrArg Value.bool (strNeF (rfl)), loads1 rfl (Blk.cell (Blk.below hk_177 (bt hb_180 hC_)) 2 _ rfl), loads1 rfl (Blk.cell (Blk.below hk_177 (bt hb_180 hC_)) 2 _ rfl), trivial⟩) ?_
              obtain ⟨ad_190, B_193, c_194, ha_191, hc_192, hl_195, hC_196⟩ := Kd.atOp (Kd.C_below hx hB_182) (i := (i : Int)) (by omega) (by omega)
              replace hc_192 : CellsAt wd_179 (ad_190.add ((i : Int).toNat * 7)) [.int .i64 ((xs.getD i op0).kind), .string ((xs.getD i op0).text), .int .i64 ((xs.getD i op0).vk), .int .i64 ((xs.getD i op0).vn), .string ((xs.getD i op0).vt), .int .i64 ((xs.getD i op0).count), .slice B_193 ((xs.getD i op0).attrs.length) c_194] := hc_192
              replace hl_195 : (xs.getD i op0).attrs.length ≤ c_194 := hl_195
              replace hC_196 : kAttr.C wd_179 B_193 ((xs.getD i op0).attrs.length) (xs.getD i op0).attrs := hC_196
              refine XB_run (fuel' := 3) (Below.refl _ _) [19, 20, 21] [(79, .idx ad_190), (81, .load (.agg #[.int .i64 ((xs.getD i op0).vk), .int .i64 ((xs.getD i op0).vn), .string ((xs.getD i op0).vt)]))] [.pointer (some (ad_190.add ((i : Int).toNat * 7))), .pointer (some ((ad_190.add ((i : Int).toNat * 7)).add 2)), .agg #[.int .i64 ((xs.getD i op0).vk), .int .i64 ((xs.getD i op0).vn), .string ((xs.getD i op0).vt)]] #[true, true, true, true, true, true, true, true, true, true, true, true, true, true, true, true, false, true, true, true, true, true, false, false] [(0, .slice A xs.length c), (6, .int .i64 (i : Int)), (8, .int .i64 2), (31, .slice A_3 ((List.map pOf xs).length) c_4), (32, .int .i64 ((List.map pOf xs).length : Int)), (33, .int .i64 (i : Int)), (73, .bool false), (75, .iface 137 (.agg #[])), (81, .agg #[.int .i64 ((xs.getD i op0).vk), .int .i64 ((xs.getD i op0).vn), .string ((xs.getD i op0).vt)])] (fun w_ => [A = some ad_190, (0 : Int) ≤ (i : Int), (i : Int) < (xs.length : Int), LoadsAs Tryd.prog 30 ((ad_190.add ((i : Int).toNat * 7)).add 2) (.agg #[.int .i64 ((xs.getD i op0).vk), .int .i64 ((xs.getD i op0).vn), .string ((xs.getD i op0).vt)]) w_]) (fun _ _ _ _ h => h) (fun w_ => by kernel_rfl) rfl (fun w_ hC_ => ⟨ha_191, (by omega), (by omega), loadsE rfl rfl (cells_below hc_192 hC_) 2 ⟨by kernel_rfl, by kernel_rfl⟩, trivial⟩) ?_
              refine XB_mid (fuel' := 2) 16 #[true, true, true, true, true, true, true, true, true, true, true, true, true, true, true, true, true, true, true, true, true, true, false, false] _ rfl (by kernel_rfl) (by kernel_rfl) rfl ?_
              refine XL_inv 180 #[.agg #[]] rfl rfl (by kernel_rfl) (by kernel_rfl) (nullPlain_any (xs.getD i op0).vk (xs.getD i op0).vn (xs.getD i op0).vt _ (pErr_val hpe_15 hk) (by have h_ := plainOk_kind (pErr_val hpe_15 hk); omega)) ?_
              rintro e w_197 ⟨rfl, hb_198⟩; refine ⟨_, rfl, ?_⟩
              refine XL_nil ?_
              refine ⟨hb_198, ?_⟩
              refine XB_run (fuel' := 0) hb_198 [22, 23] [(82, .as (.bool false))] [.bool false, .bool false] #[true, true, true, true, true, true, true, true, true, true, true, true, true, true, true, true, true, true, true, true, true, true, true, true] [(0, .slice A xs.length c), (6, .int .i64 (i : Int)), (8, .int .i64 2), (31, .slice A_3 ((List.map pOf xs).length) c_4), (32, .int .i64 ((List.map pOf xs).length : Int)), (33, .int .i64 (i : Int)), (83, .bool false)] (fun w_ => [RunsAs Tryd.prog [(76, .agg #[.int .i64 ((xs.getD i op0).vk), .int .i64 ((xs.getD i op0).vn), .string ((xs.getD i op0).vt)]), (81, .agg #[.int .i64 ((xs.getD i op0).vk), .int .i64 ((xs.getD i op0).vn), .string ((xs.getD i op0).vt)])] (Go.Op.binOp Go.BinOp.neq 30 (Go.Operand.tmp 76) (Go.Operand.tmp 81) 30) 4 (.bool false) w_]) (fun _ _ _ _ h => h) (fun w_ => by kernel_rfl) rfl (fun w_ hC_ => ⟨runs_bin rfl rfl (run_eqGuard_agg _ _ _ _ _ _ _ (by kernel_rfl)) (by have h := plain_neq ((xs.getD i op0).vk, (xs.getD i op0).vn, (xs.getD i op0).vt) ((xs.getD i op0).vk, (xs.getD i op0).vn, (xs.getD i op0).vt) w_; rw [show ple ((xs.getD i op0).vk, (xs.getD i op0).vn, (xs.getD i op0).vt) ((xs.getD i op0).vk, (xs.getD i op0).vn, (xs.getD i op0).vt) = true from (ple_iff _ _).2 rfl] at h; exact h), trivial⟩) ?_
              refine XB_done (by kernel_rfl) ?_
              refine X_cond false rfl ?_
              refine X_skip ?_
              refine X_seq ?_
              refine X_region ?_
              refine XL_run 3 [] [(0, .slice A xs.length c), (31, .slice A_3 ((List.map pOf xs).length) c_4), (32, .int .i64 ((List.map pOf xs).length : Int)), (33, .int .i64 (i : Int)), (106, .int .i64 2), (107, .slice A xs.length c), (108, .int .i64 (i : Int))] w_197 [] (by kernel_rfl) trivial ?_
              obtain ⟨ad_199, B_202, c_203, ha_200, hc_201, hl_204, hC_205⟩ := Kd.atOp (Kd.C_below hx (bt hB_182 hb_198)) (i := (i : Int)) (by omega) (by omega)
              replace hc_201 : CellsAt w_197 (ad_199.add ((i : Int).toNat * 7)) [.int .i64 ((xs.getD i op0).kind), .string ((xs.getD i op0).text), .int .i64 ((xs.getD i op0).vk), .int .i64 ((xs.getD i op0).vn), .string ((xs.getD i op0).vt), .int .i64 ((xs.getD i op0).count), .slice B_202 ((xs.getD i op0).attrs.length) c_203] := hc_201
              replace hl_204 : (xs.getD i op0).attrs.length ≤ c_203 := hl_204
              replace hC_205 : kAttr.C w_197 B_202 ((xs.getD i op0).attrs.length) (xs.getD i op0).attrs := hC_205
              refine XL_run 4 [(109, .idx ad_199), (111, .load (.int .i64 ((xs.getD i op0).kind))), (112, .eq (.bool false))] [(0, .slice A xs.length c), (31, .slice A_3 ((List.map pOf xs).length) c_4), (32, .int .i64 ((List.map pOf xs).length : Int)), (33, .int .i64 (i : Int)), (112, .bool false)] w_197 [A = some ad_199, (0 : Int) ≤ (i : Int), (i : Int) < (xs.length : Int), LoadsAs Tryd.prog 3 (ad_199.add ((i : Int).toNat * 7)) (.int .i64 ((xs.getD i op0).kind)) w_197, Value.bool ((2 : Int) != (xs.getD i op0).kind) = Value.bool false] (by kernel_rfl) ⟨ha_200, (by omega), (by omega), loads1 rfl (elem_cell hc_201 0 _ rfl), congrArg Value.bool (bneF (hk.symm)), trivial⟩ ?_
              refine XL_nil ?_
              refine X_cond false rfl ?_
              refine X_skip ?_
              refine X_region ?_
              refine XL_run 2 [(113, .eq (.int .i64 ((i : Int) + 1)))] [(0, .slice A xs.length c), (31, .slice A_3 ((List.map pOf xs).length) c_4), (32, .int .i64 ((List.map pOf xs).length : Int)), (33, .int .i64 ((i : Int) + 1))] w_197 [Value.int .i64 (IntKind.i64.wrap ((i : Int) + 1)) = Value.int .i64 ((i : Int) + 1)] (by kernel_rfl) ⟨wr_i64 (by omega) (by omega), trivial⟩ ?_
              refine XL_nil ?_
              have hB_206 : Below w_6.heap.size w_6 w_197 := (bt (bt (bg (bt HB hb_171) hg_176 (HB).size) hb_180) hb_198)
              refine ⟨(i + 1), by kernel_rfl, ?_, ?_⟩
              · exact ⟨by omega, hB_206⟩
              · (try dsimp only); omega
      · rw [pOf_ret hk] at hK_14
        obtain ⟨A_207, c_208, e_209, hl_210, hC_211⟩ := kPiece_ret hK_14
        obtain rfl := (List.cons.inj e_209).1
        refine XL_run 3 [(37, .load (.iface 59 (.agg #[.slice A_207 ((xs.getD i op0).attrs.length) c_208, .int .i64 ((xs.getD i op0).count)])))] [(0, .slice A xs.length c), (6, .int .i64 (i : Int)), (7, .iface 59 (.agg #[.slice A_207 ((xs.getD i op0).attrs.length) c_208, .int .i64 ((xs.getD i op0).count)])), (31, .slice A_3 ((List.map pOf xs).length) c_4), (32, .int .i64 ((List.map pOf xs).length : Int)), (33, .int .i64 (i : Int))] wl [LoadsAs Tryd.prog 47 (ad_10.add ((i : Int).toNat * 1)) (.iface 59 (.agg #[.slice A_207 ((xs.getD i op0).attrs.length) c_208, .int .i64 ((xs.getD i op0).count)])) wl] (by kernel_rfl) ⟨loads1 rfl (elem_cell hc_12 0 _ rfl), trivial⟩ ?_
        refine XL_nil ?_
        refine X_seq ?_
        refine X_region ?_
        refine XL_run 1 [] [(0, .slice A xs.length c), (6, .int .i64 (i : Int)), (7, .iface 59 (.agg #[.slice A_207 ((xs.getD i op0).attrs.length) c_208, .int .i64 ((xs.getD i op0).count)])), (8, .int .i64 0), (31, .slice A_3 ((List.map pOf xs).length) c_4), (32, .int .i64 ((List.map pOf xs).length : Int)), (33, .int .i64 (i : Int))] wl [] (by kernel_rfl) trivial ?_
        refine XL_nil ?_
        refine X_seq ?_
        refine X_seq ?_
        refine X_region ?_
        refine XL_run 1 [] [(0, .slice A xs.length c), (6, .int .i64 (i : Int)), (7, .iface 59 (.agg #[.slice A_207 ((xs.getD i op0).attrs.length) c_208, .int .i64 ((xs.getD i op0).count)])), (8, .int .i64 0), (31, .slice A_3 ((List.map pOf xs).length) c_4), (32, .int .i64 ((List.map pOf xs).length : Int)), (33, .int .i64 (i : Int)), (38, .iface 59 (.agg #[.slice A_207 ((xs.getD i op0).attrs.length) c_208, .int .i64 ((xs.getD i op0).count)]))] wl [] (by kernel_rfl) trivial ?_
        refine XL_nil ?_
        refine X_block ?_
        refine X_seq ?_
        refine X_region ?_
        refine XL_run 3 [] [(0, .slice A xs.length c), (6, .int .i64 (i : Int)), (7, .iface 59 (.agg #[.slice A_207 ((xs.getD i op0).attrs.length) c_208, .int .i64 ((xs.getD i op0).count)])), (8, .int .i64 0), (31, .slice A_3 ((List.map pOf xs).length) c_4), (32, .int .i64 ((List.map pOf xs).length : Int)), (33, .int .i64 (i : Int)), (38, .iface 59 (.agg #[.slice A_207 ((xs.getD i op0).attrs.length) c_208, .int .i64 ((xs.getD i op0).count)])), (40, .bool false), (41, .agg #[.slice none 0 0, .string ByteArray.empty, .int .i64 0])] wl [] (by kernel_rfl) trivial ?_
        refine XL_nil ?_
        refine X_cond false rfl ?_
        refine X_seq ?_
        refine X_region ?_
        refine XL_run 3 [] [(0, .slice A xs.length c), (6, .int .i64 (i : Int)), (8, .int .i64 0), (31, .slice A_3 ((List.map pOf xs).length) c_4), (32, .int .i64 ((List.map pOf xs).length : Int)), (33, .int .i64 (i : Int)), (38, .iface 59 (.agg #[.slice A_207 ((xs.getD i op0).attrs.length) c_208, .int .i64 ((xs.getD i op0).count)])), (58, .bool false), (59, .agg #[.slice none 0 0, .string ByteArray.empty, .nilIface])] wl [] (by kernel_rfl) trivial ?_
        refine XL_nil ?_
        refine X_cond false rfl ?_
        refine X_seq ?_
        refine X_region ?_
        refine XL_run 3 [] [(0, .slice A xs.length c), (6, .int .i64 (i : Int)), (8, .int .i64 0), (31, .slice A_3 ((List.map pOf xs).length) c_4), (32, .int .i64 ((List.map pOf xs).length : Int)), (33, .int .i64 (i : Int)), (38, .iface 59 (.agg #[.slice A_207 ((xs.getD i op0).attrs.length) c_208, .int .i64 ((xs.getD i op0).count)])), (85, .bool true), (86, .agg #[.slice A_207 ((xs.getD i op0).attrs.length) c_208, .int .i64 ((xs.getD i op0).count)])] wl [] (by kernel_rfl) trivial ?_
        refine XL_nil ?_
        refine X_cond true rfl ?_
        refine X_seq ?_
        refine X_region ?_
        refine XL_run 1 [] [(0, .slice A xs.length c), (6, .int .i64 (i : Int)), (11, .pointer (some ⟨wl.heap.size, 0, none⟩)), (31, .slice A_3 ((List.map pOf xs).length) c_4), (32, .int .i64 ((List.map pOf xs).length : Int)), (33, .int .i64 (i : Int)), (86, .agg #[.slice A_207 ((xs.getD i op0).attrs.length) c_208, .int .i64 ((xs.getD i op0).count)])] (wl.alloc (.cells #[.slice none 0 0, .int .i64 0] 59)) [] (by kernel_rfl) trivial ?_
        obtain ⟨w_212, hw_216, hb_213, hk_214, hz_215⟩ := new_world wl #[.slice none 0 0, .int .i64 0] 59
        rw [hw_216]
        refine XL_store (v := .agg #[.slice A_207 ((xs.getD i op0).attrs.length) c_208, .int .i64 ((xs.getD i op0).count)]) rfl rfl rfl (by kernel_rfl) hk_214 0 [.slice A_207 ((xs.getD i op0).attrs.length) c_208, .int .i64 ((xs.getD i op0).count)] #[.slice A_207 ((xs.getD i op0).attrs.length) c_208, .int .i64 ((xs.getD i op0).count)] ⟨by kernel_rfl, rfl, by kernel_rfl⟩ ⟨by kernel_rfl, by kernel_rfl⟩ (Nat.le_of_ble_eq_true (by kernel_rfl)) (fun w_217 hg_218 hk_219 hz_220 => ?_)
        refine XL_nil ?_
        refine X_seq ?_
        refine X_region ?_
        refine XL_run 1 [] [(0, .slice A xs.length c), (6, .int .i64 (i : Int)), (8, .int .i64 3), (11, .pointer (some ⟨wl.heap.size, 0, none⟩)), (31, .slice A_3 ((List.map pOf xs).length) c_4), (32, .int .i64 ((List.map pOf xs).length : Int)), (33, .int .i64 (i : Int))] w_217 [] (by kernel_rfl) trivial ?_
        refine XL_nil ?_
        refine X_seq ?_
        refine X_still (by kernel_rfl) (by kernel_rfl) (fun wd_221 hb_222 hh_223 => ?_)
        refine XS_run 4 [(88, .load (.int .i64 ((xs.getD i op0).count)))] [.pointer (some ⟨wl.heap.size, 1, none⟩), .int .i64 ((xs.getD i op0).count), .slice A xs.length c, .int .i64 (i : Int)] [(0, .slice A xs.length c), (6, .int .i64 (i : Int)), (8, .int .i64 3), (31, .slice A_3 ((List.map pOf xs).length) c_4), (32, .int .i64 ((List.map pOf xs).length : Int)), (33, .int .i64 (i : Int)), (88, .int .i64 ((xs.getD i op0).count)), (89, .slice A xs.length c), (90, .int .i64 (i : Int))] [LoadsAs Tryd.prog 3 (⟨wl.heap.size, 1, none⟩) (.int .i64 ((xs.getD i op0).count)) wd_221] (by kernel_rfl) (by kernel_rfl) ⟨loads1 rfl (Blk.cell (Blk.below hk_219 hb_222) 1 _ rfl), trivial⟩ ?_
        have hB_224 : Below w.heap.size w wd_221 := (bt (bg (bt (bt (bt hb_2 hb_7) HB) hb_213) hg_218 ((bt (bt hb_2 hb_7) HB)).size) hb_222)
        obtain ⟨ad_225, B_228, c_229, ha_226, hc_227, hl_230, hC_231⟩ := Kd.atOp (Kd.C_below hx hB_224) (i := (i : Int)) (by omega) (by omega)
        replace hc_227 : CellsAt wd_221 (ad_225.add ((i : Int).toNat * 7)) [.int .i64 ((xs.getD i op0).kind), .string ((xs.getD i op0).text), .int .i64 ((xs.getD i op0).vk), .int .i64 ((xs.getD i op0).vn), .string ((xs.getD i op0).vt), .int .i64 ((xs.getD i op0).count), .slice B_228 ((xs.getD i op0).attrs.length) c_229] := hc_227
        replace hl_230 : (xs.getD i op0).attrs.length ≤ c_229 := hl_230
        replace hC_231 : kAttr.C wd_221 B_228 ((xs.getD i op0).attrs.length) (xs.getD i op0).attrs := hC_231
        refine XS_run 4 [(91, .idx ad_225), (93, .load (.int .i64 ((xs.getD i op0).count))), (94, .eq (.bool false))] [.pointer (some (ad_225.add ((i : Int).toNat * 7))), .pointer (some ((ad_225.add ((i : Int).toNat * 7)).add 5)), .int .i64 ((xs.getD i op0).count), .bool false] [(0, .slice A xs.length c), (6, .int .i64 (i : Int)), (8, .int .i64 3), (31, .slice A_3 ((List.map pOf xs).length) c_4), (32, .int .i64 ((List.map pOf xs).length : Int)), (33, .int .i64 (i : Int)), (94, .bool false)] [A = some ad_225, (0 : Int) ≤ (i : Int), (i : Int) < (xs.length : Int), LoadsAs Tryd.prog 3 ((ad_225.add ((i : Int).toNat * 7)).add 5) (.int .i64 ((xs.getD i op0).count)) wd_221, Value.bool ((xs.getD i op0).count != (xs.getD i op0).count) = Value.bool false] (by kernel_rfl) (by kernel_rfl) ⟨ha_226, (by omega), (by omega), loads1 rfl (elem_cell hc_227 5 _ rfl), congrArg Value.bool (bneF rfl), trivial⟩ ?_
        refine XS_nil ?_
        refine X_cond false rfl ?_
        refine X_skip ?_
        refine X_seq ?_
        refine X_region ?_
        refine XL_run 3 [] [(0, .slice A xs.length c), (31, .slice A_3 ((List.map pOf xs).length) c_4), (32, .int .i64 ((List.map pOf xs).length : Int)), (33, .int .i64 (i : Int)), (106, .int .i64 3), (107, .slice A xs.length c), (108, .int .i64 (i : Int))] wd_221 [] (by kernel_rfl) trivial ?_
        obtain ⟨ad_232, B_235, c_236, ha_233, hc_234, hl_237, hC_238⟩ := Kd.atOp (Kd.C_below hx hB_224) (i := (i : Int)) (by omega) (by omega)
        replace hc_234 : CellsAt wd_221 (ad_232.add ((i : Int).toNat * 7)) [.int .i64 ((xs.getD i op0).kind), .string ((xs.getD i op0).text), .int .i64 ((xs.getD i op0).vk), .int .i64 ((xs.getD i op0).vn), .string ((xs.getD i op0).vt), .int .i64 ((xs.getD i op0).count), .slice B_235 ((xs.getD i op0).attrs.length) c_236] := hc_234
        replace hl_237 : (xs.getD i op0).attrs.length ≤ c_236 := hl_237
        replace hC_238 : kAttr.C wd_221 B_235 ((xs.getD i op0).attrs.length) (xs.getD i op0).attrs := hC_238
        refine XL_run 4 [(109, .idx ad_232), (111, .load (.int .i64 ((xs.getD i op0).kind))), (112, .eq (.bool false))] [(0, .slice A xs.length c), (31, .slice A_3 ((List.map pOf xs).length) c_4), (32, .int .i64 ((List.map pOf xs).length : Int)), (33, .int .i64 (i : Int)), (112, .bool false)] wd_221 [A = some ad_232, (0 : Int) ≤ (i : Int), (i : Int) < (xs.length : Int), LoadsAs Tryd.prog 3 (ad_232.add ((i : Int).toNat * 7)) (.int .i64 ((xs.getD i op0).kind)) wd_221, Value.bool ((3 : Int) != (xs.getD i op0).kind) = Value.bool false] (by kernel_rfl) ⟨ha_233, (by omega), (by omega), loads1 rfl (elem_cell hc_234 0 _ rfl), congrArg Value.bool (bneF (hk.symm)), trivial⟩ ?_
        refine XL_nil ?_
        refine X_cond false rfl ?_
        refine X_skip ?_
        refine X_region ?_
        refine XL_run 2 [(113, .eq (.int .i64 ((i : Int) + 1)))] [(0, .slice A xs.length c), (31, .slice A_3 ((List.map pOf xs).length) c_4), (32, .int .i64 ((List.map pOf xs).length : Int)), (33, .int .i64 ((i : Int) + 1))] wd_221 [Value.int .i64 (IntKind.i64.wrap ((i : Int) + 1)) = Value.int .i64 ((i : Int) + 1)] (by kernel_rfl) ⟨wr_i64 (by omega) (by omega), trivial⟩ ?_
        refine XL_nil ?_
        have hB_239 : Below w_6.heap.size w_6 wd_221 := (bt (bg (bt HB hb_213) hg_218 (HB).size) hb_222)
        refine ⟨(i + 1), by kernel_rfl, ?_, ?_⟩
        · exact ⟨by omega, hB_239⟩
        · (try dsimp only); omega
      · rw [pOf_del hk] at hK_14
        have e_242 := kPiece_del hK_14
        obtain rfl := (List.cons.inj e_242).1
        refine XL_run 3 [(37, .load (.iface 61 (.agg #[.int .i64 ((xs.getD i op0).count)])))] [(0, .slice A xs.length c), (6, .int .i64 (i : Int)), (7, .iface 61 (.agg #[.int .i64 ((xs.getD i op0).count)])), (31, .slice A_3 ((List.map pOf xs).length) c_4), (32, .int .i64 ((List.map pOf xs).length : Int)), (33, .int .i64 (i : Int))] wl [LoadsAs Tryd.prog 47 (ad_10.add ((i : Int).toNat * 1)) (.iface 61 (.agg #[.int .i64 ((xs.getD i op0).count)])) wl] (by kernel_rfl) ⟨loads1 rfl (elem_cell hc_12 0 _ rfl), trivial⟩ ?_
        refine XL_nil ?_
        refine X_seq ?_
        refine X_region ?_
        refine XL_run 1 [] [(0, .slice A xs.length c), (6, .int .i64 (i : Int)), (7, .iface 61 (.agg #[.int .i64 ((xs.getD i op0).count)])), (8, .int .i64 0), (31, .slice A_3 ((List.map pOf xs).length) c_4), (32, .int .i64 ((List.map pOf xs).length : Int)), (33, .int .i64 (i : Int))] wl [] (by kernel_rfl) trivial ?_
        refine XL_nil ?_
        refine X_seq ?_
        refine X_seq ?_
        refine X_region ?_
        refine XL_run 1 [] [(0, .slice A xs.length c), (6, .int .i64 (i : Int)), (7, .iface 61 (.agg #[.int .i64 ((xs.getD i op0).count)])), (8, .int .i64 0), (31, .slice A_3 ((List.map pOf xs).length) c_4), (32, .int .i64 ((List.map pOf xs).length : Int)), (33, .int .i64 (i : Int)), (38, .iface 61 (.agg #[.int .i64 ((xs.getD i op0).count)]))] wl [] (by kernel_rfl) trivial ?_
        refine XL_nil ?_
        refine X_block ?_
        refine X_seq ?_
        refine X_region ?_
        refine XL_run 3 [] [(0, .slice A xs.length c), (6, .int .i64 (i : Int)), (7, .iface 61 (.agg #[.int .i64 ((xs.getD i op0).count)])), (8, .int .i64 0), (31, .slice A_3 ((List.map pOf xs).length) c_4), (32, .int .i64 ((List.map pOf xs).length : Int)), (33, .int .i64 (i : Int)), (38, .iface 61 (.agg #[.int .i64 ((xs.getD i op0).count)])), (40, .bool false), (41, .agg #[.slice none 0 0, .string ByteArray.empty, .int .i64 0])] wl [] (by kernel_rfl) trivial ?_
        refine XL_nil ?_
        refine X_cond false rfl ?_
        refine X_seq ?_
        refine X_region ?_
        refine XL_run 3 [] [(0, .slice A xs.length c), (6, .int .i64 (i : Int)), (8, .int .i64 0), (31, .slice A_3 ((List.map pOf xs).length) c_4), (32, .int .i64 ((List.map pOf xs).length : Int)), (33, .int .i64 (i : Int)), (38, .iface 61 (.agg #[.int .i64 ((xs.getD i op0).count)])), (58, .bool false), (59, .agg #[.slice none 0 0, .string ByteArray.empty, .nilIface])] wl [] (by kernel_rfl) trivial ?_
        refine XL_nil ?_
        refine X_cond false rfl ?_
        refine X_seq ?_
        refine X_region ?_
        refine XL_run 3 [] [(0, .slice A xs.length c), (6, .int .i64 (i : Int)), (8, .int .i64 0), (31, .slice A_3 ((List.map pOf xs).length) c_4), (32, .int .i64 ((List.map pOf xs).length : Int)), (33, .int .i64 (i : Int)), (38, .iface 61 (.agg #[.int .i64 ((xs.getD i op0).count)])), (85, .bool false), (86, .agg #[.slice none 0 0, .int .i64 0])] wl [] (by kernel_rfl) trivial ?_
        refine XL_nil ?_
        refine X_cond false rfl ?_
        refine X_seq ?_
        refine X_region ?_
        refine XL_run 3 [] [(0, .slice A xs.length c), (6, .int .i64 (i : Int)), (8, .int .i64 0), (31, .slice A_3 ((List.map pOf xs).length) c_4), (32, .int .i64 ((List.map pOf xs).length : Int)), (33, .int .i64 (i : Int)), (96, .bool true), (97, .agg #[.int .i64 ((xs.getD i op0).count)])] wl [] (by kernel_rfl) trivial ?_
        refine XL_nil ?_
        refine X_cond true rfl ?_
        refine X_seq ?_
        refine X_region ?_
        refine XL_run 1 [] [(0, .slice A xs.length c), (6, .int .i64 (i : Int)), (12, .pointer (some ⟨wl.heap.size, 0, none⟩)), (31, .slice A_3 ((List.map pOf xs).length) c_4), (32, .int .i64 ((List.map pOf xs).length : Int)), (33, .int .i64 (i : Int)), (97, .agg #[.int .i64 ((xs.getD i op0).count)])] (wl.alloc (.cells #[.int .i64 0] 61)) [] (by kernel_rfl) trivial ?_
        obtain ⟨w_245, hw_249, hb_246, hk_247, hz_248⟩ := new_world wl #[.int .i64 0] 61
        rw [hw_249]
        refine XL_store (v := .agg #[.int .i64 ((xs.getD i op0).count)]) rfl rfl rfl (by kernel_rfl) hk_247 0 [.int .i64 ((xs.getD i op0).count)] #[.int .i64 ((xs.getD i op0).count)] ⟨by kernel_rfl, rfl, by kernel_rfl⟩ ⟨by kernel_rfl, by kernel_rfl⟩ (Nat.le_of_ble_eq_true (by kernel_rfl)) (fun w_250 hg_251 hk_252 hz_253 => ?_)
        refine XL_nil ?_
        refine X_seq ?_
        refine X_region ?_
        refine XL_run 1 [] [(0, .slice A xs.length c), (6, .int .i64 (i : Int)), (8, .int .i64 4), (12, .pointer (some ⟨wl.heap.size, 0, none⟩)), (31, .slice A_3 ((List.map pOf xs).length) c_4), (32, .int .i64 ((List.map pOf xs).length : Int)), (33, .int .i64 (i : Int))] w_250 [] (by kernel_rfl) trivial ?_
        refine XL_nil ?_
        refine X_seq ?_
        refine X_still (by kernel_rfl) (by kernel_rfl) (fun wd_254 hb_255 hh_256 => ?_)
        refine XS_run 4 [(99, .load (.int .i64 ((xs.getD i op0).count)))] [.pointer (some ⟨wl.heap.size, 0, none⟩), .int .i64 ((xs.getD i op0).count), .slice A xs.length c, .int .i64 (i : Int)] [(0, .slice A xs.length c), (6, .int .i64 (i : Int)), (8, .int .i64 4), (31, .slice A_3 ((List.map pOf xs).length) c_4), (32, .int .i64 ((List.map pOf xs).length : Int)), (33, .int .i64 (i : Int)), (99, .int .i64 ((xs.getD i op0).count)), (100, .slice A xs.length c), (101, .int .i64 (i : Int))] [LoadsAs Tryd.prog 3 (⟨wl.heap.size, 0, none⟩) (.int .i64 ((xs.getD i op0).count)) wd_254] (by kernel_rfl) (by kernel_rfl) ⟨loads1 rfl (Blk.cell (Blk.below hk_252 hb_255) 0 _ rfl), trivial⟩ ?_
        have hB_257 : Below w.heap.size w wd_254 := (bt (bg (bt (bt (bt hb_2 hb_7) HB) hb_246) hg_251 ((bt (bt hb_2 hb_7) HB)).size) hb_255)
        obtain ⟨ad_258, B_261, c_262, ha_259, hc_260, hl_263, hC_264⟩ := Kd.atOp (Kd.C_below hx hB_257) (i := (i : Int)) (by omega) (by omega)
        replace hc_260 : CellsAt wd_254 (ad_258.add ((i : Int).toNat * 7)) [.int .i64 ((xs.getD i op0).kind), .string ((xs.getD i op0).text), .int .i64 ((xs.getD i op0).vk), .int .i64 ((xs.getD i op0).vn), .string ((xs.getD i op0).vt), .int .i64 ((xs.getD i op0).count), .slice B_261 ((xs.getD i op0).attrs.length) c_262] := hc_260
        replace hl_263 : (xs.getD i op0).attrs.length ≤ c_262 := hl_263
        replace hC_264 : kAttr.C wd_254 B_261 ((xs.getD i op0).attrs.length) (xs.getD i op0).attrs := hC_264
        refine XS_run 4 [(102, .idx ad_258), (104, .load (.int .i64 ((xs.getD i op0).count))), (105, .eq (.bool false))] [.pointer (some (ad_258.add ((i : Int).toNat * 7))), .pointer (some ((ad_258.add ((i : Int).toNat * 7)).add 5)), .int .i64 ((xs.getD i op0).count), .bool false] [(0, .slice A xs.length c), (6, .int .i64 (i : Int)), (8, .int .i64 4), (31, .slice A_3 ((List.map pOf xs).length) c_4), (32, .int .i64 ((List.map pOf xs).length : Int)), (33, .int .i64 (i : Int)), (105, .bool false)] [A = some ad_258, (0 : Int) ≤ (i : Int), (i : Int) < (xs.length : Int), LoadsAs Tryd.prog 3 ((ad_258.add ((i : Int).toNat * 7)).add 5) (.int .i64 ((xs.getD i op0).count)) wd_254, Value.bool ((xs.getD i op0).count != (xs.getD i op0).count) = Value.bool false] (by kernel_rfl) (by kernel_rfl) ⟨ha_259, (by omega), (by omega), loads1 rfl (elem_cell hc_260 5 _ rfl), congrArg Value.bool (bneF rfl), trivial⟩ ?_
        refine XS_nil ?_
        refine X_cond false rfl ?_
        refine X_skip ?_
        refine X_seq ?_
        refine X_region ?_
        refine XL_run 3 [] [(0, .slice A xs.length c), (31, .slice A_3 ((List.map pOf xs).length) c_4), (32, .int .i64 ((List.map pOf xs).length : Int)), (33, .int .i64 (i : Int)), (106, .int .i64 4), (107, .slice A xs.length c), (108, .int .i64 (i : Int))] wd_254 [] (by kernel_rfl) trivial ?_
        obtain ⟨ad_265, B_268, c_269, ha_266, hc_267, hl_270, hC_271⟩ := Kd.atOp (Kd.C_below hx hB_257) (i := (i : Int)) (by omega) (by omega)
        replace hc_267 : CellsAt wd_254 (ad_265.add ((i : Int).toNat * 7)) [.int .i64 ((xs.getD i op0).kind), .string ((xs.getD i op0).text), .int .i64 ((xs.getD i op0).vk), .int .i64 ((xs.getD i op0).vn), .string ((xs.getD i op0).vt), .int .i64 ((xs.getD i op0).count), .slice B_268 ((xs.getD i op0).attrs.length) c_269] := hc_267
        replace hl_270 : (xs.getD i op0).attrs.length ≤ c_269 := hl_270
        replace hC_271 : kAttr.C wd_254 B_268 ((xs.getD i op0).attrs.length) (xs.getD i op0).attrs := hC_271
        refine XL_run 4 [(109, .idx ad_265), (111, .load (.int .i64 ((xs.getD i op0).kind))), (112, .eq (.bool false))] [(0, .slice A xs.length c), (31, .slice A_3 ((List.map pOf xs).length) c_4), (32, .int .i64 ((List.map pOf xs).length : Int)), (33, .int .i64 (i : Int)), (112, .bool false)] wd_254 [A = some ad_265, (0 : Int) ≤ (i : Int), (i : Int) < (xs.length : Int), LoadsAs Tryd.prog 3 (ad_265.add ((i : Int).toNat * 7)) (.int .i64 ((xs.getD i op0).kind)) wd_254, Value.bool ((4 : Int) != (xs.getD i op0).kind) = Value.bool false] (by kernel_rfl) ⟨ha_266, (by omega), (by omega), loads1 rfl (elem_cell hc_267 0 _ rfl), congrArg Value.bool (bneF (hk.symm)), trivial⟩ ?_
        refine XL_nil ?_
        refine X_cond false rfl ?_
        refine X_skip ?_
        refine X_region ?_
        refine XL_run 2 [(113, .eq (.int .i64 ((i : Int) + 1)))] [(0, .slice A xs.length c), (31, .slice A_3 ((List.map pOf xs).length) c_4), (32, .int .i64 ((List.map pOf xs).length : Int)), (33, .int .i64 ((i : Int) + 1))] wd_254 [Value.int .i64 (IntKind.i64.wrap ((i : Int) + 1)) = Value.int .i64 ((i : Int) + 1)] (by kernel_rfl) ⟨wr_i64 (by omega) (by omega), trivial⟩ ?_
        refine XL_nil ?_
        have hB_272 : Below w_6.heap.size w_6 wd_254 := (bt (bg (bt HB hb_246) hg_251 (HB).size) hb_255)
        refine ⟨(i + 1), by kernel_rfl, ?_, ?_⟩
        · exact ⟨by omega, hB_272⟩
        · (try dsimp only); omega
    · refine XL_run 1 [(34, .eq (.bool false))] [(0, .slice A xs.length c), (31, .slice A_3 ((List.map pOf xs).length) c_4), (32, .int .i64 ((List.map pOf xs).length : Int)), (33, .int .i64 (i : Int)), (34, .bool false)] wl [Value.bool (decide ((i : Int) < ((List.map pOf xs).length : Int))) = Value.bool false] (by kernel_rfl) ⟨congrArg Value.bool (decide_eq_false (c_9)), trivial⟩ ?_
      refine XL_nil ?_
      refine X_seq ?_
      refine X_cond false rfl ?_
      refine X_exit ?_
      refine X_seq ?_
      refine X_region ?_
      refine XL_run 1 [] [(2, .bool true)] wl [] (by kernel_rfl) trivial ?_
      refine XL_nil ?_
      refine X_ret ?_
      refine RX.ret_ok (P := Tryd.prog) (fn := Tryd.f6) (N := 114) (R := R_) [.bool true] (by kernel_rfl) (hR_ _ _ ?_)
      exact ⟨rfl, (bt (bt hb_2 hb_7) HB)⟩
  · rw [errV_pos es (badE xs) (Nat.pos_of_ne_zero c_8)]
    refine XL_run 1 [] [(0, .slice A xs.length c), (3, .slice A_3 ((ofP xs).length) c_4), (22, .bool true)] w_6 [] (by kernel_rfl) trivial ?_
    refine XL_nil ?_
    refine X_cond true rfl ?_
    refine X_seq ?_
    refine X_region ?_
    refine XL_run 4 [(25, .eq (.bool true))] [(2, .bool true)] w_6 [Value.bool (((ofP xs).length : Int) == 0) = Value.bool true] (by kernel_rfl) ⟨congrArg Value.bool (beq_iff_eq.2 ((by rw [ofP_bad c_8]; rfl))), trivial⟩ ?_
    refine XL_nil ?_
    refine X_ret ?_
    refine RX.ret_ok (P := Tryd.prog) (fn := Tryd.f6) (N := 114) (R := R_) [.bool true] (by kernel_rfl) (hR_ _ _ ?_)
    exact ⟨rfl, (bt hb_2 hb_7)⟩
end Go.Proofs.YtekfdfafhfhfbaaDoor
