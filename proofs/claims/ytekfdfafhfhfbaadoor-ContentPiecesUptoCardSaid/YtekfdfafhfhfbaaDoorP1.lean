/- What content.Length, Cut, Join, Same, Cells and Newlines answer. Conditions: sizes, the tables of utf8, the errors' variables. -/
import Derived.Test.YtekfdfafhfhfbaaDoorO3
import Derived.Test.YtekfdfafhfhfbaaDoorCell
import Derived.Test.YtekfdfafhfhfbaaDoorShelf2
import Derived.Test.YtekfdfafhfhfbaaDoorStr2
import Derived.Test.YtekfdfafhfhfbaaDoorAn2
import Derived.Test.YtekfdfafhfhfbaaDoorAn4
set_option linter.unusedVariables false
set_option linter.unusedSimpArgs false
set_option maxRecDepth 100000
namespace Go.Proofs.YtekfdfafhfhfbaaDoor
open Go Go.RowKit Go.Proofs.YtekfdfafhfhfbaaDoorW.PrintWords RX
theorem ent97 : Ent Tryd.prog 97 := ent_of Tryd.func97 (by kernel_rfl) rfl
theorem ent48 : Ent Tryd.prog 48 := ent_of Tryd.func48 (by kernel_rfl) rfl
theorem ent58 : Ent Tryd.prog 58 := ent_of Tryd.func58 (by kernel_rfl) rfl
theorem ent61 : Ent Tryd.prog 61 := ent_of Tryd.func61 (by kernel_rfl) rfl
theorem ent63 : Ent Tryd.prog 63 := ent_of Tryd.func63 (by kernel_rfl) rfl
theorem ent49 : Ent Tryd.prog 49 := ent_of Tryd.func49 (by kernel_rfl) rfl
theorem ent50 : Ent Tryd.prog 50 := ent_of Tryd.func50 (by kernel_rfl) rfl
theorem ent98 : Ent Tryd.prog 98 := ent_of Tryd.func98 (by kernel_rfl) rfl
theorem ent174 : Ent Tryd.prog 174 := ent_of Tryd.func174 (by kernel_rfl) rfl
theorem ent176 : Ent Tryd.prog 176 := ent_of Tryd.func176 (by kernel_rfl) rfl
theorem ent178 : Ent Tryd.prog 178 := ent_of Tryd.func178 (by kernel_rfl) rfl
theorem ent180 : Ent Tryd.prog 180 := ent_of Tryd.func180 (by kernel_rfl) rfl
theorem info98 : (Tryd.prog.info? 98).map (fun i => (i.zero, i.size, i.bytes)) = some (some (.agg #[.int .i32 0, .string ByteArray.empty, .int .i64 0, .int .i64 0, .string ByteArray.empty, .slice none 0 0]), 6, 80) := by kernel_rfl
abbrev ErrsC (w : World) (es : List Addr) : Prop := ErrsOn [1, 5, 6, 7, 8, 9, 10, 12] w es
theorem ErrsC.i {w : World} {es : List Addr} (h : ErrsC w es) : ErrsI w es := h.sub (by decide)
theorem ErrsC.r {w : World} {es : List Addr} (h : ErrsC w es) : ErrsOn [1, 12] w es := h.sub (by decide)
theorem plainOk_kind {k n : Int} {t : ByteArray} (h : plainOk k n t = true) : (k = 0 ∧ n = 0 ∧ t = ⟨#[]⟩) ∨ (k = 1 ∧ (n = 0 ∨ n = 1) ∧ t = ⟨#[]⟩) ∨ (k = 2 ∧ t = ⟨#[]⟩) ∨ (k = 3 ∧ n = 0) := of_decide_eq_true h
theorem refuse_val {o : OpA} (h : refuseP o = 0) (hk : o.kind = 2) : plainOk o.vk o.vn o.vt = true := by
  have h2 := (refuse_utf h).2.1 hk
  unfold plainErr at h2
  cases h3 : plainOk o.vk o.vn o.vt with
  | true => rfl
  | false => rw [if_pos h3] at h2; cases h2
theorem len4_1 {o : OpA} (h : o.kind = 1) : len4 o = ((U.sc o.text).length : Int) := if_neg (by omega)
theorem len4_2 {o : OpA} (h : o.kind = 2) : len4 o = 1 := if_pos h
theorem flagPlain_any (k n : Int) (t : ByteArray) (w : World) (h : plainOk k n t = true) (hk : k = 1) : Calls Tryd.prog 174 #[.bool (decide (n = 1))] w fun e w' => e = .returned (.agg #[.int .i64 k, .int .i64 n, .string t]) ∧ Below w.heap.size w w' := by
  have h' := plainOk_kind h
  have ht :  t = ⟨#[]⟩ := by rcases h' with h' | h' | h' | h' <;> simp_all <;> omega
  have hn : (n = 1) ∨ n = 0 := by rcases h' with h' | h' | h' | h' <;> simp_all <;> omega
  subst hk
  refine RX.enter Tryd.func174 rfl 6 rfl [(0, .bool (decide (n = 1)))] rfl (by kernel_rfl) (fun R_ hR_ => ?_)
  refine X_seq ?_
  refine X_region ?_
  refine XL_run 1 [] [(0, .bool (decide (n = 1))), (2, .pointer (some ⟨w.heap.size, 0, none⟩))] (w.alloc (.cells #[.int .i64 0, .int .i64 0, .string ByteArray.empty] 30)) [] (by kernel_rfl) trivial ?_
  obtain ⟨w_1, hw_5, hb_2, hk_3, hz_4⟩ := new_world w #[.int .i64 0, .int .i64 0, .string ByteArray.empty] 30
  rw [hw_5]
  refine XL_nil ?_
  refine X_seq ?_
  refine X_seq ?_
  refine X_region ?_
  refine XL_run 1 [] [(2, .pointer (some ⟨w.heap.size, 0, none⟩)), (3, .bool (decide (n = 1)))] w_1 [] (by kernel_rfl) trivial ?_
  refine XL_nil ?_
  by_cases c_6 : decide (n = 1) = true
  · rw [show (decide (n = 1) : Bool) = true from by simpa using c_6]
    refine X_cond true rfl ?_
    refine X_seq ?_
    refine X_region ?_
    refine XL_run 1 [] [(2, .pointer (some ⟨w.heap.size, 0, none⟩)), (4, .agg #[.int .i64 1, .int .i64 1, .string ByteArray.empty])] w_1 [] (by kernel_rfl) trivial ?_
    refine XL_store (v := .agg #[.int .i64 1, .int .i64 1, .string ByteArray.empty]) rfl rfl rfl (by kernel_rfl) hk_3 0 [.int .i64 1, .int .i64 1, .string ByteArray.empty] #[.int .i64 1, .int .i64 1, .string ByteArray.empty] ⟨by kernel_rfl, rfl, by kernel_rfl⟩ ⟨by kernel_rfl, by kernel_rfl⟩ (Nat.le_of_ble_eq_true (by kernel_rfl)) (fun w_7 hg_8 hk_9 hz_10 => ?_)
    refine XL_nil ?_
    refine X_ret ?_
    refine RX.ret_cell (P := Tryd.prog) (fn := Tryd.f174) (N := 6) (R := R_) (c := 2) (t := 30) (p := ⟨w.heap.size, 0, none⟩) (v := .agg #[.int .i64 1, .int .i64 1, .string ByteArray.empty]) rfl rfl (loadsB rfl rfl hk_9 0 ⟨by kernel_rfl, by kernel_rfl⟩) (hR_ _ _ ?_)
    subst ht
    obtain rfl : n = 1 := by have h1_ := c_6; have h2_ := hn; simp at h1_; omega
    exact ⟨rfl, (bg hb_2 hg_8 (Nat.le_refl _))⟩
  · rw [show (decide (n = 1) : Bool) = false from by simpa using c_6]
    refine X_cond false rfl ?_
    refine X_skip ?_
    refine X_seq ?_
    refine X_region ?_
    refine XL_run 1 [] [(2, .pointer (some ⟨w.heap.size, 0, none⟩)), (5, .agg #[.int .i64 1, .int .i64 0, .string ByteArray.empty])] w_1 [] (by kernel_rfl) trivial ?_
    refine XL_store (v := .agg #[.int .i64 1, .int .i64 0, .string ByteArray.empty]) rfl rfl rfl (by kernel_rfl) hk_3 0 [.int .i64 1, .int .i64 0, .string ByteArray.empty] #[.int .i64 1, .int .i64 0, .string ByteArray.empty] ⟨by kernel_rfl, rfl, by kernel_rfl⟩ ⟨by kernel_rfl, by kernel_rfl⟩ (Nat.le_of_ble_eq_true (by kernel_rfl)) (fun w_11 hg_12 hk_13 hz_14 => ?_)
    refine XL_nil ?_
    refine X_ret ?_
    refine RX.ret_cell (P := Tryd.prog) (fn := Tryd.f174) (N := 6) (R := R_) (c := 2) (t := 30) (p := ⟨w.heap.size, 0, none⟩) (v := .agg #[.int .i64 1, .int .i64 0, .string ByteArray.empty]) rfl rfl (loadsB rfl rfl hk_13 0 ⟨by kernel_rfl, by kernel_rfl⟩) (hR_ _ _ ?_)
    subst ht
    obtain rfl : n = 0 := by have h1_ := c_6; have h2_ := hn; simp at h1_; omega
    exact ⟨rfl, (bg hb_2 hg_12 (Nat.le_refl _))⟩
theorem numberPlain_any (k n : Int) (t : ByteArray) (w : World) (h : plainOk k n t = true) (hk : k = 2) : Calls Tryd.prog 176 #[.int .i64 n] w fun e w' => e = .returned (.agg #[.int .i64 k, .int .i64 n, .string t]) ∧ Below w.heap.size w w' := by
  have h' := plainOk_kind h
  have ht :  t = ⟨#[]⟩ := by rcases h' with h' | h' | h' | h' <;> simp_all <;> omega
  have hn : k = 2 ∨ n = 0 := by rcases h' with h' | h' | h' | h' <;> simp_all <;> omega
  subst hk
  refine RX.enter Tryd.func176 rfl 5 rfl [(0, .int .i64 n)] rfl (by kernel_rfl) (fun R_ hR_ => ?_)
  refine X_seq ?_
  refine X_region ?_
  refine XL_run 1 [] [(0, .int .i64 n), (2, .pointer (some ⟨w.heap.size, 0, none⟩))] (w.alloc (.cells #[.int .i64 0, .int .i64 0, .string ByteArray.empty] 30)) [] (by kernel_rfl) trivial ?_
  obtain ⟨w_1, hw_5, hb_2, hk_3, hz_4⟩ := new_world w #[.int .i64 0, .int .i64 0, .string ByteArray.empty] 30
  rw [hw_5]
  refine XL_nil ?_
  refine X_seq ?_
  refine X_region ?_
  refine XL_run 2 [] [(2, .pointer (some ⟨w.heap.size, 0, none⟩)), (4, .agg #[.int .i64 2, .int .i64 n, .string ByteArray.empty])] w_1 [] (by kernel_rfl) trivial ?_
  refine XL_store (v := .agg #[.int .i64 2, .int .i64 n, .string ByteArray.empty]) rfl rfl rfl (by kernel_rfl) hk_3 0 [.int .i64 2, .int .i64 n, .string ByteArray.empty] #[.int .i64 2, .int .i64 n, .string ByteArray.empty] ⟨by kernel_rfl, rfl, by kernel_rfl⟩ ⟨by kernel_rfl, by kernel_rfl⟩ (Nat.le_of_ble_eq_true (by kernel_rfl)) (fun w_6 hg_7 hk_8 hz_9 => ?_)
  refine XL_nil ?_
  refine X_ret ?_
  refine RX.ret_cell (P := Tryd.prog) (fn := Tryd.f176) (N := 5) (R := R_) (c := 2) (t := 30) (p := ⟨w.heap.size, 0, none⟩) (v := .agg #[.int .i64 2, .int .i64 n, .string ByteArray.empty]) rfl rfl (loadsB rfl rfl hk_8 0 ⟨by kernel_rfl, by kernel_rfl⟩) (hR_ _ _ ?_)
  subst ht
  exact ⟨rfl, (bg hb_2 hg_7 (Nat.le_refl _))⟩
theorem textPlain_any (k n : Int) (t : ByteArray) (w : World) (h : plainOk k n t = true) (hk : k = 3) : Calls Tryd.prog 178 #[.string t] w fun e w' => e = .returned (.agg #[.int .i64 k, .int .i64 n, .string t]) ∧ Below w.heap.size w w' := by
  have h' := plainOk_kind h
  have ht : k = 3 ∨ t = ⟨#[]⟩ := by rcases h' with h' | h' | h' | h' <;> simp_all <;> omega
  have hn :  n = 0 := by rcases h' with h' | h' | h' | h' <;> simp_all <;> omega
  subst hk
  refine RX.enter Tryd.func178 rfl 5 rfl [(0, .string t)] rfl (by kernel_rfl) (fun R_ hR_ => ?_)
  refine X_seq ?_
  refine X_region ?_
  refine XL_run 1 [] [(0, .string t), (2, .pointer (some ⟨w.heap.size, 0, none⟩))] (w.alloc (.cells #[.int .i64 0, .int .i64 0, .string ByteArray.empty] 30)) [] (by kernel_rfl) trivial ?_
  obtain ⟨w_1, hw_5, hb_2, hk_3, hz_4⟩ := new_world w #[.int .i64 0, .int .i64 0, .string ByteArray.empty] 30
  rw [hw_5]
  refine XL_nil ?_
  refine X_seq ?_
  refine X_region ?_
  refine XL_run 2 [] [(2, .pointer (some ⟨w.heap.size, 0, none⟩)), (4, .agg #[.int .i64 3, .int .i64 0, .string t])] w_1 [] (by kernel_rfl) trivial ?_
  refine XL_store (v := .agg #[.int .i64 3, .int .i64 0, .string t]) rfl rfl rfl (by kernel_rfl) hk_3 0 [.int .i64 3, .int .i64 0, .string t] #[.int .i64 3, .int .i64 0, .string t] ⟨by kernel_rfl, rfl, by kernel_rfl⟩ ⟨by kernel_rfl, by kernel_rfl⟩ (Nat.le_of_ble_eq_true (by kernel_rfl)) (fun w_6 hg_7 hk_8 hz_9 => ?_)
  refine XL_nil ?_
  refine X_ret ?_
  refine RX.ret_cell (P := Tryd.prog) (fn := Tryd.f178) (N := 5) (R := R_) (c := 2) (t := 30) (p := ⟨w.heap.size, 0, none⟩) (v := .agg #[.int .i64 3, .int .i64 0, .string t]) rfl rfl (loadsB rfl rfl hk_8 0 ⟨by kernel_rfl, by kernel_rfl⟩) (hR_ _ _ ?_)
  subst hn
  exact ⟨rfl, (bg hb_2 hg_7 (Nat.le_refl _))⟩
theorem nullPlain_any (k n : Int) (t : ByteArray) (w : World) (h : plainOk k n t = true) (hk : k = 0) : Calls Tryd.prog 180 #[.agg #[]] w fun e w' => e = .returned (.agg #[.int .i64 k, .int .i64 n, .string t]) ∧ Below w.heap.size w w' := by
  have h' := plainOk_kind h
  have ht :  t = ⟨#[]⟩ := by rcases h' with h' | h' | h' | h' <;> simp_all <;> omega
  have hn :  n = 0 := by rcases h' with h' | h' | h' | h' <;> simp_all <;> omega
  subst hk
  refine RX.enter Tryd.func180 rfl 4 rfl [(0, .agg #[])] rfl (by kernel_rfl) (fun R_ hR_ => ?_)
  refine X_seq ?_
  refine X_region ?_
  refine XL_run 1 [] [] (w.alloc (.cells #[] 137)) [] (by kernel_rfl) trivial ?_
  obtain ⟨w_1, hw_5, hb_2, hk_3, hz_4⟩ := new_world w #[] 137
  rw [hw_5]
  refine XL_run 1 [] [(2, .pointer (some ⟨w_1.heap.size, 0, none⟩))] (w_1.alloc (.cells #[.int .i64 0, .int .i64 0, .string ByteArray.empty] 30)) [] (by kernel_rfl) trivial ?_
  obtain ⟨w_6, hw_10, hb_7, hk_8, hz_9⟩ := new_world w_1 #[.int .i64 0, .int .i64 0, .string ByteArray.empty] 30
  rw [hw_10]
  refine XL_nil ?_
  refine X_seq ?_
  refine X_region ?_
  refine XL_run 1 [] [(2, .pointer (some ⟨w_1.heap.size, 0, none⟩)), (3, .agg #[.int .i64 0, .int .i64 0, .string ByteArray.empty])] w_6 [] (by kernel_rfl) trivial ?_
  refine XL_store (v := .agg #[.int .i64 0, .int .i64 0, .string ByteArray.empty]) rfl rfl rfl (by kernel_rfl) hk_8 0 [.int .i64 0, .int .i64 0, .string ByteArray.empty] #[.int .i64 0, .int .i64 0, .string ByteArray.empty] ⟨by kernel_rfl, rfl, by kernel_rfl⟩ ⟨by kernel_rfl, by kernel_rfl⟩ (Nat.le_of_ble_eq_true (by kernel_rfl)) (fun w_11 hg_12 hk_13 hz_14 => ?_)
  refine XL_nil ?_
  refine X_ret ?_
  refine RX.ret_cell (P := Tryd.prog) (fn := Tryd.f180) (N := 4) (R := R_) (c := 2) (t := 30) (p := ⟨w_1.heap.size, 0, none⟩) (v := .agg #[.int .i64 0, .int .i64 0, .string ByteArray.empty]) rfl rfl (loadsB rfl rfl hk_13 0 ⟨by kernel_rfl, by kernel_rfl⟩) (hR_ _ _ ?_)
  subst ht
  subst hn
  exact ⟨rfl, (bg (bt hb_2 hb_7) hg_12 (hb_2).size)⟩
theorem attributes_any (A : Option Addr) (c : Nat) (xs : List At) (w : World) (hx : kAttr.C w A xs.length xs) (hn : xs.length ≤ 100000000) : Calls Tryd.prog 97 #[.agg #[.slice A xs.length c]] w fun e w' => ∃ A' c', e = .returned (.slice A' xs.length c') ∧ xs.length ≤ c' ∧ kAttr.R 79 w' w.heap.size (OkFrom w.heap.size) (.slice A' xs.length c') xs ∧ Below w.heap.size w w' := by
  have hpl : xs.length ≤ 9223372036854775807 := hx.2.1
  refine RX.enter Tryd.func97 rfl 6 rfl [(0, .agg #[.slice A xs.length c])] rfl (by kernel_rfl) (fun R_ hR_ => ?_)
  refine X_seq ?_
  refine X_region ?_
  refine XL_run 1 [] [(1, .pointer (some ⟨w.heap.size, 0, none⟩))] (w.alloc (.cells #[.slice A xs.length c] 49)) [] (by kernel_rfl) trivial ?_
  obtain ⟨w_1, hw_5, hb_2, hk_3, hz_4⟩ := new_world w #[.slice A xs.length c] 49
  rw [hw_5]
  refine XL_run 1 [] [(1, .pointer (some ⟨w.heap.size, 0, none⟩))] w_1 [] (by kernel_rfl) trivial ?_
  refine XL_nil ?_
  refine X_seq ?_
  refine X_region ?_
  refine XL_run 2 [(4, .load (.slice A xs.length c))] [(4, .slice A xs.length c)] w_1 [LoadsAs Tryd.prog 31 (⟨w.heap.size, 0, none⟩) (.slice A xs.length c) w_1] (by kernel_rfl) ⟨loads1 rfl (Blk.cell hk_3 0 _ rfl), trivial⟩ ?_
  refine XL_appendAll (c' := c) kAttr rfl rfl rfl w.heap.size 79 (.agg #[.string ByteArray.empty, .int .i64 0, .int .i64 0, .string ByteArray.empty]) 48 Tryd.underlying31 info79 rfl (by decide) (by omega) ([]) xs (by kernel_rfl) (Kd.R_nil kAttr 79 _ w.heap.size (OkFrom w.heap.size)) (Kd.C_below hx hb_2) kAttr_KM (hb_2).size (by first | omega | (simp; omega)) ?_
  intro A_6 c_7 w_8 hr_9 hc_10 hg_11 hl_12 ha_13
  have he_14 : ([] ++ xs) = xs := List.nil_append _
  rw [he_14] at hr_9 ⊢
  refine XL_run 1 [] [(2, .slice A_6 xs.length c_7)] w_8 [] (by kernel_rfl) trivial ?_
  refine XL_nil ?_
  refine X_ret ?_
  refine RX.ret_ok (P := Tryd.prog) (fn := Tryd.f97) (N := 6) (R := R_) [.slice A_6 xs.length c_7] (by kernel_rfl) (hR_ _ _ ?_)
  exact ⟨_, _, rfl, (RX.Kd.R_len hr_9).2, Kd.R_low hr_9 (Nat.le_refl _), (bgo hb_2 hg_11 hl_12 (Nat.le_refl _))⟩
noncomputable def lenO (o : OpA) : Int := if refuseP o = 0 then len4 o else 0
theorem clen_any (o : OpA) (A : Option Addr) (c : Nat) (w : World) (hA : kAttr.C w A o.attrs.length o.attrs) (hz : opSz o) (hT : Tabs w) (es : List Addr) (hE : ErrsC w es) : Calls Tryd.prog 48 #[.agg #[.int .i64 o.kind, .string o.text, .int .i64 o.vk, .int .i64 o.vn, .string o.vt, .int .i64 o.count, .slice A o.attrs.length c]] w fun e w' => e = .returned (.tuple #[.int .i64 (lenO o), errV es (refuseP o)]) ∧ Below w.heap.size w w' := by
  refine RX.enter Tryd.func48 rfl 16 rfl [(0, .agg #[.int .i64 o.kind, .string o.text, .int .i64 o.vk, .int .i64 o.vn, .string o.vt, .int .i64 o.count, .slice A o.attrs.length c])] rfl (by kernel_rfl) (fun R_ hR_ => ?_)
  refine X_seq ?_
  refine X_region ?_
  refine XL_run 1 [] [(1, .pointer (some ⟨w.heap.size, 0, none⟩))] (w.alloc (.cells #[.int .i64 o.kind, .string o.text, .int .i64 o.vk, .int .i64 o.vn, .string o.vt, .int .i64 o.count, .slice A o.attrs.length c] 33)) [] (by kernel_rfl) trivial ?_
  obtain ⟨w_1, hw_5, hb_2, hk_3, hz_4⟩ := new_world w #[.int .i64 o.kind, .string o.text, .int .i64 o.vk, .int .i64 o.vn, .string o.vt, .int .i64 o.count, .slice A o.attrs.length c] 33
  rw [hw_5]
  refine XL_run 2 [] [(1, .pointer (some ⟨w.heap.size, 0, none⟩))] w_1 [] (by kernel_rfl) trivial ?_
  refine XL_nil ?_
  refine X_seq ?_
  refine X_region ?_
  refine XL_run 1 [(7, .load (.agg #[.int .i64 o.kind, .string o.text, .int .i64 o.vk, .int .i64 o.vn, .string o.vt, .int .i64 o.count, .slice A o.attrs.length c]))] [(7, .agg #[.int .i64 o.kind, .string o.text, .int .i64 o.vk, .int .i64 o.vn, .string o.vt, .int .i64 o.count, .slice A o.attrs.length c])] w_1 [LoadsAs Tryd.prog 33 (⟨w.heap.size, 0, none⟩) (.agg #[.int .i64 o.kind, .string o.text, .int .i64 o.vk, .int .i64 o.vn, .string o.vt, .int .i64 o.count, .slice A o.attrs.length c]) w_1] (by kernel_rfl) ⟨loadsB rfl rfl hk_3 0 ⟨by kernel_rfl, by kernel_rfl⟩, trivial⟩ ?_
  refine XL_call 51 rfl rfl rfl ent51 [.agg #[.int .i64 o.kind, .string o.text, .int .i64 o.vk, .int .i64 o.vn, .string o.vt, .int .i64 o.count, .slice A o.attrs.length c]] (by kernel_rfl) (cof_any o _ _ _ (Kd.C_below hA hb_2) hz (hT.below hb_2) es (hE.i.below hb_2)) ?_
  rintro e w_9 ⟨v_6, rfl, hM_7, hN_8, hb_10⟩; refine ⟨_, rfl, ?_⟩
  refine XL_run 5 [] [(4, v_6), (5, errV es (refuseP o))] w_9 [] (by kernel_rfl) trivial ?_
  refine XL_nil ?_
  refine X_seq ?_
  refine X_seq ?_
  refine X_region ?_
  refine XL_run 1 [] [(4, v_6), (5, errV es (refuseP o)), (11, errV es (refuseP o))] w_9 [] (by kernel_rfl) trivial ?_
  by_cases c_11 : (refuseP o) = 0
  · rw [show errV es (refuseP o) = .nilIface from by rw [c_11]; rfl]
    refine XL_run 1 [] [(4, v_6), (5, .nilIface), (12, .bool false)] w_9 [] (by kernel_rfl) trivial ?_
    refine XL_nil ?_
    refine X_cond false rfl ?_
    refine X_skip ?_
    refine X_seq ?_
    refine X_region ?_
    have hp_12 := hM_7 c_11
    rcases refuse_kind c_11 with hk_13 | hk_13
    · rw [pOf_ins hk_13] at hp_12
      obtain ⟨A_14, c_15, e_16, hl_17, hC_18⟩ := kPiece_ins (kPiece.K_of_M hp_12)
      obtain rfl := (List.cons.inj e_16).1
      refine XL_run 1 [] [(14, .iface 51 (.agg #[.slice A_14 o.attrs.length c_15, .string o.text, .int .i64 ((U.sc o.text).length : Int)]))] w_9 [] (by kernel_rfl) trivial ?_
      refine XL_inv 165 #[.agg #[.slice A_14 o.attrs.length c_15, .string o.text, .int .i64 ((U.sc o.text).length : Int)]] rfl rfl (by kernel_rfl) (by kernel_rfl) (insertLen_any _ _ _ _ _ _) ?_
      rintro e w_19 ⟨rfl, hb_20⟩; refine ⟨_, rfl, ?_⟩
      refine XL_run 2 [] [(2, .int .i64 ((U.sc o.text).length : Int)), (3, .nilIface)] w_19 [] (by kernel_rfl) trivial ?_
      refine XL_nil ?_
      refine X_ret ?_
      refine RX.ret_ok (P := Tryd.prog) (fn := Tryd.f48) (N := 16) (R := R_) [.int .i64 ((U.sc o.text).length : Int), .nilIface] (by kernel_rfl) (hR_ _ _ ?_)
      rw [show lenO o = len4 o from if_pos c_11, len4_1 hk_13, c_11]
      exact ⟨rfl, (bt (bt hb_2 hb_10) hb_20)⟩
    · rw [pOf_emb hk_13] at hp_12
      obtain ⟨A_21, c_22, e_23, hl_24, hC_25⟩ := kPiece_emb (kPiece.K_of_M hp_12)
      obtain rfl := (List.cons.inj e_23).1
      have hval : o.val = (o.vk, o.vn, o.vt) := rfl
      rw [hval] at hp_12 ⊢
      refine XL_run 1 [] [(14, .iface 56 (.agg #[.slice A_21 o.attrs.length c_22, .string o.text, valV (o.vk, o.vn, o.vt)]))] w_9 [] (by kernel_rfl) trivial ?_
      refine XL_inv 167 #[.agg #[.slice A_21 o.attrs.length c_22, .string o.text, valV (o.vk, o.vn, o.vt)]] rfl rfl (by kernel_rfl) (by kernel_rfl) (embedLen_any _ _ _ _ _ _) ?_
      rintro e w_26 ⟨rfl, hb_27⟩; refine ⟨_, rfl, ?_⟩
      refine XL_run 2 [] [(2, .int .i64 1), (3, .nilIface)] w_26 [] (by kernel_rfl) trivial ?_
      refine XL_nil ?_
      refine X_ret ?_
      refine RX.ret_ok (P := Tryd.prog) (fn := Tryd.f48) (N := 16) (R := R_) [.int .i64 1, .nilIface] (by kernel_rfl) (hR_ _ _ ?_)
      rw [show lenO o = len4 o from if_pos c_11, len4_2 hk_13, c_11]
      exact ⟨rfl, (bt (bt hb_2 hb_10) hb_27)⟩
  · rw [errV_pos es (refuseP o) (Nat.pos_of_ne_zero c_11)]
    refine XL_run 1 [] [(4, v_6), (5, .iface 184 (.pointer (some (errAt es (refuseP o))))), (12, .bool true)] w_9 [] (by kernel_rfl) trivial ?_
    refine XL_nil ?_
    refine X_cond true rfl ?_
    refine X_seq ?_
    refine X_region ?_
    refine XL_run 3 [] [(2, .int .i64 0), (3, .iface 184 (.pointer (some (errAt es (refuseP o)))))] w_9 [] (by kernel_rfl) trivial ?_
    refine XL_nil ?_
    refine X_ret ?_
    refine RX.ret_ok (P := Tryd.prog) (fn := Tryd.f48) (N := 16) (R := R_) [.int .i64 0, .iface 184 (.pointer (some (errAt es (refuseP o))))] (by kernel_rfl) (hR_ _ _ ?_)
    rw [show lenO o = 0 from if_neg c_11, errV_pos es _ (Nat.pos_of_ne_zero c_11)]
    exact ⟨rfl, (bt hb_2 hb_10)⟩
def nlO (o : OpA) : Int := if refuseP o = 0 ∧ o.kind = 1 then (Lib.countByte o.text.data.toList 10 : Int) else 0
theorem cnl_any (o : OpA) (A : Option Addr) (c : Nat) (w : World) (hA : kAttr.C w A o.attrs.length o.attrs) (hz : opSz o) (hT : Tabs w) (es : List Addr) (hE : ErrsC w es) : Calls Tryd.prog 50 #[.agg #[.int .i64 o.kind, .string o.text, .int .i64 o.vk, .int .i64 o.vn, .string o.vt, .int .i64 o.count, .slice A o.attrs.length c]] w fun e w' => e = .returned (.tuple #[.int .i64 (nlO o), errV es (refuseP o)]) ∧ Below w.heap.size w w' := by
  refine RX.enter Tryd.func50 rfl 25 rfl [(0, .agg #[.int .i64 o.kind, .string o.text, .int .i64 o.vk, .int .i64 o.vn, .string o.vt, .int .i64 o.count, .slice A o.attrs.length c])] rfl (by kernel_rfl) (fun R_ hR_ => ?_)
  refine X_seq ?_
  refine X_region ?_
  refine XL_run 1 [] [(1, .pointer (some ⟨w.heap.size, 0, none⟩))] (w.alloc (.cells #[.int .i64 o.kind, .string o.text, .int .i64 o.vk, .int .i64 o.vn, .string o.vt, .int .i64 o.count, .slice A o.attrs.length c] 33)) [] (by kernel_rfl) trivial ?_
  obtain ⟨w_1, hw_5, hb_2, hk_3, hz_4⟩ := new_world w #[.int .i64 o.kind, .string o.text, .int .i64 o.vk, .int .i64 o.vn, .string o.vt, .int .i64 o.count, .slice A o.attrs.length c] 33
  rw [hw_5]
  refine XL_run 2 [] [(1, .pointer (some ⟨w.heap.size, 0, none⟩))] w_1 [] (by kernel_rfl) trivial ?_
  refine XL_nil ?_
  refine X_seq ?_
  refine X_region ?_
  refine XL_run 1 [(9, .load (.agg #[.int .i64 o.kind, .string o.text, .int .i64 o.vk, .int .i64 o.vn, .string o.vt, .int .i64 o.count, .slice A o.attrs.length c]))] [(9, .agg #[.int .i64 o.kind, .string o.text, .int .i64 o.vk, .int .i64 o.vn, .string o.vt, .int .i64 o.count, .slice A o.attrs.length c])] w_1 [LoadsAs Tryd.prog 33 (⟨w.heap.size, 0, none⟩) (.agg #[.int .i64 o.kind, .string o.text, .int .i64 o.vk, .int .i64 o.vn, .string o.vt, .int .i64 o.count, .slice A o.attrs.length c]) w_1] (by kernel_rfl) ⟨loadsB rfl rfl hk_3 0 ⟨by kernel_rfl, by kernel_rfl⟩, trivial⟩ ?_
  refine XL_call 51 rfl rfl rfl ent51 [.agg #[.int .i64 o.kind, .string o.text, .int .i64 o.vk, .int .i64 o.vn, .string o.vt, .int .i64 o.count, .slice A o.attrs.length c]] (by kernel_rfl) (cof_any o _ _ _ (Kd.C_below hA hb_2) hz (hT.below hb_2) es (hE.i.below hb_2)) ?_
  rintro e w_9 ⟨v_6, rfl, hM_7, hN_8, hb_10⟩; refine ⟨_, rfl, ?_⟩
  refine XL_run 5 [] [(4, v_6), (5, errV es (refuseP o))] w_9 [] (by kernel_rfl) trivial ?_
  refine XL_nil ?_
  refine X_seq ?_
  refine X_seq ?_
  refine X_region ?_
  refine XL_run 1 [] [(4, v_6), (5, errV es (refuseP o)), (13, errV es (refuseP o))] w_9 [] (by kernel_rfl) trivial ?_
  by_cases c_11 : (refuseP o) = 0
  · rw [show errV es (refuseP o) = .nilIface from by rw [c_11]; rfl]
    refine XL_run 1 [] [(4, v_6), (5, .nilIface), (14, .bool false)] w_9 [] (by kernel_rfl) trivial ?_
    refine XL_nil ?_
    refine X_cond false rfl ?_
    refine X_skip ?_
    refine X_seq ?_
    refine X_seq ?_
    refine X_region ?_
    have hp_12 := hM_7 c_11
    rcases refuse_kind c_11 with hk_13 | hk_13
    · rw [pOf_ins hk_13] at hp_12
      obtain ⟨A_14, c_15, e_16, hl_17, hC_18⟩ := kPiece_ins (kPiece.K_of_M hp_12)
      obtain rfl := (List.cons.inj e_16).1
      refine XL_run 6 [] [(6, .pointer (some ⟨w_9.heap.size, 0, none⟩)), (19, .agg #[.slice A_14 o.attrs.length c_15, .string o.text, .int .i64 ((U.sc o.text).length : Int)]), (20, .bool true)] (w_9.alloc (.cells #[.slice none 0 0, .string ByteArray.empty, .int .i64 0] 51)) [] (by kernel_rfl) trivial ?_
      obtain ⟨w_19, hw_23, hb_20, hk_21, hz_22⟩ := new_world w_9 #[.slice none 0 0, .string ByteArray.empty, .int .i64 0] 51
      rw [hw_23]
      refine XL_store (v := .agg #[.slice A_14 o.attrs.length c_15, .string o.text, .int .i64 ((U.sc o.text).length : Int)]) rfl rfl rfl (by kernel_rfl) hk_21 0 [.slice A_14 o.attrs.length c_15, .string o.text, .int .i64 ((U.sc o.text).length : Int)] #[.slice A_14 o.attrs.length c_15, .string o.text, .int .i64 ((U.sc o.text).length : Int)] ⟨by kernel_rfl, rfl, by kernel_rfl⟩ ⟨by kernel_rfl, by kernel_rfl⟩ (Nat.le_of_ble_eq_true (by kernel_rfl)) (fun w_24 hg_25 hk_26 hz_27 => ?_)
      refine XL_run 1 [] [(6, .pointer (some ⟨w_9.heap.size, 0, none⟩)), (7, .bool true)] w_24 [] (by kernel_rfl) trivial ?_
      refine XL_nil ?_
      refine X_seq ?_
      refine X_region ?_
      refine XL_run 1 [] [(6, .pointer (some ⟨w_9.heap.size, 0, none⟩)), (21, .bool true)] w_24 [] (by kernel_rfl) trivial ?_
      refine XL_nil ?_
      refine X_cond true rfl ?_
      refine X_seq ?_
      refine X_region ?_
      refine XL_run 2 [(23, .load (.string o.text))] [(23, .string o.text)] w_24 [LoadsAs Tryd.prog 9 (⟨w_9.heap.size, 1, none⟩) (.string o.text) w_24] (by kernel_rfl) ⟨loads1 rfl (Blk.cell hk_26 1 _ rfl), trivial⟩ ?_
      refine XL_call 98 rfl rfl rfl ent98 [.string o.text, .string (⟨#[10]⟩ : ByteArray)] (by kernel_rfl) (Tryd.strings_Count_one o.text 10 _) ?_
      rintro e w_28 ⟨rfl, hw_29⟩; refine ⟨_, rfl, ?_⟩; rw [hw_29]
      refine XL_run 2 [] [(2, .int .i64 (Lib.countByte o.text.data.toList 10 : Int)), (3, .nilIface)] w_24 [] (by kernel_rfl) trivial ?_
      refine XL_nil ?_
      refine X_ret ?_
      refine RX.ret_ok (P := Tryd.prog) (fn := Tryd.f50) (N := 25) (R := R_) [.int .i64 (Lib.countByte o.text.data.toList 10 : Int), .nilIface] (by kernel_rfl) (hR_ _ _ ?_)
      have hB_30 : Below w.heap.size w w_24 := (bg (bt (bt hb_2 hb_10) hb_20) hg_25 ((bt hb_2 hb_10)).size)
      rw [show nlO o = (Lib.countByte o.text.data.toList 10 : Int) from if_pos ⟨c_11, hk_13⟩, c_11]
      exact ⟨rfl, hB_30⟩
    · rw [pOf_emb hk_13] at hp_12
      obtain ⟨A_31, c_32, e_33, hl_34, hC_35⟩ := kPiece_emb (kPiece.K_of_M hp_12)
      obtain rfl := (List.cons.inj e_33).1
      have hval : o.val = (o.vk, o.vn, o.vt) := rfl
      rw [hval] at hp_12 ⊢
      refine XL_run 6 [] [(6, .pointer (some ⟨w_9.heap.size, 0, none⟩)), (19, .agg #[.slice none 0 0, .string ByteArray.empty, .int .i64 0]), (20, .bool false)] (w_9.alloc (.cells #[.slice none 0 0, .string ByteArray.empty, .int .i64 0] 51)) [] (by kernel_rfl) trivial ?_
      obtain ⟨w_36, hw_40, hb_37, hk_38, hz_39⟩ := new_world w_9 #[.slice none 0 0, .string ByteArray.empty, .int .i64 0] 51
      rw [hw_40]
      refine XL_store (v := .agg #[.slice none 0 0, .string ByteArray.empty, .int .i64 0]) rfl rfl rfl (by kernel_rfl) hk_38 0 [.slice none 0 0, .string ByteArray.empty, .int .i64 0] #[.slice none 0 0, .string ByteArray.empty, .int .i64 0] ⟨by kernel_rfl, rfl, by kernel_rfl⟩ ⟨by kernel_rfl, by kernel_rfl⟩ (Nat.le_of_ble_eq_true (by kernel_rfl)) (fun w_41 hg_42 hk_43 hz_44 => ?_)
      refine XL_run 1 [] [(6, .pointer (some ⟨w_9.heap.size, 0, none⟩)), (7, .bool false)] w_41 [] (by kernel_rfl) trivial ?_
      refine XL_nil ?_
      refine X_seq ?_
      refine X_region ?_
      refine XL_run 1 [] [(6, .pointer (some ⟨w_9.heap.size, 0, none⟩)), (21, .bool false)] w_41 [] (by kernel_rfl) trivial ?_
      refine XL_nil ?_
      refine X_cond false rfl ?_
      refine X_skip ?_
      refine X_seq ?_
      refine X_region ?_
      refine XL_run 2 [] [(2, .int .i64 0), (3, .nilIface)] w_41 [] (by kernel_rfl) trivial ?_
      refine XL_nil ?_
      refine X_ret ?_
      refine RX.ret_ok (P := Tryd.prog) (fn := Tryd.f50) (N := 25) (R := R_) [.int .i64 0, .nilIface] (by kernel_rfl) (hR_ _ _ ?_)
      have hB_45 : Below w.heap.size w w_41 := (bg (bt (bt hb_2 hb_10) hb_37) hg_42 ((bt hb_2 hb_10)).size)
      rw [show nlO o = 0 from if_neg (fun h_ => by have h1_ := h_.2; omega), c_11]
      exact ⟨rfl, hB_45⟩
  · rw [errV_pos es (refuseP o) (Nat.pos_of_ne_zero c_11)]
    refine XL_run 1 [] [(4, v_6), (5, .iface 184 (.pointer (some (errAt es (refuseP o))))), (14, .bool true)] w_9 [] (by kernel_rfl) trivial ?_
    refine XL_nil ?_
    refine X_cond true rfl ?_
    refine X_seq ?_
    refine X_region ?_
    refine XL_run 3 [] [(2, .int .i64 0), (3, .iface 184 (.pointer (some (errAt es (refuseP o)))))] w_9 [] (by kernel_rfl) trivial ?_
    refine XL_nil ?_
    refine X_ret ?_
    refine RX.ret_ok (P := Tryd.prog) (fn := Tryd.f50) (N := 25) (R := R_) [.int .i64 0, .iface 184 (.pointer (some (errAt es (refuseP o))))] (by kernel_rfl) (hR_ _ _ ?_)
    rw [show nlO o = 0 from if_neg (fun h_ => c_11 h_.1), errV_pos es _ (Nat.pos_of_ne_zero c_11)]
    exact ⟨rfl, (bt hb_2 hb_10)⟩
def cellR (at4 : List At) (r : Nat) : CellA := ⟨(r : Int), ByteArray.empty, 0, 0, ByteArray.empty, at4⟩
noncomputable def cellsP (o : OpA) : List CellA := if o.kind = 2 then [⟨-1, o.text, o.vk, o.vn, o.vt, o.attrs⟩] else (U.sc o.text).map (cellR o.attrs)
noncomputable def cellsO (o : OpA) : List CellA := if refuseP o = 0 then cellsP o else []
theorem cellsP_1 {o : OpA} (h : o.kind = 1) : cellsP o = (U.sc o.text).map (cellR o.attrs) := if_neg (by omega)
theorem cellsP_2 {o : OpA} (h : o.kind = 2) : cellsP o = [⟨-1, o.text, o.vk, o.vn, o.vt, o.attrs⟩] := if_pos h
theorem cells_snoc (s : ByteArray) (at4 : List At) (i : Nat) (h : i < (U.sc s).length) : ((U.sc s).take i).map (cellR at4) ++ [cellR at4 ((U.sc s)[i])] = ((U.sc s).take (i + 1)).map (cellR at4) := by
  rw [take_snocD 0 (U.sc s) i h, List.map_append, List.getD_eq_getElem?_getD, List.getElem?_eq_getElem h]; rfl
set_option maxHeartbeats 4000000 in
theorem ccells_any (o : OpA) (A : Option Addr) (c : Nat) (w : World) (hA : kAttr.C w A o.attrs.length o.attrs) (hz : opSz o) (hT : Tabs w) (es : List Addr) (hE : ErrsC w es) : Calls Tryd.prog 49 #[.agg #[.int .i64 o.kind, .string o.text, .int .i64 o.vk, .int .i64 o.vn, .string o.vt, .int .i64 o.count, .slice A o.attrs.length c]] w fun e w' => ∃ A' c', e = .returned (.tuple #[.slice A' (cellsO o).length c', errV es (refuseP o)]) ∧ kCell.R 98 w' w.heap.size (OkFrom w.heap.size) (.slice A' (cellsO o).length c') (cellsO o) ∧ Below w.heap.size w w' := by
  have hz1 := hz.1
  have hz3 := hz.2.2.1
  have hscl := U.sc_le o.text
  refine RX.enter Tryd.func49 rfl 53 rfl [(0, .agg #[.int .i64 o.kind, .string o.text, .int .i64 o.vk, .int .i64 o.vn, .string o.vt, .int .i64 o.count, .slice A o.attrs.length c])] rfl (by kernel_rfl) (fun R_ hR_ => ?_)
  refine X_seq ?_
  refine X_region ?_
  refine XL_run 1 [] [(1, .pointer (some ⟨w.heap.size, 0, none⟩))] (w.alloc (.cells #[.int .i64 o.kind, .string o.text, .int .i64 o.vk, .int .i64 o.vn, .string o.vt, .int .i64 o.count, .slice A o.attrs.length c] 33)) [] (by kernel_rfl) trivial ?_
  obtain ⟨w_1, hw_5, hb_2, hk_3, hz_4⟩ := new_world w #[.int .i64 o.kind, .string o.text, .int .i64 o.vk, .int .i64 o.vn, .string o.vt, .int .i64 o.count, .slice A o.attrs.length c] 33
  rw [hw_5]
  refine XL_run 2 [] [(1, .pointer (some ⟨w.heap.size, 0, none⟩))] w_1 [] (by kernel_rfl) trivial ?_
  refine XL_nil ?_
  refine X_seq ?_
  refine X_region ?_
  refine XL_run 1 [(12, .load (.agg #[.int .i64 o.kind, .string o.text, .int .i64 o.vk, .int .i64 o.vn, .string o.vt, .int .i64 o.count, .slice A o.attrs.length c]))] [(12, .agg #[.int .i64 o.kind, .string o.text, .int .i64 o.vk, .int .i64 o.vn, .string o.vt, .int .i64 o.count, .slice A o.attrs.length c])] w_1 [LoadsAs Tryd.prog 33 (⟨w.heap.size, 0, none⟩) (.agg #[.int .i64 o.kind, .string o.text, .int .i64 o.vk, .int .i64 o.vn, .string o.vt, .int .i64 o.count, .slice A o.attrs.length c]) w_1] (by kernel_rfl) ⟨loadsB rfl rfl hk_3 0 ⟨by kernel_rfl, by kernel_rfl⟩, trivial⟩ ?_
  refine XL_call 51 rfl rfl rfl ent51 [.agg #[.int .i64 o.kind, .string o.text, .int .i64 o.vk, .int .i64 o.vn, .string o.vt, .int .i64 o.count, .slice A o.attrs.length c]] (by kernel_rfl) (cof_any o _ _ _ (Kd.C_below hA hb_2) hz (hT.below hb_2) es (hE.i.below hb_2)) ?_
  rintro e w_9 ⟨v_6, rfl, hM_7, hN_8, hb_10⟩; refine ⟨_, rfl, ?_⟩
  refine XL_run 5 [] [(4, v_6), (5, errV es (refuseP o))] w_9 [] (by kernel_rfl) trivial ?_
  refine XL_nil ?_
  refine X_seq ?_
  refine X_seq ?_
  refine X_region ?_
  refine XL_run 1 [] [(4, v_6), (5, errV es (refuseP o)), (16, errV es (refuseP o))] w_9 [] (by kernel_rfl) trivial ?_
  by_cases c_11 : (refuseP o) = 0
  · rw [show errV es (refuseP o) = .nilIface from by rw [c_11]; rfl]
    refine XL_run 1 [] [(4, v_6), (5, .nilIface), (17, .bool false)] w_9 [] (by kernel_rfl) trivial ?_
    refine XL_nil ?_
    refine X_cond false rfl ?_
    refine X_skip ?_
    refine X_seq ?_
    refine X_region ?_
    have hp_12 := hM_7 c_11
    rcases refuse_kind c_11 with hk_13 | hk_13
    · rw [pOf_ins hk_13] at hp_12
      obtain ⟨A_14, c_15, e_16, hl_17, hC_18⟩ := kPiece_ins (kPiece.K_of_M hp_12)
      obtain rfl := (List.cons.inj e_16).1
      refine XL_run 1 [] [(4, .iface 51 (.agg #[.slice A_14 o.attrs.length c_15, .string o.text, .int .i64 ((U.sc o.text).length : Int)])), (6, .slice none 0 0)] w_9 [] (by kernel_rfl) trivial ?_
      refine XL_nil ?_
      refine X_seq ?_
      refine X_seq ?_
      refine X_region ?_
      refine XL_run 1 [] [(6, .slice none 0 0), (19, .iface 51 (.agg #[.slice A_14 o.attrs.length c_15, .string o.text, .int .i64 ((U.sc o.text).length : Int)]))] w_9 [] (by kernel_rfl) trivial ?_
      refine XL_nil ?_
      refine X_block ?_
      refine X_seq ?_
      refine X_region ?_
      refine XL_run 3 [] [(6, .slice none 0 0), (19, .iface 51 (.agg #[.slice A_14 o.attrs.length c_15, .string o.text, .int .i64 ((U.sc o.text).length : Int)])), (21, .bool true), (22, .agg #[.slice A_14 o.attrs.length c_15, .string o.text, .int .i64 ((U.sc o.text).length : Int)])] w_9 [] (by kernel_rfl) trivial ?_
      refine XL_nil ?_
      refine X_cond true rfl ?_
      refine X_seq ?_
      refine X_region ?_
      refine XL_run 1 [] [(6, .slice none 0 0), (7, .pointer (some ⟨w_9.heap.size, 0, none⟩)), (22, .agg #[.slice A_14 o.attrs.length c_15, .string o.text, .int .i64 ((U.sc o.text).length : Int)])] (w_9.alloc (.cells #[.slice none 0 0, .string ByteArray.empty, .int .i64 0] 51)) [] (by kernel_rfl) trivial ?_
      obtain ⟨w_19, hw_23, hb_20, hk_21, hz_22⟩ := new_world w_9 #[.slice none 0 0, .string ByteArray.empty, .int .i64 0] 51
      rw [hw_23]
      refine XL_store (v := .agg #[.slice A_14 o.attrs.length c_15, .string o.text, .int .i64 ((U.sc o.text).length : Int)]) rfl rfl rfl (by kernel_rfl) hk_21 0 [.slice A_14 o.attrs.length c_15, .string o.text, .int .i64 ((U.sc o.text).length : Int)] #[.slice A_14 o.attrs.length c_15, .string o.text, .int .i64 ((U.sc o.text).length : Int)] ⟨by kernel_rfl, rfl, by kernel_rfl⟩ ⟨by kernel_rfl, by kernel_rfl⟩ (Nat.le_of_ble_eq_true (by kernel_rfl)) (fun w_24 hg_25 hk_26 hz_27 => ?_)
      refine XL_nil ?_
      refine X_seq ?_
      refine X_region ?_
      refine XL_run 2 [(24, .load (.string o.text))] [(6, .slice none 0 0), (7, .pointer (some ⟨w_9.heap.size, 0, none⟩)), (24, .string o.text)] w_24 [LoadsAs Tryd.prog 9 (⟨w_9.heap.size, 1, none⟩) (.string o.text) w_24] (by kernel_rfl) ⟨loads1 rfl (Blk.cell hk_26 1 _ rfl), trivial⟩ ?_
      refine XL_range (s := o.text) rfl rfl rfl Tryd.underlying9 rfl (fun w_28 hb_29 hi_30 => ?_)
      refine XL_nil ?_
      refine X_block ?_
      refine X_loop (ι := Nat × Option Addr × Nat × List CellA) (fun ⟨i, A6, c6, zs6⟩ => [(6, .slice A6 zs6.length c6), (7, .pointer (some ⟨w_9.heap.size, 0, none⟩)), (25, .pointer (some ⟨w_24.heap.size, 0, none⟩))]) (fun ⟨i, A6, c6, zs6⟩ wl => i ≤ (U.sc o.text).length ∧ wl.heap[w_24.heap.size]? = some (.stringIter o.text (U.pl o.text i)) ∧ zs6 = ((U.sc o.text).take i).map (cellR o.attrs) ∧ kCell.R 98 wl w_24.heap.size (OkFrom w_24.heap.size) (.slice A6 zs6.length c6) zs6 ∧ Below w_24.heap.size w_24 wl) (fun ⟨i, A6, c6, zs6⟩ => (U.sc o.text).length - i) (0, none, 0, []) ⟨by omega, by rw [U.pl_zero]; exact hi_30, rfl, Kd.R_nil _ _ _ _ _, hb_29⟩ (by kernel_rfl) ?_
      rintro ⟨i, A6, c6, zs6⟩ wl ⟨hi, hit, he6, hr6, HB⟩
      have hzl : zs6.length = min i (U.sc o.text).length := by rw [he6, List.length_map, List.length_take]
      refine X_seq ?_
      refine X_region ?_
      refine XL_next (s := o.text) (g := w_24.heap.size) (pos := (U.pl o.text i)) rfl rfl rfl rfl hit ?_ ?_
      · intro hp_31 w_32 hg_33 hi_34
        have hr_35 := Kd.R_iter hr6 hit hg_33
        refine XL_run 1 [] [(6, .slice A6 zs6.length c6), (7, .pointer (some ⟨w_9.heap.size, 0, none⟩)), (25, .pointer (some ⟨w_24.heap.size, 0, none⟩)), (26, .tuple #[.bool true, .int .i64 ((U.pl o.text i) : Int), .int .i32 ((Utf8.decode o.text (U.pl o.text i)).1 : Int)]), (27, .bool true)] w_32 [] (by kernel_rfl) trivial ?_
        refine XL_nil ?_
        refine X_seq ?_
        refine X_cond true rfl ?_
        refine X_skip ?_
        refine X_block ?_
        refine X_seq ?_
        refine X_region ?_
        have hlt := (U.pl_lt_iff (refuse_utf c_11).1 i hi).1 hp_31
        have hst := U.pl_step (refuse_utf c_11).1 i hlt
        have hdr : ((Utf8.decode o.text (U.pl o.text i)).1 : Int) = (((U.sc o.text)[i] : Nat) : Int) := by rw [hst.1]
        refine XL_run 2 [] [(6, .slice A6 zs6.length c6), (7, .pointer (some ⟨w_9.heap.size, 0, none⟩)), (9, .int .i32 ((Utf8.decode o.text (U.pl o.text i)).1 : Int)), (25, .pointer (some ⟨w_24.heap.size, 0, none⟩))] w_32 [] (by kernel_rfl) trivial ?_
        refine XL_nil ?_
        refine X_region ?_
        refine XL_run 4 [(32, .load (.agg #[.slice A_14 o.attrs.length c_15]))] [(7, .pointer (some ⟨w_9.heap.size, 0, none⟩)), (25, .pointer (some ⟨w_24.heap.size, 0, none⟩)), (29, .slice A6 zs6.length c6), (30, .int .i32 ((Utf8.decode o.text (U.pl o.text i)).1 : Int)), (32, .agg #[.slice A_14 o.attrs.length c_15])] w_32 [LoadsAs Tryd.prog 49 (⟨w_9.heap.size, 0, none⟩) (.agg #[.slice A_14 o.attrs.length c_15]) w_32] (by kernel_rfl) ⟨loadsB rfl rfl (Blk.below hk_26 (bg HB hg_33 (Nat.le_refl _))) 0 ⟨by kernel_rfl, by kernel_rfl⟩, trivial⟩ ?_
        have hB_36 : Below w_9.heap.size w_9 w_32 := (bg (bt (bg hb_20 hg_25 (Nat.le_refl _)) HB) hg_33 ((bg hb_20 hg_25 (Nat.le_refl _))).size)
        refine XL_call 97 rfl rfl rfl ent97 [.agg #[.slice A_14 o.attrs.length c_15]] (by kernel_rfl) (attributes_any _ _ o.attrs _ (Kd.C_below hC_18 hB_36) (by omega)) ?_
        rintro e w_39 ⟨A_37, c_38, rfl, hl_41, hr_42, hb_40⟩; refine ⟨_, rfl, ?_⟩
        refine XL_run 2 [] [(7, .pointer (some ⟨w_9.heap.size, 0, none⟩)), (25, .pointer (some ⟨w_24.heap.size, 0, none⟩)), (29, .slice A6 zs6.length c6), (35, .slice (some ⟨w_39.heap.size, 0, none⟩) 1 1)] (w_39.alloc (.cells #[.int .i32 ((Utf8.decode o.text (U.pl o.text i)).1 : Int), .string ByteArray.empty, .int .i64 0, .int .i64 0, .string ByteArray.empty, .slice A_37 o.attrs.length c_38] 98)) [] (by kernel_rfl) trivial ?_
        obtain ⟨w_43, hw_47, hb_44, hk_45, hz_46⟩ := new_world w_39 #[.int .i32 ((Utf8.decode o.text (U.pl o.text i)).1 : Int), .string ByteArray.empty, .int .i64 0, .int .i64 0, .string ByteArray.empty, .slice A_37 o.attrs.length c_38] 98
        rw [hw_47]
        obtain ⟨okp_48, hM_49, hok_50⟩ := Kd.M_rowApart hr_42 ((bg HB hg_33 (Nat.le_refl _))).size (Kd.R_below hr_35 hb_40) (by decide)
        rw [← hw_47]
        refine XL_append kCell rfl rfl rfl w_24.heap.size 98 (.agg #[.int .i32 0, .string ByteArray.empty, .int .i64 0, .int .i64 0, .string ByteArray.empty, .slice none 0 0]) 80 Tryd.underlying90 info98 rfl (by decide) (by omega) zs6 (⟨((Utf8.decode o.text (U.pl o.text i)).1 : Int), ByteArray.empty, 0, 0, ByteArray.empty, o.attrs⟩ : CellA) [.int .i32 ((Utf8.decode o.text (U.pl o.text i)).1 : Int), .string ByteArray.empty, .int .i64 0, .int .i64 0, .string ByteArray.empty, .slice A_37 o.attrs.length c_38] okp_48 (by kernel_rfl) (kCell_M (x := (⟨((Utf8.decode o.text (U.pl o.text i)).1 : Int), ByteArray.empty, 0, 0, ByteArray.empty, o.attrs⟩ : CellA)) hM_49) hok_50 (Kd.R_below hr_35 hb_40) ((bt (bg HB hg_33 (Nat.le_refl _)) hb_40)).size (by first | omega | (simp; omega)) ?_
        intro A_51 c_52 w_53 hr_54 hc_55 hg_56 hl_57 ha_58
        have hr_59 := Kd.R_apart hr_42 (Kd.R_below hr_35 hb_40) (by decide) hg_56
        have hi_60 := Kd.iter_kept ((hb_40.block _ (Array.getElem?_eq_some_iff.1 hi_34).1).trans hi_34) (Kd.R_below hr_35 hb_40) hg_56
        refine XL_run 1 [] [(6, .slice A_51 ((zs6 ++ [(⟨((Utf8.decode o.text (U.pl o.text i)).1 : Int), ByteArray.empty, 0, 0, ByteArray.empty, o.attrs⟩ : CellA)]).length) c_52), (7, .pointer (some ⟨w_9.heap.size, 0, none⟩)), (25, .pointer (some ⟨w_24.heap.size, 0, none⟩))] w_53 [] (by kernel_rfl) trivial ?_
        refine XL_nil ?_
        have hB_61 : Below w_24.heap.size w_24 w_53 := (bgo (bt (bg HB hg_33 (Nat.le_refl _)) hb_40) hg_56 hl_57 (Nat.le_refl _))
        refine ⟨(i + 1, A_51, c_52, (zs6 ++ [(⟨((Utf8.decode o.text (U.pl o.text i)).1 : Int), ByteArray.empty, 0, 0, ByteArray.empty, o.attrs⟩ : CellA)])), by kernel_rfl, ?_, ?_⟩
        · have hdc : (Utf8.decode o.text (U.pl o.text i)).2 = (U.enc (U.sc o.text)[i]).length := by rw [hst.1]
          rw [hdc, ← hst.2.1] at hi_60
          exact ⟨by omega, hi_60, by rw [hdr, he6]; exact cells_snoc o.text o.attrs i hlt, hr_54, hB_61⟩
        · (try dsimp only); omega
      · intro hp_62
        refine XL_run 1 [] [(6, .slice A6 zs6.length c6), (7, .pointer (some ⟨w_9.heap.size, 0, none⟩)), (25, .pointer (some ⟨w_24.heap.size, 0, none⟩)), (26, .tuple #[.bool false]), (27, .bool false)] wl [] (by kernel_rfl) trivial ?_
        refine XL_nil ?_
        refine X_seq ?_
        refine X_cond false rfl ?_
        refine X_exit ?_
        refine X_seq ?_
        refine X_region ?_
        refine XL_run 3 [] [(2, .slice A6 zs6.length c6), (3, .nilIface)] wl [] (by kernel_rfl) trivial ?_
        refine XL_nil ?_
        refine X_ret ?_
        refine RX.ret_ok (P := Tryd.prog) (fn := Tryd.f49) (N := 53) (R := R_) [.slice A6 zs6.length c6, .nilIface] (by kernel_rfl) (hR_ _ _ ?_)
        have hB_63 : Below w.heap.size w w_24 := (bg (bt (bt hb_2 hb_10) hb_20) hg_25 ((bt hb_2 hb_10)).size)
        have hend : i = (U.sc o.text).length := by have := mt (U.pl_lt_iff (refuse_utf c_11).1 i hi).2 hp_62; omega
        rw [hend, List.take_length] at he6
        rw [show cellsO o = zs6 from by rw [he6, ← cellsP_1 hk_13]; exact if_pos c_11, c_11]
        exact ⟨_, _, rfl, Kd.R_low hr6 (hB_63).size, (bt hB_63 HB)⟩
    · rw [pOf_emb hk_13] at hp_12
      obtain ⟨A_64, c_65, e_66, hl_67, hC_68⟩ := kPiece_emb (kPiece.K_of_M hp_12)
      obtain rfl := (List.cons.inj e_66).1
      have hval : o.val = (o.vk, o.vn, o.vt) := rfl
      rw [hval] at hp_12 ⊢
      refine XL_run 1 [] [(4, .iface 56 (.agg #[.slice A_64 o.attrs.length c_65, .string o.text, valV (o.vk, o.vn, o.vt)])), (6, .slice none 0 0)] w_9 [] (by kernel_rfl) trivial ?_
      refine XL_nil ?_
      refine X_seq ?_
      refine X_seq ?_
      refine X_region ?_
      refine XL_run 1 [] [(6, .slice none 0 0), (19, .iface 56 (.agg #[.slice A_64 o.attrs.length c_65, .string o.text, valV (o.vk, o.vn, o.vt)]))] w_9 [] (by kernel_rfl) trivial ?_
      refine XL_nil ?_
      refine X_block ?_
      refine X_seq ?_
      refine X_region ?_
      refine XL_run 3 [] [(6, .slice none 0 0), (19, .iface 56 (.agg #[.slice A_64 o.attrs.length c_65, .string o.text, valV (o.vk, o.vn, o.vt)])), (21, .bool false), (22, .agg #[.slice none 0 0, .string ByteArray.empty, .int .i64 0])] w_9 [] (by kernel_rfl) trivial ?_
      refine XL_nil ?_
      refine X_cond false rfl ?_
      refine X_seq ?_
      refine X_region ?_
      by_cases c_69 : o.vk = 1
      · rw [valV_1 (v := (o.vk, o.vn, o.vt)) c_69]
        refine XL_run 3 [] [(6, .slice none 0 0), (38, .bool true), (39, .agg #[.slice A_64 o.attrs.length c_65, .string o.text, .iface 133 (.bool (decide (o.vn = 1)))])] w_9 [] (by kernel_rfl) trivial ?_
        refine XL_nil ?_
        refine X_cond true rfl ?_
        refine X_seq ?_
        refine X_region ?_
        refine XL_run 1 [] [(6, .slice none 0 0), (10, .pointer (some ⟨w_9.heap.size, 0, none⟩)), (39, .agg #[.slice A_64 o.attrs.length c_65, .string o.text, .iface 133 (.bool (decide (o.vn = 1)))])] (w_9.alloc (.cells #[.slice none 0 0, .string ByteArray.empty, .nilIface] 56)) [] (by kernel_rfl) trivial ?_
        obtain ⟨w_70, hw_74, hb_71, hk_72, hz_73⟩ := new_world w_9 #[.slice none 0 0, .string ByteArray.empty, .nilIface] 56
        rw [hw_74]
        refine XL_store (v := .agg #[.slice A_64 o.attrs.length c_65, .string o.text, .iface 133 (.bool (decide (o.vn = 1)))]) rfl rfl rfl (by kernel_rfl) hk_72 0 [.slice A_64 o.attrs.length c_65, .string o.text, .iface 133 (.bool (decide (o.vn = 1)))] #[.slice A_64 o.attrs.length c_65, .string o.text, .iface 133 (.bool (decide (o.vn = 1)))] ⟨by kernel_rfl, rfl, by kernel_rfl⟩ ⟨by kernel_rfl, by kernel_rfl⟩ (Nat.le_of_ble_eq_true (by kernel_rfl)) (fun w_75 hg_76 hk_77 hz_78 => ?_)
        refine XL_nil ?_
        refine X_grow [] 13 #[false, false, false, false, false, false, false, false, false, false, false, false, false] (by kernel_rfl) (by kernel_rfl) (by kernel_rfl) (fun wd_79 hb_80 hh_81 => ?_)
        refine XB_run (fuel' := 6) (Below.refl _ _) [0, 1, 2, 3, 4, 6, 7] [(42, .load (.string o.text)), (44, .load (.iface 133 (.bool (decide (o.vn = 1))))), (47, .load (.agg #[.slice A_64 o.attrs.length c_65]))] [.slice none 0 0, .pointer (some ⟨w_9.heap.size, 1, none⟩), .string o.text, .pointer (some ⟨w_9.heap.size, 2, none⟩), .iface 133 (.bool (decide (o.vn = 1))), .pointer (some ⟨w_9.heap.size, 0, none⟩), .agg #[.slice A_64 o.attrs.length c_65]] #[true, true, true, true, true, false, true, true, false, false, false, false, false] [(40, .slice none 0 0), (42, .string o.text), (44, .iface 133 (.bool (decide (o.vn = 1)))), (47, .agg #[.slice A_64 o.attrs.length c_65])] (fun w_ => [LoadsAs Tryd.prog 9 (⟨w_9.heap.size, 1, none⟩) (.string o.text) w_, LoadsAs Tryd.prog 54 (⟨w_9.heap.size, 2, none⟩) (.iface 133 (.bool (decide (o.vn = 1)))) w_, LoadsAs Tryd.prog 49 (⟨w_9.heap.size, 0, none⟩) (.agg #[.slice A_64 o.attrs.length c_65]) w_]) (fun _ _ _ _ h => h) (fun w_ => by kernel_rfl) rfl (fun w_ hC_ => ⟨loads1 rfl (Blk.cell (Blk.below hk_77 (bt hb_80 hC_)) 1 _ rfl), loads1 rfl (Blk.cell (Blk.below hk_77 (bt hb_80 hC_)) 2 _ rfl), loadsB rfl rfl (Blk.below hk_77 (bt hb_80 hC_)) 0 ⟨by kernel_rfl, by kernel_rfl⟩, trivial⟩) ?_
        refine XB_mid (fuel' := 5) 5 #[true, true, true, true, true, true, true, true, false, false, false, false, false] _ rfl (by kernel_rfl) (by kernel_rfl) rfl ?_
        refine XL_inv 174 #[.bool (decide (o.vn = 1))] rfl rfl (by kernel_rfl) (by kernel_rfl) (flagPlain_any o.vk o.vn o.vt _ (refuse_val c_11 hk_13) c_69) ?_
        rintro e w_82 ⟨rfl, hb_83⟩; refine ⟨_, rfl, ?_⟩
        refine XL_nil ?_
        refine ⟨hb_83, ?_⟩
        refine XB_mid (fuel' := 4) 8 #[true, true, true, true, true, true, true, true, true, false, false, false, false] _ rfl (by kernel_rfl) (by kernel_rfl) rfl ?_
        have hB_84 : Below w_9.heap.size w_9 w_82 := (bt (bt (bg hb_71 hg_76 (Nat.le_refl _)) hb_80) hb_83)
        refine XL_call 97 rfl rfl rfl ent97 [.agg #[.slice A_64 o.attrs.length c_65]] (by kernel_rfl) (attributes_any _ _ o.attrs _ (Kd.C_below hC_68 hB_84) (by omega)) ?_
        rintro e w_87 ⟨A_85, c_86, rfl, hl_89, hr_90, hb_88⟩; refine ⟨_, rfl, ?_⟩
        refine XL_nil ?_
        refine ⟨(bt hb_83 hb_88), ?_⟩
        refine XB_run (fuel' := 3) (bt hb_83 hb_88) [9] [] [.agg #[.int .i32 (-1), .string o.text, .int .i64 o.vk, .int .i64 o.vn, .string o.vt, .slice A_85 o.attrs.length c_86]] #[true, true, true, true, true, true, true, true, true, true, false, false, false] [(40, .slice none 0 0), (49, .agg #[.int .i32 (-1), .string o.text, .int .i64 o.vk, .int .i64 o.vn, .string o.vt, .slice A_85 o.attrs.length c_86])] (fun w_ => []) (fun _ _ _ _ h => h) (fun w_ => by kernel_rfl) rfl (fun w_ hC_ => trivial) ?_
        refine XB_mid (fuel' := 2) 10 #[true, true, true, true, true, true, true, true, true, true, true, false, false] _ rfl (by kernel_rfl) (by kernel_rfl) rfl ?_
        refine XL_run 1 [] [(40, .slice none 0 0), (50, .slice (some ⟨w_87.heap.size, 0, none⟩) 1 1)] (w_87.alloc (.cells #[.int .i32 (-1), .string o.text, .int .i64 o.vk, .int .i64 o.vn, .string o.vt, .slice A_85 o.attrs.length c_86] 98)) [] (by kernel_rfl) trivial ?_
        obtain ⟨w_91, hw_95, hb_92, hk_93, hz_94⟩ := new_world w_87 #[.int .i32 (-1), .string o.text, .int .i64 o.vk, .int .i64 o.vn, .string o.vt, .slice A_85 o.attrs.length c_86] 98
        rw [hw_95]
        refine XL_nil ?_
        refine ⟨(bt (bt hb_83 hb_88) hb_92), ?_⟩
        refine XB_mid (fuel' := 1) 11 #[true, true, true, true, true, true, true, true, true, true, true, true, false] _ rfl (by kernel_rfl) (by kernel_rfl) rfl ?_
        obtain ⟨okp_96, hM_97, hok_98⟩ := Kd.M_rowApart hr_90 (hb_83).size (Kd.R_nil kCell 98 _ wd_79.heap.size (OkFrom wd_79.heap.size)) (by decide)
        rw [← hw_95]
        refine XL_append kCell rfl rfl rfl wd_79.heap.size 98 (.agg #[.int .i32 0, .string ByteArray.empty, .int .i64 0, .int .i64 0, .string ByteArray.empty, .slice none 0 0]) 80 Tryd.underlying90 info98 rfl (by decide) (by omega) ([]) (⟨(-1), o.text, o.vk, o.vn, o.vt, o.attrs⟩ : CellA) [.int .i32 (-1), .string o.text, .int .i64 o.vk, .int .i64 o.vn, .string o.vt, .slice A_85 o.attrs.length c_86] okp_96 (by kernel_rfl) (kCell_M (x := (⟨(-1), o.text, o.vk, o.vn, o.vt, o.attrs⟩ : CellA)) hM_97) hok_98 (Kd.R_nil kCell 98 _ wd_79.heap.size (OkFrom wd_79.heap.size)) ((bt hb_83 hb_88)).size (by decide) ?_
        intro A_99 c_100 w_101 hr_102 hc_103 hg_104 hl_105 ha_106
        have hr_107 := Kd.R_apart hr_90 (Kd.R_nil kCell 98 _ wd_79.heap.size (OkFrom wd_79.heap.size)) (by decide) hg_104
        have he_108 : ([] ++ [(⟨(-1), o.text, o.vk, o.vn, o.vt, o.attrs⟩ : CellA)]) = [(⟨-1, o.text, o.vk, o.vn, o.vt, o.attrs⟩ : CellA)] := rfl
        rw [he_108] at hr_102 ⊢
        refine XL_nil ?_
        have hB_109 : Below wd_79.heap.size wd_79 w_101 := (bgo (bt hb_83 hb_88) hg_104 hl_105 (Nat.le_refl _))
        refine ⟨hB_109, ?_⟩
        refine XB_run (fuel' := 0) hB_109 [12] [] [.slice A_99 ([(⟨-1, o.text, o.vk, o.vn, o.vt, o.attrs⟩ : CellA)].length) c_100] #[true, true, true, true, true, true, true, true, true, true, true, true, true] [(6, .slice A_99 ([(⟨-1, o.text, o.vk, o.vn, o.vt, o.attrs⟩ : CellA)].length) c_100)] (fun w_ => []) (fun _ _ _ _ h => h) (fun w_ => by kernel_rfl) rfl (fun w_ hC_ => trivial) ?_
        refine XB_done (by kernel_rfl) ?_
        refine X_seq ?_
        refine X_region ?_
        refine XL_run 3 [] [(2, .slice A_99 ([(⟨-1, o.text, o.vk, o.vn, o.vt, o.attrs⟩ : CellA)].length) c_100), (3, .nilIface)] w_101 [] (by kernel_rfl) trivial ?_
        refine XL_nil ?_
        refine X_ret ?_
        refine RX.ret_ok (P := Tryd.prog) (fn := Tryd.f49) (N := 53) (R := R_) [.slice A_99 ([(⟨-1, o.text, o.vk, o.vn, o.vt, o.attrs⟩ : CellA)].length) c_100, .nilIface] (by kernel_rfl) (hR_ _ _ ?_)
        have hB_110 : Below w.heap.size w wd_79 := (bt (bg (bt (bt hb_2 hb_10) hb_71) hg_76 ((bt hb_2 hb_10)).size) hb_80)
        have hB_111 : Below w.heap.size w w_101 := (bgo (bt (bt hB_110 hb_83) hb_88) hg_104 hl_105 (hB_110).size)
        rw [show cellsO o = [(⟨-1, o.text, o.vk, o.vn, o.vt, o.attrs⟩ : CellA)] from by rw [show ([(⟨-1, o.text, o.vk, o.vn, o.vt, o.attrs⟩ : CellA)] : List CellA) = cellsP o from (cellsP_2 hk_13).symm]; exact if_pos c_11, c_11]
        exact ⟨_, _, rfl, Kd.R_low hr_102 (hB_110).size, hB_111⟩
      · by_cases c_112 : o.vk = 2
        · rw [valV_2 (v := (o.vk, o.vn, o.vt)) c_69 c_112]
          refine XL_run 3 [] [(6, .slice none 0 0), (38, .bool true), (39, .agg #[.slice A_64 o.attrs.length c_65, .string o.text, .iface 134 (.int .i64 o.vn)])] w_9 [] (by kernel_rfl) trivial ?_
          refine XL_nil ?_
          refine X_cond true rfl ?_
          refine X_seq ?_
          refine X_region ?_
          refine XL_run 1 [] [(6, .slice none 0 0), (10, .pointer (some ⟨w_9.heap.size, 0, none⟩)), (39, .agg #[.slice A_64 o.attrs.length c_65, .string o.text, .iface 134 (.int .i64 o.vn)])] (w_9.alloc (.cells #[.slice none 0 0, .string ByteArray.empty, .nilIface] 56)) [] (by kernel_rfl) trivial ?_
          obtain ⟨w_113, hw_117, hb_114, hk_115, hz_116⟩ := new_world w_9 #[.slice none 0 0, .string ByteArray.empty, .nilIface] 56
          rw [hw_117]
          refine XL_store (v := .agg #[.slice A_64 o.attrs.length c_65, .string o.text, .iface 134 (.int .i64 o.vn)]) rfl rfl rfl (by kernel_rfl) hk_115 0 [.slice A_64 o.attrs.length c_65, .string o.text, .iface 134 (.int .i64 o.vn)] #[.slice A_64 o.attrs.length c_65, .string o.text, .iface 134 (.int .i64 o.vn)] ⟨by kernel_rfl, rfl, by kernel_rfl⟩ ⟨by kernel_rfl, by kernel_rfl⟩ (Nat.le_of_ble_eq_true (by kernel_rfl)) (fun w_118 hg_119 hk_120 hz_121 => ?_)
          refine XL_nil ?_
          refine X_grow [] 13 #[false, false, false, false, false, false, false, false, false, false, false, false, false] (by kernel_rfl) (by kernel_rfl) (by kernel_rfl) (fun wd_122 hb_123 hh_124 => ?_)
          refine XB_run (fuel' := 6) (Below.refl _ _) [0, 1, 2, 3, 4, 6, 7] [(42, .load (.string o.text)), (44, .load (.iface 134 (.int .i64 o.vn))), (47, .load (.agg #[.slice A_64 o.attrs.length c_65]))] [.slice none 0 0, .pointer (some ⟨w_9.heap.size, 1, none⟩), .string o.text, .pointer (some ⟨w_9.heap.size, 2, none⟩), .iface 134 (.int .i64 o.vn), .pointer (some ⟨w_9.heap.size, 0, none⟩), .agg #[.slice A_64 o.attrs.length c_65]] #[true, true, true, true, true, false, true, true, false, false, false, false, false] [(40, .slice none 0 0), (42, .string o.text), (44, .iface 134 (.int .i64 o.vn)), (47, .agg #[.slice A_64 o.attrs.length c_65])] (fun w_ => [LoadsAs Tryd.prog 9 (⟨w_9.heap.size, 1, none⟩) (.string o.text) w_, LoadsAs Tryd.prog 54 (⟨w_9.heap.size, 2, none⟩) (.iface 134 (.int .i64 o.vn)) w_, LoadsAs Tryd.prog 49 (⟨w_9.heap.size, 0, none⟩) (.agg #[.slice A_64 o.attrs.length c_65]) w_]) (fun _ _ _ _ h => h) (fun w_ => by kernel_rfl) rfl (fun w_ hC_ => ⟨loads1 rfl (Blk.cell (Blk.below hk_120 (bt hb_123 hC_)) 1 _ rfl), loads1 rfl (Blk.cell (Blk.below hk_120 (bt hb_123 hC_)) 2 _ rfl), loadsB rfl rfl (Blk.below hk_120 (bt hb_123 hC_)) 0 ⟨by kernel_rfl, by kernel_rfl⟩, trivial⟩) ?_
          refine XB_mid (fuel' := 5) 5 #[true, true, true, true, true, true, true, true, false, false, false, false, false] _ rfl (by kernel_rfl) (by kernel_rfl) rfl ?_
          refine XL_inv 176 #[.int .i64 o.vn] rfl rfl (by kernel_rfl) (by kernel_rfl) (numberPlain_any o.vk o.vn o.vt _ (refuse_val c_11 hk_13) c_112) ?_
          rintro e w_125 ⟨rfl, hb_126⟩; refine ⟨_, rfl, ?_⟩
          refine XL_nil ?_
          refine ⟨hb_126, ?_⟩
          refine XB_mid (fuel' := 4) 8 #[true, true, true, true, true, true, true, true, true, false, false, false, false] _ rfl (by kernel_rfl) (by kernel_rfl) rfl ?_
          have hB_127 : Below w_9.heap.size w_9 w_125 := (bt (bt (bg hb_114 hg_119 (Nat.le_refl _)) hb_123) hb_126)
          refine XL_call 97 rfl rfl rfl ent97 [.agg #[.slice A_64 o.attrs.length c_65]] (by kernel_rfl) (attributes_any _ _ o.attrs _ (Kd.C_below hC_68 hB_127) (by omega)) ?_
          rintro e w_130 ⟨A_128, c_129, rfl, hl_132, hr_133, hb_131⟩; refine ⟨_, rfl, ?_⟩
          refine XL_nil ?_
          refine ⟨(bt hb_126 hb_131), ?_⟩
          refine XB_run (fuel' := 3) (bt hb_126 hb_131) [9] [] [.agg #[.int .i32 (-1), .string o.text, .int .i64 o.vk, .int .i64 o.vn, .string o.vt, .slice A_128 o.attrs.length c_129]] #[true, true, true, true, true, true, true, true, true, true, false, false, false] [(40, .slice none 0 0), (49, .agg #[.int .i32 (-1), .string o.text, .int .i64 o.vk, .int .i64 o.vn, .string o.vt, .slice A_128 o.attrs.length c_129])] (fun w_ => []) (fun _ _ _ _ h => h) (fun w_ => by kernel_rfl) rfl (fun w_ hC_ => trivial) ?_
          refine XB_mid (fuel' := 2) 10 #[true, true, true, true, true, true, true, true, true, true, true, false, false] _ rfl (by kernel_rfl) (by kernel_rfl) rfl ?_
          refine XL_run 1 [] [(40, .slice none 0 0), (50, .slice (some ⟨w_130.heap.size, 0, none⟩) 1 1)] (w_130.alloc (.cells #[.int .i32 (-1), .string o.text, .int .i64 o.vk, .int .i64 o.vn, .string o.vt, .slice A_128 o.attrs.length c_129] 98)) [] (by kernel_rfl) trivial ?_
          obtain ⟨w_134, hw_138, hb_135, hk_136, hz_137⟩ := new_world w_130 #[.int .i32 (-1), .string o.text, .int .i64 o.vk, .int .i64 o.vn, .string o.vt, .slice A_128 o.attrs.length c_129] 98
          rw [hw_138]
          refine XL_nil ?_
          refine ⟨(bt (bt hb_126 hb_131) hb_135), ?_⟩
          refine XB_mid (fuel' := 1) 11 #[true, true, true, true, true, true, true, true, true, true, true, true, false] _ rfl (by kernel_rfl) (by kernel_rfl) rfl ?_
          obtain ⟨okp_139, hM_140, hok_141⟩ := Kd.M_rowApart hr_133 (hb_126).size (Kd.R_nil kCell 98 _ wd_122.heap.size (OkFrom wd_122.heap.size)) (by decide)
          rw [← hw_138]
          refine XL_append kCell rfl rfl rfl wd_122.heap.size 98 (.agg #[.int .i32 0, .string ByteArray.empty, .int .i64 0, .int .i64 0, .string ByteArray.empty, .slice none 0 0]) 80 Tryd.underlying90 info98 rfl (by decide) (by omega) ([]) (⟨(-1), o.text, o.vk, o.vn, o.vt, o.attrs⟩ : CellA) [.int .i32 (-1), .string o.text, .int .i64 o.vk, .int .i64 o.vn, .string o.vt, .slice A_128 o.attrs.length c_129] okp_139 (by kernel_rfl) (kCell_M (x := (⟨(-1), o.text, o.vk, o.vn, o.vt, o.attrs⟩ : CellA)) hM_140) hok_141 (Kd.R_nil kCell 98 _ wd_122.heap.size (OkFrom wd_122.heap.size)) ((bt hb_126 hb_131)).size (by decide) ?_
          intro A_142 c_143 w_144 hr_145 hc_146 hg_147 hl_148 ha_149
          have hr_150 := Kd.R_apart hr_133 (Kd.R_nil kCell 98 _ wd_122.heap.size (OkFrom wd_122.heap.size)) (by decide) hg_147
          have he_151 : ([] ++ [(⟨(-1), o.text, o.vk, o.vn, o.vt, o.attrs⟩ : CellA)]) = [(⟨-1, o.text, o.vk, o.vn, o.vt, o.attrs⟩ : CellA)] := rfl
          rw [he_151] at hr_145 ⊢
          refine XL_nil ?_
          have hB_152 : Below wd_122.heap.size wd_122 w_144 := (bgo (bt hb_126 hb_131) hg_147 hl_148 (Nat.le_refl _))
          refine ⟨hB_152, ?_⟩
          refine XB_run (fuel' := 0) hB_152 [12] [] [.slice A_142 ([(⟨-1, o.text, o.vk, o.vn, o.vt, o.attrs⟩ : CellA)].length) c_143] #[true, true, true, true, true, true, true, true, true, true, true, true, true] [(6, .slice A_142 ([(⟨-1, o.text, o.vk, o.vn, o.vt, o.attrs⟩ : CellA)].length) c_143)] (fun w_ => []) (fun _ _ _ _ h => h) (fun w_ => by kernel_rfl) rfl (fun w_ hC_ => trivial) ?_
          refine XB_done (by kernel_rfl) ?_
          refine X_seq ?_
          refine X_region ?_
          refine XL_run 3 [] [(2, .slice A_142 ([(⟨-1, o.text, o.vk, o.vn, o.vt, o.attrs⟩ : CellA)].length) c_143), (3, .nilIface)] w_144 [] (by kernel_rfl) trivial ?_
          refine XL_nil ?_
          refine X_ret ?_
          refine RX.ret_ok (P := Tryd.prog) (fn := Tryd.f49) (N := 53) (R := R_) [.slice A_142 ([(⟨-1, o.text, o.vk, o.vn, o.vt, o.attrs⟩ : CellA)].length) c_143, .nilIface] (by kernel_rfl) (hR_ _ _ ?_)
          have hB_153 : Below w.heap.size w wd_122 := (bt (bg (bt (bt hb_2 hb_10) hb_114) hg_119 ((bt hb_2 hb_10)).size) hb_123)
          have hB_154 : Below w.heap.size w w_144 := (bgo (bt (bt hB_153 hb_126) hb_131) hg_147 hl_148 (hB_153).size)
          rw [show cellsO o = [(⟨-1, o.text, o.vk, o.vn, o.vt, o.attrs⟩ : CellA)] from by rw [show ([(⟨-1, o.text, o.vk, o.vn, o.vt, o.attrs⟩ : CellA)] : List CellA) = cellsP o from (cellsP_2 hk_13).symm]; exact if_pos c_11, c_11]
          exact ⟨_, _, rfl, Kd.R_low hr_145 (hB_153).size, hB_154⟩
        · by_cases c_155 : o.vk = 3
          · rw [valV_3 (v := (o.vk, o.vn, o.vt)) c_69 c_112 c_155]
            refine XL_run 3 [] [(6, .slice none 0 0), (38, .bool true), (39, .agg #[.slice A_64 o.attrs.length c_65, .string o.text, .iface 135 (.string o.vt)])] w_9 [] (by kernel_rfl) trivial ?_
            refine XL_nil ?_
            refine X_cond true rfl ?_
            refine X_seq ?_
            refine X_region ?_
            refine XL_run 1 [] [(6, .slice none 0 0), (10, .pointer (some ⟨w_9.heap.size, 0, none⟩)), (39, .agg #[.slice A_64 o.attrs.length c_65, .string o.text, .iface 135 (.string o.vt)])] (w_9.alloc (.cells #[.slice none 0 0, .string ByteArray.empty, .nilIface] 56)) [] (by kernel_rfl) trivial ?_
            obtain ⟨w_156, hw_160, hb_157, hk_158, hz_159⟩ := new_world w_9 #[.slice none 0 0, .string ByteArray.empty, .nilIface] 56
            rw [hw_160]
            refine XL_store (v := .agg #[.slice A_64 o.attrs.length c_65, .string o.text, .iface 135 (.string o.vt)]) rfl rfl rfl (by kernel_rfl) hk_158 0 [.slice A_64 o.attrs.length c_65, .string o.text, .iface 135 (.string o.vt)] #[.slice A_64 o.attrs.length c_65, .string o.text, .iface 135 (.string o.vt)] ⟨by kernel_rfl, rfl, by kernel_rfl⟩ ⟨by kernel_rfl, by kernel_rfl⟩ (Nat.le_of_ble_eq_true (by kernel_rfl)) (fun w_161 hg_162 hk_163 hz_164 => ?_)
            refine XL_nil ?_
            refine X_grow [] 13 #[false, false, false, false, false, false, false, false, false, false, false, false, false] (by kernel_rfl) (by kernel_rfl) (by kernel_rfl) (fun wd_165 hb_166 hh_167 => ?_)
            refine XB_run (fuel' := 6) (Below.refl _ _) [0, 1, 2, 3, 4, 6, 7] [(42, .load (.string o.text)), (44, .load (.iface 135 (.string o.vt))), (47, .load (.agg #[.slice A_64 o.attrs.length c_65]))] [.slice none 0 0, .pointer (some ⟨w_9.heap.size, 1, none⟩), .string o.text, .pointer (some ⟨w_9.heap.size, 2, none⟩), .iface 135 (.string o.vt), .pointer (some ⟨w_9.heap.size, 0, none⟩), .agg #[.slice A_64 o.attrs.length c_65]] #[true, true, true, true, true, false, true, true, false, false, false, false, false] [(40, .slice none 0 0), (42, .string o.text), (44, .iface 135 (.string o.vt)), (47, .agg #[.slice A_64 o.attrs.length c_65])] (fun w_ => [LoadsAs Tryd.prog 9 (⟨w_9.heap.size, 1, none⟩) (.string o.text) w_, LoadsAs Tryd.prog 54 (⟨w_9.heap.size, 2, none⟩) (.iface 135 (.string o.vt)) w_, LoadsAs Tryd.prog 49 (⟨w_9.heap.size, 0, none⟩) (.agg #[.slice A_64 o.attrs.length c_65]) w_]) (fun _ _ _ _ h => h) (fun w_ => by kernel_rfl) rfl (fun w_ hC_ => ⟨loads1 rfl (Blk.cell (Blk.below hk_163 (bt hb_166 hC_)) 1 _ rfl), loads1 rfl (Blk.cell (Blk.below hk_163 (bt hb_166 hC_)) 2 _ rfl), loadsB rfl rfl (Blk.below hk_163 (bt hb_166 hC_)) 0 ⟨by kernel_rfl, by kernel_rfl⟩, trivial⟩) ?_
            refine XB_mid (fuel' := 5) 5 #[true, true, true, true, true, true, true, true, false, false, false, false, false] _ rfl (by kernel_rfl) (by kernel_rfl) rfl ?_
            refine XL_inv 178 #[.string o.vt] rfl rfl (by kernel_rfl) (by kernel_rfl) (textPlain_any o.vk o.vn o.vt _ (refuse_val c_11 hk_13) c_155) ?_
            rintro e w_168 ⟨rfl, hb_169⟩; refine ⟨_, rfl, ?_⟩
            refine XL_nil ?_
            refine ⟨hb_169, ?_⟩
            refine XB_mid (fuel' := 4) 8 #[true, true, true, true, true, true, true, true, true, false, false, false, false] _ rfl (by kernel_rfl) (by kernel_rfl) rfl ?_
            have hB_170 : Below w_9.heap.size w_9 w_168 := (bt (bt (bg hb_157 hg_162 (Nat.le_refl _)) hb_166) hb_169)
            refine XL_call 97 rfl rfl rfl ent97 [.agg #[.slice A_64 o.attrs.length c_65]] (by kernel_rfl) (attributes_any _ _ o.attrs _ (Kd.C_below hC_68 hB_170) (by omega)) ?_
            rintro e w_173 ⟨A_171, c_172, rfl, hl_175, hr_176, hb_174⟩; refine ⟨_, rfl, ?_⟩
            refine XL_nil ?_
            refine ⟨(bt hb_169 hb_174), ?_⟩
            refine XB_run (fuel' := 3) (bt hb_169 hb_174) [9] [] [.agg #[.int .i32 (-1), .string o.text, .int .i64 o.vk, .int .i64 o.vn, .string o.vt, .slice A_171 o.attrs.length c_172]] #[true, true, true, true, true, true, true, true, true, true, false, false, false] [(40, .slice none 0 0), (49, .agg #[.int .i32 (-1), .string o.text, .int .i64 o.vk, .int .i64 o.vn, .string o.vt, .slice A_171 o.attrs.length c_172])] (fun w_ => []) (fun _ _ _ _ h => h) (fun w_ => by kernel_rfl) rfl (fun w_ hC_ => trivial) ?_
            refine XB_mid (fuel' := 2) 10 #[true, true, true, true, true, true, true, true, true, true, true, false, false] _ rfl (by kernel_rfl) (by kernel_rfl) rfl ?_
            refine XL_run 1 [] [(40, .slice none 0 0), (50, .slice (some ⟨w_173.heap.size, 0, none⟩) 1 1)] (w_173.alloc (.cells #[.int .i32 (-1), .string o.text, .int .i64 o.vk, .int .i64 o.vn, .string o.vt, .slice A_171 o.attrs.length c_172] 98)) [] (by kernel_rfl) trivial ?_
            obtain ⟨w_177, hw_181, hb_178, hk_179, hz_180⟩ := new_world w_173 #[.int .i32 (-1), .string o.text, .int .i64 o.vk, .int .i64 o.vn, .string o.vt, .slice A_171 o.attrs.length c_172] 98
            rw [hw_181]
            refine XL_nil ?_
            refine ⟨(bt (bt hb_169 hb_174) hb_178), ?_⟩
            refine XB_mid (fuel' := 1) 11 #[true, true, true, true, true, true, true, true, true, true, true, true, false] _ rfl (by kernel_rfl) (by kernel_rfl) rfl ?_
            obtain ⟨okp_182, hM_183, hok_184⟩ := Kd.M_rowApart hr_176 (hb_169).size (Kd.R_nil kCell 98 _ wd_165.heap.size (OkFrom wd_165.heap.size)) (by decide)
            rw [← hw_181]
            refine XL_append kCell rfl rfl rfl wd_165.heap.size 98 (.agg #[.int .i32 0, .string ByteArray.empty, .int .i64 0, .int .i64 0, .string ByteArray.empty, .slice none 0 0]) 80 Tryd.underlying90 info98 rfl (by decide) (by omega) ([]) (⟨(-1), o.text, o.vk, o.vn, o.vt, o.attrs⟩ : CellA) [.int .i32 (-1), .string o.text, .int .i64 o.vk, .int .i64 o.vn, .string o.vt, .slice A_171 o.attrs.length c_172] okp_182 (by kernel_rfl) (kCell_M (x := (⟨(-1), o.text, o.vk, o.vn, o.vt, o.attrs⟩ : CellA)) hM_183) hok_184 (Kd.R_nil kCell 98 _ wd_165.heap.size (OkFrom wd_165.heap.size)) ((bt hb_169 hb_174)).size (by decide) ?_
            intro A_185 c_186 w_187 hr_188 hc_189 hg_190 hl_191 ha_192
            have hr_193 := Kd.R_apart hr_176 (Kd.R_nil kCell 98 _ wd_165.heap.size (OkFrom wd_165.heap.size)) (by decide) hg_190
            have he_194 : ([] ++ [(⟨(-1), o.text, o.vk, o.vn, o.vt, o.attrs⟩ : CellA)]) = [(⟨-1, o.text, o.vk, o.vn, o.vt, o.attrs⟩ : CellA)] := rfl
            rw [he_194] at hr_188 ⊢
            refine XL_nil ?_
            have hB_195 : Below wd_165.heap.size wd_165 w_187 := (bgo (bt hb_169 hb_174) hg_190 hl_191 (Nat.le_refl _))
            refine ⟨hB_195, ?_⟩
            refine XB_run (fuel' := 0) hB_195 [12] [] [.slice A_185 ([(⟨-1, o.text, o.vk, o.vn, o.vt, o.attrs⟩ : CellA)].length) c_186] #[true, true, true, true, true, true, true, true, true, true, true, true, true] [(6, .slice A_185 ([(⟨-1, o.text, o.vk, o.vn, o.vt, o.attrs⟩ : CellA)].length) c_186)] (fun w_ => []) (fun _ _ _ _ h => h) (fun w_ => by kernel_rfl) rfl (fun w_ hC_ => trivial) ?_
            refine XB_done (by kernel_rfl) ?_
            refine X_seq ?_
            refine X_region ?_
            refine XL_run 3 [] [(2, .slice A_185 ([(⟨-1, o.text, o.vk, o.vn, o.vt, o.attrs⟩ : CellA)].length) c_186), (3, .nilIface)] w_187 [] (by kernel_rfl) trivial ?_
            refine XL_nil ?_
            refine X_ret ?_
            refine RX.ret_ok (P := Tryd.prog) (fn := Tryd.f49) (N := 53) (R := R_) [.slice A_185 ([(⟨-1, o.text, o.vk, o.vn, o.vt, o.attrs⟩ : CellA)].length) c_186, .nilIface] (by kernel_rfl) (hR_ _ _ ?_)
            have hB_196 : Below w.heap.size w wd_165 := (bt (bg (bt (bt hb_2 hb_10) hb_157) hg_162 ((bt hb_2 hb_10)).size) hb_166)
            have hB_197 : Below w.heap.size w w_187 := (bgo (bt (bt hB_196 hb_169) hb_174) hg_190 hl_191 (hB_196).size)
            rw [show cellsO o = [(⟨-1, o.text, o.vk, o.vn, o.vt, o.attrs⟩ : CellA)] from by rw [show ([(⟨-1, o.text, o.vk, o.vn, o.vt, o.attrs⟩ : CellA)] : List CellA) = cellsP o from (cellsP_2 hk_13).symm]; exact if_pos c_11, c_11]
            exact ⟨_, _, rfl, Kd.R_low hr_188 (hB_196).size, hB_197⟩
          · rw [valV_0 (v := (o.vk, o.vn, o.vt)) c_69 c_112 c_155]
            refine XL_run 3 [] [(6, .slice none 0 0), (38, .bool true), (39, .agg #[.slice A_64 o.attrs.length c_65, .string o.text, .iface 137 (.agg #[])])] w_9 [] (by kernel_rfl) trivial ?_
            refine XL_nil ?_
            refine X_cond true rfl ?_
            refine X_seq ?_
            refine X_region ?_
            refine XL_run 1 [] [(6, .slice none 0 0), (10, .pointer (some ⟨w_9.heap.size, 0, none⟩)), (39, .agg #[.slice A_64 o.attrs.length c_65, .string o.text, .iface 137 (.agg #[])])] (w_9.alloc (.cells #[.slice none 0 0, .string ByteArray.empty, .nilIface] 56)) [] (by kernel_rfl) trivial ?_
            obtain ⟨w_198, hw_202, hb_199, hk_200, hz_201⟩ := new_world w_9 #[.slice none 0 0, .string ByteArray.empty, .nilIface] 56
            rw [hw_202]
            refine XL_store (v := .agg #[.slice A_64 o.attrs.length c_65, .string o.text, .iface 137 (.agg #[])]) rfl rfl rfl (by kernel_rfl) hk_200 0 [.slice A_64 o.attrs.length c_65, .string o.text, .iface 137 (.agg #[])] #[.slice A_64 o.attrs.length c_65, .string o.text, .iface 137 (.agg #[])] ⟨by kernel_rfl, rfl, by kernel_rfl⟩ ⟨by kernel_rfl, by kernel_rfl⟩ (Nat.le_of_ble_eq_true (by kernel_rfl)) (fun w_203 hg_204 hk_205 hz_206 => ?_)
            refine XL_nil ?_
            refine X_grow [] 13 #[false, false, false, false, false, false, false, false, false, false, false, false, false] (by kernel_rfl) (by kernel_rfl) (by kernel_rfl) (fun wd_207 hb_208 hh_209 => ?_)
            refine XB_run (fuel' := 6) (Below.refl _ _) [0, 1, 2, 3, 4, 6, 7] [(42, .load (.string o.text)), (44, .load (.iface 137 (.agg #[]))), (47, .load (.agg #[.slice A_64 o.attrs.length c_65]))] [.slice none 0 0, .pointer (some ⟨w_9.heap.size, 1, none⟩), .string o.text, .pointer (some ⟨w_9.heap.size, 2, none⟩), .iface 137 (.agg #[]), .pointer (some ⟨w_9.heap.size, 0, none⟩), .agg #[.slice A_64 o.attrs.length c_65]] #[true, true, true, true, true, false, true, true, false, false, false, false, false] [(40, .slice none 0 0), (42, .string o.text), (44, .iface 137 (.agg #[])), (47, .agg #[.slice A_64 o.attrs.length c_65])] (fun w_ => [LoadsAs Tryd.prog 9 (⟨w_9.heap.size, 1, none⟩) (.string o.text) w_, LoadsAs Tryd.prog 54 (⟨w_9.heap.size, 2, none⟩) (.iface 137 (.agg #[])) w_, LoadsAs Tryd.prog 49 (⟨w_9.heap.size, 0, none⟩) (.agg #[.slice A_64 o.attrs.length c_65]) w_]) (fun _ _ _ _ h => h) (fun w_ => by kernel_rfl) rfl (fun w_ hC_ => ⟨loads1 rfl (Blk.cell (Blk.below hk_205 (bt hb_208 hC_)) 1 _ rfl), loads1 rfl (Blk.cell (Blk.below hk_205 (bt hb_208 hC_)) 2 _ rfl), loadsB rfl rfl (Blk.below hk_205 (bt hb_208 hC_)) 0 ⟨by kernel_rfl, by kernel_rfl⟩, trivial⟩) ?_
            refine XB_mid (fuel' := 5) 5 #[true, true, true, true, true, true, true, true, false, false, false, false, false] _ rfl (by kernel_rfl) (by kernel_rfl) rfl ?_
            refine XL_inv 180 #[.agg #[]] rfl rfl (by kernel_rfl) (by kernel_rfl) (nullPlain_any o.vk o.vn o.vt _ (refuse_val c_11 hk_13) (by have h_ := plainOk_kind (refuse_val c_11 hk_13); omega)) ?_
            rintro e w_210 ⟨rfl, hb_211⟩; refine ⟨_, rfl, ?_⟩
            refine XL_nil ?_
            refine ⟨hb_211, ?_⟩
            refine XB_mid (fuel' := 4) 8 #[true, true, true, true, true, true, true, true, true, false, false, false, false] _ rfl (by kernel_rfl) (by kernel_rfl) rfl ?_
            have hB_212 : Below w_9.heap.size w_9 w_210 := (bt (bt (bg hb_199 hg_204 (Nat.le_refl _)) hb_208) hb_211)
            refine XL_call 97 rfl rfl rfl ent97 [.agg #[.slice A_64 o.attrs.length c_65]] (by kernel_rfl) (attributes_any _ _ o.attrs _ (Kd.C_below hC_68 hB_212) (by omega)) ?_
            rintro e w_215 ⟨A_213, c_214, rfl, hl_217, hr_218, hb_216⟩; refine ⟨_, rfl, ?_⟩
            refine XL_nil ?_
            refine ⟨(bt hb_211 hb_216), ?_⟩
            refine XB_run (fuel' := 3) (bt hb_211 hb_216) [9] [] [.agg #[.int .i32 (-1), .string o.text, .int .i64 o.vk, .int .i64 o.vn, .string o.vt, .slice A_213 o.attrs.length c_214]] #[true, true, true, true, true, true, true, true, true, true, false, false, false] [(40, .slice none 0 0), (49, .agg #[.int .i32 (-1), .string o.text, .int .i64 o.vk, .int .i64 o.vn, .string o.vt, .slice A_213 o.attrs.length c_214])] (fun w_ => []) (fun _ _ _ _ h => h) (fun w_ => by kernel_rfl) rfl (fun w_ hC_ => trivial) ?_
            refine XB_mid (fuel' := 2) 10 #[true, true, true, true, true, true, true, true, true, true, true, false, false] _ rfl (by kernel_rfl) (by kernel_rfl) rfl ?_
            refine XL_run 1 [] [(40, .slice none 0 0), (50, .slice (some ⟨w_215.heap.size, 0, none⟩) 1 1)] (w_215.alloc (.cells #[.int .i32 (-1), .string o.text, .int .i64 o.vk, .int .i64 o.vn, .string o.vt, .slice A_213 o.attrs.length c_214] 98)) [] (by kernel_rfl) trivial ?_
            obtain ⟨w_219, hw_223, hb_220, hk_221, hz_222⟩ := new_world w_215 #[.int .i32 (-1), .string o.text, .int .i64 o.vk, .int .i64 o.vn, .string o.vt, .slice A_213 o.attrs.length c_214] 98
            rw [hw_223]
            refine XL_nil ?_
            refine ⟨(bt (bt hb_211 hb_216) hb_220), ?_⟩
            refine XB_mid (fuel' := 1) 11 #[true, true, true, true, true, true, true, true, true, true, true, true, false] _ rfl (by kernel_rfl) (by kernel_rfl) rfl ?_
            obtain ⟨okp_224, hM_225, hok_226⟩ := Kd.M_rowApart hr_218 (hb_211).size (Kd.R_nil kCell 98 _ wd_207.heap.size (OkFrom wd_207.heap.size)) (by decide)
            rw [← hw_223]
            refine XL_append kCell rfl rfl rfl wd_207.heap.size 98 (.agg #[.int .i32 0, .string ByteArray.empty, .int .i64 0, .int .i64 0, .string ByteArray.empty, .slice none 0 0]) 80 Tryd.underlying90 info98 rfl (by decide) (by omega) ([]) (⟨(-1), o.text, o.vk, o.vn, o.vt, o.attrs⟩ : CellA) [.int .i32 (-1), .string o.text, .int .i64 o.vk, .int .i64 o.vn, .string o.vt, .slice A_213 o.attrs.length c_214] okp_224 (by kernel_rfl) (kCell_M (x := (⟨(-1), o.text, o.vk, o.vn, o.vt, o.attrs⟩ : CellA)) hM_225) hok_226 (Kd.R_nil kCell 98 _ wd_207.heap.size (OkFrom wd_207.heap.size)) ((bt hb_211 hb_216)).size (by decide) ?_
            intro A_227 c_228 w_229 hr_230 hc_231 hg_232 hl_233 ha_234
            have hr_235 := Kd.R_apart hr_218 (Kd.R_nil kCell 98 _ wd_207.heap.size (OkFrom wd_207.heap.size)) (by decide) hg_232
            have he_236 : ([] ++ [(⟨(-1), o.text, o.vk, o.vn, o.vt, o.attrs⟩ : CellA)]) = [(⟨-1, o.text, o.vk, o.vn, o.vt, o.attrs⟩ : CellA)] := rfl
            rw [he_236] at hr_230 ⊢
            refine XL_nil ?_
            have hB_237 : Below wd_207.heap.size wd_207 w_229 := (bgo (bt hb_211 hb_216) hg_232 hl_233 (Nat.le_refl _))
            refine ⟨hB_237, ?_⟩
            refine XB_run (fuel' := 0) hB_237 [12] [] [.slice A_227 ([(⟨-1, o.text, o.vk, o.vn, o.vt, o.attrs⟩ : CellA)].length) c_228] #[true, true, true, true, true, true, true, true, true, true, true, true, true] [(6, .slice A_227 ([(⟨-1, o.text, o.vk, o.vn, o.vt, o.attrs⟩ : CellA)].length) c_228)] (fun w_ => []) (fun _ _ _ _ h => h) (fun w_ => by kernel_rfl) rfl (fun w_ hC_ => trivial) ?_
            refine XB_done (by kernel_rfl) ?_
            refine X_seq ?_
            refine X_region ?_
            refine XL_run 3 [] [(2, .slice A_227 ([(⟨-1, o.text, o.vk, o.vn, o.vt, o.attrs⟩ : CellA)].length) c_228), (3, .nilIface)] w_229 [] (by kernel_rfl) trivial ?_
            refine XL_nil ?_
            refine X_ret ?_
            refine RX.ret_ok (P := Tryd.prog) (fn := Tryd.f49) (N := 53) (R := R_) [.slice A_227 ([(⟨-1, o.text, o.vk, o.vn, o.vt, o.attrs⟩ : CellA)].length) c_228, .nilIface] (by kernel_rfl) (hR_ _ _ ?_)
            have hB_238 : Below w.heap.size w wd_207 := (bt (bg (bt (bt hb_2 hb_10) hb_199) hg_204 ((bt hb_2 hb_10)).size) hb_208)
            have hB_239 : Below w.heap.size w w_229 := (bgo (bt (bt hB_238 hb_211) hb_216) hg_232 hl_233 (hB_238).size)
            rw [show cellsO o = [(⟨-1, o.text, o.vk, o.vn, o.vt, o.attrs⟩ : CellA)] from by rw [show ([(⟨-1, o.text, o.vk, o.vn, o.vt, o.attrs⟩ : CellA)] : List CellA) = cellsP o from (cellsP_2 hk_13).symm]; exact if_pos c_11, c_11]
            exact ⟨_, _, rfl, Kd.R_low hr_230 (hB_238).size, hB_239⟩
  · rw [errV_pos es (refuseP o) (Nat.pos_of_ne_zero c_11)]
    refine XL_run 1 [] [(4, v_6), (5, .iface 184 (.pointer (some (errAt es (refuseP o))))), (17, .bool true)] w_9 [] (by kernel_rfl) trivial ?_
    refine XL_nil ?_
    refine X_cond true rfl ?_
    refine X_seq ?_
    refine X_region ?_
    refine XL_run 3 [] [(2, .slice none 0 0), (3, .iface 184 (.pointer (some (errAt es (refuseP o)))))] w_9 [] (by kernel_rfl) trivial ?_
    refine XL_nil ?_
    refine X_ret ?_
    refine RX.ret_ok (P := Tryd.prog) (fn := Tryd.f49) (N := 53) (R := R_) [.slice none 0 0, .iface 184 (.pointer (some (errAt es (refuseP o))))] (by kernel_rfl) (hR_ _ _ ?_)
    rw [show cellsO o = [] from if_neg c_11, errV_pos es _ (Nat.pos_of_ne_zero c_11)]
    exact ⟨none, 0, rfl, Kd.R_nil _ _ _ _ _, (bt hb_2 hb_10)⟩
theorem csame_any (a b : OpA) (A B : Option Addr) (c d : Nat) (w : World) (hA : kAttr.C w A a.attrs.length a.attrs) (hB : kAttr.C w B b.attrs.length b.attrs) : Calls Tryd.prog 63 #[.agg #[.int .i64 a.kind, .string a.text, .int .i64 a.vk, .int .i64 a.vn, .string a.vt, .int .i64 a.count, .slice A a.attrs.length c], .agg #[.int .i64 b.kind, .string b.text, .int .i64 b.vk, .int .i64 b.vn, .string b.vt, .int .i64 b.count, .slice B b.attrs.length d]] w fun e w' => e = .returned (.bool (opEqP a b)) ∧ Below w.heap.size w w' := by
  refine RX.enter Tryd.func63 rfl 38 rfl [(0, .agg #[.int .i64 a.kind, .string a.text, .int .i64 a.vk, .int .i64 a.vn, .string a.vt, .int .i64 a.count, .slice A a.attrs.length c]), (1, .agg #[.int .i64 b.kind, .string b.text, .int .i64 b.vk, .int .i64 b.vn, .string b.vt, .int .i64 b.count, .slice B b.attrs.length d])] rfl (by kernel_rfl) (fun R_ hR_ => ?_)
  refine X_seq ?_
  refine X_region ?_
  refine XL_run 1 [] [(1, .agg #[.int .i64 b.kind, .string b.text, .int .i64 b.vk, .int .i64 b.vn, .string b.vt, .int .i64 b.count, .slice B b.attrs.length d]), (2, .pointer (some ⟨w.heap.size, 0, none⟩))] (w.alloc (.cells #[.int .i64 a.kind, .string a.text, .int .i64 a.vk, .int .i64 a.vn, .string a.vt, .int .i64 a.count, .slice A a.attrs.length c] 33)) [] (by kernel_rfl) trivial ?_
  obtain ⟨w_1, hw_5, hb_2, hk_3, hz_4⟩ := new_world w #[.int .i64 a.kind, .string a.text, .int .i64 a.vk, .int .i64 a.vn, .string a.vt, .int .i64 a.count, .slice A a.attrs.length c] 33
  rw [hw_5]
  refine XL_run 1 [] [(2, .pointer (some ⟨w.heap.size, 0, none⟩)), (3, .pointer (some ⟨w_1.heap.size, 0, none⟩))] (w_1.alloc (.cells #[.int .i64 b.kind, .string b.text, .int .i64 b.vk, .int .i64 b.vn, .string b.vt, .int .i64 b.count, .slice B b.attrs.length d] 33)) [] (by kernel_rfl) trivial ?_
  obtain ⟨w_6, hw_10, hb_7, hk_8, hz_9⟩ := new_world w_1 #[.int .i64 b.kind, .string b.text, .int .i64 b.vk, .int .i64 b.vn, .string b.vt, .int .i64 b.count, .slice B b.attrs.length d] 33
  rw [hw_10]
  refine XL_run 1 [] [(2, .pointer (some ⟨w.heap.size, 0, none⟩)), (3, .pointer (some ⟨w_1.heap.size, 0, none⟩))] w_6 [] (by kernel_rfl) trivial ?_
  refine XL_nil ?_
  refine X_seq ?_
  refine X_region ?_
  refine XL_run 4 [(6, .load (.int .i64 a.kind)), (8, .load (.int .i64 b.kind))] [(2, .pointer (some ⟨w.heap.size, 0, none⟩)), (3, .pointer (some ⟨w_1.heap.size, 0, none⟩)), (6, .int .i64 a.kind), (8, .int .i64 b.kind)] w_6 [LoadsAs Tryd.prog 3 (⟨w.heap.size, 0, none⟩) (.int .i64 a.kind) w_6, LoadsAs Tryd.prog 3 (⟨w_1.heap.size, 0, none⟩) (.int .i64 b.kind) w_6] (by kernel_rfl) ⟨loads1 rfl (Blk.cell (Blk.below hk_3 hb_7) 0 _ rfl), loads1 rfl (Blk.cell hk_8 0 _ rfl), trivial⟩ ?_
  by_cases c_11 : a.kind = b.kind
  · refine XL_run 6 [(9, .eq (.bool true)), (12, .load (.string a.text)), (14, .load (.string b.text))] [(2, .pointer (some ⟨w.heap.size, 0, none⟩)), (3, .pointer (some ⟨w_1.heap.size, 0, none⟩)), (10, .bool true), (12, .string a.text), (14, .string b.text)] w_6 [Value.bool (a.kind == b.kind) = Value.bool true, LoadsAs Tryd.prog 9 (⟨w.heap.size, 1, none⟩) (.string a.text) w_6, LoadsAs Tryd.prog 9 (⟨w_1.heap.size, 1, none⟩) (.string b.text) w_6] (by kernel_rfl) ⟨congrArg Value.bool (beq_iff_eq.2 (c_11)), loads1 rfl (Blk.cell (Blk.below hk_3 hb_7) 1 _ rfl), loads1 rfl (Blk.cell hk_8 1 _ rfl), trivial⟩ ?_
    by_cases c_12 : a.text = b.text
    · refine XL_run 7 [(15, .eq (.bool true)), (19, .load (.agg #[.int .i64 a.vk, .int .i64 a.vn, .string a.vt])), (21, .load (.agg #[.int .i64 b.vk, .int .i64 b.vn, .string b.vt]))] [(2, .pointer (some ⟨w.heap.size, 0, none⟩)), (3, .pointer (some ⟨w_1.heap.size, 0, none⟩)), (17, .bool true), (19, .agg #[.int .i64 a.vk, .int .i64 a.vn, .string a.vt]), (21, .agg #[.int .i64 b.vk, .int .i64 b.vn, .string b.vt])] w_6 [Value.bool (a.text.toList == b.text.toList) = Value.bool true, LoadsAs Tryd.prog 30 (⟨w.heap.size, 2, none⟩) (.agg #[.int .i64 a.vk, .int .i64 a.vn, .string a.vt]) w_6, LoadsAs Tryd.prog 30 (⟨w_1.heap.size, 2, none⟩) (.agg #[.int .i64 b.vk, .int .i64 b.vn, .string b.vt]) w_6] (by kernel_rfl) ⟨congrArg Value.bool (strEqT (c_12)), loadsB rfl rfl (Blk.below hk_3 hb_7) 2 ⟨by kernel_rfl, by kernel_rfl⟩, loadsB rfl rfl hk_8 2 ⟨by kernel_rfl, by kernel_rfl⟩, trivial⟩ ?_
      by_cases c_13 : (a.vk, a.vn, a.vt) = (b.vk, b.vn, b.vt)
      · refine XL_run 7 [(22, .as (.bool true)), (26, .load (.int .i64 a.count)), (28, .load (.int .i64 b.count))] [(2, .pointer (some ⟨w.heap.size, 0, none⟩)), (3, .pointer (some ⟨w_1.heap.size, 0, none⟩)), (24, .bool true), (26, .int .i64 a.count), (28, .int .i64 b.count)] w_6 [RunsAs Tryd.prog [(19, .agg #[.int .i64 a.vk, .int .i64 a.vn, .string a.vt]), (21, .agg #[.int .i64 b.vk, .int .i64 b.vn, .string b.vt])] (Go.Op.binOp Go.BinOp.eql 30 (Go.Operand.tmp 19) (Go.Operand.tmp 21) 30) 4 (.bool true) w_6, LoadsAs Tryd.prog 3 (⟨w.heap.size, 5, none⟩) (.int .i64 a.count) w_6, LoadsAs Tryd.prog 3 (⟨w_1.heap.size, 5, none⟩) (.int .i64 b.count) w_6] (by kernel_rfl) ⟨runs_bin rfl rfl (run_eqGuard_agg _ _ _ _ _ _ _ (by kernel_rfl)) (by have h := plain_eqb (a.vk, a.vn, a.vt) (b.vk, b.vn, b.vt) w_6; rw [show ple (a.vk, a.vn, a.vt) (b.vk, b.vn, b.vt) = true from (ple_iff _ _).2 c_13] at h; exact h), loads1 rfl (Blk.cell (Blk.below hk_3 hb_7) 5 _ rfl), loads1 rfl (Blk.cell hk_8 5 _ rfl), trivial⟩ ?_
        by_cases c_14 : a.count = b.count
        · refine XL_run 7 [(29, .eq (.bool true)), (33, .load (.slice A a.attrs.length c)), (35, .load (.slice B b.attrs.length d))] [(31, .bool true), (33, .slice A a.attrs.length c), (35, .slice B b.attrs.length d)] w_6 [Value.bool (a.count == b.count) = Value.bool true, LoadsAs Tryd.prog 31 (⟨w.heap.size, 6, none⟩) (.slice A a.attrs.length c) w_6, LoadsAs Tryd.prog 31 (⟨w_1.heap.size, 6, none⟩) (.slice B b.attrs.length d) w_6] (by kernel_rfl) ⟨congrArg Value.bool (beq_iff_eq.2 (c_14)), loads1 rfl (Blk.cell (Blk.below hk_3 hb_7) 6 _ rfl), loads1 rfl (Blk.cell hk_8 6 _ rfl), trivial⟩ ?_
          refine XL_call 108 rfl rfl rfl ent108 [.slice A a.attrs.length c, .slice B b.attrs.length d] (by kernel_rfl) (asame_any _ _ _ _ a.attrs b.attrs _ (Kd.C_below hA (bt hb_2 hb_7)) (Kd.C_below hB (bt hb_2 hb_7))) ?_
          rintro e w_15 ⟨rfl, hb_16⟩; refine ⟨_, rfl, ?_⟩
          refine XL_run 2 [] [(4, .bool (decide (a.attrs = b.attrs)))] w_15 [] (by kernel_rfl) trivial ?_
          refine XL_nil ?_
          refine X_ret ?_
          refine RX.ret_ok (P := Tryd.prog) (fn := Tryd.f63) (N := 38) (R := R_) [.bool (decide (a.attrs = b.attrs))] (by kernel_rfl) (hR_ _ _ ?_)
          rw [show opEqP a b = decide (a.attrs = b.attrs) from by unfold opEqP; simp_all]
          exact ⟨rfl, (bt (bt hb_2 hb_7) hb_16)⟩
        · refine XL_run 10 [(29, .eq (.bool false))] [(4, .bool false)] w_6 [Value.bool (a.count == b.count) = Value.bool false] (by kernel_rfl) ⟨congrArg Value.bool (beq_eq_false_iff_ne.2 (c_14)), trivial⟩ ?_
          refine XL_nil ?_
          refine X_ret ?_
          refine RX.ret_ok (P := Tryd.prog) (fn := Tryd.f63) (N := 38) (R := R_) [.bool false] (by kernel_rfl) (hR_ _ _ ?_)
          rw [show opEqP a b = false from by unfold opEqP; simp_all]
          exact ⟨rfl, (bt hb_2 hb_7)⟩
      · refine XL_run 17 [(22, .as (.bool false))] [(4, .bool false)] w_6 [RunsAs Tryd.prog [(19, .agg #[.int .i64 a.vk, .int .i64 a.vn, .string a.vt]), (21, .agg #[.int .i64 b.vk, .int .i64 b.vn, .string b.vt])] (Go.Op.binOp Go.BinOp.eql 30 (Go.Operand.tmp 19) (Go.Operand.tmp 21) 30) 4 (.bool false) w_6] (by kernel_rfl) ⟨runs_bin rfl rfl (run_eqGuard_agg _ _ _ _ _ _ _ (by kernel_rfl)) (by have h := plain_eqb (a.vk, a.vn, a.vt) (b.vk, b.vn, b.vt) w_6; rw [show ple (a.vk, a.vn, a.vt) (b.vk, b.vn, b.vt) = false from Bool.eq_false_iff.2 (fun k => c_13 ((ple_iff _ _).1 k))] at h; exact h), trivial⟩ ?_
        refine XL_nil ?_
        refine X_ret ?_
        refine RX.ret_ok (P := Tryd.prog) (fn := Tryd.f63) (N := 38) (R := R_) [.bool false] (by kernel_rfl) (hR_ _ _ ?_)
        rw [show opEqP a b = false from by unfold opEqP; simp_all]
        exact ⟨rfl, (bt hb_2 hb_7)⟩
    · refine XL_run 24 [(15, .eq (.bool false))] [(4, .bool false)] w_6 [Value.bool (a.text.toList == b.text.toList) = Value.bool false] (by kernel_rfl) ⟨congrArg Value.bool (strEqF (c_12)), trivial⟩ ?_
      refine XL_nil ?_
      refine X_ret ?_
      refine RX.ret_ok (P := Tryd.prog) (fn := Tryd.f63) (N := 38) (R := R_) [.bool false] (by kernel_rfl) (hR_ _ _ ?_)
      rw [show opEqP a b = false from by unfold opEqP; simp_all]
      exact ⟨rfl, (bt hb_2 hb_7)⟩
  · refine XL_run 30 [(9, .eq (.bool false))] [(4, .bool false)] w_6 [Value.bool (a.kind == b.kind) = Value.bool false] (by kernel_rfl) ⟨congrArg Value.bool (beq_eq_false_iff_ne.2 (c_11)), trivial⟩ ?_
    refine XL_nil ?_
    refine X_ret ?_
    refine RX.ret_ok (P := Tryd.prog) (fn := Tryd.f63) (N := 38) (R := R_) [.bool false] (by kernel_rfl) (hR_ _ _ ?_)
    rw [show opEqP a b = false from by unfold opEqP; simp_all]
    exact ⟨rfl, (bt hb_2 hb_7)⟩
def mkT (t : ByteArray) (at4 : List At) : OpA := ⟨1, t, 0, 0, ByteArray.empty, 0, at4⟩
/-- what Cut answers -/
noncomputable def cutO (o : OpA) (n : Int) : OpA × OpA × Nat :=
  if refuseP o ≠ 0 then (op0, op0, refuseP o)
  else if ¬ o.kind = 1 ∨ n < 1 ∨ ((U.sc o.text).length : Int) ≤ n then (op0, op0, 12)
  else (mkT (U.cutP o.text n).1 o.attrs, mkT (U.cutP o.text n).2.1 o.attrs, 0)
theorem cut_good {s : ByteArray} (hu : U.utf s) {n : Int} (h0 : 1 ≤ n) (h1 : n < (U.sc s).length) : (U.cutP s n).2.2 = 0 := by
  have ha : (U.atP s n).2 = 0 := by
    unfold U.atP
    rw [if_pos (show U.tl s = [] from hu), if_neg (by omega), if_pos (by omega)]
  unfold U.cutP
  rw [if_pos ha]
set_option maxHeartbeats 4000000 in
theorem ccut_any (o : OpA) (A : Option Addr) (c : Nat) (n : Int) (w : World) (hA : kAttr.C w A o.attrs.length o.attrs) (hz : opSz o) (hn0 : -9223372036854775808 ≤ n) (hn1 : n ≤ 9223372036854775807) (hT : Tabs w) (es : List Addr) (hE : ErrsC w es) : Calls Tryd.prog 58 #[.agg #[.int .i64 o.kind, .string o.text, .int .i64 o.vk, .int .i64 o.vn, .string o.vt, .int .i64 o.count, .slice A o.attrs.length c], .int .i64 n] w fun e w' =>
    ∃ A1 c1 A2 c2, e = .returned (.tuple #[.agg (opV (cutO o n).1 A1 c1).toArray, .agg (opV (cutO o n).2.1 A2 c2).toArray, errV es (cutO o n).2.2]) ∧ kAttr.R 79 w' w.heap.size (OkFrom w.heap.size) (.slice A1 (cutO o n).1.attrs.length c1) (cutO o n).1.attrs ∧ kAttr.R 79 w' w.heap.size (OkFrom w.heap.size) (.slice A2 (cutO o n).2.1.attrs.length c2) (cutO o n).2.1.attrs ∧ (∀ k, A1.map (·.block) = some k → A2.map (·.block) ≠ some k) ∧ Below w.heap.size w w' := by
  have hz1 := hz.1
  have hz3 := hz.2.2.1
  refine RX.enter Tryd.func58 rfl 70 rfl [(0, .agg #[.int .i64 o.kind, .string o.text, .int .i64 o.vk, .int .i64 o.vn, .string o.vt, .int .i64 o.count, .slice A o.attrs.length c]), (1, .int .i64 n)] rfl (by kernel_rfl) (fun R_ hR_ => ?_)
  refine X_seq ?_
  refine X_region ?_
  refine XL_run 1 [] [(1, .int .i64 n), (2, .pointer (some ⟨w.heap.size, 0, none⟩))] (w.alloc (.cells #[.int .i64 o.kind, .string o.text, .int .i64 o.vk, .int .i64 o.vn, .string o.vt, .int .i64 o.count, .slice A o.attrs.length c] 33)) [] (by kernel_rfl) trivial ?_
  obtain ⟨w_1, hw_5, hb_2, hk_3, hz_4⟩ := new_world w #[.int .i64 o.kind, .string o.text, .int .i64 o.vk, .int .i64 o.vn, .string o.vt, .int .i64 o.count, .slice A o.attrs.length c] 33
  rw [hw_5]
  refine XL_run 1 [] [(1, .int .i64 n), (2, .pointer (some ⟨w.heap.size, 0, none⟩)), (4, .pointer (some ⟨w_1.heap.size, 0, none⟩))] (w_1.alloc (.cells #[.int .i64 0, .string ByteArray.empty, .int .i64 0, .int .i64 0, .string ByteArray.empty, .int .i64 0, .slice none 0 0] 33)) [] (by kernel_rfl) trivial ?_
  obtain ⟨w_6, hw_10, hb_7, hk_8, hz_9⟩ := new_world w_1 #[.int .i64 0, .string ByteArray.empty, .int .i64 0, .int .i64 0, .string ByteArray.empty, .int .i64 0, .slice none 0 0] 33
  rw [hw_10]
  refine XL_run 1 [] [(1, .int .i64 n), (2, .pointer (some ⟨w.heap.size, 0, none⟩)), (4, .pointer (some ⟨w_1.heap.size, 0, none⟩)), (5, .pointer (some ⟨w_6.heap.size, 0, none⟩))] (w_6.alloc (.cells #[.int .i64 0, .string ByteArray.empty, .int .i64 0, .int .i64 0, .string ByteArray.empty, .int .i64 0, .slice none 0 0] 33)) [] (by kernel_rfl) trivial ?_
  obtain ⟨w_11, hw_15, hb_12, hk_13, hz_14⟩ := new_world w_6 #[.int .i64 0, .string ByteArray.empty, .int .i64 0, .int .i64 0, .string ByteArray.empty, .int .i64 0, .slice none 0 0] 33
  rw [hw_15]
  refine XL_run 1 [] [(1, .int .i64 n), (2, .pointer (some ⟨w.heap.size, 0, none⟩)), (4, .pointer (some ⟨w_1.heap.size, 0, none⟩)), (5, .pointer (some ⟨w_6.heap.size, 0, none⟩))] w_11 [] (by kernel_rfl) trivial ?_
  refine XL_nil ?_
  refine X_seq ?_
  refine X_region ?_
  refine XL_run 1 [(16, .load (.agg #[.int .i64 o.kind, .string o.text, .int .i64 o.vk, .int .i64 o.vn, .string o.vt, .int .i64 o.count, .slice A o.attrs.length c]))] [(1, .int .i64 n), (4, .pointer (some ⟨w_1.heap.size, 0, none⟩)), (5, .pointer (some ⟨w_6.heap.size, 0, none⟩)), (16, .agg #[.int .i64 o.kind, .string o.text, .int .i64 o.vk, .int .i64 o.vn, .string o.vt, .int .i64 o.count, .slice A o.attrs.length c])] w_11 [LoadsAs Tryd.prog 33 (⟨w.heap.size, 0, none⟩) (.agg #[.int .i64 o.kind, .string o.text, .int .i64 o.vk, .int .i64 o.vn, .string o.vt, .int .i64 o.count, .slice A o.attrs.length c]) w_11] (by kernel_rfl) ⟨loadsB rfl rfl (Blk.below hk_3 (bt hb_7 hb_12)) 0 ⟨by kernel_rfl, by kernel_rfl⟩, trivial⟩ ?_
  refine XL_call 51 rfl rfl rfl ent51 [.agg #[.int .i64 o.kind, .string o.text, .int .i64 o.vk, .int .i64 o.vn, .string o.vt, .int .i64 o.count, .slice A o.attrs.length c]] (by kernel_rfl) (cof_any o _ _ _ (Kd.C_below hA (bt (bt hb_2 hb_7) hb_12)) hz (hT.below (bt (bt hb_2 hb_7) hb_12)) es (hE.i.below (bt (bt hb_2 hb_7) hb_12))) ?_
  rintro e w_19 ⟨v_16, rfl, hM_17, hN_18, hb_20⟩; refine ⟨_, rfl, ?_⟩
  refine XL_run 5 [] [(1, .int .i64 n), (4, .pointer (some ⟨w_1.heap.size, 0, none⟩)), (5, .pointer (some ⟨w_6.heap.size, 0, none⟩)), (7, v_16), (8, errV es (refuseP o))] w_19 [] (by kernel_rfl) trivial ?_
  refine XL_nil ?_
  refine X_seq ?_
  refine X_seq ?_
  refine X_region ?_
  refine XL_run 1 [] [(1, .int .i64 n), (4, .pointer (some ⟨w_1.heap.size, 0, none⟩)), (5, .pointer (some ⟨w_6.heap.size, 0, none⟩)), (7, v_16), (8, errV es (refuseP o)), (20, errV es (refuseP o))] w_19 [] (by kernel_rfl) trivial ?_
  by_cases c_21 : (refuseP o) = 0
  · rw [show errV es (refuseP o) = .nilIface from by rw [c_21]; rfl]
    refine XL_run 1 [] [(1, .int .i64 n), (4, .pointer (some ⟨w_1.heap.size, 0, none⟩)), (5, .pointer (some ⟨w_6.heap.size, 0, none⟩)), (7, v_16), (8, .nilIface), (21, .bool false)] w_19 [] (by kernel_rfl) trivial ?_
    refine XL_nil ?_
    refine X_cond false rfl ?_
    refine X_skip ?_
    refine X_seq ?_
    refine X_region ?_
    have hp_22 := hM_17 c_21
    rcases refuse_kind c_21 with hk_23 | hk_23
    · rw [pOf_ins hk_23] at hp_22
      obtain ⟨A_24, c_25, e_26, hl_27, hC_28⟩ := kPiece_ins (kPiece.K_of_M hp_22)
      obtain rfl := (List.cons.inj e_26).1
      refine XL_run 6 [] [(1, .int .i64 n), (4, .pointer (some ⟨w_1.heap.size, 0, none⟩)), (5, .pointer (some ⟨w_6.heap.size, 0, none⟩)), (9, .pointer (some ⟨w_19.heap.size, 0, none⟩)), (28, .agg #[.slice A_24 o.attrs.length c_25, .string o.text, .int .i64 ((U.sc o.text).length : Int)]), (29, .bool true)] (w_19.alloc (.cells #[.slice none 0 0, .string ByteArray.empty, .int .i64 0] 51)) [] (by kernel_rfl) trivial ?_
      obtain ⟨w_29, hw_33, hb_30, hk_31, hz_32⟩ := new_world w_19 #[.slice none 0 0, .string ByteArray.empty, .int .i64 0] 51
      rw [hw_33]
      refine XL_store (v := .agg #[.slice A_24 o.attrs.length c_25, .string o.text, .int .i64 ((U.sc o.text).length : Int)]) rfl rfl rfl (by kernel_rfl) hk_31 0 [.slice A_24 o.attrs.length c_25, .string o.text, .int .i64 ((U.sc o.text).length : Int)] #[.slice A_24 o.attrs.length c_25, .string o.text, .int .i64 ((U.sc o.text).length : Int)] ⟨by kernel_rfl, rfl, by kernel_rfl⟩ ⟨by kernel_rfl, by kernel_rfl⟩ (Nat.le_of_ble_eq_true (by kernel_rfl)) (fun w_34 hg_35 hk_36 hz_37 => ?_)
      refine XL_run 1 [] [(1, .int .i64 n), (4, .pointer (some ⟨w_1.heap.size, 0, none⟩)), (5, .pointer (some ⟨w_6.heap.size, 0, none⟩)), (9, .pointer (some ⟨w_19.heap.size, 0, none⟩)), (10, .bool true)] w_34 [] (by kernel_rfl) trivial ?_
      refine XL_nil ?_
      refine X_seq ?_
      refine X_seq ?_
      refine X_region ?_
      refine XL_run 4 [] [(1, .int .i64 n), (4, .pointer (some ⟨w_1.heap.size, 0, none⟩)), (5, .pointer (some ⟨w_6.heap.size, 0, none⟩)), (9, .pointer (some ⟨w_19.heap.size, 0, none⟩)), (32, .bool false), (33, .int .i64 n)] w_34 [] (by kernel_rfl) trivial ?_
      by_cases c_38 : n < 1
      · refine XL_run 8 [(34, .eq (.bool true))] [(1, .int .i64 n), (4, .pointer (some ⟨w_1.heap.size, 0, none⟩)), (5, .pointer (some ⟨w_6.heap.size, 0, none⟩)), (9, .pointer (some ⟨w_19.heap.size, 0, none⟩)), (41, .bool true)] w_34 [Value.bool (decide (n < 1)) = Value.bool true] (by kernel_rfl) ⟨congrArg Value.bool (decide_eq_true (c_38)), trivial⟩ ?_
        refine XL_nil ?_
        refine X_cond true rfl ?_
        refine X_seq ?_
        refine X_gen (S := fun w_ => w_.cell? (⟨5, 0, none⟩) = some (.iface 184 (.pointer (some (errAt es 12))))) [] 6 #[false, false, false, false, false, false] (by kernel_rfl) (by kernel_rfl) (by kernel_rfl) (fun wd_39 hb_40 hh_41 => ?_)
        have hB_42 : Below w.heap.size w wd_39 := (bt (bg (bt (bt (bt (bt hb_2 hb_7) hb_12) hb_20) hb_30) hg_35 ((bt (bt (bt hb_2 hb_7) hb_12) hb_20)).size) hb_40)
        refine XG_run (fuel' := 3) ((hB_42.cell (World.block_lt_of_cell? _ _ (hE.load 12 5 (by decide) (by decide) rfl))).trans (hE.load 12 5 (by decide) (by decide) rfl)) [0, 1, 2] [(44, .load (.iface 184 (.pointer (some (errAt es 12)))))] [.agg #[.int .i64 0, .string ByteArray.empty, .int .i64 0, .int .i64 0, .string ByteArray.empty, .int .i64 0, .slice none 0 0], .agg #[.int .i64 0, .string ByteArray.empty, .int .i64 0, .int .i64 0, .string ByteArray.empty, .int .i64 0, .slice none 0 0], .iface 184 (.pointer (some (errAt es 12)))] #[true, true, true, false, false, false] [(4, .pointer (some ⟨w_1.heap.size, 0, none⟩)), (5, .pointer (some ⟨w_6.heap.size, 0, none⟩)), (42, .agg #[.int .i64 0, .string ByteArray.empty, .int .i64 0, .int .i64 0, .string ByteArray.empty, .int .i64 0, .slice none 0 0]), (43, .agg #[.int .i64 0, .string ByteArray.empty, .int .i64 0, .int .i64 0, .string ByteArray.empty, .int .i64 0, .slice none 0 0]), (44, .iface 184 (.pointer (some (errAt es 12))))] (fun w_ => [LoadsAs Tryd.prog 27 (⟨5, 0, none⟩) (.iface 184 (.pointer (some (errAt es 12)))) w_]) (fun _ _ _ _ h => h) (fun w_ => by kernel_rfl) rfl (fun w_ hC_ => ⟨loads1 rfl hC_, trivial⟩) ?_
        refine XG_mid (fuel' := 2) 3 #[true, true, true, true, false, false] _ rfl (by kernel_rfl) (by kernel_rfl) rfl ?_
        have hB_47 : Below w_6.heap.size w_6 wd_39 := (bt (bg (bt (bt hb_12 hb_20) hb_30) hg_35 ((bt hb_12 hb_20)).size) hb_40)
        refine XL_store (v := .agg #[.int .i64 0, .string ByteArray.empty, .int .i64 0, .int .i64 0, .string ByteArray.empty, .int .i64 0, .slice none 0 0]) rfl rfl rfl (by kernel_rfl) (Blk.below hk_8 hB_47) 0 [.int .i64 0, .string ByteArray.empty, .int .i64 0, .int .i64 0, .string ByteArray.empty, .int .i64 0, .slice none 0 0] #[.int .i64 0, .string ByteArray.empty, .int .i64 0, .int .i64 0, .string ByteArray.empty, .int .i64 0, .slice none 0 0] ⟨by kernel_rfl, rfl, by kernel_rfl⟩ ⟨by kernel_rfl, by kernel_rfl⟩ (Nat.le_of_ble_eq_true (by kernel_rfl)) (fun w_43 hg_44 hk_45 hz_46 => ?_)
        have hne_48 : w_6.heap.size ≠ w_1.heap.size := Nat.ne_of_gt (Nat.lt_of_lt_of_le (Blk.lt hk_8) (Nat.le_refl _))
        have hB_49 : Below w_11.heap.size w_11 wd_39 := (bt (bg (bt hb_20 hb_30) hg_35 (hb_20).size) hb_40)
        have hk_50 := Blk.other (Blk.below hk_13 hB_49) hg_44 hne_48
        have hne_51 : w_19.heap.size ≠ w_1.heap.size := Nat.ne_of_gt (Nat.lt_of_lt_of_le (Blk.lt hk_8) ((bt hb_12 hb_20)).size)
        have hk_52 := Blk.other (Blk.below hk_36 hb_40) hg_44 hne_51
        refine XL_nil ?_
        refine ⟨(((bg hB_42 hg_44 (hb_2).size).cell (World.block_lt_of_cell? _ _ (hE.load 12 5 (by decide) (by decide) rfl))).trans (hE.load 12 5 (by decide) (by decide) rfl)), ?_⟩
        refine XG_mid (fuel' := 1) 4 #[true, true, true, true, true, false] _ rfl (by kernel_rfl) (by kernel_rfl) rfl ?_
        refine XL_store (v := .agg #[.int .i64 0, .string ByteArray.empty, .int .i64 0, .int .i64 0, .string ByteArray.empty, .int .i64 0, .slice none 0 0]) rfl rfl rfl (by kernel_rfl) hk_50 0 [.int .i64 0, .string ByteArray.empty, .int .i64 0, .int .i64 0, .string ByteArray.empty, .int .i64 0, .slice none 0 0] #[.int .i64 0, .string ByteArray.empty, .int .i64 0, .int .i64 0, .string ByteArray.empty, .int .i64 0, .slice none 0 0] ⟨by kernel_rfl, rfl, by kernel_rfl⟩ ⟨by kernel_rfl, by kernel_rfl⟩ (Nat.le_of_ble_eq_true (by kernel_rfl)) (fun w_53 hg_54 hk_55 hz_56 => ?_)
        have hne_57 : w_1.heap.size ≠ w_6.heap.size := Nat.ne_of_lt (Nat.lt_of_lt_of_le (Blk.lt hk_8) (Nat.le_refl _))
        have hk_58 := Blk.other hk_45 hg_54 hne_57
        have hne_59 : w_19.heap.size ≠ w_6.heap.size := Nat.ne_of_gt (Nat.lt_of_lt_of_le (Blk.lt hk_13) (hb_20).size)
        have hk_60 := Blk.other hk_52 hg_54 hne_59
        refine XL_nil ?_
        have hB_61 : Below w.heap.size w w_53 := (bg (bg hB_42 hg_44 (hb_2).size) hg_54 ((bt hb_2 hb_7)).size)
        refine ⟨((hB_61.cell (World.block_lt_of_cell? _ _ (hE.load 12 5 (by decide) (by decide) rfl))).trans (hE.load 12 5 (by decide) (by decide) rfl)), ?_⟩
        refine XG_run (fuel' := 0) ((hB_61.cell (World.block_lt_of_cell? _ _ (hE.load 12 5 (by decide) (by decide) rfl))).trans (hE.load 12 5 (by decide) (by decide) rfl)) [5] [] [.iface 184 (.pointer (some (errAt es 12)))] #[true, true, true, true, true, true] [(4, .pointer (some ⟨w_1.heap.size, 0, none⟩)), (5, .pointer (some ⟨w_6.heap.size, 0, none⟩)), (6, .iface 184 (.pointer (some (errAt es 12))))] (fun w_ => []) (fun _ _ _ _ h => h) (fun w_ => by kernel_rfl) rfl (fun w_ hC_ => trivial) ?_
        refine XG_done (by kernel_rfl) ?_
        refine X_ret ?_
        refine RX.ret_cellCCT (P := Tryd.prog) (fn := Tryd.f58) (N := 70) (R := R_) (c := 4) (d := 5) (t := 33) (t' := 33) (p := ⟨w_1.heap.size, 0, none⟩) (p' := ⟨w_6.heap.size, 0, none⟩) (v := .agg #[.int .i64 0, .string ByteArray.empty, .int .i64 0, .int .i64 0, .string ByteArray.empty, .int .i64 0, .slice none 0 0]) (v' := .agg #[.int .i64 0, .string ByteArray.empty, .int .i64 0, .int .i64 0, .string ByteArray.empty, .int .i64 0, .slice none 0 0]) (u := .iface 184 (.pointer (some (errAt es 12)))) rfl rfl (loadsB rfl rfl hk_58 0 ⟨by kernel_rfl, by kernel_rfl⟩) rfl (loadsB rfl rfl hk_55 0 ⟨by kernel_rfl, by kernel_rfl⟩) rfl (hR_ _ _ ?_)
        rw [show cutO o n = (op0, op0, 12) from by unfold cutO; rw [if_neg (by omega), if_pos (by omega)]]
        exact ⟨none, 0, none, 0, rfl, Kd.R_nil _ _ _ _ _, Kd.R_nil _ _ _ _ _, (fun _ h_ => by cases h_), hB_61⟩
      · refine XL_run 6 [(34, .eq (.bool false)), (39, .load (.int .i64 ((U.sc o.text).length : Int)))] [(1, .int .i64 n), (4, .pointer (some ⟨w_1.heap.size, 0, none⟩)), (5, .pointer (some ⟨w_6.heap.size, 0, none⟩)), (9, .pointer (some ⟨w_19.heap.size, 0, none⟩)), (36, .bool false), (37, .int .i64 n), (39, .int .i64 ((U.sc o.text).length : Int))] w_34 [Value.bool (decide (n < 1)) = Value.bool false, LoadsAs Tryd.prog 3 (⟨w_19.heap.size, 2, none⟩) (.int .i64 ((U.sc o.text).length : Int)) w_34] (by kernel_rfl) ⟨congrArg Value.bool (decide_eq_false (c_38)), loads1 rfl (Blk.cell hk_36 2 _ rfl), trivial⟩ ?_
        by_cases c_62 : n ≥ ((U.sc o.text).length : Int)
        · refine XL_run 2 [(40, .eq (.bool true))] [(1, .int .i64 n), (4, .pointer (some ⟨w_1.heap.size, 0, none⟩)), (5, .pointer (some ⟨w_6.heap.size, 0, none⟩)), (9, .pointer (some ⟨w_19.heap.size, 0, none⟩)), (41, .bool true)] w_34 [Value.bool (decide (n ≥ ((U.sc o.text).length : Int))) = Value.bool true] (by kernel_rfl) ⟨congrArg Value.bool (decide_eq_true (c_62)), trivial⟩ ?_
          refine XL_nil ?_
          refine X_cond true rfl ?_
          refine X_seq ?_
          refine X_gen (S := fun w_ => w_.cell? (⟨5, 0, none⟩) = some (.iface 184 (.pointer (some (errAt es 12))))) [] 6 #[false, false, false, false, false, false] (by kernel_rfl) (by kernel_rfl) (by kernel_rfl) (fun wd_63 hb_64 hh_65 => ?_)
          have hB_66 : Below w.heap.size w wd_63 := (bt (bg (bt (bt (bt (bt hb_2 hb_7) hb_12) hb_20) hb_30) hg_35 ((bt (bt (bt hb_2 hb_7) hb_12) hb_20)).size) hb_64)
          refine XG_run (fuel' := 3) ((hB_66.cell (World.block_lt_of_cell? _ _ (hE.load 12 5 (by decide) (by decide) rfl))).trans (hE.load 12 5 (by decide) (by decide) rfl)) [0, 1, 2] [(44, .load (.iface 184 (.pointer (some (errAt es 12)))))] [.agg #[.int .i64 0, .string ByteArray.empty, .int .i64 0, .int .i64 0, .string ByteArray.empty, .int .i64 0, .slice none 0 0], .agg #[.int .i64 0, .string ByteArray.empty, .int .i64 0, .int .i64 0, .string ByteArray.empty, .int .i64 0, .slice none 0 0], .iface 184 (.pointer (some (errAt es 12)))] #[true, true, true, false, false, false] [(4, .pointer (some ⟨w_1.heap.size, 0, none⟩)), (5, .pointer (some ⟨w_6.heap.size, 0, none⟩)), (42, .agg #[.int .i64 0, .string ByteArray.empty, .int .i64 0, .int .i64 0, .string ByteArray.empty, .int .i64 0, .slice none 0 0]), (43, .agg #[.int .i64 0, .string ByteArray.empty, .int .i64 0, .int .i64 0, .string ByteArray.empty, .int .i64 0, .slice none 0 0]), (44, .iface 184 (.pointer (some (errAt es 12))))] (fun w_ => [LoadsAs Tryd.prog 27 (⟨5, 0, none⟩) (.iface 184 (.pointer (some (errAt es 12)))) w_]) (fun _ _ _ _ h => h) (fun w_ => by kernel_rfl) rfl (fun w_ hC_ => ⟨loads1 rfl hC_, trivial⟩) ?_
          refine XG_mid (fuel' := 2) 3 #[true, true, true, true, false, false] _ rfl (by kernel_rfl) (by kernel_rfl) rfl ?_
          have hB_71 : Below w_6.heap.size w_6 wd_63 := (bt (bg (bt (bt hb_12 hb_20) hb_30) hg_35 ((bt hb_12 hb_20)).size) hb_64)
          refine XL_store (v := .agg #[.int .i64 0, .string ByteArray.empty, .int .i64 0, .int .i64 0, .string ByteArray.empty, .int .i64 0, .slice none 0 0]) rfl rfl rfl (by kernel_rfl) (Blk.below hk_8 hB_71) 0 [.int .i64 0, .string ByteArray.empty, .int .i64 0, .int .i64 0, .string ByteArray.empty, .int .i64 0, .slice none 0 0] #[.int .i64 0, .string ByteArray.empty, .int .i64 0, .int .i64 0, .string ByteArray.empty, .int .i64 0, .slice none 0 0] ⟨by kernel_rfl, rfl, by kernel_rfl⟩ ⟨by kernel_rfl, by kernel_rfl⟩ (Nat.le_of_ble_eq_true (by kernel_rfl)) (fun w_67 hg_68 hk_69 hz_70 => ?_)
          have hne_72 : w_6.heap.size ≠ w_1.heap.size := Nat.ne_of_gt (Nat.lt_of_lt_of_le (Blk.lt hk_8) (Nat.le_refl _))
          have hB_73 : Below w_11.heap.size w_11 wd_63 := (bt (bg (bt hb_20 hb_30) hg_35 (hb_20).size) hb_64)
          have hk_74 := Blk.other (Blk.below hk_13 hB_73) hg_68 hne_72
          have hne_75 : w_19.heap.size ≠ w_1.heap.size := Nat.ne_of_gt (Nat.lt_of_lt_of_le (Blk.lt hk_8) ((bt hb_12 hb_20)).size)
          have hk_76 := Blk.other (Blk.below hk_36 hb_64) hg_68 hne_75
          refine XL_nil ?_
          refine ⟨(((bg hB_66 hg_68 (hb_2).size).cell (World.block_lt_of_cell? _ _ (hE.load 12 5 (by decide) (by decide) rfl))).trans (hE.load 12 5 (by decide) (by decide) rfl)), ?_⟩
          refine XG_mid (fuel' := 1) 4 #[true, true, true, true, true, false] _ rfl (by kernel_rfl) (by kernel_rfl) rfl ?_
          refine XL_store (v := .agg #[.int .i64 0, .string ByteArray.empty, .int .i64 0, .int .i64 0, .string ByteArray.empty, .int .i64 0, .slice none 0 0]) rfl rfl rfl (by kernel_rfl) hk_74 0 [.int .i64 0, .string ByteArray.empty, .int .i64 0, .int .i64 0, .string ByteArray.empty, .int .i64 0, .slice none 0 0] #[.int .i64 0, .string ByteArray.empty, .int .i64 0, .int .i64 0, .string ByteArray.empty, .int .i64 0, .slice none 0 0] ⟨by kernel_rfl, rfl, by kernel_rfl⟩ ⟨by kernel_rfl, by kernel_rfl⟩ (Nat.le_of_ble_eq_true (by kernel_rfl)) (fun w_77 hg_78 hk_79 hz_80 => ?_)
          have hne_81 : w_1.heap.size ≠ w_6.heap.size := Nat.ne_of_lt (Nat.lt_of_lt_of_le (Blk.lt hk_8) (Nat.le_refl _))
          have hk_82 := Blk.other hk_69 hg_78 hne_81
          have hne_83 : w_19.heap.size ≠ w_6.heap.size := Nat.ne_of_gt (Nat.lt_of_lt_of_le (Blk.lt hk_13) (hb_20).size)
          have hk_84 := Blk.other hk_76 hg_78 hne_83
          refine XL_nil ?_
          have hB_85 : Below w.heap.size w w_77 := (bg (bg hB_66 hg_68 (hb_2).size) hg_78 ((bt hb_2 hb_7)).size)
          refine ⟨((hB_85.cell (World.block_lt_of_cell? _ _ (hE.load 12 5 (by decide) (by decide) rfl))).trans (hE.load 12 5 (by decide) (by decide) rfl)), ?_⟩
          refine XG_run (fuel' := 0) ((hB_85.cell (World.block_lt_of_cell? _ _ (hE.load 12 5 (by decide) (by decide) rfl))).trans (hE.load 12 5 (by decide) (by decide) rfl)) [5] [] [.iface 184 (.pointer (some (errAt es 12)))] #[true, true, true, true, true, true] [(4, .pointer (some ⟨w_1.heap.size, 0, none⟩)), (5, .pointer (some ⟨w_6.heap.size, 0, none⟩)), (6, .iface 184 (.pointer (some (errAt es 12))))] (fun w_ => []) (fun _ _ _ _ h => h) (fun w_ => by kernel_rfl) rfl (fun w_ hC_ => trivial) ?_
          refine XG_done (by kernel_rfl) ?_
          refine X_ret ?_
          refine RX.ret_cellCCT (P := Tryd.prog) (fn := Tryd.f58) (N := 70) (R := R_) (c := 4) (d := 5) (t := 33) (t' := 33) (p := ⟨w_1.heap.size, 0, none⟩) (p' := ⟨w_6.heap.size, 0, none⟩) (v := .agg #[.int .i64 0, .string ByteArray.empty, .int .i64 0, .int .i64 0, .string ByteArray.empty, .int .i64 0, .slice none 0 0]) (v' := .agg #[.int .i64 0, .string ByteArray.empty, .int .i64 0, .int .i64 0, .string ByteArray.empty, .int .i64 0, .slice none 0 0]) (u := .iface 184 (.pointer (some (errAt es 12)))) rfl rfl (loadsB rfl rfl hk_82 0 ⟨by kernel_rfl, by kernel_rfl⟩) rfl (loadsB rfl rfl hk_79 0 ⟨by kernel_rfl, by kernel_rfl⟩) rfl (hR_ _ _ ?_)
          rw [show cutO o n = (op0, op0, 12) from by unfold cutO; rw [if_neg (by omega), if_pos (by omega)]]
          exact ⟨none, 0, none, 0, rfl, Kd.R_nil _ _ _ _ _, Kd.R_nil _ _ _ _ _, (fun _ h_ => by cases h_), hB_85⟩
        · refine XL_run 2 [(40, .eq (.bool false))] [(1, .int .i64 n), (4, .pointer (some ⟨w_1.heap.size, 0, none⟩)), (5, .pointer (some ⟨w_6.heap.size, 0, none⟩)), (9, .pointer (some ⟨w_19.heap.size, 0, none⟩)), (41, .bool false)] w_34 [Value.bool (decide (n ≥ ((U.sc o.text).length : Int))) = Value.bool false] (by kernel_rfl) ⟨congrArg Value.bool (decide_eq_false (c_62)), trivial⟩ ?_
          refine XL_nil ?_
          refine X_cond false rfl ?_
          refine X_skip ?_
          refine X_seq ?_
          refine X_region ?_
          refine XL_run 3 [(47, .load (.string o.text))] [(4, .pointer (some ⟨w_1.heap.size, 0, none⟩)), (5, .pointer (some ⟨w_6.heap.size, 0, none⟩)), (9, .pointer (some ⟨w_19.heap.size, 0, none⟩)), (47, .string o.text), (48, .int .i64 n)] w_34 [LoadsAs Tryd.prog 9 (⟨w_19.heap.size, 1, none⟩) (.string o.text) w_34] (by kernel_rfl) ⟨loads1 rfl (Blk.cell hk_36 1 _ rfl), trivial⟩ ?_
          have hB_86 : Below w.heap.size w w_34 := (bg (bt (bt (bt (bt hb_2 hb_7) hb_12) hb_20) hb_30) hg_35 ((bt (bt (bt hb_2 hb_7) hb_12) hb_20)).size)
          refine XL_call 106 rfl rfl rfl ent106 [.string o.text, .int .i64 n] (by kernel_rfl) (cut_any o.text n _ (by omega) hn0 hn1 (hT.below hB_86) es (hE.r.below hB_86)) ?_
          rintro e w_87 ⟨rfl, hb_88⟩; refine ⟨_, rfl, ?_⟩
          rw [cut_good (refuse_utf c_21).1 (by omega) (by omega)]
          refine XL_run 7 [] [(4, .pointer (some ⟨w_1.heap.size, 0, none⟩)), (5, .pointer (some ⟨w_6.heap.size, 0, none⟩)), (8, .nilIface), (9, .pointer (some ⟨w_19.heap.size, 0, none⟩)), (11, .string ((U.cutP o.text n).1)), (12, .string ((U.cutP o.text n).2.1))] w_87 [] (by kernel_rfl) trivial ?_
          refine XL_nil ?_
          refine X_seq ?_
          refine X_seq ?_
          refine X_region ?_
          refine XL_run 2 [] [(4, .pointer (some ⟨w_1.heap.size, 0, none⟩)), (5, .pointer (some ⟨w_6.heap.size, 0, none⟩)), (9, .pointer (some ⟨w_19.heap.size, 0, none⟩)), (11, .string ((U.cutP o.text n).1)), (12, .string ((U.cutP o.text n).2.1)), (54, .bool false)] w_87 [] (by kernel_rfl) trivial ?_
          refine XL_nil ?_
          refine X_cond false rfl ?_
          refine X_skip ?_
          refine X_seq ?_
          refine X_region ?_
          refine XL_run 3 [(60, .load (.agg #[.slice A_24 o.attrs.length c_25]))] [(4, .pointer (some ⟨w_1.heap.size, 0, none⟩)), (5, .pointer (some ⟨w_6.heap.size, 0, none⟩)), (9, .pointer (some ⟨w_19.heap.size, 0, none⟩)), (12, .string ((U.cutP o.text n).2.1)), (58, .string ((U.cutP o.text n).1)), (60, .agg #[.slice A_24 o.attrs.length c_25])] w_87 [LoadsAs Tryd.prog 49 (⟨w_19.heap.size, 0, none⟩) (.agg #[.slice A_24 o.attrs.length c_25]) w_87] (by kernel_rfl) ⟨loadsB rfl rfl (Blk.below hk_36 hb_88) 0 ⟨by kernel_rfl, by kernel_rfl⟩, trivial⟩ ?_
          have hB_89 : Below w_19.heap.size w_19 w_87 := (bt (bg hb_30 hg_35 (Nat.le_refl _)) hb_88)
          refine XL_call 97 rfl rfl rfl ent97 [.agg #[.slice A_24 o.attrs.length c_25]] (by kernel_rfl) (attributes_any _ _ o.attrs _ (Kd.C_below hC_28 hB_89) (by omega)) ?_
          rintro e w_92 ⟨A_90, c_91, rfl, hl_94, hr_95, hb_93⟩; refine ⟨_, rfl, ?_⟩
          refine XL_run 2 [] [(4, .pointer (some ⟨w_1.heap.size, 0, none⟩)), (5, .pointer (some ⟨w_6.heap.size, 0, none⟩)), (9, .pointer (some ⟨w_19.heap.size, 0, none⟩)), (12, .string ((U.cutP o.text n).2.1)), (13, .pointer (some ⟨w_92.heap.size, 0, none⟩)), (62, .agg #[.int .i64 1, .string ((U.cutP o.text n).1), .int .i64 0, .int .i64 0, .string ByteArray.empty, .int .i64 0, .slice A_90 o.attrs.length c_91])] (w_92.alloc (.cells #[.int .i64 0, .string ByteArray.empty, .int .i64 0, .int .i64 0, .string ByteArray.empty, .int .i64 0, .slice none 0 0] 33)) [] (by kernel_rfl) trivial ?_
          obtain ⟨w_96, hw_100, hb_97, hk_98, hz_99⟩ := new_world w_92 #[.int .i64 0, .string ByteArray.empty, .int .i64 0, .int .i64 0, .string ByteArray.empty, .int .i64 0, .slice none 0 0] 33
          rw [hw_100]
          refine XL_store (v := .agg #[.int .i64 1, .string ((U.cutP o.text n).1), .int .i64 0, .int .i64 0, .string ByteArray.empty, .int .i64 0, .slice A_90 o.attrs.length c_91]) rfl rfl rfl (by kernel_rfl) hk_98 0 [.int .i64 1, .string ((U.cutP o.text n).1), .int .i64 0, .int .i64 0, .string ByteArray.empty, .int .i64 0, .slice A_90 o.attrs.length c_91] #[.int .i64 1, .string ((U.cutP o.text n).1), .int .i64 0, .int .i64 0, .string ByteArray.empty, .int .i64 0, .slice A_90 o.attrs.length c_91] ⟨by kernel_rfl, rfl, by kernel_rfl⟩ ⟨by kernel_rfl, by kernel_rfl⟩ (Nat.le_of_ble_eq_true (by kernel_rfl)) (fun w_101 hg_102 hk_103 hz_104 => ?_)
          have hB_105 : Below w_1.heap.size w_1 w_92 := (bt (bt (bg (bt (bt (bt hb_7 hb_12) hb_20) hb_30) hg_35 ((bt (bt hb_7 hb_12) hb_20)).size) hb_88) hb_93)
          have hB_106 : Below w_6.heap.size w_6 w_92 := (bt (bt (bg (bt (bt hb_12 hb_20) hb_30) hg_35 ((bt hb_12 hb_20)).size) hb_88) hb_93)
          have hB_107 : Below w_11.heap.size w_11 w_92 := (bt (bt (bg (bt hb_20 hb_30) hg_35 (hb_20).size) hb_88) hb_93)
          refine XL_nil ?_
          refine X_seq ?_
          refine X_region ?_
          have hB_108 : Below w_34.heap.size w_34 w_101 := (bg (bt (bt hb_88 hb_93) hb_97) hg_102 ((bt hb_88 hb_93)).size)
          refine XL_run 3 [(65, .load (.agg #[.slice A_24 o.attrs.length c_25]))] [(4, .pointer (some ⟨w_1.heap.size, 0, none⟩)), (5, .pointer (some ⟨w_6.heap.size, 0, none⟩)), (13, .pointer (some ⟨w_92.heap.size, 0, none⟩)), (63, .string ((U.cutP o.text n).2.1)), (65, .agg #[.slice A_24 o.attrs.length c_25])] w_101 [LoadsAs Tryd.prog 49 (⟨w_19.heap.size, 0, none⟩) (.agg #[.slice A_24 o.attrs.length c_25]) w_101] (by kernel_rfl) ⟨loadsB rfl rfl (Blk.below hk_36 hB_108) 0 ⟨by kernel_rfl, by kernel_rfl⟩, trivial⟩ ?_
          have hB_109 : Below w_19.heap.size w_19 w_101 := (bg (bt (bt hB_89 hb_93) hb_97) hg_102 ((bt hB_89 hb_93)).size)
          refine XL_call 97 rfl rfl rfl ent97 [.agg #[.slice A_24 o.attrs.length c_25]] (by kernel_rfl) (attributes_any _ _ o.attrs _ (Kd.C_below hC_28 hB_109) (by omega)) ?_
          rintro e w_112 ⟨A_110, c_111, rfl, hl_114, hr_115, hb_113⟩; refine ⟨_, rfl, ?_⟩
          have hne_116 := rrne_new (RX.Kd.R_lt hr_95) (Nat.le_trans hb_97.size hg_102.size) (RX.Kd.R_ge hr_115)
          refine XL_run 2 [] [(4, .pointer (some ⟨w_1.heap.size, 0, none⟩)), (5, .pointer (some ⟨w_6.heap.size, 0, none⟩)), (13, .pointer (some ⟨w_92.heap.size, 0, none⟩)), (14, .pointer (some ⟨w_112.heap.size, 0, none⟩)), (67, .agg #[.int .i64 1, .string ((U.cutP o.text n).2.1), .int .i64 0, .int .i64 0, .string ByteArray.empty, .int .i64 0, .slice A_110 o.attrs.length c_111])] (w_112.alloc (.cells #[.int .i64 0, .string ByteArray.empty, .int .i64 0, .int .i64 0, .string ByteArray.empty, .int .i64 0, .slice none 0 0] 33)) [] (by kernel_rfl) trivial ?_
          obtain ⟨w_117, hw_121, hb_118, hk_119, hz_120⟩ := new_world w_112 #[.int .i64 0, .string ByteArray.empty, .int .i64 0, .int .i64 0, .string ByteArray.empty, .int .i64 0, .slice none 0 0] 33
          rw [hw_121]
          refine XL_store (v := .agg #[.int .i64 1, .string ((U.cutP o.text n).2.1), .int .i64 0, .int .i64 0, .string ByteArray.empty, .int .i64 0, .slice A_110 o.attrs.length c_111]) rfl rfl rfl (by kernel_rfl) hk_119 0 [.int .i64 1, .string ((U.cutP o.text n).2.1), .int .i64 0, .int .i64 0, .string ByteArray.empty, .int .i64 0, .slice A_110 o.attrs.length c_111] #[.int .i64 1, .string ((U.cutP o.text n).2.1), .int .i64 0, .int .i64 0, .string ByteArray.empty, .int .i64 0, .slice A_110 o.attrs.length c_111] ⟨by kernel_rfl, rfl, by kernel_rfl⟩ ⟨by kernel_rfl, by kernel_rfl⟩ (Nat.le_of_ble_eq_true (by kernel_rfl)) (fun w_122 hg_123 hk_124 hz_125 => ?_)
          have hB_126 : Below w_1.heap.size w_1 w_112 := (bt (bg (bt hB_105 hb_97) hg_102 (hB_105).size) hb_113)
          have hB_127 : Below w_6.heap.size w_6 w_112 := (bt (bg (bt hB_106 hb_97) hg_102 (hB_106).size) hb_113)
          have hB_128 : Below w_11.heap.size w_11 w_112 := (bt (bg (bt hB_107 hb_97) hg_102 (hB_107).size) hb_113)
          have hB_129 : Below w_92.heap.size w_92 w_112 := (bt (bg hb_97 hg_102 (Nat.le_refl _)) hb_113)
          refine XL_nil ?_
          refine X_seq ?_
          refine X_gen (S := fun w_ => RX.Blk w_ w_92.heap.size 33 #[.int .i64 1, .string ((U.cutP o.text n).1), .int .i64 0, .int .i64 0, .string ByteArray.empty, .int .i64 0, .slice A_90 o.attrs.length c_91] ∧ RX.Blk w_ w_112.heap.size 33 #[.int .i64 1, .string ((U.cutP o.text n).2.1), .int .i64 0, .int .i64 0, .string ByteArray.empty, .int .i64 0, .slice A_110 o.attrs.length c_111]) [] 5 #[false, false, false, false, false] (by kernel_rfl) (by kernel_rfl) (by kernel_rfl) (fun wd_130 hb_131 hh_132 => ?_)
          have hB_133 : Below w_101.heap.size w_101 wd_130 := (bt (bg (bt hb_113 hb_118) hg_123 (hb_113).size) hb_131)
          refine XG_run (fuel' := 3) ⟨(Blk.below hk_103 hB_133), (Blk.below hk_124 hb_131)⟩ [0, 1] [(68, .load (.agg #[.int .i64 1, .string ((U.cutP o.text n).1), .int .i64 0, .int .i64 0, .string ByteArray.empty, .int .i64 0, .slice A_90 o.attrs.length c_91])), (69, .load (.agg #[.int .i64 1, .string ((U.cutP o.text n).2.1), .int .i64 0, .int .i64 0, .string ByteArray.empty, .int .i64 0, .slice A_110 o.attrs.length c_111]))] [.agg #[.int .i64 1, .string ((U.cutP o.text n).1), .int .i64 0, .int .i64 0, .string ByteArray.empty, .int .i64 0, .slice A_90 o.attrs.length c_91], .agg #[.int .i64 1, .string ((U.cutP o.text n).2.1), .int .i64 0, .int .i64 0, .string ByteArray.empty, .int .i64 0, .slice A_110 o.attrs.length c_111]] #[true, true, false, false, false] [(4, .pointer (some ⟨w_1.heap.size, 0, none⟩)), (5, .pointer (some ⟨w_6.heap.size, 0, none⟩)), (68, .agg #[.int .i64 1, .string ((U.cutP o.text n).1), .int .i64 0, .int .i64 0, .string ByteArray.empty, .int .i64 0, .slice A_90 o.attrs.length c_91]), (69, .agg #[.int .i64 1, .string ((U.cutP o.text n).2.1), .int .i64 0, .int .i64 0, .string ByteArray.empty, .int .i64 0, .slice A_110 o.attrs.length c_111])] (fun w_ => [LoadsAs Tryd.prog 33 (⟨w_92.heap.size, 0, none⟩) (.agg #[.int .i64 1, .string ((U.cutP o.text n).1), .int .i64 0, .int .i64 0, .string ByteArray.empty, .int .i64 0, .slice A_90 o.attrs.length c_91]) w_, LoadsAs Tryd.prog 33 (⟨w_112.heap.size, 0, none⟩) (.agg #[.int .i64 1, .string ((U.cutP o.text n).2.1), .int .i64 0, .int .i64 0, .string ByteArray.empty, .int .i64 0, .slice A_110 o.attrs.length c_111]) w_]) (fun _ _ _ _ h => h) (fun w_ => by kernel_rfl) rfl (fun w_ hC_ => ⟨loadsB rfl rfl hC_.1 0 ⟨by kernel_rfl, by kernel_rfl⟩, loadsB rfl rfl hC_.2 0 ⟨by kernel_rfl, by kernel_rfl⟩, trivial⟩) ?_
          refine XG_mid (fuel' := 2) 2 #[true, true, true, false, false] _ rfl (by kernel_rfl) (by kernel_rfl) rfl ?_
          have hB_138 : Below w_6.heap.size w_6 wd_130 := (bt (bg (bt hB_127 hb_118) hg_123 (hB_127).size) hb_131)
          refine XL_store (v := .agg #[.int .i64 1, .string ((U.cutP o.text n).1), .int .i64 0, .int .i64 0, .string ByteArray.empty, .int .i64 0, .slice A_90 o.attrs.length c_91]) rfl rfl rfl (by kernel_rfl) (Blk.below hk_8 hB_138) 0 [.int .i64 1, .string ((U.cutP o.text n).1), .int .i64 0, .int .i64 0, .string ByteArray.empty, .int .i64 0, .slice A_90 o.attrs.length c_91] #[.int .i64 1, .string ((U.cutP o.text n).1), .int .i64 0, .int .i64 0, .string ByteArray.empty, .int .i64 0, .slice A_90 o.attrs.length c_91] ⟨by kernel_rfl, rfl, by kernel_rfl⟩ ⟨by kernel_rfl, by kernel_rfl⟩ (Nat.le_of_ble_eq_true (by kernel_rfl)) (fun w_134 hg_135 hk_136 hz_137 => ?_)
          have hne_139 : w_6.heap.size ≠ w_1.heap.size := Nat.ne_of_gt (Nat.lt_of_lt_of_le (Blk.lt hk_8) (Nat.le_refl _))
          have hB_140 : Below w_11.heap.size w_11 wd_130 := (bt (bg (bt hB_128 hb_118) hg_123 (hB_128).size) hb_131)
          have hk_141 := Blk.other (Blk.below hk_13 hB_140) hg_135 hne_139
          have hne_142 : w_19.heap.size ≠ w_1.heap.size := Nat.ne_of_gt (Nat.lt_of_lt_of_le (Blk.lt hk_8) ((bt hb_12 hb_20)).size)
          have hB_143 : Below w_34.heap.size w_34 wd_130 := (bt (bg (bt (bt hB_108 hb_113) hb_118) hg_123 ((bt hB_108 hb_113)).size) hb_131)
          have hk_144 := Blk.other (Blk.below hk_36 hB_143) hg_135 hne_142
          have hne_145 : w_92.heap.size ≠ w_1.heap.size := Nat.ne_of_gt (Nat.lt_of_lt_of_le (Blk.lt hk_8) (hB_106).size)
          have hk_146 := Blk.other (Blk.below hk_103 hB_133) hg_135 hne_145
          have hne_147 : w_112.heap.size ≠ w_1.heap.size := Nat.ne_of_gt (Nat.lt_of_lt_of_le (Blk.lt hk_8) (hB_127).size)
          have hk_148 := Blk.other (Blk.below hk_124 hb_131) hg_135 hne_147
          have hB_149 : Below w_6.heap.size w_6 w_101 := (bg (bt hB_106 hb_97) hg_102 (hB_106).size)
          have hB_151 : Below w_112.heap.size w_112 wd_130 := (bt (bg hb_118 hg_123 (Nat.le_refl _)) hb_131)
          have hr_150 := RX.Kd.R_past (Kd.R_below hr_115 hB_151) hg_135 (Nat.lt_of_lt_of_le (Blk.lt hk_8) (hB_149).size)
          have hB_152 : Below w_6.heap.size w_6 w_87 := (bt (bg (bt (bt hb_12 hb_20) hb_30) hg_35 ((bt hb_12 hb_20)).size) hb_88)
          have hB_154 : Below w_92.heap.size w_92 wd_130 := (bt (bg (bt hB_129 hb_118) hg_123 (hB_129).size) hb_131)
          have hr_153 := RX.Kd.R_past (Kd.R_below hr_95 hB_154) hg_135 (Nat.lt_of_lt_of_le (Blk.lt hk_8) (hB_152).size)
          refine XL_nil ?_
          refine ⟨⟨hk_146, hk_148⟩, ?_⟩
          refine XG_mid (fuel' := 1) 3 #[true, true, true, true, false] _ rfl (by kernel_rfl) (by kernel_rfl) rfl ?_
          refine XL_store (v := .agg #[.int .i64 1, .string ((U.cutP o.text n).2.1), .int .i64 0, .int .i64 0, .string ByteArray.empty, .int .i64 0, .slice A_110 o.attrs.length c_111]) rfl rfl rfl (by kernel_rfl) hk_141 0 [.int .i64 1, .string ((U.cutP o.text n).2.1), .int .i64 0, .int .i64 0, .string ByteArray.empty, .int .i64 0, .slice A_110 o.attrs.length c_111] #[.int .i64 1, .string ((U.cutP o.text n).2.1), .int .i64 0, .int .i64 0, .string ByteArray.empty, .int .i64 0, .slice A_110 o.attrs.length c_111] ⟨by kernel_rfl, rfl, by kernel_rfl⟩ ⟨by kernel_rfl, by kernel_rfl⟩ (Nat.le_of_ble_eq_true (by kernel_rfl)) (fun w_155 hg_156 hk_157 hz_158 => ?_)
          have hne_159 : w_1.heap.size ≠ w_6.heap.size := Nat.ne_of_lt (Nat.lt_of_lt_of_le (Blk.lt hk_8) (Nat.le_refl _))
          have hk_160 := Blk.other hk_136 hg_156 hne_159
          have hne_161 : w_19.heap.size ≠ w_6.heap.size := Nat.ne_of_gt (Nat.lt_of_lt_of_le (Blk.lt hk_13) (hb_20).size)
          have hk_162 := Blk.other hk_144 hg_156 hne_161
          have hne_163 : w_92.heap.size ≠ w_6.heap.size := Nat.ne_of_gt (Nat.lt_of_lt_of_le (Blk.lt hk_13) (hB_107).size)
          have hk_164 := Blk.other hk_146 hg_156 hne_163
          have hne_165 : w_112.heap.size ≠ w_6.heap.size := Nat.ne_of_gt (Nat.lt_of_lt_of_le (Blk.lt hk_13) (hB_128).size)
          have hk_166 := Blk.other hk_148 hg_156 hne_165
          have hB_167 : Below w_11.heap.size w_11 w_101 := (bg (bt hB_107 hb_97) hg_102 (hB_107).size)
          have hr_168 := RX.Kd.R_past hr_150 hg_156 (Nat.lt_of_lt_of_le (Blk.lt hk_13) (hB_167).size)
          have hB_169 : Below w_11.heap.size w_11 w_87 := (bt (bg (bt hb_20 hb_30) hg_35 (hb_20).size) hb_88)
          have hr_170 := RX.Kd.R_past hr_153 hg_156 (Nat.lt_of_lt_of_le (Blk.lt hk_13) (hB_169).size)
          refine XL_nil ?_
          refine ⟨⟨hk_164, hk_166⟩, ?_⟩
          refine XG_run (fuel' := 0) ⟨hk_164, hk_166⟩ [4] [] [.nilIface] #[true, true, true, true, true] [(4, .pointer (some ⟨w_1.heap.size, 0, none⟩)), (5, .pointer (some ⟨w_6.heap.size, 0, none⟩)), (6, .nilIface)] (fun w_ => []) (fun _ _ _ _ h => h) (fun w_ => by kernel_rfl) rfl (fun w_ hC_ => trivial) ?_
          refine XG_done (by kernel_rfl) ?_
          refine X_ret ?_
          refine RX.ret_cellCCT (P := Tryd.prog) (fn := Tryd.f58) (N := 70) (R := R_) (c := 4) (d := 5) (t := 33) (t' := 33) (p := ⟨w_1.heap.size, 0, none⟩) (p' := ⟨w_6.heap.size, 0, none⟩) (v := .agg #[.int .i64 1, .string ((U.cutP o.text n).1), .int .i64 0, .int .i64 0, .string ByteArray.empty, .int .i64 0, .slice A_90 o.attrs.length c_91]) (v' := .agg #[.int .i64 1, .string ((U.cutP o.text n).2.1), .int .i64 0, .int .i64 0, .string ByteArray.empty, .int .i64 0, .slice A_110 o.attrs.length c_111]) (u := .nilIface) rfl rfl (loadsB rfl rfl hk_160 0 ⟨by kernel_rfl, by kernel_rfl⟩) rfl (loadsB rfl rfl hk_157 0 ⟨by kernel_rfl, by kernel_rfl⟩) rfl (hR_ _ _ ?_)
          have hB_171 : Below w.heap.size w w_112 := (bt (bg (bt (bt (bt hB_86 hb_88) hb_93) hb_97) hg_102 ((bt (bt hB_86 hb_88) hb_93)).size) hb_113)
          have hB_172 : Below w.heap.size w w_155 := (bg (bg (bt (bg (bt (bt (bg (bt (bt (bt hB_86 hb_88) hb_93) hb_97) hg_102 ((bt (bt hB_86 hb_88) hb_93)).size) hb_113) hb_118) hg_123 (hB_171).size) hb_131) hg_135 (hb_2).size) hg_156 ((bt hb_2 hb_7)).size)
          have hB_173 : Below w.heap.size w w_101 := (bg (bt (bt (bt hB_86 hb_88) hb_93) hb_97) hg_102 ((bt (bt hB_86 hb_88) hb_93)).size)
          rw [show cutO o n = (mkT (U.cutP o.text n).1 o.attrs, mkT (U.cutP o.text n).2.1 o.attrs, 0) from by unfold cutO; rw [if_neg (by omega), if_neg (by omega)]]
          exact ⟨_, _, _, _, rfl, Kd.R_low hr_170 ((bt hB_86 hb_88)).size, Kd.R_low hr_168 (hB_173).size, hne_116, hB_172⟩
    · rw [pOf_emb hk_23] at hp_22
      obtain ⟨A_174, c_175, e_176, hl_177, hC_178⟩ := kPiece_emb (kPiece.K_of_M hp_22)
      obtain rfl := (List.cons.inj e_176).1
      have hval : o.val = (o.vk, o.vn, o.vt) := rfl
      rw [hval] at hp_22 ⊢
      refine XL_run 6 [] [(1, .int .i64 n), (4, .pointer (some ⟨w_1.heap.size, 0, none⟩)), (5, .pointer (some ⟨w_6.heap.size, 0, none⟩)), (9, .pointer (some ⟨w_19.heap.size, 0, none⟩)), (28, .agg #[.slice none 0 0, .string ByteArray.empty, .int .i64 0]), (29, .bool false)] (w_19.alloc (.cells #[.slice none 0 0, .string ByteArray.empty, .int .i64 0] 51)) [] (by kernel_rfl) trivial ?_
      obtain ⟨w_179, hw_183, hb_180, hk_181, hz_182⟩ := new_world w_19 #[.slice none 0 0, .string ByteArray.empty, .int .i64 0] 51
      rw [hw_183]
      refine XL_store (v := .agg #[.slice none 0 0, .string ByteArray.empty, .int .i64 0]) rfl rfl rfl (by kernel_rfl) hk_181 0 [.slice none 0 0, .string ByteArray.empty, .int .i64 0] #[.slice none 0 0, .string ByteArray.empty, .int .i64 0] ⟨by kernel_rfl, rfl, by kernel_rfl⟩ ⟨by kernel_rfl, by kernel_rfl⟩ (Nat.le_of_ble_eq_true (by kernel_rfl)) (fun w_184 hg_185 hk_186 hz_187 => ?_)
      refine XL_run 1 [] [(1, .int .i64 n), (4, .pointer (some ⟨w_1.heap.size, 0, none⟩)), (5, .pointer (some ⟨w_6.heap.size, 0, none⟩)), (9, .pointer (some ⟨w_19.heap.size, 0, none⟩)), (10, .bool false)] w_184 [] (by kernel_rfl) trivial ?_
      refine XL_nil ?_
      refine X_seq ?_
      refine X_seq ?_
      refine X_region ?_
      refine XL_run 12 [] [(1, .int .i64 n), (4, .pointer (some ⟨w_1.heap.size, 0, none⟩)), (5, .pointer (some ⟨w_6.heap.size, 0, none⟩)), (9, .pointer (some ⟨w_19.heap.size, 0, none⟩)), (41, .bool true)] w_184 [] (by kernel_rfl) trivial ?_
      refine XL_nil ?_
      refine X_cond true rfl ?_
      refine X_seq ?_
      refine X_gen (S := fun w_ => w_.cell? (⟨5, 0, none⟩) = some (.iface 184 (.pointer (some (errAt es 12))))) [] 6 #[false, false, false, false, false, false] (by kernel_rfl) (by kernel_rfl) (by kernel_rfl) (fun wd_188 hb_189 hh_190 => ?_)
      have hB_191 : Below w.heap.size w wd_188 := (bt (bg (bt (bt (bt (bt hb_2 hb_7) hb_12) hb_20) hb_180) hg_185 ((bt (bt (bt hb_2 hb_7) hb_12) hb_20)).size) hb_189)
      refine XG_run (fuel' := 3) ((hB_191.cell (World.block_lt_of_cell? _ _ (hE.load 12 5 (by decide) (by decide) rfl))).trans (hE.load 12 5 (by decide) (by decide) rfl)) [0, 1, 2] [(44, .load (.iface 184 (.pointer (some (errAt es 12)))))] [.agg #[.int .i64 0, .string ByteArray.empty, .int .i64 0, .int .i64 0, .string ByteArray.empty, .int .i64 0, .slice none 0 0], .agg #[.int .i64 0, .string ByteArray.empty, .int .i64 0, .int .i64 0, .string ByteArray.empty, .int .i64 0, .slice none 0 0], .iface 184 (.pointer (some (errAt es 12)))] #[true, true, true, false, false, false] [(4, .pointer (some ⟨w_1.heap.size, 0, none⟩)), (5, .pointer (some ⟨w_6.heap.size, 0, none⟩)), (42, .agg #[.int .i64 0, .string ByteArray.empty, .int .i64 0, .int .i64 0, .string ByteArray.empty, .int .i64 0, .slice none 0 0]), (43, .agg #[.int .i64 0, .string ByteArray.empty, .int .i64 0, .int .i64 0, .string ByteArray.empty, .int .i64 0, .slice none 0 0]), (44, .iface 184 (.pointer (some (errAt es 12))))] (fun w_ => [LoadsAs Tryd.prog 27 (⟨5, 0, none⟩) (.iface 184 (.pointer (some (errAt es 12)))) w_]) (fun _ _ _ _ h => h) (fun w_ => by kernel_rfl) rfl (fun w_ hC_ => ⟨loads1 rfl hC_, trivial⟩) ?_
      refine XG_mid (fuel' := 2) 3 #[true, true, true, true, false, false] _ rfl (by kernel_rfl) (by kernel_rfl) rfl ?_
      have hB_196 : Below w_6.heap.size w_6 wd_188 := (bt (bg (bt (bt hb_12 hb_20) hb_180) hg_185 ((bt hb_12 hb_20)).size) hb_189)
      refine XL_store (v := .agg #[.int .i64 0, .string ByteArray.empty, .int .i64 0, .int .i64 0, .string ByteArray.empty, .int .i64 0, .slice none 0 0]) rfl rfl rfl (by kernel_rfl) (Blk.below hk_8 hB_196) 0 [.int .i64 0, .string ByteArray.empty, .int .i64 0, .int .i64 0, .string ByteArray.empty, .int .i64 0, .slice none 0 0] #[.int .i64 0, .string ByteArray.empty, .int .i64 0, .int .i64 0, .string ByteArray.empty, .int .i64 0, .slice none 0 0] ⟨by kernel_rfl, rfl, by kernel_rfl⟩ ⟨by kernel_rfl, by kernel_rfl⟩ (Nat.le_of_ble_eq_true (by kernel_rfl)) (fun w_192 hg_193 hk_194 hz_195 => ?_)
      have hne_197 : w_6.heap.size ≠ w_1.heap.size := Nat.ne_of_gt (Nat.lt_of_lt_of_le (Blk.lt hk_8) (Nat.le_refl _))
      have hB_198 : Below w_11.heap.size w_11 wd_188 := (bt (bg (bt hb_20 hb_180) hg_185 (hb_20).size) hb_189)
      have hk_199 := Blk.other (Blk.below hk_13 hB_198) hg_193 hne_197
      have hne_200 : w_19.heap.size ≠ w_1.heap.size := Nat.ne_of_gt (Nat.lt_of_lt_of_le (Blk.lt hk_8) ((bt hb_12 hb_20)).size)
      have hk_201 := Blk.other (Blk.below hk_186 hb_189) hg_193 hne_200
      refine XL_nil ?_
      refine ⟨(((bg hB_191 hg_193 (hb_2).size).cell (World.block_lt_of_cell? _ _ (hE.load 12 5 (by decide) (by decide) rfl))).trans (hE.load 12 5 (by decide) (by decide) rfl)), ?_⟩
      refine XG_mid (fuel' := 1) 4 #[true, true, true, true, true, false] _ rfl (by kernel_rfl) (by kernel_rfl) rfl ?_
      refine XL_store (v := .agg #[.int .i64 0, .string ByteArray.empty, .int .i64 0, .int .i64 0, .string ByteArray.empty, .int .i64 0, .slice none 0 0]) rfl rfl rfl (by kernel_rfl) hk_199 0 [.int .i64 0, .string ByteArray.empty, .int .i64 0, .int .i64 0, .string ByteArray.empty, .int .i64 0, .slice none 0 0] #[.int .i64 0, .string ByteArray.empty, .int .i64 0, .int .i64 0, .string ByteArray.empty, .int .i64 0, .slice none 0 0] ⟨by kernel_rfl, rfl, by kernel_rfl⟩ ⟨by kernel_rfl, by kernel_rfl⟩ (Nat.le_of_ble_eq_true (by kernel_rfl)) (fun w_202 hg_203 hk_204 hz_205 => ?_)
      have hne_206 : w_1.heap.size ≠ w_6.heap.size := Nat.ne_of_lt (Nat.lt_of_lt_of_le (Blk.lt hk_8) (Nat.le_refl _))
      have hk_207 := Blk.other hk_194 hg_203 hne_206
      have hne_208 : w_19.heap.size ≠ w_6.heap.size := Nat.ne_of_gt (Nat.lt_of_lt_of_le (Blk.lt hk_13) (hb_20).size)
      have hk_209 := Blk.other hk_201 hg_203 hne_208
      refine XL_nil ?_
      have hB_210 : Below w.heap.size w w_202 := (bg (bg hB_191 hg_193 (hb_2).size) hg_203 ((bt hb_2 hb_7)).size)
      refine ⟨((hB_210.cell (World.block_lt_of_cell? _ _ (hE.load 12 5 (by decide) (by decide) rfl))).trans (hE.load 12 5 (by decide) (by decide) rfl)), ?_⟩
      refine XG_run (fuel' := 0) ((hB_210.cell (World.block_lt_of_cell? _ _ (hE.load 12 5 (by decide) (by decide) rfl))).trans (hE.load 12 5 (by decide) (by decide) rfl)) [5] [] [.iface 184 (.pointer (some (errAt es 12)))] #[true, true, true, true, true, true] [(4, .pointer (some ⟨w_1.heap.size, 0, none⟩)), (5, .pointer (some ⟨w_6.heap.size, 0, none⟩)), (6, .iface 184 (.pointer (some (errAt es 12))))] (fun w_ => []) (fun _ _ _ _ h => h) (fun w_ => by kernel_rfl) rfl (fun w_ hC_ => trivial) ?_
      refine XG_done (by kernel_rfl) ?_
      refine X_ret ?_
      refine RX.ret_cellCCT (P := Tryd.prog) (fn := Tryd.f58) (N := 70) (R := R_) (c := 4) (d := 5) (t := 33) (t' := 33) (p := ⟨w_1.heap.size, 0, none⟩) (p' := ⟨w_6.heap.size, 0, none⟩) (v := .agg #[.int .i64 0, .string ByteArray.empty, .int .i64 0, .int .i64 0, .string ByteArray.empty, .int .i64 0, .slice none 0 0]) (v' := .agg #[.int .i64 0, .string ByteArray.empty, .int .i64 0, .int .i64 0, .string ByteArray.empty, .int .i64 0, .slice none 0 0]) (u := .iface 184 (.pointer (some (errAt es 12)))) rfl rfl (loadsB rfl rfl hk_207 0 ⟨by kernel_rfl, by kernel_rfl⟩) rfl (loadsB rfl rfl hk_204 0 ⟨by kernel_rfl, by kernel_rfl⟩) rfl (hR_ _ _ ?_)
      rw [show cutO o n = (op0, op0, 12) from by unfold cutO; rw [if_neg (by omega), if_pos (by omega)]]
      exact ⟨none, 0, none, 0, rfl, Kd.R_nil _ _ _ _ _, Kd.R_nil _ _ _ _ _, (fun _ h_ => by cases h_), hB_210⟩
  · rw [errV_pos es (refuseP o) (Nat.pos_of_ne_zero c_21)]
    refine XL_run 1 [] [(1, .int .i64 n), (4, .pointer (some ⟨w_1.heap.size, 0, none⟩)), (5, .pointer (some ⟨w_6.heap.size, 0, none⟩)), (7, v_16), (8, .iface 184 (.pointer (some (errAt es (refuseP o))))), (21, .bool true)] w_19 [] (by kernel_rfl) trivial ?_
    refine XL_nil ?_
    refine X_cond true rfl ?_
    refine X_seq ?_
    refine X_region ?_
    refine XL_run 3 [] [(4, .pointer (some ⟨w_1.heap.size, 0, none⟩)), (5, .pointer (some ⟨w_6.heap.size, 0, none⟩)), (22, .agg #[.int .i64 0, .string ByteArray.empty, .int .i64 0, .int .i64 0, .string ByteArray.empty, .int .i64 0, .slice none 0 0]), (23, .agg #[.int .i64 0, .string ByteArray.empty, .int .i64 0, .int .i64 0, .string ByteArray.empty, .int .i64 0, .slice none 0 0]), (24, .iface 184 (.pointer (some (errAt es (refuseP o)))))] w_19 [] (by kernel_rfl) trivial ?_
    refine XL_store (v := .agg #[.int .i64 0, .string ByteArray.empty, .int .i64 0, .int .i64 0, .string ByteArray.empty, .int .i64 0, .slice none 0 0]) rfl rfl rfl (by kernel_rfl) (Blk.below hk_8 (bt hb_12 hb_20)) 0 [.int .i64 0, .string ByteArray.empty, .int .i64 0, .int .i64 0, .string ByteArray.empty, .int .i64 0, .slice none 0 0] #[.int .i64 0, .string ByteArray.empty, .int .i64 0, .int .i64 0, .string ByteArray.empty, .int .i64 0, .slice none 0 0] ⟨by kernel_rfl, rfl, by kernel_rfl⟩ ⟨by kernel_rfl, by kernel_rfl⟩ (Nat.le_of_ble_eq_true (by kernel_rfl)) (fun w_211 hg_212 hk_213 hz_214 => ?_)
    have hne_215 : w_6.heap.size ≠ w_1.heap.size := Nat.ne_of_gt (Nat.lt_of_lt_of_le (Blk.lt hk_8) (Nat.le_refl _))
    have hk_216 := Blk.other (Blk.below hk_13 hb_20) hg_212 hne_215
    refine XL_store (v := .agg #[.int .i64 0, .string ByteArray.empty, .int .i64 0, .int .i64 0, .string ByteArray.empty, .int .i64 0, .slice none 0 0]) rfl rfl rfl (by kernel_rfl) hk_216 0 [.int .i64 0, .string ByteArray.empty, .int .i64 0, .int .i64 0, .string ByteArray.empty, .int .i64 0, .slice none 0 0] #[.int .i64 0, .string ByteArray.empty, .int .i64 0, .int .i64 0, .string ByteArray.empty, .int .i64 0, .slice none 0 0] ⟨by kernel_rfl, rfl, by kernel_rfl⟩ ⟨by kernel_rfl, by kernel_rfl⟩ (Nat.le_of_ble_eq_true (by kernel_rfl)) (fun w_217 hg_218 hk_219 hz_220 => ?_)
    have hne_221 : w_1.heap.size ≠ w_6.heap.size := Nat.ne_of_lt (Nat.lt_of_lt_of_le (Blk.lt hk_8) (Nat.le_refl _))
    have hk_222 := Blk.other hk_213 hg_218 hne_221
    refine XL_run 1 [] [(4, .pointer (some ⟨w_1.heap.size, 0, none⟩)), (5, .pointer (some ⟨w_6.heap.size, 0, none⟩)), (6, .iface 184 (.pointer (some (errAt es (refuseP o)))))] w_217 [] (by kernel_rfl) trivial ?_
    refine XL_nil ?_
    refine X_ret ?_
    refine RX.ret_cellCCT (P := Tryd.prog) (fn := Tryd.f58) (N := 70) (R := R_) (c := 4) (d := 5) (t := 33) (t' := 33) (p := ⟨w_1.heap.size, 0, none⟩) (p' := ⟨w_6.heap.size, 0, none⟩) (v := .agg #[.int .i64 0, .string ByteArray.empty, .int .i64 0, .int .i64 0, .string ByteArray.empty, .int .i64 0, .slice none 0 0]) (v' := .agg #[.int .i64 0, .string ByteArray.empty, .int .i64 0, .int .i64 0, .string ByteArray.empty, .int .i64 0, .slice none 0 0]) (u := .iface 184 (.pointer (some (errAt es (refuseP o))))) rfl rfl (loadsB rfl rfl hk_222 0 ⟨by kernel_rfl, by kernel_rfl⟩) rfl (loadsB rfl rfl hk_219 0 ⟨by kernel_rfl, by kernel_rfl⟩) rfl (hR_ _ _ ?_)
    have hB_223 : Below w.heap.size w w_217 := (bg (bg (bt (bt (bt hb_2 hb_7) hb_12) hb_20) hg_212 (hb_2).size) hg_218 ((bt hb_2 hb_7)).size)
    rw [show cutO o n = (op0, op0, refuseP o) from if_pos c_21]
    exact ⟨none, 0, none, 0, by rw [errV_pos es _ (Nat.pos_of_ne_zero c_21)]; rfl, Kd.R_nil _ _ _ _ _, Kd.R_nil _ _ _ _ _, (fun _ h_ => by cases h_), hB_223⟩
/-- what Join answers -/
def joinO (a b : OpA) : OpA × Bool × Nat :=
  if refuseP a ≠ 0 then (op0, false, refuseP a)
  else if refuseP b ≠ 0 then (op0, false, refuseP b)
  else if a.kind = 1 ∧ b.kind = 1 ∧ a.attrs = b.attrs then (⟨1, a.text ++ b.text, 0, 0, ByteArray.empty, 0, a.attrs⟩, true, 0)
  else (op0, false, 0)
set_option maxHeartbeats 4000000 in
theorem cjoin_any (a b : OpA) (A B : Option Addr) (c d : Nat) (w : World) (hA : kAttr.C w A a.attrs.length a.attrs) (hB : kAttr.C w B b.attrs.length b.attrs) (hza : opSz a) (hzb : opSz b) (hT : Tabs w) (es : List Addr) (hE : ErrsC w es) : Calls Tryd.prog 61 #[.agg #[.int .i64 a.kind, .string a.text, .int .i64 a.vk, .int .i64 a.vn, .string a.vt, .int .i64 a.count, .slice A a.attrs.length c], .agg #[.int .i64 b.kind, .string b.text, .int .i64 b.vk, .int .i64 b.vn, .string b.vt, .int .i64 b.count, .slice B b.attrs.length d]] w fun e w' =>
    ∃ A1 c1, e = .returned (.tuple #[.agg (opV (joinO a b).1 A1 c1).toArray, .bool (joinO a b).2.1, errV es (joinO a b).2.2]) ∧ kAttr.R 79 w' w.heap.size (OkFrom w.heap.size) (.slice A1 (joinO a b).1.attrs.length c1) (joinO a b).1.attrs ∧ Below w.heap.size w w' := by
  have hz1 := hza.1
  have hz2 := hzb.1
  have hz3 := hza.2.2.1
  refine RX.enter Tryd.func61 rfl 66 rfl [(0, .agg #[.int .i64 a.kind, .string a.text, .int .i64 a.vk, .int .i64 a.vn, .string a.vt, .int .i64 a.count, .slice A a.attrs.length c]), (1, .agg #[.int .i64 b.kind, .string b.text, .int .i64 b.vk, .int .i64 b.vn, .string b.vt, .int .i64 b.count, .slice B b.attrs.length d])] rfl (by kernel_rfl) (fun R_ hR_ => ?_)
  refine X_seq ?_
  refine X_region ?_
  refine XL_run 1 [] [(1, .agg #[.int .i64 b.kind, .string b.text, .int .i64 b.vk, .int .i64 b.vn, .string b.vt, .int .i64 b.count, .slice B b.attrs.length d]), (2, .pointer (some ⟨w.heap.size, 0, none⟩))] (w.alloc (.cells #[.int .i64 a.kind, .string a.text, .int .i64 a.vk, .int .i64 a.vn, .string a.vt, .int .i64 a.count, .slice A a.attrs.length c] 33)) [] (by kernel_rfl) trivial ?_
  obtain ⟨w_1, hw_5, hb_2, hk_3, hz_4⟩ := new_world w #[.int .i64 a.kind, .string a.text, .int .i64 a.vk, .int .i64 a.vn, .string a.vt, .int .i64 a.count, .slice A a.attrs.length c] 33
  rw [hw_5]
  refine XL_run 1 [] [(2, .pointer (some ⟨w.heap.size, 0, none⟩)), (3, .pointer (some ⟨w_1.heap.size, 0, none⟩))] (w_1.alloc (.cells #[.int .i64 b.kind, .string b.text, .int .i64 b.vk, .int .i64 b.vn, .string b.vt, .int .i64 b.count, .slice B b.attrs.length d] 33)) [] (by kernel_rfl) trivial ?_
  obtain ⟨w_6, hw_10, hb_7, hk_8, hz_9⟩ := new_world w_1 #[.int .i64 b.kind, .string b.text, .int .i64 b.vk, .int .i64 b.vn, .string b.vt, .int .i64 b.count, .slice B b.attrs.length d] 33
  rw [hw_10]
  refine XL_run 1 [] [(2, .pointer (some ⟨w.heap.size, 0, none⟩)), (3, .pointer (some ⟨w_1.heap.size, 0, none⟩)), (4, .pointer (some ⟨w_6.heap.size, 0, none⟩))] (w_6.alloc (.cells #[.int .i64 0, .string ByteArray.empty, .int .i64 0, .int .i64 0, .string ByteArray.empty, .int .i64 0, .slice none 0 0] 33)) [] (by kernel_rfl) trivial ?_
  obtain ⟨w_11, hw_15, hb_12, hk_13, hz_14⟩ := new_world w_6 #[.int .i64 0, .string ByteArray.empty, .int .i64 0, .int .i64 0, .string ByteArray.empty, .int .i64 0, .slice none 0 0] 33
  rw [hw_15]
  refine XL_run 2 [] [(2, .pointer (some ⟨w.heap.size, 0, none⟩)), (3, .pointer (some ⟨w_1.heap.size, 0, none⟩)), (4, .pointer (some ⟨w_6.heap.size, 0, none⟩))] w_11 [] (by kernel_rfl) trivial ?_
  refine XL_nil ?_
  refine X_seq ?_
  refine X_region ?_
  refine XL_run 1 [(14, .load (.agg #[.int .i64 a.kind, .string a.text, .int .i64 a.vk, .int .i64 a.vn, .string a.vt, .int .i64 a.count, .slice A a.attrs.length c]))] [(3, .pointer (some ⟨w_1.heap.size, 0, none⟩)), (4, .pointer (some ⟨w_6.heap.size, 0, none⟩)), (14, .agg #[.int .i64 a.kind, .string a.text, .int .i64 a.vk, .int .i64 a.vn, .string a.vt, .int .i64 a.count, .slice A a.attrs.length c])] w_11 [LoadsAs Tryd.prog 33 (⟨w.heap.size, 0, none⟩) (.agg #[.int .i64 a.kind, .string a.text, .int .i64 a.vk, .int .i64 a.vn, .string a.vt, .int .i64 a.count, .slice A a.attrs.length c]) w_11] (by kernel_rfl) ⟨loadsB rfl rfl (Blk.below hk_3 (bt hb_7 hb_12)) 0 ⟨by kernel_rfl, by kernel_rfl⟩, trivial⟩ ?_
  refine XL_call 51 rfl rfl rfl ent51 [.agg #[.int .i64 a.kind, .string a.text, .int .i64 a.vk, .int .i64 a.vn, .string a.vt, .int .i64 a.count, .slice A a.attrs.length c]] (by kernel_rfl) (cof_any a _ _ _ (Kd.C_below hA (bt (bt hb_2 hb_7) hb_12)) hza (hT.below (bt (bt hb_2 hb_7) hb_12)) es (hE.i.below (bt (bt hb_2 hb_7) hb_12))) ?_
  rintro e w_19 ⟨v_16, rfl, hM_17, hN_18, hb_20⟩; refine ⟨_, rfl, ?_⟩
  refine XL_run 5 [] [(3, .pointer (some ⟨w_1.heap.size, 0, none⟩)), (4, .pointer (some ⟨w_6.heap.size, 0, none⟩)), (7, v_16), (8, errV es (refuseP a))] w_19 [] (by kernel_rfl) trivial ?_
  refine XL_nil ?_
  refine X_seq ?_
  refine X_seq ?_
  refine X_region ?_
  refine XL_run 1 [] [(3, .pointer (some ⟨w_1.heap.size, 0, none⟩)), (4, .pointer (some ⟨w_6.heap.size, 0, none⟩)), (7, v_16), (8, errV es (refuseP a)), (18, errV es (refuseP a))] w_19 [] (by kernel_rfl) trivial ?_
  by_cases c_21 : (refuseP a) = 0
  · rw [show errV es (refuseP a) = .nilIface from by rw [c_21]; rfl]
    refine XL_run 1 [] [(3, .pointer (some ⟨w_1.heap.size, 0, none⟩)), (4, .pointer (some ⟨w_6.heap.size, 0, none⟩)), (7, v_16), (8, .nilIface), (19, .bool false)] w_19 [] (by kernel_rfl) trivial ?_
    refine XL_nil ?_
    refine X_cond false rfl ?_
    refine X_skip ?_
    refine X_seq ?_
    refine X_region ?_
    refine XL_run 1 [(23, .load (.agg #[.int .i64 b.kind, .string b.text, .int .i64 b.vk, .int .i64 b.vn, .string b.vt, .int .i64 b.count, .slice B b.attrs.length d]))] [(4, .pointer (some ⟨w_6.heap.size, 0, none⟩)), (7, v_16), (23, .agg #[.int .i64 b.kind, .string b.text, .int .i64 b.vk, .int .i64 b.vn, .string b.vt, .int .i64 b.count, .slice B b.attrs.length d])] w_19 [LoadsAs Tryd.prog 33 (⟨w_1.heap.size, 0, none⟩) (.agg #[.int .i64 b.kind, .string b.text, .int .i64 b.vk, .int .i64 b.vn, .string b.vt, .int .i64 b.count, .slice B b.attrs.length d]) w_19] (by kernel_rfl) ⟨loadsB rfl rfl (Blk.below hk_8 (bt hb_12 hb_20)) 0 ⟨by kernel_rfl, by kernel_rfl⟩, trivial⟩ ?_
    refine XL_call 51 rfl rfl rfl ent51 [.agg #[.int .i64 b.kind, .string b.text, .int .i64 b.vk, .int .i64 b.vn, .string b.vt, .int .i64 b.count, .slice B b.attrs.length d]] (by kernel_rfl) (cof_any b _ _ _ (Kd.C_below hB (bt (bt (bt hb_2 hb_7) hb_12) hb_20)) hzb (hT.below (bt (bt (bt hb_2 hb_7) hb_12) hb_20)) es (hE.i.below (bt (bt (bt hb_2 hb_7) hb_12) hb_20))) ?_
    rintro e w_25 ⟨v_22, rfl, hM_23, hN_24, hb_26⟩; refine ⟨_, rfl, ?_⟩
    refine XL_run 5 [] [(4, .pointer (some ⟨w_6.heap.size, 0, none⟩)), (7, v_16), (8, errV es (refuseP b)), (9, v_22)] w_25 [] (by kernel_rfl) trivial ?_
    refine XL_nil ?_
    refine X_seq ?_
    refine X_seq ?_
    refine X_region ?_
    refine XL_run 1 [] [(4, .pointer (some ⟨w_6.heap.size, 0, none⟩)), (7, v_16), (8, errV es (refuseP b)), (9, v_22), (27, errV es (refuseP b))] w_25 [] (by kernel_rfl) trivial ?_
    by_cases c_27 : (refuseP b) = 0
    · rw [show errV es (refuseP b) = .nilIface from by rw [c_27]; rfl]
      refine XL_run 1 [] [(4, .pointer (some ⟨w_6.heap.size, 0, none⟩)), (7, v_16), (8, .nilIface), (9, v_22), (28, .bool false)] w_25 [] (by kernel_rfl) trivial ?_
      refine XL_nil ?_
      refine X_cond false rfl ?_
      refine X_skip ?_
      refine X_seq ?_
      refine X_region ?_
      have hp_28 := hM_17 c_21
      rcases refuse_kind c_21 with hk_29 | hk_29
      · rw [pOf_ins hk_29] at hp_28
        obtain ⟨A_30, c_31, e_32, hl_33, hC_34⟩ := kPiece_ins (kPiece.K_of_M hp_28)
        obtain rfl := (List.cons.inj e_32).1
        refine XL_run 6 [] [(4, .pointer (some ⟨w_6.heap.size, 0, none⟩)), (9, v_22), (10, .pointer (some ⟨w_25.heap.size, 0, none⟩)), (34, .agg #[.slice A_30 a.attrs.length c_31, .string a.text, .int .i64 ((U.sc a.text).length : Int)]), (35, .bool true)] (w_25.alloc (.cells #[.slice none 0 0, .string ByteArray.empty, .int .i64 0] 51)) [] (by kernel_rfl) trivial ?_
        obtain ⟨w_35, hw_39, hb_36, hk_37, hz_38⟩ := new_world w_25 #[.slice none 0 0, .string ByteArray.empty, .int .i64 0] 51
        rw [hw_39]
        refine XL_store (v := .agg #[.slice A_30 a.attrs.length c_31, .string a.text, .int .i64 ((U.sc a.text).length : Int)]) rfl rfl rfl (by kernel_rfl) hk_37 0 [.slice A_30 a.attrs.length c_31, .string a.text, .int .i64 ((U.sc a.text).length : Int)] #[.slice A_30 a.attrs.length c_31, .string a.text, .int .i64 ((U.sc a.text).length : Int)] ⟨by kernel_rfl, rfl, by kernel_rfl⟩ ⟨by kernel_rfl, by kernel_rfl⟩ (Nat.le_of_ble_eq_true (by kernel_rfl)) (fun w_40 hg_41 hk_42 hz_43 => ?_)
        refine XL_run 1 [] [(4, .pointer (some ⟨w_6.heap.size, 0, none⟩)), (9, v_22), (10, .pointer (some ⟨w_25.heap.size, 0, none⟩)), (11, .bool true)] w_40 [] (by kernel_rfl) trivial ?_
        refine XL_nil ?_
        refine X_seq ?_
        refine X_seq ?_
        refine X_region ?_
        refine XL_run 2 [] [(4, .pointer (some ⟨w_6.heap.size, 0, none⟩)), (9, v_22), (10, .pointer (some ⟨w_25.heap.size, 0, none⟩)), (37, .bool false)] w_40 [] (by kernel_rfl) trivial ?_
        refine XL_nil ?_
        refine X_cond false rfl ?_
        refine X_skip ?_
        refine X_seq ?_
        refine X_region ?_
        have hp_44 := hM_23 c_27
        rcases refuse_kind c_27 with hk_45 | hk_45
        · rw [pOf_ins hk_45] at hp_44
          obtain ⟨A_46, c_47, e_48, hl_49, hC_50⟩ := kPiece_ins (kPiece.K_of_M hp_44)
          obtain rfl := (List.cons.inj e_48).1
          refine XL_run 6 [] [(4, .pointer (some ⟨w_6.heap.size, 0, none⟩)), (10, .pointer (some ⟨w_25.heap.size, 0, none⟩)), (12, .pointer (some ⟨w_40.heap.size, 0, none⟩)), (42, .agg #[.slice A_46 b.attrs.length c_47, .string b.text, .int .i64 ((U.sc b.text).length : Int)]), (43, .bool true)] (w_40.alloc (.cells #[.slice none 0 0, .string ByteArray.empty, .int .i64 0] 51)) [] (by kernel_rfl) trivial ?_
          obtain ⟨w_51, hw_55, hb_52, hk_53, hz_54⟩ := new_world w_40 #[.slice none 0 0, .string ByteArray.empty, .int .i64 0] 51
          rw [hw_55]
          refine XL_store (v := .agg #[.slice A_46 b.attrs.length c_47, .string b.text, .int .i64 ((U.sc b.text).length : Int)]) rfl rfl rfl (by kernel_rfl) hk_53 0 [.slice A_46 b.attrs.length c_47, .string b.text, .int .i64 ((U.sc b.text).length : Int)] #[.slice A_46 b.attrs.length c_47, .string b.text, .int .i64 ((U.sc b.text).length : Int)] ⟨by kernel_rfl, rfl, by kernel_rfl⟩ ⟨by kernel_rfl, by kernel_rfl⟩ (Nat.le_of_ble_eq_true (by kernel_rfl)) (fun w_56 hg_57 hk_58 hz_59 => ?_)
          have hB_60 : Below w_1.heap.size w_1 w_40 := (bg (bt (bt (bt (bt hb_7 hb_12) hb_20) hb_26) hb_36) hg_41 ((bt (bt (bt hb_7 hb_12) hb_20) hb_26)).size)
          have hB_61 : Below w_6.heap.size w_6 w_40 := (bg (bt (bt (bt hb_12 hb_20) hb_26) hb_36) hg_41 ((bt (bt hb_12 hb_20) hb_26)).size)
          have hB_62 : Below w_11.heap.size w_11 w_40 := (bg (bt (bt hb_20 hb_26) hb_36) hg_41 ((bt hb_20 hb_26)).size)
          refine XL_run 1 [] [(4, .pointer (some ⟨w_6.heap.size, 0, none⟩)), (10, .pointer (some ⟨w_25.heap.size, 0, none⟩)), (11, .bool true), (12, .pointer (some ⟨w_40.heap.size, 0, none⟩))] w_56 [] (by kernel_rfl) trivial ?_
          refine XL_nil ?_
          refine X_seq ?_
          refine X_seq ?_
          refine X_region ?_
          refine XL_run 9 [(49, .load (.slice A_30 a.attrs.length c_31)), (52, .load (.slice A_46 b.attrs.length c_47))] [(4, .pointer (some ⟨w_6.heap.size, 0, none⟩)), (10, .pointer (some ⟨w_25.heap.size, 0, none⟩)), (12, .pointer (some ⟨w_40.heap.size, 0, none⟩)), (46, .bool false), (49, .slice A_30 a.attrs.length c_31), (52, .slice A_46 b.attrs.length c_47)] w_56 [LoadsAs Tryd.prog 31 (⟨w_25.heap.size, 0, none⟩) (.slice A_30 a.attrs.length c_31) w_56, LoadsAs Tryd.prog 31 (⟨w_40.heap.size, 0, none⟩) (.slice A_46 b.attrs.length c_47) w_56] (by kernel_rfl) ⟨loads1 rfl (Blk.cell (Blk.below hk_42 (bg hb_52 hg_57 (Nat.le_refl _))) 0 _ rfl), loads1 rfl (Blk.cell hk_58 0 _ rfl), trivial⟩ ?_
          have hB_63 : Below w_19.heap.size w_19 w_56 := (bg (bt (bg (bt hb_26 hb_36) hg_41 (hb_26).size) hb_52) hg_57 ((bg (bt hb_26 hb_36) hg_41 (hb_26).size)).size)
          have hB_64 : Below w_25.heap.size w_25 w_56 := (bg (bt (bg hb_36 hg_41 (Nat.le_refl _)) hb_52) hg_57 ((bg hb_36 hg_41 (Nat.le_refl _))).size)
          refine XL_call 108 rfl rfl rfl ent108 [.slice A_30 a.attrs.length c_31, .slice A_46 b.attrs.length c_47] (by kernel_rfl) (asame_any _ _ _ _ a.attrs b.attrs _ (Kd.C_below hC_34 hB_63) (Kd.C_below hC_50 hB_64)) ?_
          rintro e w_65 ⟨rfl, hb_66⟩; refine ⟨_, rfl, ?_⟩
          by_cases c_67 : decide (a.attrs = b.attrs) = true
          · rw [show (decide (a.attrs = b.attrs) : Bool) = true from by simpa using c_67]
            refine XL_run 2 [] [(4, .pointer (some ⟨w_6.heap.size, 0, none⟩)), (10, .pointer (some ⟨w_25.heap.size, 0, none⟩)), (12, .pointer (some ⟨w_40.heap.size, 0, none⟩)), (55, .bool false)] w_65 [] (by kernel_rfl) trivial ?_
            refine XL_nil ?_
            refine X_cond false rfl ?_
            refine X_skip ?_
            refine X_seq ?_
            refine X_gen (S := fun w_ => RX.Blk w_ w_25.heap.size 51 #[.slice A_30 a.attrs.length c_31, .string a.text, .int .i64 ((U.sc a.text).length : Int)] ∧ RX.Blk w_ w_40.heap.size 51 #[.slice A_46 b.attrs.length c_47, .string b.text, .int .i64 ((U.sc b.text).length : Int)]) [] 12 #[false, false, false, false, false, false, false, false, false, false, false, false] (by kernel_rfl) (by kernel_rfl) (by kernel_rfl) (fun wd_68 hb_69 hh_70 => ?_)
            have hB_71 : Below w_40.heap.size w_40 wd_68 := (bt (bt (bg hb_52 hg_57 (Nat.le_refl _)) hb_66) hb_69)
            refine XG_run (fuel' := 5) ⟨(Blk.below hk_42 hB_71), (Blk.below hk_58 (bt hb_66 hb_69))⟩ [0, 1, 2, 3, 4, 5, 6] [(58, .load (.string a.text)), (60, .load (.string b.text)), (61, .as (.string (a.text ++ b.text))), (63, .load (.agg #[.slice A_30 a.attrs.length c_31]))] [.pointer (some ⟨w_25.heap.size, 1, none⟩), .string a.text, .pointer (some ⟨w_40.heap.size, 1, none⟩), .string b.text, .string (a.text ++ b.text), .pointer (some ⟨w_25.heap.size, 0, none⟩), .agg #[.slice A_30 a.attrs.length c_31]] #[true, true, true, true, true, true, true, false, false, false, false, false] [(4, .pointer (some ⟨w_6.heap.size, 0, none⟩)), (61, .string (a.text ++ b.text)), (63, .agg #[.slice A_30 a.attrs.length c_31])] (fun w_ => [LoadsAs Tryd.prog 9 (⟨w_25.heap.size, 1, none⟩) (.string a.text) w_, LoadsAs Tryd.prog 9 (⟨w_40.heap.size, 1, none⟩) (.string b.text) w_, RunsAs Tryd.prog [(58, .string a.text), (60, .string b.text)] (Go.Op.binOp Go.BinOp.add 9 (Go.Operand.tmp 58) (Go.Operand.tmp 60) 9) 9 (.string (a.text ++ b.text)) w_, LoadsAs Tryd.prog 49 (⟨w_25.heap.size, 0, none⟩) (.agg #[.slice A_30 a.attrs.length c_31]) w_]) (fun _ _ _ _ h => h) (fun w_ => by kernel_rfl) rfl (fun w_ hC_ => ⟨loads1 rfl (Blk.cell hC_.1 1 _ rfl), loads1 rfl (Blk.cell hC_.2 1 _ rfl), runs_bin rfl rfl rfl (run_sadd (by omega)), loadsB rfl rfl hC_.1 0 ⟨by kernel_rfl, by kernel_rfl⟩, trivial⟩) ?_
            refine XG_mid (fuel' := 4) 7 #[true, true, true, true, true, true, true, true, false, false, false, false] _ rfl (by kernel_rfl) (by kernel_rfl) rfl ?_
            refine XL_call 97 rfl rfl rfl ent97 [.agg #[.slice A_30 a.attrs.length c_31]] (by kernel_rfl) (attributes_any _ _ a.attrs _ (Kd.C_below hC_34 (bt (bt hB_63 hb_66) hb_69)) (by omega)) ?_
            rintro e w_74 ⟨A_72, c_73, rfl, hl_76, hr_77, hb_75⟩; refine ⟨_, rfl, ?_⟩
            refine XL_nil ?_
            refine ⟨⟨(Blk.below hk_42 (bt hB_71 hb_75)), (Blk.below hk_58 (bt (bt hb_66 hb_69) hb_75))⟩, ?_⟩
            refine XG_run (fuel' := 3) ⟨(Blk.below hk_42 (bt hB_71 hb_75)), (Blk.below hk_58 (bt (bt hb_66 hb_69) hb_75))⟩ [8] [] [.agg #[.int .i64 1, .string (a.text ++ b.text), .int .i64 0, .int .i64 0, .string ByteArray.empty, .int .i64 0, .slice A_72 a.attrs.length c_73]] #[true, true, true, true, true, true, true, true, true, false, false, false] [(4, .pointer (some ⟨w_6.heap.size, 0, none⟩)), (65, .agg #[.int .i64 1, .string (a.text ++ b.text), .int .i64 0, .int .i64 0, .string ByteArray.empty, .int .i64 0, .slice A_72 a.attrs.length c_73])] (fun w_ => []) (fun _ _ _ _ h => h) (fun w_ => by kernel_rfl) rfl (fun w_ hC_ => trivial) ?_
            refine XG_mid (fuel' := 2) 9 #[true, true, true, true, true, true, true, true, true, true, false, false] _ rfl (by kernel_rfl) (by kernel_rfl) rfl ?_
            have hB_82 : Below w_11.heap.size w_11 w_74 := (bt (bt (bt (bg (bt hB_62 hb_52) hg_57 (hB_62).size) hb_66) hb_69) hb_75)
            refine XL_store (v := .agg #[.int .i64 1, .string (a.text ++ b.text), .int .i64 0, .int .i64 0, .string ByteArray.empty, .int .i64 0, .slice A_72 a.attrs.length c_73]) rfl rfl rfl (by kernel_rfl) (Blk.below hk_13 hB_82) 0 [.int .i64 1, .string (a.text ++ b.text), .int .i64 0, .int .i64 0, .string ByteArray.empty, .int .i64 0, .slice A_72 a.attrs.length c_73] #[.int .i64 1, .string (a.text ++ b.text), .int .i64 0, .int .i64 0, .string ByteArray.empty, .int .i64 0, .slice A_72 a.attrs.length c_73] ⟨by kernel_rfl, rfl, by kernel_rfl⟩ ⟨by kernel_rfl, by kernel_rfl⟩ (Nat.le_of_ble_eq_true (by kernel_rfl)) (fun w_78 hg_79 hk_80 hz_81 => ?_)
            have hne_83 : w_25.heap.size ≠ w_6.heap.size := Nat.ne_of_gt (Nat.lt_of_lt_of_le (Blk.lt hk_13) ((bt hb_20 hb_26)).size)
            have hk_84 := Blk.other (Blk.below hk_42 (bt hB_71 hb_75)) hg_79 hne_83
            have hne_85 : w_40.heap.size ≠ w_6.heap.size := Nat.ne_of_gt (Nat.lt_of_lt_of_le (Blk.lt hk_13) (hB_62).size)
            have hk_86 := Blk.other (Blk.below hk_58 (bt (bt hb_66 hb_69) hb_75)) hg_79 hne_85
            have hB_87 : Below w_11.heap.size w_11 wd_68 := (bt (bt (bg (bt hB_62 hb_52) hg_57 (hB_62).size) hb_66) hb_69)
            have hr_88 := RX.Kd.R_past hr_77 hg_79 (Nat.lt_of_lt_of_le (Blk.lt hk_13) (hB_87).size)
            refine XL_nil ?_
            refine ⟨⟨hk_84, hk_86⟩, ?_⟩
            refine XG_run (fuel' := 0) ⟨hk_84, hk_86⟩ [10, 11] [] [.bool true, .nilIface] #[true, true, true, true, true, true, true, true, true, true, true, true] [(4, .pointer (some ⟨w_6.heap.size, 0, none⟩)), (5, .bool true), (6, .nilIface)] (fun w_ => []) (fun _ _ _ _ h => h) (fun w_ => by kernel_rfl) rfl (fun w_ hC_ => trivial) ?_
            refine XG_done (by kernel_rfl) ?_
            refine X_ret ?_
            refine RX.ret_cellCTT (P := Tryd.prog) (fn := Tryd.f61) (N := 66) (R := R_) (c := 4) (d := 5) (b := 6) (t := 33) (p := ⟨w_6.heap.size, 0, none⟩) (v := .agg #[.int .i64 1, .string (a.text ++ b.text), .int .i64 0, .int .i64 0, .string ByteArray.empty, .int .i64 0, .slice A_72 a.attrs.length c_73]) (v' := .bool true) (u := .nilIface) rfl rfl (loadsB rfl rfl hk_80 0 ⟨by kernel_rfl, by kernel_rfl⟩) rfl rfl (hR_ _ _ ?_)
            have hB_89 : Below w.heap.size w w_25 := (bt (bt (bt (bt hb_2 hb_7) hb_12) hb_20) hb_26)
            have hB_90 : Below w.heap.size w w_78 := (bg (bt (bt (bt (bg (bt (bg (bt (bt (bt (bt (bt hb_2 hb_7) hb_12) hb_20) hb_26) hb_36) hg_41 (hB_89).size) hb_52) hg_57 ((bg (bt hB_89 hb_36) hg_41 (hB_89).size)).size) hb_66) hb_69) hb_75) hg_79 ((bt hb_2 hb_7)).size)
            have hB_91 : Below w.heap.size w wd_68 := (bt (bt (bg (bt (bg (bt hB_89 hb_36) hg_41 (hB_89).size) hb_52) hg_57 ((bg (bt hB_89 hb_36) hg_41 (hB_89).size)).size) hb_66) hb_69)
            rw [show joinO a b = (⟨1, a.text ++ b.text, 0, 0, ByteArray.empty, 0, a.attrs⟩, true, 0) from by unfold joinO; rw [if_neg (by omega), if_neg (by omega), if_pos ⟨by omega, by omega, of_decide_eq_true c_67⟩]]
            exact ⟨_, _, rfl, Kd.R_low hr_88 (hB_91).size, hB_90⟩
          · rw [show (decide (a.attrs = b.attrs) : Bool) = false from by simpa using c_67]
            refine XL_run 2 [] [(4, .pointer (some ⟨w_6.heap.size, 0, none⟩)), (10, .pointer (some ⟨w_25.heap.size, 0, none⟩)), (12, .pointer (some ⟨w_40.heap.size, 0, none⟩)), (55, .bool true)] w_65 [] (by kernel_rfl) trivial ?_
            refine XL_nil ?_
            refine X_cond true rfl ?_
            refine X_seq ?_
            refine X_region ?_
            refine XL_run 1 [] [(4, .pointer (some ⟨w_6.heap.size, 0, none⟩)), (56, .agg #[.int .i64 0, .string ByteArray.empty, .int .i64 0, .int .i64 0, .string ByteArray.empty, .int .i64 0, .slice none 0 0])] w_65 [] (by kernel_rfl) trivial ?_
            have hB_96 : Below w_11.heap.size w_11 w_65 := (bt (bg (bt hB_62 hb_52) hg_57 (hB_62).size) hb_66)
            refine XL_store (v := .agg #[.int .i64 0, .string ByteArray.empty, .int .i64 0, .int .i64 0, .string ByteArray.empty, .int .i64 0, .slice none 0 0]) rfl rfl rfl (by kernel_rfl) (Blk.below hk_13 hB_96) 0 [.int .i64 0, .string ByteArray.empty, .int .i64 0, .int .i64 0, .string ByteArray.empty, .int .i64 0, .slice none 0 0] #[.int .i64 0, .string ByteArray.empty, .int .i64 0, .int .i64 0, .string ByteArray.empty, .int .i64 0, .slice none 0 0] ⟨by kernel_rfl, rfl, by kernel_rfl⟩ ⟨by kernel_rfl, by kernel_rfl⟩ (Nat.le_of_ble_eq_true (by kernel_rfl)) (fun w_92 hg_93 hk_94 hz_95 => ?_)
            have hne_97 : w_25.heap.size ≠ w_6.heap.size := Nat.ne_of_gt (Nat.lt_of_lt_of_le (Blk.lt hk_13) ((bt hb_20 hb_26)).size)
            have hB_98 : Below w_40.heap.size w_40 w_65 := (bt (bg hb_52 hg_57 (Nat.le_refl _)) hb_66)
            have hk_99 := Blk.other (Blk.below hk_42 hB_98) hg_93 hne_97
            have hne_100 : w_40.heap.size ≠ w_6.heap.size := Nat.ne_of_gt (Nat.lt_of_lt_of_le (Blk.lt hk_13) (hB_62).size)
            have hk_101 := Blk.other (Blk.below hk_58 hb_66) hg_93 hne_100
            refine XL_run 2 [] [(4, .pointer (some ⟨w_6.heap.size, 0, none⟩)), (5, .bool false), (6, .nilIface)] w_92 [] (by kernel_rfl) trivial ?_
            refine XL_nil ?_
            refine X_ret ?_
            refine RX.ret_cellCTT (P := Tryd.prog) (fn := Tryd.f61) (N := 66) (R := R_) (c := 4) (d := 5) (b := 6) (t := 33) (p := ⟨w_6.heap.size, 0, none⟩) (v := .agg #[.int .i64 0, .string ByteArray.empty, .int .i64 0, .int .i64 0, .string ByteArray.empty, .int .i64 0, .slice none 0 0]) (v' := .bool false) (u := .nilIface) rfl rfl (loadsB rfl rfl hk_94 0 ⟨by kernel_rfl, by kernel_rfl⟩) rfl rfl (hR_ _ _ ?_)
            have hB_102 : Below w.heap.size w w_25 := (bt (bt (bt (bt hb_2 hb_7) hb_12) hb_20) hb_26)
            have hB_103 : Below w.heap.size w w_40 := (bg (bt hB_102 hb_36) hg_41 (hB_102).size)
            have hB_104 : Below w.heap.size w w_92 := (bg (bt (bg (bt (bg (bt (bt (bt (bt (bt hb_2 hb_7) hb_12) hb_20) hb_26) hb_36) hg_41 (hB_102).size) hb_52) hg_57 (hB_103).size) hb_66) hg_93 ((bt hb_2 hb_7)).size)
            rw [show joinO a b = (op0, false, 0) from by unfold joinO; rw [if_neg (by omega), if_neg (by omega), if_neg (fun h_ => by have h1_ := h_.1; have h2_ := h_.2.1; exact c_67 (decide_eq_true h_.2.2))]]
            exact ⟨none, 0, rfl, Kd.R_nil _ _ _ _ _, hB_104⟩
        · rw [pOf_emb hk_45] at hp_44
          obtain ⟨A_105, c_106, e_107, hl_108, hC_109⟩ := kPiece_emb (kPiece.K_of_M hp_44)
          obtain rfl := (List.cons.inj e_107).1
          have hval : b.val = (b.vk, b.vn, b.vt) := rfl
          rw [hval] at hp_44 ⊢
          refine XL_run 6 [] [(4, .pointer (some ⟨w_6.heap.size, 0, none⟩)), (10, .pointer (some ⟨w_25.heap.size, 0, none⟩)), (12, .pointer (some ⟨w_40.heap.size, 0, none⟩)), (42, .agg #[.slice none 0 0, .string ByteArray.empty, .int .i64 0]), (43, .bool false)] (w_40.alloc (.cells #[.slice none 0 0, .string ByteArray.empty, .int .i64 0] 51)) [] (by kernel_rfl) trivial ?_
          obtain ⟨w_110, hw_114, hb_111, hk_112, hz_113⟩ := new_world w_40 #[.slice none 0 0, .string ByteArray.empty, .int .i64 0] 51
          rw [hw_114]
          refine XL_store (v := .agg #[.slice none 0 0, .string ByteArray.empty, .int .i64 0]) rfl rfl rfl (by kernel_rfl) hk_112 0 [.slice none 0 0, .string ByteArray.empty, .int .i64 0] #[.slice none 0 0, .string ByteArray.empty, .int .i64 0] ⟨by kernel_rfl, rfl, by kernel_rfl⟩ ⟨by kernel_rfl, by kernel_rfl⟩ (Nat.le_of_ble_eq_true (by kernel_rfl)) (fun w_115 hg_116 hk_117 hz_118 => ?_)
          have hB_119 : Below w_1.heap.size w_1 w_40 := (bg (bt (bt (bt (bt hb_7 hb_12) hb_20) hb_26) hb_36) hg_41 ((bt (bt (bt hb_7 hb_12) hb_20) hb_26)).size)
          have hB_120 : Below w_6.heap.size w_6 w_40 := (bg (bt (bt (bt hb_12 hb_20) hb_26) hb_36) hg_41 ((bt (bt hb_12 hb_20) hb_26)).size)
          have hB_121 : Below w_11.heap.size w_11 w_40 := (bg (bt (bt hb_20 hb_26) hb_36) hg_41 ((bt hb_20 hb_26)).size)
          refine XL_run 1 [] [(4, .pointer (some ⟨w_6.heap.size, 0, none⟩)), (10, .pointer (some ⟨w_25.heap.size, 0, none⟩)), (11, .bool false), (12, .pointer (some ⟨w_40.heap.size, 0, none⟩))] w_115 [] (by kernel_rfl) trivial ?_
          refine XL_nil ?_
          refine X_seq ?_
          refine X_seq ?_
          refine X_region ?_
          refine XL_run 12 [] [(4, .pointer (some ⟨w_6.heap.size, 0, none⟩)), (10, .pointer (some ⟨w_25.heap.size, 0, none⟩)), (12, .pointer (some ⟨w_40.heap.size, 0, none⟩)), (55, .bool true)] w_115 [] (by kernel_rfl) trivial ?_
          refine XL_nil ?_
          refine X_cond true rfl ?_
          refine X_seq ?_
          refine X_region ?_
          refine XL_run 1 [] [(4, .pointer (some ⟨w_6.heap.size, 0, none⟩)), (56, .agg #[.int .i64 0, .string ByteArray.empty, .int .i64 0, .int .i64 0, .string ByteArray.empty, .int .i64 0, .slice none 0 0])] w_115 [] (by kernel_rfl) trivial ?_
          have hB_126 : Below w_11.heap.size w_11 w_115 := (bg (bt hB_121 hb_111) hg_116 (hB_121).size)
          refine XL_store (v := .agg #[.int .i64 0, .string ByteArray.empty, .int .i64 0, .int .i64 0, .string ByteArray.empty, .int .i64 0, .slice none 0 0]) rfl rfl rfl (by kernel_rfl) (Blk.below hk_13 hB_126) 0 [.int .i64 0, .string ByteArray.empty, .int .i64 0, .int .i64 0, .string ByteArray.empty, .int .i64 0, .slice none 0 0] #[.int .i64 0, .string ByteArray.empty, .int .i64 0, .int .i64 0, .string ByteArray.empty, .int .i64 0, .slice none 0 0] ⟨by kernel_rfl, rfl, by kernel_rfl⟩ ⟨by kernel_rfl, by kernel_rfl⟩ (Nat.le_of_ble_eq_true (by kernel_rfl)) (fun w_122 hg_123 hk_124 hz_125 => ?_)
          have hne_127 : w_25.heap.size ≠ w_6.heap.size := Nat.ne_of_gt (Nat.lt_of_lt_of_le (Blk.lt hk_13) ((bt hb_20 hb_26)).size)
          have hk_128 := Blk.other (Blk.below hk_42 (bg hb_111 hg_116 (Nat.le_refl _))) hg_123 hne_127
          have hne_129 : w_40.heap.size ≠ w_6.heap.size := Nat.ne_of_gt (Nat.lt_of_lt_of_le (Blk.lt hk_13) (hB_121).size)
          have hk_130 := Blk.other hk_117 hg_123 hne_129
          refine XL_run 2 [] [(4, .pointer (some ⟨w_6.heap.size, 0, none⟩)), (5, .bool false), (6, .nilIface)] w_122 [] (by kernel_rfl) trivial ?_
          refine XL_nil ?_
          refine X_ret ?_
          refine RX.ret_cellCTT (P := Tryd.prog) (fn := Tryd.f61) (N := 66) (R := R_) (c := 4) (d := 5) (b := 6) (t := 33) (p := ⟨w_6.heap.size, 0, none⟩) (v := .agg #[.int .i64 0, .string ByteArray.empty, .int .i64 0, .int .i64 0, .string ByteArray.empty, .int .i64 0, .slice none 0 0]) (v' := .bool false) (u := .nilIface) rfl rfl (loadsB rfl rfl hk_124 0 ⟨by kernel_rfl, by kernel_rfl⟩) rfl rfl (hR_ _ _ ?_)
          have hB_131 : Below w.heap.size w w_25 := (bt (bt (bt (bt hb_2 hb_7) hb_12) hb_20) hb_26)
          have hB_132 : Below w.heap.size w w_40 := (bg (bt hB_131 hb_36) hg_41 (hB_131).size)
          have hB_133 : Below w.heap.size w w_122 := (bg (bg (bt (bg (bt (bt (bt (bt (bt hb_2 hb_7) hb_12) hb_20) hb_26) hb_36) hg_41 (hB_131).size) hb_111) hg_116 (hB_132).size) hg_123 ((bt hb_2 hb_7)).size)
          rw [show joinO a b = (op0, false, 0) from by unfold joinO; rw [if_neg (by omega), if_neg (by omega), if_neg (fun h_ => by have h1_ := h_.1; have h2_ := h_.2.1; omega)]]
          exact ⟨none, 0, rfl, Kd.R_nil _ _ _ _ _, hB_133⟩
      · rw [pOf_emb hk_29] at hp_28
        obtain ⟨A_134, c_135, e_136, hl_137, hC_138⟩ := kPiece_emb (kPiece.K_of_M hp_28)
        obtain rfl := (List.cons.inj e_136).1
        have hval : a.val = (a.vk, a.vn, a.vt) := rfl
        rw [hval] at hp_28 ⊢
        refine XL_run 6 [] [(4, .pointer (some ⟨w_6.heap.size, 0, none⟩)), (9, v_22), (10, .pointer (some ⟨w_25.heap.size, 0, none⟩)), (34, .agg #[.slice none 0 0, .string ByteArray.empty, .int .i64 0]), (35, .bool false)] (w_25.alloc (.cells #[.slice none 0 0, .string ByteArray.empty, .int .i64 0] 51)) [] (by kernel_rfl) trivial ?_
        obtain ⟨w_139, hw_143, hb_140, hk_141, hz_142⟩ := new_world w_25 #[.slice none 0 0, .string ByteArray.empty, .int .i64 0] 51
        rw [hw_143]
        refine XL_store (v := .agg #[.slice none 0 0, .string ByteArray.empty, .int .i64 0]) rfl rfl rfl (by kernel_rfl) hk_141 0 [.slice none 0 0, .string ByteArray.empty, .int .i64 0] #[.slice none 0 0, .string ByteArray.empty, .int .i64 0] ⟨by kernel_rfl, rfl, by kernel_rfl⟩ ⟨by kernel_rfl, by kernel_rfl⟩ (Nat.le_of_ble_eq_true (by kernel_rfl)) (fun w_144 hg_145 hk_146 hz_147 => ?_)
        refine XL_run 1 [] [(4, .pointer (some ⟨w_6.heap.size, 0, none⟩)), (9, v_22), (10, .pointer (some ⟨w_25.heap.size, 0, none⟩)), (11, .bool false)] w_144 [] (by kernel_rfl) trivial ?_
        refine XL_nil ?_
        refine X_seq ?_
        refine X_seq ?_
        refine X_region ?_
        refine XL_run 2 [] [(4, .pointer (some ⟨w_6.heap.size, 0, none⟩)), (9, v_22), (10, .pointer (some ⟨w_25.heap.size, 0, none⟩)), (37, .bool true)] w_144 [] (by kernel_rfl) trivial ?_
        refine XL_nil ?_
        refine X_cond true rfl ?_
        refine X_seq ?_
        refine X_region ?_
        refine XL_run 1 [] [(4, .pointer (some ⟨w_6.heap.size, 0, none⟩)), (38, .agg #[.int .i64 0, .string ByteArray.empty, .int .i64 0, .int .i64 0, .string ByteArray.empty, .int .i64 0, .slice none 0 0])] w_144 [] (by kernel_rfl) trivial ?_
        have hB_152 : Below w_11.heap.size w_11 w_144 := (bg (bt (bt hb_20 hb_26) hb_140) hg_145 ((bt hb_20 hb_26)).size)
        refine XL_store (v := .agg #[.int .i64 0, .string ByteArray.empty, .int .i64 0, .int .i64 0, .string ByteArray.empty, .int .i64 0, .slice none 0 0]) rfl rfl rfl (by kernel_rfl) (Blk.below hk_13 hB_152) 0 [.int .i64 0, .string ByteArray.empty, .int .i64 0, .int .i64 0, .string ByteArray.empty, .int .i64 0, .slice none 0 0] #[.int .i64 0, .string ByteArray.empty, .int .i64 0, .int .i64 0, .string ByteArray.empty, .int .i64 0, .slice none 0 0] ⟨by kernel_rfl, rfl, by kernel_rfl⟩ ⟨by kernel_rfl, by kernel_rfl⟩ (Nat.le_of_ble_eq_true (by kernel_rfl)) (fun w_148 hg_149 hk_150 hz_151 => ?_)
        have hne_153 : w_25.heap.size ≠ w_6.heap.size := Nat.ne_of_gt (Nat.lt_of_lt_of_le (Blk.lt hk_13) ((bt hb_20 hb_26)).size)
        have hk_154 := Blk.other hk_146 hg_149 hne_153
        refine XL_run 2 [] [(4, .pointer (some ⟨w_6.heap.size, 0, none⟩)), (5, .bool false), (6, .nilIface)] w_148 [] (by kernel_rfl) trivial ?_
        refine XL_nil ?_
        refine X_ret ?_
        refine RX.ret_cellCTT (P := Tryd.prog) (fn := Tryd.f61) (N := 66) (R := R_) (c := 4) (d := 5) (b := 6) (t := 33) (p := ⟨w_6.heap.size, 0, none⟩) (v := .agg #[.int .i64 0, .string ByteArray.empty, .int .i64 0, .int .i64 0, .string ByteArray.empty, .int .i64 0, .slice none 0 0]) (v' := .bool false) (u := .nilIface) rfl rfl (loadsB rfl rfl hk_150 0 ⟨by kernel_rfl, by kernel_rfl⟩) rfl rfl (hR_ _ _ ?_)
        have hB_155 : Below w.heap.size w w_25 := (bt (bt (bt (bt hb_2 hb_7) hb_12) hb_20) hb_26)
        have hB_156 : Below w.heap.size w w_148 := (bg (bg (bt (bt (bt (bt (bt hb_2 hb_7) hb_12) hb_20) hb_26) hb_140) hg_145 (hB_155).size) hg_149 ((bt hb_2 hb_7)).size)
        rw [show joinO a b = (op0, false, 0) from by unfold joinO; rw [if_neg (by omega), if_neg (by omega), if_neg (fun h_ => by have h1_ := h_.1; have h2_ := h_.2.1; omega)]]
        exact ⟨none, 0, rfl, Kd.R_nil _ _ _ _ _, hB_156⟩
    · rw [errV_pos es (refuseP b) (Nat.pos_of_ne_zero c_27)]
      refine XL_run 1 [] [(4, .pointer (some ⟨w_6.heap.size, 0, none⟩)), (7, v_16), (8, .iface 184 (.pointer (some (errAt es (refuseP b))))), (9, v_22), (28, .bool true)] w_25 [] (by kernel_rfl) trivial ?_
      refine XL_nil ?_
      refine X_cond true rfl ?_
      refine X_seq ?_
      refine X_region ?_
      refine XL_run 2 [] [(4, .pointer (some ⟨w_6.heap.size, 0, none⟩)), (29, .agg #[.int .i64 0, .string ByteArray.empty, .int .i64 0, .int .i64 0, .string ByteArray.empty, .int .i64 0, .slice none 0 0]), (30, .iface 184 (.pointer (some (errAt es (refuseP b)))))] w_25 [] (by kernel_rfl) trivial ?_
      refine XL_store (v := .agg #[.int .i64 0, .string ByteArray.empty, .int .i64 0, .int .i64 0, .string ByteArray.empty, .int .i64 0, .slice none 0 0]) rfl rfl rfl (by kernel_rfl) (Blk.below hk_13 (bt hb_20 hb_26)) 0 [.int .i64 0, .string ByteArray.empty, .int .i64 0, .int .i64 0, .string ByteArray.empty, .int .i64 0, .slice none 0 0] #[.int .i64 0, .string ByteArray.empty, .int .i64 0, .int .i64 0, .string ByteArray.empty, .int .i64 0, .slice none 0 0] ⟨by kernel_rfl, rfl, by kernel_rfl⟩ ⟨by kernel_rfl, by kernel_rfl⟩ (Nat.le_of_ble_eq_true (by kernel_rfl)) (fun w_157 hg_158 hk_159 hz_160 => ?_)
      refine XL_run 2 [] [(4, .pointer (some ⟨w_6.heap.size, 0, none⟩)), (5, .bool false), (6, .iface 184 (.pointer (some (errAt es (refuseP b)))))] w_157 [] (by kernel_rfl) trivial ?_
      refine XL_nil ?_
      refine X_ret ?_
      refine RX.ret_cellCTT (P := Tryd.prog) (fn := Tryd.f61) (N := 66) (R := R_) (c := 4) (d := 5) (b := 6) (t := 33) (p := ⟨w_6.heap.size, 0, none⟩) (v := .agg #[.int .i64 0, .string ByteArray.empty, .int .i64 0, .int .i64 0, .string ByteArray.empty, .int .i64 0, .slice none 0 0]) (v' := .bool false) (u := .iface 184 (.pointer (some (errAt es (refuseP b))))) rfl rfl (loadsB rfl rfl hk_159 0 ⟨by kernel_rfl, by kernel_rfl⟩) rfl rfl (hR_ _ _ ?_)
      have hB_161 : Below w.heap.size w w_157 := (bg (bt (bt (bt (bt hb_2 hb_7) hb_12) hb_20) hb_26) hg_158 ((bt hb_2 hb_7)).size)
      rw [show joinO a b = (op0, false, refuseP b) from by unfold joinO; rw [if_neg (by omega), if_pos c_27]]
      exact ⟨none, 0, by rw [errV_pos es _ (Nat.pos_of_ne_zero c_27)]; rfl, Kd.R_nil _ _ _ _ _, hB_161⟩
  · rw [errV_pos es (refuseP a) (Nat.pos_of_ne_zero c_21)]
    refine XL_run 1 [] [(3, .pointer (some ⟨w_1.heap.size, 0, none⟩)), (4, .pointer (some ⟨w_6.heap.size, 0, none⟩)), (7, v_16), (8, .iface 184 (.pointer (some (errAt es (refuseP a))))), (19, .bool true)] w_19 [] (by kernel_rfl) trivial ?_
    refine XL_nil ?_
    refine X_cond true rfl ?_
    refine X_seq ?_
    refine X_region ?_
    refine XL_run 2 [] [(4, .pointer (some ⟨w_6.heap.size, 0, none⟩)), (20, .agg #[.int .i64 0, .string ByteArray.empty, .int .i64 0, .int .i64 0, .string ByteArray.empty, .int .i64 0, .slice none 0 0]), (21, .iface 184 (.pointer (some (errAt es (refuseP a)))))] w_19 [] (by kernel_rfl) trivial ?_
    refine XL_store (v := .agg #[.int .i64 0, .string ByteArray.empty, .int .i64 0, .int .i64 0, .string ByteArray.empty, .int .i64 0, .slice none 0 0]) rfl rfl rfl (by kernel_rfl) (Blk.below hk_13 hb_20) 0 [.int .i64 0, .string ByteArray.empty, .int .i64 0, .int .i64 0, .string ByteArray.empty, .int .i64 0, .slice none 0 0] #[.int .i64 0, .string ByteArray.empty, .int .i64 0, .int .i64 0, .string ByteArray.empty, .int .i64 0, .slice none 0 0] ⟨by kernel_rfl, rfl, by kernel_rfl⟩ ⟨by kernel_rfl, by kernel_rfl⟩ (Nat.le_of_ble_eq_true (by kernel_rfl)) (fun w_162 hg_163 hk_164 hz_165 => ?_)
    refine XL_run 2 [] [(4, .pointer (some ⟨w_6.heap.size, 0, none⟩)), (5, .bool false), (6, .iface 184 (.pointer (some (errAt es (refuseP a)))))] w_162 [] (by kernel_rfl) trivial ?_
    refine XL_nil ?_
    refine X_ret ?_
    refine RX.ret_cellCTT (P := Tryd.prog) (fn := Tryd.f61) (N := 66) (R := R_) (c := 4) (d := 5) (b := 6) (t := 33) (p := ⟨w_6.heap.size, 0, none⟩) (v := .agg #[.int .i64 0, .string ByteArray.empty, .int .i64 0, .int .i64 0, .string ByteArray.empty, .int .i64 0, .slice none 0 0]) (v' := .bool false) (u := .iface 184 (.pointer (some (errAt es (refuseP a))))) rfl rfl (loadsB rfl rfl hk_164 0 ⟨by kernel_rfl, by kernel_rfl⟩) rfl rfl (hR_ _ _ ?_)
    have hB_166 : Below w.heap.size w w_162 := (bg (bt (bt (bt hb_2 hb_7) hb_12) hb_20) hg_163 ((bt hb_2 hb_7)).size)
    rw [show joinO a b = (op0, false, refuseP a) from if_pos c_21]
    exact ⟨none, 0, by rw [errV_pos es _ (Nat.pos_of_ne_zero c_21)]; rfl, Kd.R_nil _ _ _ _ _, hB_166⟩
end Go.Proofs.YtekfdfafhfhfbaaDoor
