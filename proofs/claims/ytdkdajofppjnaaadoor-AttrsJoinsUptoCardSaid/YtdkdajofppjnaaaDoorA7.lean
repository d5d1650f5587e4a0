/- What Compose, Apply, Diff, Invert and Transform answer for good lists; the laws' fixed fact. Conditions: lengths, the tables of utf8, Errs. -/
import Derived.Test.YtdkdajofppjnaaaDoorA6
set_option linter.unusedVariables false
set_option linter.unusedSimpArgs false
set_option maxRecDepth 100000
namespace Go.Proofs.YtdkdajofppjnaaaDoor
open Go Go.RowKit Go.Proofs.YtdkdajofppjnaaaDoorW.PrintWords RX
theorem chk2_good {na nb : Bool} {xs ys : List At} (hx : Good na xs) (hy : Good nb ys) : chk2 na xs nb ys = 0 := by unfold chk2; rw [if_pos ((chkA_good _ _).2 hx)]; exact (chkA_good _ _).2 hy
theorem compose_ok (nulls : Bool) (A B : Option Addr) (c d : Nat) (xs ys : List At) (w : World) (hx : kAttr.C w A xs.length xs) (hy : kAttr.C w B ys.length ys) (hxc : xs.length ≤ c) (hyd : ys.length ≤ d) (hn : xs.length + ys.length ≤ 400000000) (gx : Good true xs) (gy : Good true ys) (hT : Tabs w) (es : List Addr) (hE : ErrsA w es) : Calls Tryd.prog 11 #[.slice A xs.length c, .slice B ys.length d, .bool nulls] w fun e w' =>
    ∃ A' c' zs, zs = (comp (cmpF nulls) xs ys) ∧ Good nulls zs ∧ zs.length ≤ xs.length + ys.length ∧ e = .returned (.tuple #[.slice A' zs.length c', .nilIface]) ∧ zs.length ≤ c' ∧ kAttr.R 55 w' w.heap.size (OkFrom w.heap.size) (.slice A' zs.length c') zs ∧ Below w.heap.size w w' := by
  refine (composeP_any nulls A B c d xs ys w hx hy hxc hyd hn (good_sz gx) (good_sz gy) hT es hE).mono fun e w' h => ?_
  rw [show composeP nulls xs ys = ((comp (cmpF nulls) xs ys), 0) from if_pos (chk2_good gx gy)] at h
  obtain ⟨A', c', rfl, h1, h2, h3⟩ := h
  exact ⟨A', c', _, rfl, good_cmp nulls gx gy, comp_le _ _ _, rfl, h1, h2, h3⟩
theorem apply_ok (A B : Option Addr) (c d : Nat) (xs ys : List At) (w : World) (hx : kAttr.C w A xs.length xs) (hy : kAttr.C w B ys.length ys) (hxc : xs.length ≤ c) (hyd : ys.length ≤ d) (hn : xs.length + ys.length ≤ 400000000) (gx : Good false xs) (gy : Good true ys) (hT : Tabs w) (es : List Addr) (hE : ErrsA w es) : Calls Tryd.prog 13 #[.slice A xs.length c, .slice B ys.length d] w fun e w' =>
    ∃ A' c' zs, zs = (comp (cmpF false) xs ys) ∧ Good false zs ∧ zs.length ≤ xs.length + ys.length ∧ e = .returned (.tuple #[.slice A' zs.length c', .nilIface]) ∧ zs.length ≤ c' ∧ kAttr.R 55 w' w.heap.size (OkFrom w.heap.size) (.slice A' zs.length c') zs ∧ Below w.heap.size w w' := by
  refine (applyP_any A B c d xs ys w hx hy hxc hyd hn (good_sz gx) (good_sz gy) hT es hE).mono fun e w' h => ?_
  rw [show applyP xs ys = ((comp (cmpF false) xs ys), 0) from if_pos (chk2_good gx gy)] at h
  obtain ⟨A', c', rfl, h1, h2, h3⟩ := h
  exact ⟨A', c', _, rfl, good_cmp false gx gy, comp_le _ _ _, rfl, h1, h2, h3⟩
theorem diff_ok (A B : Option Addr) (c d : Nat) (xs ys : List At) (w : World) (hx : kAttr.C w A xs.length xs) (hy : kAttr.C w B ys.length ys) (hxc : xs.length ≤ c) (hyd : ys.length ≤ d) (hn : xs.length + ys.length ≤ 400000000) (gx : Good false xs) (gy : Good false ys) (hT : Tabs w) (es : List Addr) (hE : ErrsA w es) : Calls Tryd.prog 15 #[.slice A xs.length c, .slice B ys.length d] w fun e w' =>
    ∃ A' c' zs, zs = (comp btwF xs ys) ∧ Good true zs ∧ zs.length ≤ xs.length + ys.length ∧ e = .returned (.tuple #[.slice A' zs.length c', .nilIface]) ∧ zs.length ≤ c' ∧ kAttr.R 55 w' w.heap.size (OkFrom w.heap.size) (.slice A' zs.length c') zs ∧ Below w.heap.size w w' := by
  refine (diffP_any A B c d xs ys w hx hy hxc hyd hn (good_sz gx) (good_sz gy) hT es hE).mono fun e w' h => ?_
  rw [show diffP xs ys = ((comp btwF xs ys), 0) from if_pos (chk2_good gx gy)] at h
  obtain ⟨A', c', rfl, h1, h2, h3⟩ := h
  exact ⟨A', c', _, rfl, good_btw gx gy, comp_le _ _ _, rfl, h1, h2, h3⟩
theorem invert_ok (A B : Option Addr) (c d : Nat) (xs ys : List At) (w : World) (hx : kAttr.C w A xs.length xs) (hy : kAttr.C w B ys.length ys) (hxc : xs.length ≤ c) (hyd : ys.length ≤ d) (hn : xs.length + ys.length ≤ 400000000) (gx : Good true xs) (gy : Good false ys) (hT : Tabs w) (es : List Addr) (hE : ErrsA w es) : Calls Tryd.prog 16 #[.slice A xs.length c, .slice B ys.length d] w fun e w' =>
    ∃ A' c' zs, zs = (comp btwF (comp (cmpF false) ys xs) ys) ∧ Good true zs ∧ zs.length ≤ xs.length + ys.length + ys.length ∧ e = .returned (.tuple #[.slice A' zs.length c', .nilIface]) ∧ zs.length ≤ c' ∧ kAttr.R 55 w' w.heap.size (OkFrom w.heap.size) (.slice A' zs.length c') zs ∧ Below w.heap.size w w' := by
  refine (invertP_any A B c d xs ys w hx hy hxc hyd hn (good_sz gx) (good_sz gy) hT es hE).mono fun e w' h => ?_
  rw [show invertP xs ys = ((comp btwF (comp (cmpF false) ys xs) ys), 0) from if_pos (chk2_good gx gy)] at h
  obtain ⟨A', c', rfl, h1, h2, h3⟩ := h
  exact ⟨A', c', _, rfl, good_btw (good_cmp false gy gx) gy, Nat.le_trans (comp_le _ _ _) (by have := comp_le (cmpF false) ys xs; omega), rfl, h1, h2, h3⟩
theorem transform_ok (first : Bool) (A B : Option Addr) (c d : Nat) (xs ys : List At) (w : World) (hx : kAttr.C w A xs.length xs) (hy : kAttr.C w B ys.length ys) (hxc : xs.length ≤ c) (hyd : ys.length ≤ d) (hn : xs.length + ys.length ≤ 400000000) (gx : Good true xs) (gy : Good true ys) (hT : Tabs w) (es : List Addr) (hE : ErrsA w es) : Calls Tryd.prog 14 #[.slice A xs.length c, .slice B ys.length d, .bool first] w fun e w' =>
    ∃ A' c' zs, zs = (comp (trnF first) xs ys) ∧ Good true zs ∧ zs.length ≤ xs.length + ys.length ∧ e = .returned (.tuple #[.slice A' zs.length c', .nilIface]) ∧ zs.length ≤ c' ∧ kAttr.R 55 w' w.heap.size (OkFrom w.heap.size) (.slice A' zs.length c') zs ∧ Below w.heap.size w w' := by
  refine (transformP_any first A B c d xs ys w hx hy hxc hyd hn (good_sz gx) (good_sz gy) hT es hE).mono fun e w' h => ?_
  rw [show transformP first xs ys = ((comp (trnF first) xs ys), 0) from if_pos (chk2_good gx gy)] at h
  obtain ⟨A', c', rfl, h1, h2, h3⟩ := h
  exact ⟨A', c', _, rfl, good_trn first gx gy, comp_le _ _ _, rfl, h1, h2, h3⟩
theorem ent9 : Ent Tryd.prog 9 := ent_of Tryd.func9 (by kernel_rfl) rfl
abbrev la : List At := [((⟨#[97]⟩ : ByteArray), 2, 1, (⟨#[]⟩ : ByteArray)), ((⟨#[98]⟩ : ByteArray), 2, 2, (⟨#[]⟩ : ByteArray))]
abbrev lb : List At := [((⟨#[98]⟩ : ByteArray), 0, 0, ByteArray.empty), ((⟨#[99]⟩ : ByteArray), 2, 3, (⟨#[]⟩ : ByteArray))]
abbrev lc : List At := [((⟨#[97]⟩ : ByteArray), 2, 1, (⟨#[]⟩ : ByteArray)), ((⟨#[99]⟩ : ByteArray), 2, 3, (⟨#[]⟩ : ByteArray))]
theorem la_good : Good true la := (chkA_good _ _).1 (by decide +kernel)
theorem lb_good : Good true lb := (chkA_good _ _).1 (by decide +kernel)
theorem lab : comp (cmpF false) la lb = lc := by decide +kernel
theorem lives_any (w : World) (hT : Tabs w) (es : List Addr) (hE : ErrsA w es) : Calls Tryd.prog 9 #[] w fun e w' => e = .returned (.bool true) ∧ Below w.heap.size w w' := by
  refine RX.enter Tryd.func9 rfl 22 rfl [] rfl (by kernel_rfl) (fun R_ hR_ => ?_)
  refine X_seq ?_
  refine X_region ?_
  refine XL_run 1 [] [] w [] (by kernel_rfl) trivial ?_
  refine XL_nil ?_
  refine X_seq ?_
  refine X_region ?_
  refine XL_call 36 rfl rfl rfl ent36 [.string (⟨#[97]⟩ : ByteArray), .int .i64 1] (by kernel_rfl) (one_any (⟨#[97]⟩ : ByteArray) 1 _) ?_
  rintro e w_1 ⟨rfl, hb_2⟩; refine ⟨_, rfl, ?_⟩
  refine XL_call 36 rfl rfl rfl ent36 [.string (⟨#[98]⟩ : ByteArray), .int .i64 2] (by kernel_rfl) (one_any (⟨#[98]⟩ : ByteArray) 2 _) ?_
  rintro e w_3 ⟨rfl, hb_4⟩; refine ⟨_, rfl, ?_⟩
  refine XL_run 1 [] [(6, .slice (some ⟨w_3.heap.size, 0, none⟩) 2 2)] (w_3.alloc (.cells #[.string (⟨#[97]⟩ : ByteArray), .int .i64 2, .int .i64 1, .string (⟨#[]⟩ : ByteArray), .string (⟨#[98]⟩ : ByteArray), .int .i64 2, .int .i64 2, .string (⟨#[]⟩ : ByteArray)] 55)) [] (by kernel_rfl) trivial ?_
  obtain ⟨w_5, hw_9, hb_6, hk_7, hz_8⟩ := new_world w_3 #[.string (⟨#[97]⟩ : ByteArray), .int .i64 2, .int .i64 1, .string (⟨#[]⟩ : ByteArray), .string (⟨#[98]⟩ : ByteArray), .int .i64 2, .int .i64 2, .string (⟨#[]⟩ : ByteArray)] 55
  rw [hw_9]
  refine XL_run 1 [] [(6, .slice (some ⟨w_3.heap.size, 0, none⟩) 2 2), (7, .agg #[.string (⟨#[98]⟩ : ByteArray), .int .i64 0, .int .i64 0, .string ByteArray.empty])] w_5 [] (by kernel_rfl) trivial ?_
  refine XL_call 36 rfl rfl rfl ent36 [.string (⟨#[99]⟩ : ByteArray), .int .i64 3] (by kernel_rfl) (one_any (⟨#[99]⟩ : ByteArray) 3 _) ?_
  rintro e w_10 ⟨rfl, hb_11⟩; refine ⟨_, rfl, ?_⟩
  refine XL_run 1 [] [(6, .slice (some ⟨w_3.heap.size, 0, none⟩) 2 2), (9, .slice (some ⟨w_10.heap.size, 0, none⟩) 2 2)] (w_10.alloc (.cells #[.string (⟨#[98]⟩ : ByteArray), .int .i64 0, .int .i64 0, .string ByteArray.empty, .string (⟨#[99]⟩ : ByteArray), .int .i64 2, .int .i64 3, .string (⟨#[]⟩ : ByteArray)] 55)) [] (by kernel_rfl) trivial ?_
  obtain ⟨w_12, hw_16, hb_13, hk_14, hz_15⟩ := new_world w_10 #[.string (⟨#[98]⟩ : ByteArray), .int .i64 0, .int .i64 0, .string ByteArray.empty, .string (⟨#[99]⟩ : ByteArray), .int .i64 2, .int .i64 3, .string (⟨#[]⟩ : ByteArray)] 55
  rw [hw_16]
  have hr_17 := Kd.R_litB kAttr (W := w_3) (e := 55) (cs := #[.string (⟨#[97]⟩ : ByteArray), .int .i64 2, .int .i64 1, .string (⟨#[]⟩ : ByteArray), .string (⟨#[98]⟩ : ByteArray), .int .i64 2, .int .i64 2, .string (⟨#[]⟩ : ByteArray)]) [((⟨#[97]⟩ : ByteArray), 2, 1, (⟨#[]⟩ : ByteArray)), ((⟨#[98]⟩ : ByteArray), 2, 2, (⟨#[]⟩ : ByteArray))] hk_7 (repsAttr [((⟨#[97]⟩ : ByteArray), 2, 1, (⟨#[]⟩ : ByteArray)), ((⟨#[98]⟩ : ByteArray), 2, 2, (⟨#[]⟩ : ByteArray))]) (Nat.le_of_ble_eq_true (by kernel_rfl))
  have hr_18 := Kd.R_litB kAttr (W := w_10) (e := 55) (cs := #[.string (⟨#[98]⟩ : ByteArray), .int .i64 0, .int .i64 0, .string ByteArray.empty, .string (⟨#[99]⟩ : ByteArray), .int .i64 2, .int .i64 3, .string (⟨#[]⟩ : ByteArray)]) [((⟨#[98]⟩ : ByteArray), 0, 0, ByteArray.empty), ((⟨#[99]⟩ : ByteArray), 2, 3, (⟨#[]⟩ : ByteArray))] hk_14 (repsAttr [((⟨#[98]⟩ : ByteArray), 0, 0, ByteArray.empty), ((⟨#[99]⟩ : ByteArray), 2, 3, (⟨#[]⟩ : ByteArray))]) (Nat.le_of_ble_eq_true (by kernel_rfl))
  have hB_29 : Below w.heap.size w w_12 := (bt (bt (bt (bt hb_2 hb_4) hb_6) hb_11) hb_13)
  refine XL_call 11 rfl rfl rfl ent11 [.slice (some ⟨w_3.heap.size, 0, none⟩) 2 2, .slice (some ⟨w_10.heap.size, 0, none⟩) 2 2, .bool false] (by kernel_rfl) (compose_ok false (some ⟨w_3.heap.size, 0, none⟩) (some ⟨w_10.heap.size, 0, none⟩) 2 2 la lb _ (Kd.R_C (Kd.R_below hr_17 (bt hb_11 hb_13))) (Kd.R_C hr_18) (by decide) (by decide) (by decide) la_good lb_good (hT.below hB_29) es (hE.below hB_29)) ?_
  rintro e w_27 ⟨A_19, c_20, zs_21, ez_22, gz_23, lz_24, rfl, hl_25, hr_26, hb_28⟩; refine ⟨_, rfl, ?_⟩
  refine XL_run 5 [] [(1, .slice A_19 zs_21.length c_20), (2, .nilIface)] w_27 [] (by kernel_rfl) trivial ?_
  refine XL_nil ?_
  refine X_seq ?_
  refine X_region ?_
  refine XL_run 4 [] [(15, .bool true), (16, .slice A_19 zs_21.length c_20)] w_27 [] (by kernel_rfl) trivial ?_
  refine XL_call 36 rfl rfl rfl ent36 [.string (⟨#[97]⟩ : ByteArray), .int .i64 1] (by kernel_rfl) (one_any (⟨#[97]⟩ : ByteArray) 1 _) ?_
  rintro e w_30 ⟨rfl, hb_31⟩; refine ⟨_, rfl, ?_⟩
  refine XL_call 36 rfl rfl rfl ent36 [.string (⟨#[99]⟩ : ByteArray), .int .i64 3] (by kernel_rfl) (one_any (⟨#[99]⟩ : ByteArray) 3 _) ?_
  rintro e w_32 ⟨rfl, hb_33⟩; refine ⟨_, rfl, ?_⟩
  refine XL_run 1 [] [(15, .bool true), (16, .slice A_19 zs_21.length c_20), (19, .slice (some ⟨w_32.heap.size, 0, none⟩) 2 2)] (w_32.alloc (.cells #[.string (⟨#[97]⟩ : ByteArray), .int .i64 2, .int .i64 1, .string (⟨#[]⟩ : ByteArray), .string (⟨#[99]⟩ : ByteArray), .int .i64 2, .int .i64 3, .string (⟨#[]⟩ : ByteArray)] 55)) [] (by kernel_rfl) trivial ?_
  obtain ⟨w_34, hw_38, hb_35, hk_36, hz_37⟩ := new_world w_32 #[.string (⟨#[97]⟩ : ByteArray), .int .i64 2, .int .i64 1, .string (⟨#[]⟩ : ByteArray), .string (⟨#[99]⟩ : ByteArray), .int .i64 2, .int .i64 3, .string (⟨#[]⟩ : ByteArray)] 55
  rw [hw_38]
  have hr_41 := Kd.R_litB kAttr (W := w_32) (e := 55) (cs := #[.string (⟨#[97]⟩ : ByteArray), .int .i64 2, .int .i64 1, .string (⟨#[]⟩ : ByteArray), .string (⟨#[99]⟩ : ByteArray), .int .i64 2, .int .i64 3, .string (⟨#[]⟩ : ByteArray)]) [((⟨#[97]⟩ : ByteArray), 2, 1, (⟨#[]⟩ : ByteArray)), ((⟨#[99]⟩ : ByteArray), 2, 3, (⟨#[]⟩ : ByteArray))] hk_36 (repsAttr [((⟨#[97]⟩ : ByteArray), 2, 1, (⟨#[]⟩ : ByteArray)), ((⟨#[99]⟩ : ByteArray), 2, 3, (⟨#[]⟩ : ByteArray))]) (Nat.le_of_ble_eq_true (by kernel_rfl))
  refine XL_call 24 rfl rfl rfl ent24 [.slice A_19 zs_21.length c_20, .slice (some ⟨w_32.heap.size, 0, none⟩) 2 2] (by kernel_rfl) (refSame_any _ _ _ _ zs_21 lc _ (Kd.R_C (Kd.R_below hr_26 (bt (bt hb_31 hb_33) hb_35))) (Kd.R_C hr_41)) ?_
  rintro e w_39 ⟨rfl, hb_40⟩; refine ⟨_, rfl, ?_⟩
  rw [show decide (zs_21 = lc) = true from decide_eq_true (ez_22.trans lab)]
  refine XL_run 2 [] [(0, .bool true)] w_39 [] (by kernel_rfl) trivial ?_
  refine XL_nil ?_
  refine X_ret ?_
  refine RX.ret_ok (P := Tryd.prog) (fn := Tryd.f9) (N := 22) (R := R_) [.bool true] (by kernel_rfl) (hR_ _ _ ?_)
  have hB_42 : Below w.heap.size w w_39 := (bt (bt (bt (bt (bt hB_29 hb_28) hb_31) hb_33) hb_35) hb_40)
  exact ⟨rfl, hB_42⟩
end Go.Proofs.YtdkdajofppjnaaaDoor
