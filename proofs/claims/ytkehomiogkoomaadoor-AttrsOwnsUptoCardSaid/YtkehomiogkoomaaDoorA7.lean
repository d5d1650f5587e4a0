/- What Compose, Apply, Diff, Invert and Transform answer for good lists; the laws' fixed fact. Conditions: lengths, the tables of utf8, Errs. -/
import Derived.Test.YtkehomiogkoomaaDoorA6
set_option linter.unusedVariables false
set_option linter.unusedSimpArgs false
set_option maxRecDepth 100000
namespace Go.Proofs.YtkehomiogkoomaaDoor
open Go Go.RowKit Go.Proofs.YtkehomiogkoomaaDoorW.PrintWords RX
theorem chk2_good {na nb : Bool} {xs ys : List At} (hx : Good na xs) (hy : Good nb ys) : chk2 na xs nb ys = 0 := by unfold chk2; rw [if_pos ((chkA_good _ _).2 hx)]; exact (chkA_good _ _).2 hy
theorem compose_ok (nulls : Bool) (A B : Option Addr) (c d : Nat) (xs ys : List At) (w : World) (hx : kAttr.C w A xs.length xs) (hy : kAttr.C w B ys.length ys) (hxc : xs.length ≤ c) (hyd : ys.length ≤ d) (hn : xs.length + ys.length ≤ 400000000) (gx : Good true xs) (gy : Good true ys) (hT : Tabs w) (es : List Addr) (hE : ErrsA w es) : Calls Tryd.prog 42 #[.slice A xs.length c, .slice B ys.length d, .bool nulls] w fun e w' =>
  ∃ A' c' zs, zs = (comp (cmpF nulls) xs ys) ∧ Good nulls zs ∧ zs.length ≤ xs.length + ys.length ∧ e = .returned (.tuple #[.slice A' zs.length c', .nilIface]) ∧ zs.length ≤ c' ∧ kAttr.R 71 w' w.heap.size (OkFrom w.heap.size) (.slice A' zs.length c') zs ∧ Below w.heap.size w w' := by
 refine (composeP_any nulls A B c d xs ys w hx hy hxc hyd hn (good_sz gx) (good_sz gy) hT es hE).mono fun e w' h => ?_
 rw [show composeP nulls xs ys = ((comp (cmpF nulls) xs ys), 0) from if_pos (chk2_good gx gy)] at h
 obtain ⟨A', c', rfl, h1, h2, h3⟩ := h
 exact ⟨A', c', _, rfl, good_cmp nulls gx gy, comp_le _ _ _, rfl, h1, h2, h3⟩
theorem transform_ok (first : Bool) (A B : Option Addr) (c d : Nat) (xs ys : List At) (w : World) (hx : kAttr.C w A xs.length xs) (hy : kAttr.C w B ys.length ys) (hxc : xs.length ≤ c) (hyd : ys.length ≤ d) (hn : xs.length + ys.length ≤ 400000000) (gx : Good true xs) (gy : Good true ys) (hT : Tabs w) (es : List Addr) (hE : ErrsA w es) : Calls Tryd.prog 43 #[.slice A xs.length c, .slice B ys.length d, .bool first] w fun e w' =>
  ∃ A' c' zs, zs = (comp (trnF first) xs ys) ∧ Good true zs ∧ zs.length ≤ xs.length + ys.length ∧ e = .returned (.tuple #[.slice A' zs.length c', .nilIface]) ∧ zs.length ≤ c' ∧ kAttr.R 71 w' w.heap.size (OkFrom w.heap.size) (.slice A' zs.length c') zs ∧ Below w.heap.size w w' := by
 refine (transformP_any first A B c d xs ys w hx hy hxc hyd hn (good_sz gx) (good_sz gy) hT es hE).mono fun e w' h => ?_
 rw [show transformP first xs ys = ((comp (trnF first) xs ys), 0) from if_pos (chk2_good gx gy)] at h
 obtain ⟨A', c', rfl, h1, h2, h3⟩ := h
 exact ⟨A', c', _, rfl, good_trn first gx gy, comp_le _ _ _, rfl, h1, h2, h3⟩
theorem ent30 : Ent Tryd.prog 30 := ent_of Tryd.func30 (by kernel_rfl) rfl
abbrev la : List At := [((⟨#[97]⟩ : ByteArray), 2, 1, (⟨#[]⟩ : ByteArray)), ((⟨#[98]⟩ : ByteArray), 2, 2, (⟨#[]⟩ : ByteArray))]
abbrev lb : List At := [((⟨#[98]⟩ : ByteArray), 0, 0, ByteArray.empty), ((⟨#[99]⟩ : ByteArray), 2, 3, (⟨#[]⟩ : ByteArray))]
abbrev lc : List At := [((⟨#[97]⟩ : ByteArray), 2, 1, (⟨#[]⟩ : ByteArray)), ((⟨#[99]⟩ : ByteArray), 2, 3, (⟨#[]⟩ : ByteArray))]
theorem la_good : Good true la := (chkA_good _ _).1 (by decide +kernel)
theorem lb_good : Good true lb := (chkA_good _ _).1 (by decide +kernel)
theorem lab : comp (cmpF false) la lb = lc := by decide +kernel
theorem lives_any (w : World) (hT : Tabs w) (es : List Addr) (hE : ErrsA w es) : Calls Tryd.prog 30 #[] w fun e w' => e = .returned (.bool true) ∧ Below w.heap.size w w' := by
 refine RX.enter Tryd.func30 rfl 22 rfl [] rfl (by kernel_rfl) (fun R_ hR_ => ?_)
 refine sq (rg (xe0 1 [] ?_))
 refine nl (sq (rg (xc 97 ent97 [.string (⟨#[97]⟩ : ByteArray), .int .i64 1] (one_any (⟨#[97]⟩ : ByteArray) 1 _) ?_)))
 rintro e w_1 ⟨rfl, hb_2⟩; refine ⟨_, rfl, ?_⟩
 refine xc 97 ent97 [.string (⟨#[98]⟩ : ByteArray), .int .i64 2] (one_any (⟨#[98]⟩ : ByteArray) 2 _) ?_
 rintro e w_3 ⟨rfl, hb_4⟩; refine ⟨_, rfl, ?_⟩
 refine xwe 1 [] [(6, .slice (some ⟨w_3.heap.size, 0, none⟩) 2 2)] (w_3.alloc (.cells #[.string (⟨#[97]⟩ : ByteArray), .int .i64 2, .int .i64 1, .string (⟨#[]⟩ : ByteArray), .string (⟨#[98]⟩ : ByteArray), .int .i64 2, .int .i64 2, .string (⟨#[]⟩ : ByteArray)] 71)) [] trivial ?_
 obtain ⟨w_5, hw_9, hb_6, hk_7, hz_8⟩ := new_world w_3 #[.string (⟨#[97]⟩ : ByteArray), .int .i64 2, .int .i64 1, .string (⟨#[]⟩ : ByteArray), .string (⟨#[98]⟩ : ByteArray), .int .i64 2, .int .i64 2, .string (⟨#[]⟩ : ByteArray)] 71
 rw [hw_9]
 refine xr0 1 [(7, .agg #[.string (⟨#[98]⟩ : ByteArray), .int .i64 0, .int .i64 0, .string ByteArray.empty])] [] ?_
 refine xc 97 ent97 [.string (⟨#[99]⟩ : ByteArray), .int .i64 3] (one_any (⟨#[99]⟩ : ByteArray) 3 _) ?_
 rintro e w_10 ⟨rfl, hb_11⟩; refine ⟨_, rfl, ?_⟩
 refine xw 1 [] [(9, .slice (some ⟨w_10.heap.size, 0, none⟩) 2 2)] [7, 8] (w_10.alloc (.cells #[.string (⟨#[98]⟩ : ByteArray), .int .i64 0, .int .i64 0, .string ByteArray.empty, .string (⟨#[99]⟩ : ByteArray), .int .i64 2, .int .i64 3, .string (⟨#[]⟩ : ByteArray)] 71)) [] trivial ?_
 obtain ⟨w_12, hw_16, hb_13, hk_14, hz_15⟩ := new_world w_10 #[.string (⟨#[98]⟩ : ByteArray), .int .i64 0, .int .i64 0, .string ByteArray.empty, .string (⟨#[99]⟩ : ByteArray), .int .i64 2, .int .i64 3, .string (⟨#[]⟩ : ByteArray)] 71
 rw [hw_16]
 have hr_17 := Kd.R_litB kAttr (W := w_3) (e := 71) (cs := #[.string (⟨#[97]⟩ : ByteArray), .int .i64 2, .int .i64 1, .string (⟨#[]⟩ : ByteArray), .string (⟨#[98]⟩ : ByteArray), .int .i64 2, .int .i64 2, .string (⟨#[]⟩ : ByteArray)]) [((⟨#[97]⟩ : ByteArray), 2, 1, (⟨#[]⟩ : ByteArray)), ((⟨#[98]⟩ : ByteArray), 2, 2, (⟨#[]⟩ : ByteArray))] hk_7 (repsAttr [((⟨#[97]⟩ : ByteArray), 2, 1, (⟨#[]⟩ : ByteArray)), ((⟨#[98]⟩ : ByteArray), 2, 2, (⟨#[]⟩ : ByteArray))]) (Nat.le_of_ble_eq_true (by kernel_rfl))
 have hr_18 := Kd.R_litB kAttr (W := w_10) (e := 71) (cs := #[.string (⟨#[98]⟩ : ByteArray), .int .i64 0, .int .i64 0, .string ByteArray.empty, .string (⟨#[99]⟩ : ByteArray), .int .i64 2, .int .i64 3, .string (⟨#[]⟩ : ByteArray)]) [((⟨#[98]⟩ : ByteArray), 0, 0, ByteArray.empty), ((⟨#[99]⟩ : ByteArray), 2, 3, (⟨#[]⟩ : ByteArray))] hk_14 (repsAttr [((⟨#[98]⟩ : ByteArray), 0, 0, ByteArray.empty), ((⟨#[99]⟩ : ByteArray), 2, 3, (⟨#[]⟩ : ByteArray))]) (Nat.le_of_ble_eq_true (by kernel_rfl))
 have hB_29 : Below w.heap.size w w_12 := (bt (bt (bt (bt hb_2 hb_4) hb_6) hb_11) hb_13)
 refine xc 42 ent42 [.slice (some ⟨w_3.heap.size, 0, none⟩) 2 2, .slice (some ⟨w_10.heap.size, 0, none⟩) 2 2, .bool false] (compose_ok false (some ⟨w_3.heap.size, 0, none⟩) (some ⟨w_10.heap.size, 0, none⟩) 2 2 la lb _ (Kd.R_C (Kd.R_below hr_17 (bt hb_11 hb_13))) (Kd.R_C hr_18) (by decide) (by decide) (by decide) la_good lb_good (hT.below hB_29) es (hE.below hB_29)) ?_
 rintro e w_27 ⟨A_19, c_20, zs_21, ez_22, gz_23, lz_24, rfl, hl_25, hr_26, hb_28⟩; refine ⟨_, rfl, ?_⟩
 refine xe0 5 [(1, .slice A_19 zs_21.length c_20), (2, .nilIface)] ?_
 refine nl (sq (rg (xe0 4 [(15, .bool true), (16, .slice A_19 zs_21.length c_20)] ?_)))
 refine xc 97 ent97 [.string (⟨#[97]⟩ : ByteArray), .int .i64 1] (one_any (⟨#[97]⟩ : ByteArray) 1 _) ?_
 rintro e w_30 ⟨rfl, hb_31⟩; refine ⟨_, rfl, ?_⟩
 refine xc 97 ent97 [.string (⟨#[99]⟩ : ByteArray), .int .i64 3] (one_any (⟨#[99]⟩ : ByteArray) 3 _) ?_
 rintro e w_32 ⟨rfl, hb_33⟩; refine ⟨_, rfl, ?_⟩
 refine xw 1 [] [(19, .slice (some ⟨w_32.heap.size, 0, none⟩) 2 2)] [17, 18] (w_32.alloc (.cells #[.string (⟨#[97]⟩ : ByteArray), .int .i64 2, .int .i64 1, .string (⟨#[]⟩ : ByteArray), .string (⟨#[99]⟩ : ByteArray), .int .i64 2, .int .i64 3, .string (⟨#[]⟩ : ByteArray)] 71)) [] trivial ?_
 obtain ⟨w_34, hw_38, hb_35, hk_36, hz_37⟩ := new_world w_32 #[.string (⟨#[97]⟩ : ByteArray), .int .i64 2, .int .i64 1, .string (⟨#[]⟩ : ByteArray), .string (⟨#[99]⟩ : ByteArray), .int .i64 2, .int .i64 3, .string (⟨#[]⟩ : ByteArray)] 71
 rw [hw_38]
 have hr_41 := Kd.R_litB kAttr (W := w_32) (e := 71) (cs := #[.string (⟨#[97]⟩ : ByteArray), .int .i64 2, .int .i64 1, .string (⟨#[]⟩ : ByteArray), .string (⟨#[99]⟩ : ByteArray), .int .i64 2, .int .i64 3, .string (⟨#[]⟩ : ByteArray)]) [((⟨#[97]⟩ : ByteArray), 2, 1, (⟨#[]⟩ : ByteArray)), ((⟨#[99]⟩ : ByteArray), 2, 3, (⟨#[]⟩ : ByteArray))] hk_36 (repsAttr [((⟨#[97]⟩ : ByteArray), 2, 1, (⟨#[]⟩ : ByteArray)), ((⟨#[99]⟩ : ByteArray), 2, 3, (⟨#[]⟩ : ByteArray))]) (Nat.le_of_ble_eq_true (by kernel_rfl))
 refine xc 46 ent46 [.slice A_19 zs_21.length c_20, .slice (some ⟨w_32.heap.size, 0, none⟩) 2 2] (refSame_any _ _ _ _ zs_21 lc _ (Kd.R_C (Kd.R_below hr_26 (bt (bt hb_31 hb_33) hb_35))) (Kd.R_C hr_41)) ?_
 rintro e w_39 ⟨rfl, hb_40⟩; refine ⟨_, rfl, ?_⟩
 rw [show decide (zs_21 = lc) = true from decide_eq_true (ez_22.trans lab)]
 refine xe0 2 [(0, .bool true)] ?_
 refine nl (X_ret (rk [.bool true] (hR_ _ _ ?_)))
 have hB_42 : Below w.heap.size w w_39 := (bt (bt (bt (bt (bt hB_29 hb_28) hb_31) hb_33) hb_35) hb_40)
 exact ⟨rfl, hB_42⟩
end Go.Proofs.YtkehomiogkoomaaDoor
