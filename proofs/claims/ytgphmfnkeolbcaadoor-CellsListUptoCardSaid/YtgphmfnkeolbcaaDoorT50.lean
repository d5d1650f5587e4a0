import Derived.Test.YtgphmfnkeolbcaaDoorT55
import Derived.Test.YtgphmfnkeolbcaaDoorCel
/- measure.Result, Base and Document. Conditions: sizes, the tables of utf8, the errors' variables. -/

set_option linter.unusedVariables false
set_option linter.unusedSimpArgs false
set_option maxRecDepth 100000
namespace Go.Proofs.YtgphmfnkeolbcaaDoor
open Go Go.RowKit Go.Proofs.YtgphmfnkeolbcaaDoorW.PrintWords RX
noncomputable def mResO (xs : List OpA) : Int := IntKind.i64.wrap ((sumL (xs.map pelO)).1 + (sumL (xs.map pelO)).2.1)
theorem mres_any (d : Nat) (xs : List OpA) (w : World) (hd : DeltaC w d xs) (hb : badE xs = 0) (hn : xs.length ≤ 1100000) (hz : ∀ i, i < xs.length → opSz (xs.getD i op0)) (hT : Tabs w) (es : List Addr) (hE : ErrsO w es) : Calls Tryd.prog 13 #[.pointer (some ⟨d, 0, none⟩)] w fun e w' => e = .returned (.int .i64 (mResO xs)) ∧ Below w.heap.size w w' := by
 refine RX.enter Tryd.func13 rfl 15 rfl [(0, .pointer (some ⟨d, 0, none⟩))] rfl (by kernel_rfl) (fun R_ hR_ => ?_)
 refine sq (rg (xe0 1 [(0, pw d 0)] ?_))
 refine nl (sq (rg (xe0 1 [(7, pw d 0)] ?_)))
 refine xc 31 ent31 [.pointer (some ⟨d, 0, none⟩)] (mlen_any d xs _ hd hb hn hz hT es hE) ?_
 rintro e w_1 ⟨rfl, hb_2⟩; refine ⟨_, rfl, ?_⟩
 refine xe0 7 [(3, .int .i64 ((sumL (xs.map pelO)).1)), (4, .int .i64 ((sumL (xs.map pelO)).2.1))] ?_
 refine nl (sq (rg (xe0 4 [(2, .int .i64 (IntKind.i64.wrap (((sumL (xs.map pelO)).1) + ((sumL (xs.map pelO)).2.1))))] ?_)))
 refine nl (X_ret (rk [.int .i64 (IntKind.i64.wrap (((sumL (xs.map pelO)).1) + ((sumL (xs.map pelO)).2.1)))] (hR_ _ _ ?_)))
 exact ⟨rfl, hb_2⟩
end Go.Proofs.YtgphmfnkeolbcaaDoor
/- Is a delta a document? Conditions: sizes. -/

set_option linter.unusedVariables false
set_option linter.unusedSimpArgs false
set_option maxRecDepth 100000
namespace Go.Proofs.YtgphmfnkeolbcaaDoor
open Go Go.RowKit Go.Proofs.YtgphmfnkeolbcaaDoorW.PrintWords RX
theorem ent26 : Ent Tryd.prog 26 := ent_of Tryd.func26 (by kernel_rfl) rfl
theorem ent28 : Ent Tryd.prog 28 := ent_of Tryd.func28 (by kernel_rfl) rfl
theorem inserts_any (d : Nat) (xs : List OpA) (w : World) (hd : DeltaC w d xs) (hb : badE xs = 0) (hn : xs.length ≤ 1100000) (hz : ∀ i, i < xs.length → opSz (xs.getD i op0)) : Calls Tryd.prog 26 #[.pointer (some ⟨d, 0, none⟩)] w fun e w' => ∃ A' c' zs, zs = (if isDoc xs = true then xs else []) ∧ e = .returned (.tuple #[.slice A' zs.length c', .bool (isDoc xs)]) ∧ zs.length ≤ c' ∧ kOp.R 59 w' w.heap.size (OkFrom w.heap.size) (.slice A' zs.length c') zs ∧ Below w.heap.size w w' := by
 refine RX.enter Tryd.func26 rfl 25 rfl [(0, .pointer (some ⟨d, 0, none⟩))] rfl (by kernel_rfl) (fun R_ hR_ => ?_)
 refine sq (rg (xe0 2 [(0, pw d 0)] ?_))
 refine nl (sq (rg (xe0 1 [(7, pw d 0)] ?_)))
 refine xc 8 ent8 [.pointer (some ⟨d, 0, none⟩)] (dops_any d xs _ hd hb hn hz) ?_
 rintro e w_5 ⟨A_1, c_2, rfl, hl_3, hr_4, hb_6⟩; refine ⟨_, rfl, ?_⟩
 refine xe0 1 [(4, .slice A_1 xs.length c_2)] ?_
 refine nl (sq (sq (rg (xr0 3 [(9, .slice A_1 xs.length c_2), (10, .int .i64 (xs.length : Int)), (11, .int .i64 0)] [] ?_))))
 refine nl (bk (X_loop (ι := Nat) (fun i => [(4, .slice A_1 xs.length c_2), (9, .slice A_1 xs.length c_2), (10, .int .i64 (xs.length : Int)), (11, .int .i64 (i : Int))]) (fun i wl => i ≤ xs.length ∧ (∀ t, t < i → (xs.getD t op0).kind = 1 ∨ (xs.getD t op0).kind = 2) ∧ Below w_5.heap.size w_5 wl) (fun i => xs.length - i) 0 ⟨by omega, fun t ht => by omega, Below.refl _ _⟩ (by kernel_rfl) ?_))
 rintro i wl ⟨hi, hk0, HB⟩
 refine sq (X_region ?_)
 by_cases c_7 : (i : Int) < (xs.length : Int)
 ·refine xr 1 [(12, .eq (.bool true))] [(12, .bool true)] [] [Value.bool (decide ((i : Int) < (xs.length : Int))) = Value.bool true] ⟨congrArg Value.bool (decide_eq_true (c_7)), trivial⟩ ?_
  refine nl (sq (ct (sk (sq (bk (sq (X_region ?_)))))))
  obtain ⟨ad_8, B_11, c_12, ha_9, hc_10, hl_13, hC_14⟩ := Kd.atOp (Kd.R_C (Kd.R_below hr_4 HB)) (i := (i : Int)) (by omega) (by omega)
  replace hc_10 : CellsAt wl (ad_8.add ((i : Int).toNat * 7)) (o7L (xs.getD i op0) (.slice B_11 ((xs.getD i op0).attrs.length) c_12)) := hc_10
  replace hl_13 : (xs.getD i op0).attrs.length ≤ c_12 := hl_13
  replace hC_14 : kAttr.C wl B_11 ((xs.getD i op0).attrs.length) (xs.getD i op0).attrs := hC_14
  refine xw 3 [(13, .idx ad_8), (14, .load (.agg (o7A (xs.getD i op0) (.slice B_11 ((xs.getD i op0).attrs.length) c_12))))] [(6, pw wl.heap.size 0), (14, .agg (o7A (xs.getD i op0) (.slice B_11 ((xs.getD i op0).attrs.length) c_12)))] [12] (wl.alloc (.cells #[.int .i64 0, .string ByteArray.empty, .int .i64 0, .int .i64 0, .string ByteArray.empty, .int .i64 0, .slice none 0 0] 59)) [A_1 = some ad_8, (0 : Int) ≤ (i : Int), (i : Int) < (xs.length : Int), LoadsAs Tryd.prog 59 (ad_8.add ((i : Int).toNat * 7)) (.agg (o7A (xs.getD i op0) (.slice B_11 ((xs.getD i op0).attrs.length) c_12))) wl] ⟨ha_9, (by omega), (by omega), loadsE rfl rfl hc_10 0 ⟨by kernel_rfl, by kernel_rfl⟩, trivial⟩ ?_
  obtain ⟨w_15, hw_19, hb_16, hk_17, hz_18⟩ := new_world wl #[.int .i64 0, .string ByteArray.empty, .int .i64 0, .int .i64 0, .string ByteArray.empty, .int .i64 0, .slice none 0 0] 59
  rw [hw_19]
  refine xst (.agg (o7A (xs.getD i op0) (.slice B_11 ((xs.getD i op0).attrs.length) c_12))) hk_17 0 (o7A (xs.getD i op0) (.slice B_11 ((xs.getD i op0).attrs.length) c_12)) (fun w_20 hg_21 hk_22 hz_23 => ?_)
  refine nl (sq (rg (xr 2 [(16, .load (.int .i64 ((xs.getD i op0).kind)))] [(16, .int .i64 ((xs.getD i op0).kind))] [14] [LoadsAs Tryd.prog 3 (⟨wl.heap.size, 0, none⟩) (.int .i64 ((xs.getD i op0).kind)) w_20] ⟨loads1 rfl (Blk.cell hk_22 0 _ rfl), trivial⟩ ?_)))
  by_cases c_24 : (xs.getD i op0).kind = 1
  ·refine xr 6 [(17, .eq (.bool false))] [(22, .bool false)] [6, 16] [Value.bool ((xs.getD i op0).kind != 1) = Value.bool false] ⟨congrArg Value.bool (bneF (c_24)), trivial⟩ ?_
   refine nl (cf (sk (rg (xr 2 [(23, .eq (.int .i64 ((i : Int) + 1)))] [(11, .int .i64 ((i : Int) + 1))] [22] [Value.int .i64 (IntKind.i64.wrap ((i : Int) + 1)) = Value.int .i64 ((i : Int) + 1)] ⟨wr_i64 (by omega) (by omega), trivial⟩ ?_))))
   refine nl ?_
   refine ⟨(i + 1), by kernel_rfl, ?_, ?_⟩
   ·exact ⟨by omega, fun t ht => by by_cases e_ : t = i; (· subst e_; exact .inl c_24); (· exact hk0 t (by omega)), (bg (bt HB hb_16) hg_21 (HB).size)⟩
   (try dsimp only); omega
  refine xr 4 [(17, .eq (.bool true)), (20, .load (.int .i64 ((xs.getD i op0).kind)))] [(18, .bool true), (20, .int .i64 ((xs.getD i op0).kind))] [6, 16] [Value.bool ((xs.getD i op0).kind != 1) = Value.bool true, LoadsAs Tryd.prog 3 (⟨wl.heap.size, 0, none⟩) (.int .i64 ((xs.getD i op0).kind)) w_20] ⟨congrArg Value.bool (bneT (c_24)), loads1 rfl (Blk.cell hk_22 0 _ rfl), trivial⟩ ?_
  by_cases c_25 : (xs.getD i op0).kind = 2
  ·refine xr 2 [(21, .eq (.bool false))] [(22, .bool false)] [18, 20] [Value.bool ((xs.getD i op0).kind != 2) = Value.bool false] ⟨congrArg Value.bool (bneF (c_25)), trivial⟩ ?_
   refine nl (cf (sk (rg (xe 2 [(23, .eq (.int .i64 ((i : Int) + 1)))] [(4, .slice A_1 xs.length c_2), (9, .slice A_1 xs.length c_2), (10, .int .i64 (xs.length : Int)), (11, .int .i64 ((i : Int) + 1))] [Value.int .i64 (IntKind.i64.wrap ((i : Int) + 1)) = Value.int .i64 ((i : Int) + 1)] ⟨wr_i64 (by omega) (by omega), trivial⟩ ?_))))
   refine nl ?_
   refine ⟨(i + 1), by kernel_rfl, ?_, ?_⟩
   ·exact ⟨by omega, fun t ht => by by_cases e_ : t = i; (· subst e_; exact .inr c_25); (· exact hk0 t (by omega)), (bg (bt HB hb_16) hg_21 (HB).size)⟩
   (try dsimp only); omega
  refine xr 2 [(21, .eq (.bool true))] [(22, .bool true)] [18, 20] [Value.bool ((xs.getD i op0).kind != 2) = Value.bool true] ⟨congrArg Value.bool (bneT (c_25)), trivial⟩ ?_
  refine nl (ct (sq (rg (xe0 2 [(2, .slice none 0 0), (3, .bool false)] ?_))))
  refine nl (X_ret (rk [.slice none 0 0, .bool false] (hR_ _ _ ?_)))
  have hB_26 : Below w.heap.size w w_20 := (bg (bt (bt hb_6 HB) hb_16) hg_21 ((bt hb_6 HB)).size)
  have hd_ := isDoc_no (xs := xs) (i := i) (by omega) c_24 c_25
  exact ⟨none, 0, [], by rw [hd_]; rfl, by rw [hd_]; rfl, Nat.le_refl _, Kd.R_nil _ _ _ _ _, hB_26⟩
 refine xr 1 [(12, .eq (.bool false))] [(12, .bool false)] [] [Value.bool (decide ((i : Int) < (xs.length : Int))) = Value.bool false] ⟨congrArg Value.bool (decide_eq_false (c_7)), trivial⟩ ?_
 refine nl (sq (cf (X_exit (sq (rg (xe0 3 [(2, .slice A_1 xs.length c_2), (3, .bool true)] ?_))))))
 refine nl (X_ret (rk [.slice A_1 xs.length c_2, .bool true] (hR_ _ _ ?_)))
 have hd_ := isDoc_yes (xs := xs) (fun t ht => hk0 t (by omega))
 exact ⟨_, _, xs, by rw [if_pos hd_], by rw [hd_]; rfl, (RX.Kd.R_len (Kd.R_below hr_4 HB)).2, Kd.R_low (Kd.R_below hr_4 HB) (Nat.le_refl _), (bt hb_6 HB)⟩
end Go.Proofs.YtgphmfnkeolbcaaDoor
