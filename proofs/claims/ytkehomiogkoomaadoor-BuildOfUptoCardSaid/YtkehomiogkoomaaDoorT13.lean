/- What vellumhand.Attrs, Ops, Kept and KeptOps do. Conditions: sizes. -/
import Derived.Test.YtkehomiogkoomaaDoorT7
import Derived.Test.YtkehomiogkoomaaDoorHand
set_option linter.unusedVariables false
set_option linter.unusedSimpArgs false
set_option maxRecDepth 100000
namespace Go.Proofs.YtkehomiogkoomaaDoor
open Go Go.RowKit Go.Proofs.YtkehomiogkoomaaDoorW.PrintWords RX
theorem ent31 : Ent Tryd.prog 31 := ent_of Tryd.func31 (by kernel_rfl) rfl
theorem ent57 : Ent Tryd.prog 57 := ent_of Tryd.func57 (by kernel_rfl) rfl
theorem ent41 : Ent Tryd.prog 41 := ent_of Tryd.func41 (by kernel_rfl) rfl
theorem ent60 : Ent Tryd.prog 60 := ent_of Tryd.func60 (by kernel_rfl) rfl
theorem infoHd : (Tryd.prog.info? 47).map (fun i => (i.zero, i.size, i.bytes)) = some (some (.agg #[.int .i64 0, .string ByteArray.empty, .int .i64 0, .int .i64 0, .string ByteArray.empty, .int .i64 0, .slice none 0 0]), 7, 88) := by kernel_rfl
theorem hAttrs_any (A : Option Addr) (c : Nat) (xs : List At) (w : World) (hx : kAttr.C w A xs.length xs) (hn : xs.length ≤ 100000000) : Calls Tryd.prog 31 #[.slice A xs.length c] w fun e w' => ∃ A' c', e = .returned (.slice A' xs.length c') ∧ kAttrsH.M w' w.heap.size (OkFrom w.heap.size) xs [.slice A' xs.length c'] ∧ Below w.heap.size w w' := by
 have hpl : xs.length ≤ 9223372036854775807 := hx.2.1
 refine RX.enter Tryd.func31 rfl 18 rfl [(0, .slice A xs.length c)] rfl (by kernel_rfl) (fun R_ hR_ => ?_)
 refine sq (rg (xe0 1 [(0, .slice A xs.length c)] ?_))
 refine nl (sq (sq (rg (xr0 2 [(5, .int .i64 (xs.length : Int))] [] ?_))))
 by_cases c_1 : (xs.length : Int) = 0
 ·refine xr 1 [(6, .eq (.bool true))] [(6, .bool true)] [5] [Value.bool ((xs.length : Int) == 0) = Value.bool true] ⟨congrArg Value.bool (beq_iff_eq.2 (c_1)), trivial⟩ ?_
  refine nl (ct (sq (rg (xe0 1 [(2, .slice none 0 0)] ?_))))
  refine nl (X_ret (rk [.slice none 0 0] (hR_ _ _ ?_)))
  have h0 : xs = [] := List.eq_nil_of_length_eq_zero (by omega)
  subst h0
  exact ⟨none, 0, rfl, ⟨none, 0, rfl, .inl ⟨rfl, rfl, rfl⟩⟩, (Below.refl _ _)⟩
 refine xr 1 [(6, .eq (.bool false))] [(6, .bool false)] [5] [Value.bool ((xs.length : Int) == 0) = Value.bool false] ⟨congrArg Value.bool (beq_eq_false_iff_ne.2 (c_1)), trivial⟩ ?_
 refine nl (cf (sk (sq (rg (xw 1 [] [(7, .slice (some ⟨w.heap.size, 0, none⟩) 0 0)] [6] (w.alloc (.cells #[] 71)) [] trivial ?_)))))
 obtain ⟨w_2, hw_6, hb_3, hk_4, hz_5⟩ := new_world w #[] 71
 rw [hw_6]
 refine xr0 1 [(8, .slice A xs.length c)] [] ?_
 have hr_7 := Kd.R_litB kAttr (W := w) (e := 71) (cs := #[]) [] hk_4 (repsAttr []) (Nat.le_of_ble_eq_true (by kernel_rfl))
 refine XL_appendAll (c' := c) kAttr rfl rfl rfl w.heap.size 71 (.agg #[.string ByteArray.empty, .int .i64 0, .int .i64 0, .string ByteArray.empty]) 48 Tryd.underlying45 info71 rfl (by decide) (by omega) ([]) xs (by kernel_rfl) hr_7 (Kd.C_below hx hb_3) kAttr_KM (hb_3).size (by first | omega | (simp; omega)) ?_
 intro A_8 c_9 w_10 hr_11 hc_12 hg_13 hl_14 ha_15
 have he_16 : ([] ++ xs) = xs := List.nil_append _
 rw [he_16] at hr_11 ⊢
 refine xw 3 [] [(9, .slice A_8 xs.length c_9), (12, .slice (some ⟨w_10.heap.size, 0, none⟩) 2 2)] [7, 8] (w_10.alloc (.cells #[.string (⟨#[115, 112, 97, 114, 101]⟩ : ByteArray), .int .i64 0, .int .i64 0, .string ByteArray.empty, .string (⟨#[114, 111, 111, 109]⟩ : ByteArray), .int .i64 0, .int .i64 0, .string ByteArray.empty] 71)) [] trivial ?_
 obtain ⟨w_17, hw_21, hb_18, hk_19, hz_20⟩ := new_world w_10 #[.string (⟨#[115, 112, 97, 114, 101]⟩ : ByteArray), .int .i64 0, .int .i64 0, .string ByteArray.empty, .string (⟨#[114, 111, 111, 109]⟩ : ByteArray), .int .i64 0, .int .i64 0, .string ByteArray.empty] 71
 rw [hw_21]
 have hr_22 := Kd.R_litB kAttr (W := w_10) (e := 71) (cs := #[.string (⟨#[115, 112, 97, 114, 101]⟩ : ByteArray), .int .i64 0, .int .i64 0, .string ByteArray.empty, .string (⟨#[114, 111, 111, 109]⟩ : ByteArray), .int .i64 0, .int .i64 0, .string ByteArray.empty]) [((⟨#[115, 112, 97, 114, 101]⟩ : ByteArray), 0, 0, ByteArray.empty), ((⟨#[114, 111, 111, 109]⟩ : ByteArray), 0, 0, ByteArray.empty)] hk_19 (repsAttr [((⟨#[115, 112, 97, 114, 101]⟩ : ByteArray), 0, 0, ByteArray.empty), ((⟨#[114, 111, 111, 109]⟩ : ByteArray), 0, 0, ByteArray.empty)]) (Nat.le_of_ble_eq_true (by kernel_rfl))
 have hB_31 : Below w.heap.size w w_17 := (bt (bgo hb_3 hg_13 hl_14 (Nat.le_refl _)) hb_18)
 refine XL_appendAll (c' := 2) kAttr rfl rfl rfl w.heap.size 71 (.agg #[.string ByteArray.empty, .int .i64 0, .int .i64 0, .string ByteArray.empty]) 48 Tryd.underlying45 info71 rfl (by decide) (by omega) xs ([((⟨#[115, 112, 97, 114, 101]⟩ : ByteArray), 0, 0, ByteArray.empty), ((⟨#[114, 111, 111, 109]⟩ : ByteArray), 0, 0, ByteArray.empty)]) (by kernel_rfl) (Kd.R_below hr_11 hb_18) (Kd.R_C hr_22) kAttr_KM (hB_31).size (by first | omega | (simp; omega)) ?_
 intro A_23 c_24 w_25 hr_26 hc_27 hg_28 hl_29 ha_30
 have he_32 : (xs ++ ([((⟨#[115, 112, 97, 114, 101]⟩ : ByteArray), 0, 0, ByteArray.empty), ((⟨#[114, 111, 111, 109]⟩ : ByteArray), 0, 0, ByteArray.empty)])) = (xs ++ spL) := rfl
 rw [he_32] at hr_26 ⊢
 refine xe0 1 [(0, .slice A xs.length c), (3, .slice A_23 ((xs ++ spL).length) c_24)] ?_
 refine nl (sq (X_region ?_))
 have hC_33 : kAttr.C w_25 A_23 xs.length xs := by have h := RX.Kd.C_take (m := xs.length) (Kd.R_C hr_26) (by first | omega | (simp; done) | (simp; omega)); rwa [show (List.take xs.length (xs ++ spL)) = xs from List.take_left ..] at h
 refine xe 5 [(17, .as (.slice A_23 xs.length c_24))] [(2, .slice A_23 xs.length c_24)] [RunsAs Tryd.prog [(14, .slice A_23 ((xs ++ spL).length) c_24), (16, .int .i64 (xs.length : Int))] (Go.Op.slice 45 (Go.Operand.tmp 14) none (some (Go.Operand.tmp 16)) none) 45 (.slice A_23 xs.length c_24) w_25] ⟨runs_slice_h (h := (xs.length : Int)) rfl rfl rfl rfl (by omega) (by have h := hc_27; (try simp only [List.length_append, List.length_cons, List.length_nil] at h); omega), trivial⟩ ?_
 refine nl (X_ret (rk [.slice A_23 xs.length c_24] (hR_ _ _ ?_)))
 have hR := hr_26
 rw [List.length_append, show spL.length = 2 from rfl] at hR
 exact ⟨_, _, rfl, ⟨_, _, rfl, .inr ⟨_, rfl, Kd.R_low hR (Nat.le_refl _)⟩⟩, (bgo hB_31 hg_28 hl_29 (Nat.le_refl _))⟩
set_option maxHeartbeats 2000000 in
theorem hOps_any (A : Option Addr) (c : Nat) (xs : List OpA) (w : World) (hx : kOp.C w A xs.length xs) (hn : xs.length ≤ 1100000) (hz : ∀ i, i < xs.length → opSz (xs.getD i op0)) : Calls Tryd.prog 57 #[.slice A xs.length c] w fun e w' => ∃ A' c', e = .returned (.slice A' xs.length c') ∧ xs.length + 2 ≤ c' ∧ kOpH.R 47 w' w.heap.size (OkFrom w.heap.size) (.slice A' (xs.length + 2) c') (xs ++ spO) ∧ Below w.heap.size w w' := by
 have hpl : xs.length ≤ 9223372036854775807 := hx.2.1
 refine RX.enter Tryd.func57 rfl 31 rfl [(0, .slice A xs.length c)] rfl (by kernel_rfl) (fun R_ hR_ => ?_)
 refine sq (rg (xe0 1 [(0, .slice A xs.length c)] ?_))
 refine nl (sq (rg (xw 1 [] [(6, .slice (some ⟨w.heap.size, 0, none⟩) 0 0)] [] (w.alloc (.cells #[] 47)) [] trivial ?_)))
 obtain ⟨w_1, hw_5, hb_2, hk_3, hz_4⟩ := new_world w #[] 47
 rw [hw_5]
 refine xr0 1 [(3, .slice (some ⟨w.heap.size, 0, none⟩) 0 0)] [6] ?_
 refine nl (sq (sq (rg (xr0 3 [(7, .slice A xs.length c), (8, .int .i64 (xs.length : Int)), (9, .int .i64 0)] [] ?_))))
 refine nl (X_block ?_)
 have hr_6 := Kd.R_litB kOpH (W := w) (e := 47) (cs := #[]) [] hk_3 (repsOpH0 [] (fun _ h => by cases h)) (Nat.le_of_ble_eq_true (by kernel_rfl))
 refine X_loop (ι := Nat × Option Addr × Nat × List OpA) (fun ⟨i, A3, c3, zs3⟩ => [(0, .slice A xs.length c), (3, .slice A3 zs3.length c3), (7, .slice A xs.length c), (8, .int .i64 (xs.length : Int)), (9, .int .i64 (i : Int))]) (fun ⟨i, A3, c3, zs3⟩ wl => i ≤ xs.length ∧ zs3 = xs.take i ∧ kOpH.R 47 wl w.heap.size (OkFrom w.heap.size) (.slice A3 zs3.length c3) zs3 ∧ w.heap.size ≤ wl.heap.size ∧ Below w.heap.size w wl) (fun ⟨i, A3, c3, zs3⟩ => xs.length - i) (0, (some ⟨w.heap.size, 0, none⟩), 0, []) ⟨by omega, rfl, hr_6, (hb_2).size, hb_2⟩ (by kernel_rfl) ?_
 rintro ⟨i, A3, c3, zs3⟩ wl ⟨hi, he3, hr3, hle3, HB⟩
 have hzl : zs3.length = min i xs.length := by rw [he3, List.length_take]
 have hatl := fun (h_ : i < xs.length) => (hz i h_).2.2.1
 refine sq (X_region ?_)
 by_cases c_7 : (i : Int) < (xs.length : Int)
 ·refine xr 1 [(10, .eq (.bool true))] [(10, .bool true)] [] [Value.bool (decide ((i : Int) < (xs.length : Int))) = Value.bool true] ⟨congrArg Value.bool (decide_eq_true (c_7)), trivial⟩ ?_
  refine nl (sq (ct (sk (sq (bk (sq (X_region ?_)))))))
  obtain ⟨ad_8, B_11, c_12, ha_9, hc_10, hl_13, hC_14⟩ := Kd.atOp (Kd.C_below hx HB) (i := (i : Int)) (by omega) (by omega)
  replace hc_10 : CellsAt wl (ad_8.add ((i : Int).toNat * 7)) [.int .i64 ((xs.getD i op0).kind), .string ((xs.getD i op0).text), .int .i64 ((xs.getD i op0).vk), .int .i64 ((xs.getD i op0).vn), .string ((xs.getD i op0).vt), .int .i64 ((xs.getD i op0).count), .slice B_11 ((xs.getD i op0).attrs.length) c_12] := hc_10
  replace hl_13 : (xs.getD i op0).attrs.length ≤ c_12 := hl_13
  replace hC_14 : kAttr.C wl B_11 ((xs.getD i op0).attrs.length) (xs.getD i op0).attrs := hC_14
  refine xw 3 [(11, .idx ad_8), (12, .load (.agg #[.int .i64 ((xs.getD i op0).kind), .string ((xs.getD i op0).text), .int .i64 ((xs.getD i op0).vk), .int .i64 ((xs.getD i op0).vn), .string ((xs.getD i op0).vt), .int .i64 ((xs.getD i op0).count), .slice B_11 ((xs.getD i op0).attrs.length) c_12]))] [(5, pw wl.heap.size 0), (12, .agg #[.int .i64 ((xs.getD i op0).kind), .string ((xs.getD i op0).text), .int .i64 ((xs.getD i op0).vk), .int .i64 ((xs.getD i op0).vn), .string ((xs.getD i op0).vt), .int .i64 ((xs.getD i op0).count), .slice B_11 ((xs.getD i op0).attrs.length) c_12])] [10] (wl.alloc (.cells #[.int .i64 0, .string ByteArray.empty, .int .i64 0, .int .i64 0, .string ByteArray.empty, .int .i64 0, .slice none 0 0] 47)) [A = some ad_8, (0 : Int) ≤ (i : Int), (i : Int) < (xs.length : Int), LoadsAs Tryd.prog 47 (ad_8.add ((i : Int).toNat * 7)) (.agg #[.int .i64 ((xs.getD i op0).kind), .string ((xs.getD i op0).text), .int .i64 ((xs.getD i op0).vk), .int .i64 ((xs.getD i op0).vn), .string ((xs.getD i op0).vt), .int .i64 ((xs.getD i op0).count), .slice B_11 ((xs.getD i op0).attrs.length) c_12]) wl] ⟨ha_9, (by omega), (by omega), loadsE rfl rfl hc_10 0 ⟨by kernel_rfl, by kernel_rfl⟩, trivial⟩ ?_
  obtain ⟨w_15, hw_19, hb_16, hk_17, hz_18⟩ := new_world wl #[.int .i64 0, .string ByteArray.empty, .int .i64 0, .int .i64 0, .string ByteArray.empty, .int .i64 0, .slice none 0 0] 47
  rw [hw_19]
  refine xst (.agg #[.int .i64 ((xs.getD i op0).kind), .string ((xs.getD i op0).text), .int .i64 ((xs.getD i op0).vk), .int .i64 ((xs.getD i op0).vn), .string ((xs.getD i op0).vt), .int .i64 ((xs.getD i op0).count), .slice B_11 ((xs.getD i op0).attrs.length) c_12]) hk_17 0 #[.int .i64 ((xs.getD i op0).kind), .string ((xs.getD i op0).text), .int .i64 ((xs.getD i op0).vk), .int .i64 ((xs.getD i op0).vn), .string ((xs.getD i op0).vt), .int .i64 ((xs.getD i op0).count), .slice B_11 ((xs.getD i op0).attrs.length) c_12] (fun w_20 hg_21 hk_22 hz_23 => ?_)
  refine nl (sq (rg (xr 2 [(14, .load (.slice B_11 ((xs.getD i op0).attrs.length) c_12))] [(14, .slice B_11 ((xs.getD i op0).attrs.length) c_12)] [12] [LoadsAs Tryd.prog 45 (⟨wl.heap.size, 6, none⟩) (.slice B_11 ((xs.getD i op0).attrs.length) c_12) w_20] ⟨loads1 rfl (Blk.cell hk_22 6 _ rfl), trivial⟩ ?_)))
  refine xc 31 ent31 [.slice B_11 ((xs.getD i op0).attrs.length) c_12] (hAttrs_any _ _ ((xs.getD i op0).attrs) _ (Kd.C_below hC_14 (bg hb_16 hg_21 (Nat.le_refl _))) (by omega)) ?_
  rintro e w_26 ⟨A_24, c_25, rfl, hM_28, hb_27⟩; refine ⟨_, rfl, ?_⟩
  refine xr0 1 [(15, .slice A_24 ((xs.getD i op0).attrs.length) c_25), (16, pw wl.heap.size 6)] [14] ?_
  refine xst (.slice A_24 ((xs.getD i op0).attrs.length) c_25) (Blk.below hk_22 hb_27) 6 #[.int .i64 ((xs.getD i op0).kind), .string ((xs.getD i op0).text), .int .i64 ((xs.getD i op0).vk), .int .i64 ((xs.getD i op0).vn), .string ((xs.getD i op0).vt), .int .i64 ((xs.getD i op0).count), .slice A_24 ((xs.getD i op0).attrs.length) c_25] (fun w_29 hg_30 hk_31 hz_32 => ?_)
  refine nl (rg (xw 3 [(18, .load (.agg #[.int .i64 ((xs.getD i op0).kind), .string ((xs.getD i op0).text), .int .i64 ((xs.getD i op0).vk), .int .i64 ((xs.getD i op0).vn), .string ((xs.getD i op0).vt), .int .i64 ((xs.getD i op0).count), .slice A_24 ((xs.getD i op0).attrs.length) c_25]))] [(17, .slice A3 zs3.length c3), (19, .slice (some ⟨w_29.heap.size, 0, none⟩) 1 1)] [3, 5, 15, 16] (w_29.alloc (.cells #[.int .i64 ((xs.getD i op0).kind), .string ((xs.getD i op0).text), .int .i64 ((xs.getD i op0).vk), .int .i64 ((xs.getD i op0).vn), .string ((xs.getD i op0).vt), .int .i64 ((xs.getD i op0).count), .slice A_24 ((xs.getD i op0).attrs.length) c_25] 47)) [LoadsAs Tryd.prog 47 (⟨wl.heap.size, 0, none⟩) (.agg #[.int .i64 ((xs.getD i op0).kind), .string ((xs.getD i op0).text), .int .i64 ((xs.getD i op0).vk), .int .i64 ((xs.getD i op0).vn), .string ((xs.getD i op0).vt), .int .i64 ((xs.getD i op0).count), .slice A_24 ((xs.getD i op0).attrs.length) c_25]) w_29] ⟨loadsB rfl rfl hk_31 0 ⟨by kernel_rfl, by kernel_rfl⟩, trivial⟩ ?_))
  obtain ⟨w_33, hw_37, hb_34, hk_35, hz_36⟩ := new_world w_29 #[.int .i64 ((xs.getD i op0).kind), .string ((xs.getD i op0).text), .int .i64 ((xs.getD i op0).vk), .int .i64 ((xs.getD i op0).vn), .string ((xs.getD i op0).vt), .int .i64 ((xs.getD i op0).count), .slice A_24 ((xs.getD i op0).attrs.length) c_25] 47
  rw [hw_37]
  have hB_41 : Below wl.heap.size wl w_29 := (bg (bt (bg hb_16 hg_21 (Nat.le_refl _)) hb_27) hg_30 (Nat.le_refl _))
  obtain ⟨okp_38, hM_39, hok_40⟩ := Kd.M_apart (Kd.M_past hM_28 hg_30 (Nat.lt_of_lt_of_le (Blk.lt hk_17) hg_21.size)) ((bg (bt HB hb_16) hg_21 hle3)).size (Kd.R_below hr3 hB_41) (by decide)
  rw [← hw_37]
  have hB_50 : Below w.heap.size w w_29 := (bg (bt (bg (bt HB hb_16) hg_21 hle3) hb_27) hg_30 hle3)
  refine XL_append kOpH rfl rfl rfl w.heap.size 47 (.agg #[.int .i64 0, .string ByteArray.empty, .int .i64 0, .int .i64 0, .string ByteArray.empty, .int .i64 0, .slice none 0 0]) 88 Tryd.underlying37 infoHd rfl (by decide) (by omega) zs3 (⟨(xs.getD i op0).kind, (xs.getD i op0).text, (xs.getD i op0).vk, (xs.getD i op0).vn, (xs.getD i op0).vt, (xs.getD i op0).count, (xs.getD i op0).attrs⟩ : OpA) [.int .i64 ((xs.getD i op0).kind), .string ((xs.getD i op0).text), .int .i64 ((xs.getD i op0).vk), .int .i64 ((xs.getD i op0).vn), .string ((xs.getD i op0).vt), .int .i64 ((xs.getD i op0).count), .slice A_24 ((xs.getD i op0).attrs.length) c_25] okp_38 (by kernel_rfl) (kOpH_M (x := (⟨(xs.getD i op0).kind, (xs.getD i op0).text, (xs.getD i op0).vk, (xs.getD i op0).vn, (xs.getD i op0).vt, (xs.getD i op0).count, (xs.getD i op0).attrs⟩ : OpA)) hM_39) hok_40 (Kd.R_below hr3 hB_41) (hB_50).size (by first | omega | (simp; omega)) ?_
  intro A_42 c_43 w_44 hr_45 hc_46 hg_47 hl_48 ha_49
  have he_51 : (zs3 ++ [(⟨(xs.getD i op0).kind, (xs.getD i op0).text, (xs.getD i op0).vk, (xs.getD i op0).vn, (xs.getD i op0).vt, (xs.getD i op0).count, (xs.getD i op0).attrs⟩ : OpA)]) = (xs.take (i + 1)) := by rw [he3]; exact (take_snocD op0 xs i (by omega)).symm
  rw [he_51] at hr_45 ⊢
  refine xe0 1 [(0, .slice A xs.length c), (3, .slice A_42 ((xs.take (i + 1)).length) c_43), (7, .slice A xs.length c), (8, .int .i64 (xs.length : Int)), (9, nv i)] ?_
  refine nl (rg (xr 2 [(21, .eq (.int .i64 ((i : Int) + 1)))] [(9, .int .i64 ((i : Int) + 1))] [] [Value.int .i64 (IntKind.i64.wrap ((i : Int) + 1)) = Value.int .i64 ((i : Int) + 1)] ⟨wr_i64 (by omega) (by omega), trivial⟩ ?_))
  refine nl ?_
  refine ⟨(i + 1, A_42, c_43, (xs.take (i + 1))), by kernel_rfl, ?_, ?_⟩
  ·exact ⟨by omega, rfl, hr_45, ((bgo hB_50 hg_47 hl_48 (Nat.le_refl _))).size, (bgo hB_50 hg_47 hl_48 (Nat.le_refl _))⟩
  (try dsimp only); omega
 refine xr 1 [(10, .eq (.bool false))] [(10, .bool false)] [] [Value.bool (decide ((i : Int) < (xs.length : Int))) = Value.bool false] ⟨congrArg Value.bool (decide_eq_false (c_7)), trivial⟩ ?_
 refine nl (sq (cf (X_exit (sq (rg (xw 4 [] [(22, .slice A3 zs3.length c3), (25, .slice (some ⟨wl.heap.size, 0, none⟩) 2 2)] [3, 7, 8, 9, 10] (wl.alloc (.cells #[.int .i64 77, .string ByteArray.empty, .int .i64 0, .int .i64 0, .string ByteArray.empty, .int .i64 0, .slice none 0 0, .int .i64 78, .string ByteArray.empty, .int .i64 0, .int .i64 0, .string ByteArray.empty, .int .i64 0, .slice none 0 0] 47)) [] trivial ?_))))))
 obtain ⟨w_52, hw_56, hb_53, hk_54, hz_55⟩ := new_world wl #[.int .i64 77, .string ByteArray.empty, .int .i64 0, .int .i64 0, .string ByteArray.empty, .int .i64 0, .slice none 0 0, .int .i64 78, .string ByteArray.empty, .int .i64 0, .int .i64 0, .string ByteArray.empty, .int .i64 0, .slice none 0 0] 47
 rw [hw_56]
 have hr_57 := Kd.R_litB kOpH (W := wl) (e := 47) (cs := #[.int .i64 77, .string ByteArray.empty, .int .i64 0, .int .i64 0, .string ByteArray.empty, .int .i64 0, .slice none 0 0, .int .i64 78, .string ByteArray.empty, .int .i64 0, .int .i64 0, .string ByteArray.empty, .int .i64 0, .slice none 0 0]) [(⟨77, ByteArray.empty, 0, 0, ByteArray.empty, 0, []⟩ : OpA), (⟨78, ByteArray.empty, 0, 0, ByteArray.empty, 0, []⟩ : OpA)] hk_54 (repsOpH0 [(⟨77, ByteArray.empty, 0, 0, ByteArray.empty, 0, []⟩ : OpA), (⟨78, ByteArray.empty, 0, 0, ByteArray.empty, 0, []⟩ : OpA)] (by intro x hx; simp only [List.mem_cons, List.not_mem_nil, or_false] at hx; rcases hx with rfl | rfl <;> rfl)) (Nat.le_of_ble_eq_true (by kernel_rfl))
 refine XL_appendRow (c' := 2) (m := 2) kOpH op0 rfl rfl rfl w.heap.size 47 (.agg #[.int .i64 0, .string ByteArray.empty, .int .i64 0, .int .i64 0, .string ByteArray.empty, .int .i64 0, .slice none 0 0]) 88 Tryd.underlying37 infoHd rfl (by decide) (by omega) (by decide) zs3 spO (by kernel_rfl) (Kd.R_below hr3 hb_53) (Kd.R_low hr_57 hle3) ((bt HB hb_53)).size (by (try simp only [show spO.length = 2 from rfl]); omega) ?_
 intro A_58 c_59 w_60 hr_61 hc_62 hg_63 hl_64 ha_65
 rw [List.length_append, show spO.length = 2 from rfl] at hr_61 hc_62 ⊢
 refine xr0 1 [(3, .slice A_58 (zs3.length + 2) c_59)] [22, 25, 26] ?_
 refine nl (sq (X_region ?_))
 have hC_66 : kOpH.C w_60 A_58 xs.length xs := by have h := RX.Kd.C_take (m := xs.length) (Kd.R_C hr_61) (by first | omega | (simp; done) | (simp; omega)); rwa [show (List.take xs.length (zs3 ++ spO)) = xs from by rw [show zs3 = xs from by rw [he3]; exact List.take_of_length_le (by omega)]; exact List.take_left ..] at h
 refine xe 5 [(30, .as (.slice A_58 xs.length c_59))] [(2, .slice A_58 xs.length c_59)] [RunsAs Tryd.prog [(27, .slice A_58 (zs3.length + 2) c_59), (29, .int .i64 (xs.length : Int))] (Go.Op.slice 37 (Go.Operand.tmp 27) none (some (Go.Operand.tmp 29)) none) 37 (.slice A_58 xs.length c_59) w_60] ⟨runs_slice_h (h := (xs.length : Int)) rfl rfl rfl rfl (by omega) (by have h := hc_62; (try simp only [List.length_append, List.length_cons, List.length_nil] at h); omega), trivial⟩ ?_
 refine nl (X_ret (rk [.slice A_58 xs.length c_59] (hR_ _ _ ?_)))
 have hB_67 : Below w.heap.size w w_60 := (bgo (bt HB hb_53) hg_63 hl_64 (Nat.le_refl _))
 have hxi : xs.take i = xs := List.take_of_length_le (by omega)
 have hR := hr_61
 have hcp := hc_62
 rw [hxi] at he3
 subst he3
 exact ⟨_, _, rfl, hcp, Kd.R_low hR (Nat.le_refl _), hB_67⟩
theorem hand_key (xs : List At) (j : Nat) : ((xs ++ spL).getD (xs.length + j) at0) = spL.getD j at0 := by
 rw [List.getD_eq_getElem?_getD, List.getElem?_append_right (Nat.le_add_right _ _), Nat.add_sub_cancel_left, ← List.getD_eq_getElem?_getD]
theorem hand_kind (xs : List OpA) (j : Nat) : ((xs ++ spO).getD (xs.length + j) op0) = spO.getD j op0 := by
 rw [List.getD_eq_getElem?_getD, List.getElem?_append_right (Nat.le_add_right _ _), Nat.add_sub_cancel_left, ← List.getD_eq_getElem?_getD]
theorem hand_key0 (xs : List At) : ((xs ++ spL).getD xs.length at0).1 = (⟨#[115, 112, 97, 114, 101]⟩ : ByteArray) := by have h := hand_key xs 0; rw [Nat.add_zero] at h; rw [h]; rfl
theorem hand_key1 (xs : List At) : ((xs ++ spL).getD ((xs.length : Int) + 1).toNat at0).1 = (⟨#[114, 111, 111, 109]⟩ : ByteArray) := by rw [show ((xs.length : Int) + 1).toNat = xs.length + 1 by omega, hand_key]; rfl
theorem hand_kind0 (xs : List OpA) : ((xs ++ spO).getD xs.length op0).kind = 77 := by have h := hand_kind xs 0; rw [Nat.add_zero] at h; rw [h]; rfl
theorem hand_kind1 (xs : List OpA) : ((xs ++ spO).getD ((xs.length : Int) + 1).toNat op0).kind = 78 := by rw [show ((xs.length : Int) + 1).toNat = xs.length + 1 by omega, hand_kind]; rfl
theorem hKept_any (A : Option Addr) (c : Nat) (B : Option Addr) (d : Nat) (xs : List At) (w : World) (hx : kAttr.C w A xs.length xs) (hS : xs = [] ∨ xs.length + 2 ≤ c ∧ kAttr.C w A (xs.length + 2) (xs ++ spL)) (hy : kAttr.C w B xs.length xs) (hn : xs.length ≤ 100000000) : Calls Tryd.prog 41 #[.slice A xs.length c, .slice B xs.length d] w fun e w' => e = .returned (.bool true) ∧ Below w.heap.size w w' := by
 have hpl : xs.length ≤ 9223372036854775807 := hy.2.1
 refine RX.enter Tryd.func41 rfl 35 rfl [(0, .slice A xs.length c), (1, .slice B xs.length d)] rfl (by kernel_rfl) (fun R_ hR_ => ?_)
 refine sq (rg (xe0 1 [(0, .slice A xs.length c), (1, .slice B xs.length d)] ?_))
 refine nl (sq (sq (rg (xr0 2 [(6, .slice A xs.length c), (7, .slice B xs.length d)] [] ?_))))
 refine xc 46 ent46 [.slice A xs.length c, .slice B xs.length d] (refSame_any _ _ _ _ xs xs _ hx hy) ?_
 rintro e w_1 ⟨rfl, hb_2⟩; refine ⟨_, rfl, ?_⟩
 rw [show decide (xs = xs) = true from decide_eq_true rfl]
 refine xr0 1 [(9, .bool false)] [6, 7, 8] ?_
 refine nl (cf (sk (sq (sq (rg (xr0 2 [(11, .int .i64 (xs.length : Int))] [9] ?_))))))
 by_cases c_3 : (xs.length : Int) = 0
 ·refine xr 1 [(12, .eq (.bool true))] [(12, .bool true)] [11] [Value.bool ((xs.length : Int) == 0) = Value.bool true] ⟨congrArg Value.bool (beq_iff_eq.2 (c_3)), trivial⟩ ?_
  refine nl (ct (sq (rg (xe0 1 [(4, .bool true)] ?_))))
  refine nl (X_ret (rk [.bool true] (hR_ _ _ ?_)))
  exact ⟨rfl, hb_2⟩
 refine xr 1 [(12, .eq (.bool false))] [(12, .bool false)] [11] [Value.bool ((xs.length : Int) == 0) = Value.bool false] ⟨congrArg Value.bool (beq_eq_false_iff_ne.2 (c_3)), trivial⟩ ?_
 refine nl (cf (sk (sq (rg (xr 4 [(16, .eq (.int .i64 ((xs.length : Int) + 2)))] [(13, .slice A xs.length c), (16, .int .i64 ((xs.length : Int) + 2))] [0, 12] [Value.int .i64 (IntKind.i64.wrap ((xs.length : Int) + 2)) = Value.int .i64 ((xs.length : Int) + 2)] ⟨wr_i64 (by omega) (by omega), trivial⟩ ?_)))))
 have hS_4 : xs.length + 2 ≤ c ∧ kAttr.C w A (xs.length + 2) (xs ++ spL) := hS.resolve_left (fun h_ => by have h2_ := congrArg List.length h_; simp only [List.length_nil] at h2_; omega)
 refine xe 2 [(17, .as (.slice A (xs.length + 2) c))] [(1, .slice B xs.length d), (5, .slice A (xs.length + 2) c)] [RunsAs Tryd.prog [(13, .slice A xs.length c), (16, .int .i64 ((xs.length : Int) + 2))] (Go.Op.slice 45 (Go.Operand.tmp 13) none (some (Go.Operand.tmp 16)) none) 45 (.slice A (xs.length + 2) c) w_1] ⟨runs_slice_h (h := (xs.length : Int) + 2) rfl rfl rfl rfl (by omega) (by have h_ := hS_4.1; omega), trivial⟩ ?_
 refine nl (sq (rg (xr0 3 [(18, .slice A (xs.length + 2) c), (20, .int .i64 (xs.length : Int))] [] ?_)))
 obtain ⟨ad_5, ha_6, hc_7⟩ := Kd.atAttr (Kd.C_below hS_4.2 hb_2) (i := (xs.length : Int)) (by omega) (by omega)
 replace hc_7 : CellsAt w_1 (ad_5.add ((xs.length : Int).toNat * 4)) [.string (((xs ++ spL).getD xs.length at0).1), .int .i64 (((xs ++ spL).getD xs.length at0).2.1), .int .i64 (((xs ++ spL).getD xs.length at0).2.2.1), .string (((xs ++ spL).getD xs.length at0).2.2.2)] := hc_7
 refine xe 9 [(21, .idx ad_5), (23, .load (.string (((xs ++ spL).getD xs.length at0).1))), (24, .eq (.bool true)), (29, .eq (.int .i64 ((xs.length : Int) + 1)))] [(25, .bool true), (26, .slice A (xs.length + 2) c), (29, .int .i64 ((xs.length : Int) + 1))] [A = some ad_5, (0 : Int) ≤ (xs.length : Int), (xs.length : Int) < ((xs.length + 2) : Int), LoadsAs Tryd.prog 9 (ad_5.add ((xs.length : Int).toNat * 4)) (.string (((xs ++ spL).getD xs.length at0).1)) w_1, Value.bool ((((xs ++ spL).getD xs.length at0).1).toList == (⟨#[115, 112, 97, 114, 101]⟩ : ByteArray).toList) = Value.bool true, Value.int .i64 (IntKind.i64.wrap ((xs.length : Int) + 1)) = Value.int .i64 ((xs.length : Int) + 1)] ⟨ha_6, (by omega), (by omega), loads1 rfl (elem_cell hc_7 0 _ rfl), congrArg Value.bool (strEqT ((hand_key0 xs))), wr_i64 (by omega) (by omega), trivial⟩ ?_
 obtain ⟨ad_8, ha_9, hc_10⟩ := Kd.atAttr (Kd.C_below hS_4.2 hb_2) (i := (xs.length : Int) + 1) (by omega) (by omega)
 replace hc_10 : CellsAt w_1 (ad_8.add (((xs.length : Int) + 1).toNat * 4)) [.string (((xs ++ spL).getD ((xs.length : Int) + 1).toNat at0).1), .int .i64 (((xs ++ spL).getD ((xs.length : Int) + 1).toNat at0).2.1), .int .i64 (((xs ++ spL).getD ((xs.length : Int) + 1).toNat at0).2.2.1), .string (((xs ++ spL).getD ((xs.length : Int) + 1).toNat at0).2.2.2)] := hc_10
 refine xe 6 [(30, .idx ad_8), (32, .load (.string (((xs ++ spL).getD ((xs.length : Int) + 1).toNat at0).1))), (33, .eq (.bool true))] [(4, .bool true)] [A = some ad_8, (0 : Int) ≤ (xs.length : Int) + 1, (xs.length : Int) + 1 < ((xs.length + 2) : Int), LoadsAs Tryd.prog 9 (ad_8.add (((xs.length : Int) + 1).toNat * 4)) (.string (((xs ++ spL).getD ((xs.length : Int) + 1).toNat at0).1)) w_1, Value.bool ((((xs ++ spL).getD ((xs.length : Int) + 1).toNat at0).1).toList == (⟨#[114, 111, 111, 109]⟩ : ByteArray).toList) = Value.bool true] ⟨ha_9, (by omega), (by omega), loads1 rfl (elem_cell hc_10 0 _ rfl), congrArg Value.bool (strEqT ((hand_key1 xs))), trivial⟩ ?_
 refine nl (X_ret (rk [.bool true] (hR_ _ _ ?_)))
 exact ⟨rfl, hb_2⟩
set_option maxHeartbeats 2000000 in
theorem hKeptOps_any (A : Option Addr) (c : Nat) (B : Option Addr) (d : Nat) (xs : List OpA) (w : World) (hS : kOpH.C w A (xs.length + 2) (xs ++ spO)) (hc : xs.length + 2 ≤ c) (hy : kOp.C w B xs.length xs) (hn : xs.length ≤ 1100000) (hz : ∀ i, i < xs.length → opSz (xs.getD i op0)) : Calls Tryd.prog 60 #[.slice A xs.length c, .slice B xs.length d] w fun e w' => e = .returned (.bool true) ∧ Below w.heap.size w w' := by
 have hpl : xs.length ≤ 9223372036854775807 := hy.2.1
 refine RX.enter Tryd.func60 rfl 53 rfl [(0, .slice A xs.length c), (1, .slice B xs.length d)] rfl (by kernel_rfl) (fun R_ hR_ => ?_)
 refine sq (rg (xe0 1 [(0, .slice A xs.length c), (1, .slice B xs.length d)] ?_))
 refine nl (sq (sq (rg (xr0 2 [(9, .slice A xs.length c), (10, .slice B xs.length d)] [] ?_))))
 refine xc 65 ent65 [.slice A xs.length c, .slice B xs.length d] (r6same_any _ _ _ _ xs xs _ (kOpH_C (kOpH_init hS)) hy) ?_
 rintro e w_1 ⟨rfl, hb_2⟩; refine ⟨_, rfl, ?_⟩
 rw [(opsEqP_iff xs xs).2 rfl]
 refine xr0 1 [(12, .bool false)] [9, 10, 11] ?_
 refine nl (cf (sk (sq (sq (rg (xr0 3 [(13, .slice A xs.length c), (14, .int .i64 (xs.length : Int)), (15, .int .i64 0)] [12] ?_))))))
 refine nl (bk (X_loop (ι := Nat) (fun i => [(0, .slice A xs.length c), (1, .slice B xs.length d), (13, .slice A xs.length c), (14, .int .i64 (xs.length : Int)), (15, .int .i64 (i : Int))]) (fun i wl => i ≤ xs.length ∧ Below w.heap.size w wl) (fun i => xs.length - i) 0 ⟨by omega, hb_2⟩ (by kernel_rfl) ?_))
 rintro i wl ⟨hi, HB⟩
 have hatl := fun (h_ : i < xs.length) => (hz i h_).2.2.1
 refine sq (X_region ?_)
 by_cases c_3 : (i : Int) < (xs.length : Int)
 ·refine xr 1 [(16, .eq (.bool true))] [(16, .bool true)] [] [Value.bool (decide ((i : Int) < (xs.length : Int))) = Value.bool true] ⟨congrArg Value.bool (decide_eq_true (c_3)), trivial⟩ ?_
  refine nl (sq (ct (sk (sq (bk (sq (rg (xr0 1 [(17, nv i)] [16] ?_))))))))
  obtain ⟨ad_4, B_7, c_8, ha_5, hc_6, hl_9, hC_10, hS_11⟩ := Kd.atOpH (Kd.C_below (kOpH_init hS) HB) (i := (i : Int)) (by omega) (by omega)
  replace hc_6 : CellsAt wl (ad_4.add ((i : Int).toNat * 7)) [.int .i64 ((xs.getD i op0).kind), .string ((xs.getD i op0).text), .int .i64 ((xs.getD i op0).vk), .int .i64 ((xs.getD i op0).vn), .string ((xs.getD i op0).vt), .int .i64 ((xs.getD i op0).count), .slice B_7 ((xs.getD i op0).attrs.length) c_8] := hc_6
  replace hl_9 : (xs.getD i op0).attrs.length ≤ c_8 := hl_9
  replace hC_10 : kAttr.C wl B_7 ((xs.getD i op0).attrs.length) (xs.getD i op0).attrs := hC_10
  replace hS_11 : (xs.getD i op0).attrs = [] ∨ (xs.getD i op0).attrs.length + 2 ≤ c_8 ∧ kAttr.C wl B_7 ((xs.getD i op0).attrs.length + 2) ((xs.getD i op0).attrs ++ spL) := hS_11
  refine xw 3 [(18, .idx ad_4), (19, .load (.agg #[.int .i64 ((xs.getD i op0).kind), .string ((xs.getD i op0).text), .int .i64 ((xs.getD i op0).vk), .int .i64 ((xs.getD i op0).vn), .string ((xs.getD i op0).vt), .int .i64 ((xs.getD i op0).count), .slice B_7 ((xs.getD i op0).attrs.length) c_8]))] [(6, pw wl.heap.size 0), (19, .agg #[.int .i64 ((xs.getD i op0).kind), .string ((xs.getD i op0).text), .int .i64 ((xs.getD i op0).vk), .int .i64 ((xs.getD i op0).vn), .string ((xs.getD i op0).vt), .int .i64 ((xs.getD i op0).count), .slice B_7 ((xs.getD i op0).attrs.length) c_8])] [] (wl.alloc (.cells #[.int .i64 0, .string ByteArray.empty, .int .i64 0, .int .i64 0, .string ByteArray.empty, .int .i64 0, .slice none 0 0] 47)) [A = some ad_4, (0 : Int) ≤ (i : Int), (i : Int) < (xs.length : Int), LoadsAs Tryd.prog 47 (ad_4.add ((i : Int).toNat * 7)) (.agg #[.int .i64 ((xs.getD i op0).kind), .string ((xs.getD i op0).text), .int .i64 ((xs.getD i op0).vk), .int .i64 ((xs.getD i op0).vn), .string ((xs.getD i op0).vt), .int .i64 ((xs.getD i op0).count), .slice B_7 ((xs.getD i op0).attrs.length) c_8]) wl] ⟨ha_5, (by omega), (by omega), loadsE rfl rfl hc_6 0 ⟨by kernel_rfl, by kernel_rfl⟩, trivial⟩ ?_
  obtain ⟨w_12, hw_16, hb_13, hk_14, hz_15⟩ := new_world wl #[.int .i64 0, .string ByteArray.empty, .int .i64 0, .int .i64 0, .string ByteArray.empty, .int .i64 0, .slice none 0 0] 47
  rw [hw_16]
  refine xr0 1 [(5, nv i)] [17] ?_
  refine xst (.agg #[.int .i64 ((xs.getD i op0).kind), .string ((xs.getD i op0).text), .int .i64 ((xs.getD i op0).vk), .int .i64 ((xs.getD i op0).vn), .string ((xs.getD i op0).vt), .int .i64 ((xs.getD i op0).count), .slice B_7 ((xs.getD i op0).attrs.length) c_8]) hk_14 0 #[.int .i64 ((xs.getD i op0).kind), .string ((xs.getD i op0).text), .int .i64 ((xs.getD i op0).vk), .int .i64 ((xs.getD i op0).vn), .string ((xs.getD i op0).vt), .int .i64 ((xs.getD i op0).count), .slice B_7 ((xs.getD i op0).attrs.length) c_8] (fun w_17 hg_18 hk_19 hz_20 => ?_)
  refine nl (sq (X_any [7] 9 #[false, false, false, false, false, false, false, false, false] (by kernel_rfl) (by kernel_rfl) (by kernel_rfl) (fun wd_21 hb_22 hh_23 => ?_)))
  refine XA_run (fuel' := 5) [0, 1, 2, 3] [(21, .load (.slice B_7 ((xs.getD i op0).attrs.length) c_8))] [.pointer (some ⟨wl.heap.size, 6, none⟩), .slice B_7 ((xs.getD i op0).attrs.length) c_8, .slice B xs.length d, .int .i64 (i : Int)] #[true, true, true, true, false, false, false, false, false] [(0, .slice A xs.length c), (1, .slice B xs.length d), (13, .slice A xs.length c), (14, .int .i64 (xs.length : Int)), (15, .int .i64 (i : Int)), (21, .slice B_7 ((xs.getD i op0).attrs.length) c_8), (22, .slice B xs.length d), (23, .int .i64 (i : Int))] [LoadsAs Tryd.prog 45 (⟨wl.heap.size, 6, none⟩) (.slice B_7 ((xs.getD i op0).attrs.length) c_8) wd_21] (fun _ _ _ _ h => h) (by kernel_rfl) rfl ⟨loads1 rfl (Blk.cell (Blk.below hk_19 hb_22) 6 _ rfl), trivial⟩ ?_
  have hB_24 : Below w.heap.size w wd_21 := (bt (bg (bt HB hb_13) hg_18 (HB).size) hb_22)
  obtain ⟨ad_25, B_28, c_29, ha_26, hc_27, hl_30, hC_31⟩ := Kd.atOp (Kd.C_below hy hB_24) (i := (i : Int)) (by omega) (by omega)
  replace hc_27 : CellsAt wd_21 (ad_25.add ((i : Int).toNat * 7)) [.int .i64 ((xs.getD i op0).kind), .string ((xs.getD i op0).text), .int .i64 ((xs.getD i op0).vk), .int .i64 ((xs.getD i op0).vn), .string ((xs.getD i op0).vt), .int .i64 ((xs.getD i op0).count), .slice B_28 ((xs.getD i op0).attrs.length) c_29] := hc_27
  replace hl_30 : (xs.getD i op0).attrs.length ≤ c_29 := hl_30
  replace hC_31 : kAttr.C wd_21 B_28 ((xs.getD i op0).attrs.length) (xs.getD i op0).attrs := hC_31
  refine XA_run (fuel' := 2) [4, 5, 6] [(24, .idx ad_25), (26, .load (.slice B_28 ((xs.getD i op0).attrs.length) c_29))] [.pointer (some (ad_25.add ((i : Int).toNat * 7))), .pointer (some ((ad_25.add ((i : Int).toNat * 7)).add 6)), .slice B_28 ((xs.getD i op0).attrs.length) c_29] #[true, true, true, true, true, true, true, false, false] [(0, .slice A xs.length c), (1, .slice B xs.length d), (13, .slice A xs.length c), (14, .int .i64 (xs.length : Int)), (15, .int .i64 (i : Int)), (21, .slice B_7 ((xs.getD i op0).attrs.length) c_8), (26, .slice B_28 ((xs.getD i op0).attrs.length) c_29)] [B = some ad_25, (0 : Int) ≤ (i : Int), (i : Int) < (xs.length : Int), LoadsAs Tryd.prog 45 ((ad_25.add ((i : Int).toNat * 7)).add 6) (.slice B_28 ((xs.getD i op0).attrs.length) c_29) wd_21] (fun _ _ _ _ h => h) (by kernel_rfl) rfl ⟨ha_26, (by omega), (by omega), loads1 rfl (elem_cell hc_27 6 _ rfl), trivial⟩ ?_
  refine XA_act (fuel' := 1) 7 #[true, true, true, true, true, true, true, true, false] _ rfl (by kernel_rfl) rfl (by kernel_rfl) rfl ?_
  have hB_32 : Below wl.heap.size wl wd_21 := (bt (bg hb_13 hg_18 (Nat.le_refl _)) hb_22)
  refine xc 41 ent41 [.slice B_7 ((xs.getD i op0).attrs.length) c_8, .slice B_28 ((xs.getD i op0).attrs.length) c_29] (hKept_any _ _ _ _ (xs.getD i op0).attrs _ (Kd.C_below hC_10 hB_32) (hS_11.imp_right fun h_ => ⟨h_.1, Kd.C_below h_.2 hB_32⟩) hC_31 (by have h_ := hatl (by omega); omega)) ?_
  rintro e w_33 ⟨rfl, hb_34⟩; refine ⟨_, rfl, ?_⟩
  refine nl (XA_pure (fuel' := 0) [8] [] [.bool true] #[true, true, true, true, true, true, true, true, true] [(0, .slice A xs.length c), (1, .slice B xs.length d), (7, .bool true), (13, .slice A xs.length c), (14, .int .i64 (xs.length : Int)), (15, .int .i64 (i : Int))] (fun w_ => []) (fun _ _ _ _ h => h) (fun w_ => by kernel_rfl) rfl (fun w_ => trivial) ?_)
  refine XA_done (by kernel_rfl) ?_
  refine sq (rg (xr0 2 [(29, .bool false)] [7] ?_))
  refine nl (cf (sk (rg (xr 2 [(30, .eq (.int .i64 ((i : Int) + 1)))] [(15, .int .i64 ((i : Int) + 1))] [29] [Value.int .i64 (IntKind.i64.wrap ((i : Int) + 1)) = Value.int .i64 ((i : Int) + 1)] ⟨wr_i64 (by omega) (by omega), trivial⟩ ?_))))
  refine nl ?_
  refine ⟨(i + 1), by kernel_rfl, ?_, ?_⟩
  ·exact ⟨by omega, (bt hB_24 hb_34)⟩
  (try dsimp only); omega
 refine xr 1 [(16, .eq (.bool false))] [(16, .bool false)] [] [Value.bool (decide ((i : Int) < (xs.length : Int))) = Value.bool false] ⟨congrArg Value.bool (decide_eq_false (c_3)), trivial⟩ ?_
 refine nl (sq (cf (X_exit (sq (rg (xr 4 [(34, .eq (.int .i64 ((xs.length : Int) + 2)))] [(31, .slice A xs.length c), (34, .int .i64 ((xs.length : Int) + 2))] [0, 13, 14, 15, 16] [Value.int .i64 (IntKind.i64.wrap ((xs.length : Int) + 2)) = Value.int .i64 ((xs.length : Int) + 2)] ⟨wr_i64 (by omega) (by omega), trivial⟩ ?_))))))
 refine xr 2 [(35, .as (.slice A (xs.length + 2) c))] [(8, .slice A (xs.length + 2) c)] [31, 34] [RunsAs Tryd.prog [(31, .slice A xs.length c), (34, .int .i64 ((xs.length : Int) + 2))] (Go.Op.slice 37 (Go.Operand.tmp 31) none (some (Go.Operand.tmp 34)) none) 37 (.slice A (xs.length + 2) c) wl] ⟨runs_slice_h (h := (xs.length : Int) + 2) rfl rfl rfl rfl (by omega) (by omega), trivial⟩ ?_
 refine nl (sq (rg (xr0 3 [(36, .slice A (xs.length + 2) c), (38, .int .i64 (xs.length : Int))] [] ?_)))
 obtain ⟨ad_35, B_38, c_39, ha_36, hc_37, hl_40, hC_41, hS_42⟩ := Kd.atOpH (Kd.C_below hS HB) (i := (xs.length : Int)) (by omega) (by omega)
 replace hc_37 : CellsAt wl (ad_35.add ((xs.length : Int).toNat * 7)) [.int .i64 (((xs ++ spO).getD xs.length op0).kind), .string (((xs ++ spO).getD xs.length op0).text), .int .i64 (((xs ++ spO).getD xs.length op0).vk), .int .i64 (((xs ++ spO).getD xs.length op0).vn), .string (((xs ++ spO).getD xs.length op0).vt), .int .i64 (((xs ++ spO).getD xs.length op0).count), .slice B_38 (((xs ++ spO).getD xs.length op0).attrs.length) c_39] := hc_37
 replace hl_40 : ((xs ++ spO).getD xs.length op0).attrs.length ≤ c_39 := hl_40
 replace hC_41 : kAttr.C wl B_38 (((xs ++ spO).getD xs.length op0).attrs.length) ((xs ++ spO).getD xs.length op0).attrs := hC_41
 replace hS_42 : ((xs ++ spO).getD xs.length op0).attrs = [] ∨ ((xs ++ spO).getD xs.length op0).attrs.length + 2 ≤ c_39 ∧ kAttr.C wl B_38 (((xs ++ spO).getD xs.length op0).attrs.length + 2) (((xs ++ spO).getD xs.length op0).attrs ++ spL) := hS_42
 refine xe 9 [(39, .idx ad_35), (41, .load (.int .i64 (((xs ++ spO).getD xs.length op0).kind))), (42, .eq (.bool true)), (47, .eq (.int .i64 ((xs.length : Int) + 1)))] [(43, .bool true), (44, .slice A (xs.length + 2) c), (47, .int .i64 ((xs.length : Int) + 1))] [A = some ad_35, (0 : Int) ≤ (xs.length : Int), (xs.length : Int) < ((xs.length + 2) : Int), LoadsAs Tryd.prog 3 (ad_35.add ((xs.length : Int).toNat * 7)) (.int .i64 (((xs ++ spO).getD xs.length op0).kind)) wl, Value.bool (((xs ++ spO).getD xs.length op0).kind == 77) = Value.bool true, Value.int .i64 (IntKind.i64.wrap ((xs.length : Int) + 1)) = Value.int .i64 ((xs.length : Int) + 1)] ⟨ha_36, (by omega), (by omega), loads1 rfl (elem_cell hc_37 0 _ rfl), congrArg Value.bool (beq_iff_eq.2 ((hand_kind0 xs))), wr_i64 (by omega) (by omega), trivial⟩ ?_
 obtain ⟨ad_43, B_46, c_47, ha_44, hc_45, hl_48, hC_49, hS_50⟩ := Kd.atOpH (Kd.C_below hS HB) (i := (xs.length : Int) + 1) (by omega) (by omega)
 replace hc_45 : CellsAt wl (ad_43.add (((xs.length : Int) + 1).toNat * 7)) [.int .i64 (((xs ++ spO).getD ((xs.length : Int) + 1).toNat op0).kind), .string (((xs ++ spO).getD ((xs.length : Int) + 1).toNat op0).text), .int .i64 (((xs ++ spO).getD ((xs.length : Int) + 1).toNat op0).vk), .int .i64 (((xs ++ spO).getD ((xs.length : Int) + 1).toNat op0).vn), .string (((xs ++ spO).getD ((xs.length : Int) + 1).toNat op0).vt), .int .i64 (((xs ++ spO).getD ((xs.length : Int) + 1).toNat op0).count), .slice B_46 (((xs ++ spO).getD ((xs.length : Int) + 1).toNat op0).attrs.length) c_47] := hc_45
 replace hl_48 : ((xs ++ spO).getD ((xs.length : Int) + 1).toNat op0).attrs.length ≤ c_47 := hl_48
 replace hC_49 : kAttr.C wl B_46 (((xs ++ spO).getD ((xs.length : Int) + 1).toNat op0).attrs.length) ((xs ++ spO).getD ((xs.length : Int) + 1).toNat op0).attrs := hC_49
 replace hS_50 : ((xs ++ spO).getD ((xs.length : Int) + 1).toNat op0).attrs = [] ∨ ((xs ++ spO).getD ((xs.length : Int) + 1).toNat op0).attrs.length + 2 ≤ c_47 ∧ kAttr.C wl B_46 (((xs ++ spO).getD ((xs.length : Int) + 1).toNat op0).attrs.length + 2) (((xs ++ spO).getD ((xs.length : Int) + 1).toNat op0).attrs ++ spL) := hS_50
 refine xe 6 [(48, .idx ad_43), (50, .load (.int .i64 (((xs ++ spO).getD ((xs.length : Int) + 1).toNat op0).kind))), (51, .eq (.bool true))] [(4, .bool true)] [A = some ad_43, (0 : Int) ≤ (xs.length : Int) + 1, (xs.length : Int) + 1 < ((xs.length + 2) : Int), LoadsAs Tryd.prog 3 (ad_43.add (((xs.length : Int) + 1).toNat * 7)) (.int .i64 (((xs ++ spO).getD ((xs.length : Int) + 1).toNat op0).kind)) wl, Value.bool (((xs ++ spO).getD ((xs.length : Int) + 1).toNat op0).kind == 78) = Value.bool true] ⟨ha_44, (by omega), (by omega), loads1 rfl (elem_cell hc_45 0 _ rfl), congrArg Value.bool (beq_iff_eq.2 ((hand_kind1 xs))), trivial⟩ ?_
 refine nl (X_ret (rk [.bool true] (hR_ _ _ ?_)))
 exact ⟨rfl, HB⟩
end Go.Proofs.YtkehomiogkoomaaDoor
