import Derived.Test.YtkehomiogkoomaaDoorT42
import Derived.Test.YtkehomiogkoomaaDoorR1
import Derived.Test.YtkehomiogkoomaaDoorBox
/- vellumref03.put and Of. Conditions: sizes, the tables of utf8. -/
set_option linter.unusedVariables false
set_option linter.unusedSimpArgs false
set_option maxRecDepth 100000
namespace Go.Proofs.YtkehomiogkoomaaDoor
open Go Go.RowKit Go.Proofs.YtkehomiogkoomaaDoorW.PrintWords RX
theorem ent103 : Ent Tryd.prog 103 := ent_of Tryd.func103 (by kernel_rfl) rfl
theorem ent35 : Ent Tryd.prog 35 := ent_of Tryd.func35 (by kernel_rfl) rfl
theorem rput_any (A : Option Addr) (c : Nat) (xs : List At) (a : At) (w : World) (hx : kAttr.C w A xs.length xs) (hR : Ris xs) (hl : xs.length ≤ 1000000000) :
  Calls Tryd.prog 103 #[.slice A xs.length c, .agg #[.string a.1, .int .i64 a.2.1, .int .i64 a.2.2.1, .string a.2.2.2]] w fun e w' => ∃ A' c' zs, zs = putP xs a ∧ e = .returned (.slice A' zs.length c') ∧ zs.length ≤ c' ∧ kAttr.R 71 w' w.heap.size (OkFrom w.heap.size) (.slice A' zs.length c') zs ∧ Below w.heap.size w w' := by
 refine RX.enter Tryd.func103 rfl 46 rfl [(0, .slice A xs.length c), (1, .agg #[.string a.1, .int .i64 a.2.1, .int .i64 a.2.2.1, .string a.2.2.2])] rfl (by kernel_rfl) (fun R_ hR_ => ?_)
 refine sq (rg (xwe 1 [] [(0, .slice A xs.length c), (3, pw w.heap.size 0)] (w.alloc (.cells #[.string a.1, .int .i64 a.2.1, .int .i64 a.2.2.1, .string a.2.2.2] 71)) [] trivial ?_))
 obtain ⟨w_1, hw_5, hb_2, hk_3, hz_4⟩ := new_world w #[.string a.1, .int .i64 a.2.1, .int .i64 a.2.2.1, .string a.2.2.2] 71
 rw [hw_5]
 refine xr0 1 [] [] ?_
 refine nl (sq (rg (xw 1 [] [(9, .slice (some ⟨w_1.heap.size, 0, none⟩) 0 0)] [] (w_1.alloc (.cells #[] 71)) [] trivial ?_)))
 obtain ⟨w_6, hw_10, hb_7, hk_8, hz_9⟩ := new_world w_1 #[] 71
 rw [hw_10]
 refine xr0 1 [(5, .slice (some ⟨w_1.heap.size, 0, none⟩) 0 0)] [9] ?_
 refine nl (sq (rg (xr0 1 [(6, .bool false)] [] ?_)))
 refine nl (sq (sq (rg (xr0 3 [(10, .slice A xs.length c), (11, .int .i64 (xs.length : Int)), (12, .int .i64 0)] [0] ?_))))
 refine nl (X_block ?_)
 have hr_11 := Kd.R_litB kAttr (W := w_1) (e := 71) (cs := #[]) [] hk_8 (repsAttr []) (Nat.le_of_ble_eq_true (by kernel_rfl))
 refine X_loop (ι := Nat × Option Addr × Nat × Nat × List At × Bool) (fun ⟨i, A4, c4, n, out, dn⟩ => [(3, .pointer (some ⟨w.heap.size, 0, none⟩)), (5, .slice A4 n c4), (6, .bool dn), (10, .slice A xs.length c), (11, .int .i64 (xs.length : Int)), (12, .int .i64 (i : Int))]) (fun ⟨i, A4, c4, n, out, dn⟩ wl => i ≤ xs.length ∧ n = out.length ∧ PutI xs a i dn out ∧ kAttr.R 71 wl w_1.heap.size (OkFrom w_1.heap.size) (.slice A4 n c4) out ∧ Blk wl w.heap.size 71 #[.string a.1, .int .i64 a.2.1, .int .i64 a.2.2.1, .string a.2.2.2] ∧ (∀ k, A4.map (·.block) = some k → k ≠ w.heap.size) ∧ w_1.heap.size ≤ wl.heap.size ∧ Below w.heap.size w wl) (fun ⟨i, A4, c4, n, out, dn⟩ => xs.length - i) (0, (some ⟨w_1.heap.size, 0, none⟩), 0, 0, [], false) ⟨by omega, rfl, puti_zero _ _, hr_11, (Blk.below hk_3 hb_7), (fun k_ e_ => Nat.ne_of_gt (Nat.lt_of_lt_of_le (Nat.lt_of_lt_of_le (Blk.lt hk_3) (Nat.le_refl _)) (RX.Kd.R_ge hr_11 k_ e_))), (hb_7).size, (bt hb_2 hb_7)⟩ (by kernel_rfl) ?_
 rintro ⟨i, A4, c4, n, out, dn⟩ wl ⟨hi, rfl, hP, hr4, hk4, hne4, hle4, HB⟩
 have hol := puti_len hP
 refine sq (X_region ?_)
 by_cases c_12 : (i : Int) < (xs.length : Int)
 ·refine xr 1 [(13, .eq (.bool true))] [(5, .slice A4 out.length c4), (13, .bool true)] [] [Value.bool (decide ((i : Int) < (xs.length : Int))) = Value.bool true] ⟨congrArg Value.bool (decide_eq_true (c_12)), trivial⟩ ?_
  refine nl (sq (ct (sk (sq (bk (sq (X_region ?_)))))))
  obtain ⟨ad_13, ha_14, hc_15⟩ := Kd.atAttr (Kd.C_below hx HB) (i := (i : Int)) (by omega) (by omega)
  replace hc_15 : CellsAt wl (ad_13.add ((i : Int).toNat * 4)) [.string ((xs.getD i at0).1), .int .i64 ((xs.getD i at0).2.1), .int .i64 ((xs.getD i at0).2.2.1), .string ((xs.getD i at0).2.2.2)] := hc_15
  refine xw 3 [(14, .idx ad_13), (15, .load (.agg #[.string ((xs.getD i at0).1), .int .i64 ((xs.getD i at0).2.1), .int .i64 ((xs.getD i at0).2.2.1), .string ((xs.getD i at0).2.2.2)]))] [(8, pw wl.heap.size 0), (15, .agg #[.string ((xs.getD i at0).1), .int .i64 ((xs.getD i at0).2.1), .int .i64 ((xs.getD i at0).2.2.1), .string ((xs.getD i at0).2.2.2)])] [13] (wl.alloc (.cells #[.string ByteArray.empty, .int .i64 0, .int .i64 0, .string ByteArray.empty] 71)) [A = some ad_13, (0 : Int) ≤ (i : Int), (i : Int) < (xs.length : Int), LoadsAs Tryd.prog 71 (ad_13.add ((i : Int).toNat * 4)) (.agg #[.string ((xs.getD i at0).1), .int .i64 ((xs.getD i at0).2.1), .int .i64 ((xs.getD i at0).2.2.1), .string ((xs.getD i at0).2.2.2)]) wl] ⟨ha_14, (by omega), (by omega), loadsE rfl rfl hc_15 0 ⟨by kernel_rfl, by kernel_rfl⟩, trivial⟩ ?_
  obtain ⟨w_16, hw_20, hb_17, hk_18, hz_19⟩ := new_world wl #[.string ByteArray.empty, .int .i64 0, .int .i64 0, .string ByteArray.empty] 71
  rw [hw_20]
  refine xst (.agg #[.string ((xs.getD i at0).1), .int .i64 ((xs.getD i at0).2.1), .int .i64 ((xs.getD i at0).2.2.1), .string ((xs.getD i at0).2.2.2)]) hk_18 0 #[.string ((xs.getD i at0).1), .int .i64 ((xs.getD i at0).2.1), .int .i64 ((xs.getD i at0).2.2.1), .string ((xs.getD i at0).2.2.2)] (fun w_21 hg_22 hk_23 hz_24 => ?_)
  refine nl (sq (sq (rg (xr0 1 [(16, .bool dn)] [15] ?_))))
  by_cases c_25 : dn = true
  ·rw [show (dn : Bool) = true from by simpa using c_25]
   refine xr0 8 [(6, .bool true), (24, .bool false)] [16] ?_
   refine nl (cf (sk (sq (rg (xr 4 [(30, .load (.string ((xs.getD i at0).1))), (32, .load (.string a.1))] [(30, .string ((xs.getD i at0).1)), (32, .string a.1)] [24] [LoadsAs Tryd.prog 9 (⟨wl.heap.size, 0, none⟩) (.string ((xs.getD i at0).1)) w_21, LoadsAs Tryd.prog 9 (⟨w.heap.size, 0, none⟩) (.string a.1) w_21] ⟨loads1 rfl (Blk.cell hk_23 0 _ rfl), loads1 rfl (Blk.cell (Blk.below hk4 (bg hb_17 hg_22 (Nat.le_refl _))) 0 _ rfl), trivial⟩ ?_)))))
   by_cases c_26 : ((xs.getD i at0).1) = a.1
   ·exact absurd ‹_› (puti_done hR (by have h_ := hP; rw [c_25] at h_; exact h_) (by omega)).2
   refine xe 1 [(33, .eq (.bool true))] [(3, pw w.heap.size 0), (5, .slice A4 out.length c4), (6, .bool true), (8, pw wl.heap.size 0), (10, .slice A xs.length c), (11, .int .i64 (xs.length : Int)), (12, nv i), (33, .bool true)] [Value.bool (!((xs.getD i at0).1).toList == a.1.toList) = Value.bool true] ⟨congrArg Value.bool (strNeT (c_26)), trivial⟩ ?_
   refine nl (ct (rg (xw 3 [(35, .load (.agg #[.string ((xs.getD i at0).1), .int .i64 ((xs.getD i at0).2.1), .int .i64 ((xs.getD i at0).2.2.1), .string ((xs.getD i at0).2.2.2)]))] [(34, .slice A4 out.length c4), (36, .slice (some ⟨w_21.heap.size, 0, none⟩) 1 1)] [5, 8, 33] (w_21.alloc (.cells #[.string ((xs.getD i at0).1), .int .i64 ((xs.getD i at0).2.1), .int .i64 ((xs.getD i at0).2.2.1), .string ((xs.getD i at0).2.2.2)] 71)) [LoadsAs Tryd.prog 71 (⟨wl.heap.size, 0, none⟩) (.agg #[.string ((xs.getD i at0).1), .int .i64 ((xs.getD i at0).2.1), .int .i64 ((xs.getD i at0).2.2.1), .string ((xs.getD i at0).2.2.2)]) w_21] ⟨loadsB rfl rfl hk_23 0 ⟨by kernel_rfl, by kernel_rfl⟩, trivial⟩ ?_)))
   obtain ⟨w_27, hw_31, hb_28, hk_29, hz_30⟩ := new_world w_21 #[.string ((xs.getD i at0).1), .int .i64 ((xs.getD i at0).2.1), .int .i64 ((xs.getD i at0).2.2.1), .string ((xs.getD i at0).2.2.2)] 71
   rw [hw_31]
   rw [← hw_31]
   refine XL_append kAttr rfl rfl rfl w_1.heap.size 71 (.agg #[.string ByteArray.empty, .int .i64 0, .int .i64 0, .string ByteArray.empty]) 48 Tryd.underlying45 info71 rfl (by decide) (by omega) out ((xs.getD i at0).1, (xs.getD i at0).2.1, (xs.getD i at0).2.2.1, (xs.getD i at0).2.2.2) [.string ((xs.getD i at0).1), .int .i64 ((xs.getD i at0).2.1), .int .i64 ((xs.getD i at0).2.2.1), .string ((xs.getD i at0).2.2.2)] (fun _ => False) (by kernel_rfl) (kAttr_M _ _ _ _) (fun _ h => h.elim) (Kd.R_below hr4 (bg hb_17 hg_22 (Nat.le_refl _))) (Nat.le_trans hle4 (Nat.le_trans hb_17.size hg_22.size)) (by first | omega | (simp; omega)) ?_
   intro A_32 c_33 w_34 hr_35 hc_36 hg_37 hl_38 ha_39
   have hk_40 := Blk.ne (Blk.below hk4 (bg hb_17 hg_22 (Nat.le_refl _))) hg_37 hne4
   have hne_41 := rne_step hne4 ha_39 (Blk.lt (Blk.below hk4 (bg hb_17 hg_22 (Nat.le_refl _))))
   have he_42 : (out ++ [((xs.getD i at0).1, (xs.getD i at0).2.1, (xs.getD i at0).2.2.1, (xs.getD i at0).2.2.2)]) = (out ++ [(xs.getD i at0)]) := rfl
   rw [he_42] at hr_35 ⊢
   refine xr0 1 [(5, .slice A_32 ((out ++ [(xs.getD i at0)]).length) c_33)] [34, 36, 37] ?_
   refine nl (rg (xr 2 [(38, .eq (.int .i64 ((i : Int) + 1)))] [(12, .int .i64 ((i : Int) + 1))] [] [Value.int .i64 (IntKind.i64.wrap ((i : Int) + 1)) = Value.int .i64 ((i : Int) + 1)] ⟨wr_i64 (by omega) (by omega), trivial⟩ ?_))
   refine nl ?_
   have hB_43 : Below w.heap.size w w_34 := (bgo (bg (bt HB hb_17) hg_22 (HB).size) hg_37 hl_38 (hb_2).size)
   refine ⟨(i + 1, A_32, c_33, (out ++ [(xs.getD i at0)]).length, (out ++ [(xs.getD i at0)]), true), by kernel_rfl, ?_, ?_⟩
   ·exact ⟨by omega, rfl, (puti_done hR (by have h_ := hP; rw [c_25] at h_; exact h_) (by omega)).1, hr_35, hk_40, hne_41, (Nat.le_trans hle4 (Nat.le_trans (Nat.le_trans hb_17.size hg_22.size) hg_37.size)), hB_43⟩
   (try dsimp only); omega
  rw [show (dn : Bool) = false from by simpa using c_25]
  refine xr 6 [(20, .load (.string ((xs.getD i at0).1))), (22, .load (.string a.1))] [(6, .bool false), (18, .bool true), (20, .string ((xs.getD i at0).1)), (22, .string a.1)] [16] [LoadsAs Tryd.prog 9 (⟨wl.heap.size, 0, none⟩) (.string ((xs.getD i at0).1)) w_21, LoadsAs Tryd.prog 9 (⟨w.heap.size, 0, none⟩) (.string a.1) w_21] ⟨loads1 rfl (Blk.cell hk_23 0 _ rfl), loads1 rfl (Blk.cell (Blk.below hk4 (bg hb_17 hg_22 (Nat.le_refl _))) 0 _ rfl), trivial⟩ ?_
  by_cases c_44 : (!(Op.bytesLess ((xs.getD i at0).1).toList a.1.toList)) = true
  ·refine xr 2 [(23, .eq (.bool true))] [(24, .bool true)] [18, 20, 22] [Value.bool (!(Op.bytesLess ((xs.getD i at0).1).toList a.1.toList)) = Value.bool true] ⟨congrArg Value.bool (c_44), trivial⟩ ?_
   refine nl (ct (sq (rg (xwe 3 [(26, .load (.agg #[.string a.1, .int .i64 a.2.1, .int .i64 a.2.2.1, .string a.2.2.2]))] [(3, pw w.heap.size 0), (8, pw wl.heap.size 0), (10, .slice A xs.length c), (11, .int .i64 (xs.length : Int)), (12, nv i), (25, .slice A4 out.length c4), (27, .slice (some ⟨w_21.heap.size, 0, none⟩) 1 1)] (w_21.alloc (.cells #[.string a.1, .int .i64 a.2.1, .int .i64 a.2.2.1, .string a.2.2.2] 71)) [LoadsAs Tryd.prog 71 (⟨w.heap.size, 0, none⟩) (.agg #[.string a.1, .int .i64 a.2.1, .int .i64 a.2.2.1, .string a.2.2.2]) w_21] ⟨loadsB rfl rfl (Blk.below hk4 (bg hb_17 hg_22 (Nat.le_refl _))) 0 ⟨by kernel_rfl, by kernel_rfl⟩, trivial⟩ ?_))))
   obtain ⟨w_45, hw_49, hb_46, hk_47, hz_48⟩ := new_world w_21 #[.string a.1, .int .i64 a.2.1, .int .i64 a.2.2.1, .string a.2.2.2] 71
   rw [hw_49]
   rw [← hw_49]
   refine XL_append kAttr rfl rfl rfl w_1.heap.size 71 (.agg #[.string ByteArray.empty, .int .i64 0, .int .i64 0, .string ByteArray.empty]) 48 Tryd.underlying45 info71 rfl (by decide) (by omega) out (a.1, a.2.1, a.2.2.1, a.2.2.2) [.string a.1, .int .i64 a.2.1, .int .i64 a.2.2.1, .string a.2.2.2] (fun _ => False) (by kernel_rfl) (kAttr_M _ _ _ _) (fun _ h => h.elim) (Kd.R_below hr4 (bg hb_17 hg_22 (Nat.le_refl _))) (Nat.le_trans hle4 (Nat.le_trans hb_17.size hg_22.size)) (by first | omega | (simp; omega)) ?_
   intro A_50 c_51 w_52 hr_53 hc_54 hg_55 hl_56 ha_57
   have hne_58 := rne_new (RX.Kd.R_lt hr4) (Nat.le_refl _)
   have hk_59 := Blk.ne (Blk.below hk4 (bg hb_17 hg_22 (Nat.le_refl _))) hg_55 hne4
   have hk_60 := Blk.ne hk_23 hg_55 hne_58
   have hne_61 := rne_step hne4 ha_57 (Blk.lt (Blk.below hk4 (bg hb_17 hg_22 (Nat.le_refl _))))
   have hne_62 := rne_step hne_58 ha_57 (Blk.lt hk_23)
   have he_63 : (out ++ [(a.1, a.2.1, a.2.2.1, a.2.2.2)]) = (out ++ [a]) := rfl
   rw [he_63] at hr_53 ⊢
   refine xr0 1 [(5, .slice A_50 ((out ++ [a]).length) c_51)] [25, 27, 28] ?_
   refine nl (rg (xr0 1 [(6, .bool true)] [] ?_))
   refine nl (sq (rg (xr 4 [(30, .load (.string ((xs.getD i at0).1))), (32, .load (.string a.1))] [(30, .string ((xs.getD i at0).1)), (32, .string a.1)] [] [LoadsAs Tryd.prog 9 (⟨wl.heap.size, 0, none⟩) (.string ((xs.getD i at0).1)) w_52, LoadsAs Tryd.prog 9 (⟨w.heap.size, 0, none⟩) (.string a.1) w_52] ⟨loads1 rfl (Blk.cell hk_60 0 _ rfl), loads1 rfl (Blk.cell hk_59 0 _ rfl), trivial⟩ ?_)))
   by_cases c_64 : ((xs.getD i at0).1) = a.1
   ·refine xr 1 [(33, .eq (.bool false))] [(33, .bool false)] [30, 32] [Value.bool (!((xs.getD i at0).1).toList == a.1.toList) = Value.bool false] ⟨congrArg Value.bool (strNeF (c_64)), trivial⟩ ?_
    refine nl (cf (sk (rg (xr 2 [(38, .eq (.int .i64 ((i : Int) + 1)))] [(12, .int .i64 ((i : Int) + 1))] [8, 33] [Value.int .i64 (IntKind.i64.wrap ((i : Int) + 1)) = Value.int .i64 ((i : Int) + 1)] ⟨wr_i64 (by omega) (by omega), trivial⟩ ?_))))
    refine nl ?_
    have hB_65 : Below w.heap.size w w_52 := (bgo (bg (bt HB hb_17) hg_22 (HB).size) hg_55 hl_56 (hb_2).size)
    refine ⟨(i + 1, A_50, c_51, (out ++ [a]).length, (out ++ [a]), true), by kernel_rfl, ?_, ?_⟩
    ·exact ⟨by omega, rfl, (puti_new (by have h_ := hP; rw [Bool.eq_false_iff.2 c_25] at h_; exact h_) (by omega) (by have h_ := c_44; unfold kl; simpa using h_)).2 c_64, hr_53, hk_59, hne_61, (Nat.le_trans hle4 (Nat.le_trans (Nat.le_trans hb_17.size hg_22.size) hg_55.size)), hB_65⟩
    (try dsimp only); omega
   refine xr 1 [(33, .eq (.bool true))] [(33, .bool true)] [30, 32] [Value.bool (!((xs.getD i at0).1).toList == a.1.toList) = Value.bool true] ⟨congrArg Value.bool (strNeT (c_64)), trivial⟩ ?_
   refine nl (ct (rg (xw 3 [(35, .load (.agg #[.string ((xs.getD i at0).1), .int .i64 ((xs.getD i at0).2.1), .int .i64 ((xs.getD i at0).2.2.1), .string ((xs.getD i at0).2.2.2)]))] [(34, .slice A_50 ((out ++ [a]).length) c_51), (36, .slice (some ⟨w_52.heap.size, 0, none⟩) 1 1)] [5, 8, 33] (w_52.alloc (.cells #[.string ((xs.getD i at0).1), .int .i64 ((xs.getD i at0).2.1), .int .i64 ((xs.getD i at0).2.2.1), .string ((xs.getD i at0).2.2.2)] 71)) [LoadsAs Tryd.prog 71 (⟨wl.heap.size, 0, none⟩) (.agg #[.string ((xs.getD i at0).1), .int .i64 ((xs.getD i at0).2.1), .int .i64 ((xs.getD i at0).2.2.1), .string ((xs.getD i at0).2.2.2)]) w_52] ⟨loadsB rfl rfl hk_60 0 ⟨by kernel_rfl, by kernel_rfl⟩, trivial⟩ ?_)))
   obtain ⟨w_66, hw_70, hb_67, hk_68, hz_69⟩ := new_world w_52 #[.string ((xs.getD i at0).1), .int .i64 ((xs.getD i at0).2.1), .int .i64 ((xs.getD i at0).2.2.1), .string ((xs.getD i at0).2.2.2)] 71
   rw [hw_70]
   rw [← hw_70]
   refine XL_append kAttr rfl rfl rfl w_1.heap.size 71 (.agg #[.string ByteArray.empty, .int .i64 0, .int .i64 0, .string ByteArray.empty]) 48 Tryd.underlying45 info71 rfl (by decide) (by omega) (out ++ [a]) ((xs.getD i at0).1, (xs.getD i at0).2.1, (xs.getD i at0).2.2.1, (xs.getD i at0).2.2.2) [.string ((xs.getD i at0).1), .int .i64 ((xs.getD i at0).2.1), .int .i64 ((xs.getD i at0).2.2.1), .string ((xs.getD i at0).2.2.2)] (fun _ => False) (by kernel_rfl) (kAttr_M _ _ _ _) (fun _ h => h.elim) hr_53 (Nat.le_trans hle4 (Nat.le_trans (Nat.le_trans hb_17.size hg_22.size) hg_55.size)) (by first | omega | (simp; omega)) ?_
   intro A_71 c_72 w_73 hr_74 hc_75 hg_76 hl_77 ha_78
   have hk_79 := Blk.ne hk_59 hg_76 hne_61
   have hk_80 := Blk.ne hk_60 hg_76 hne_62
   have hne_81 := rne_step hne_61 ha_78 (Blk.lt hk_59)
   have he_82 : ((out ++ [a]) ++ [((xs.getD i at0).1, (xs.getD i at0).2.1, (xs.getD i at0).2.2.1, (xs.getD i at0).2.2.2)]) = ((out ++ [a]) ++ [(xs.getD i at0)]) := rfl
   rw [he_82] at hr_74 ⊢
   refine xe0 1 [(3, pw w.heap.size 0), (5, .slice A_71 (((out ++ [a]) ++ [(xs.getD i at0)]).length) c_72), (6, .bool true), (10, .slice A xs.length c), (11, .int .i64 (xs.length : Int)), (12, nv i)] ?_
   refine nl (rg (xr 2 [(38, .eq (.int .i64 ((i : Int) + 1)))] [(12, .int .i64 ((i : Int) + 1))] [] [Value.int .i64 (IntKind.i64.wrap ((i : Int) + 1)) = Value.int .i64 ((i : Int) + 1)] ⟨wr_i64 (by omega) (by omega), trivial⟩ ?_))
   refine nl ?_
   have hB_83 : Below w.heap.size w w_73 := (bgo (bgo (bg (bt HB hb_17) hg_22 (HB).size) hg_55 hl_56 (hb_2).size) hg_76 hl_77 (hb_2).size)
   refine ⟨(i + 1, A_71, c_72, ((out ++ [a]) ++ [(xs.getD i at0)]).length, ((out ++ [a]) ++ [(xs.getD i at0)]), true), by kernel_rfl, ?_, ?_⟩
   ·exact ⟨by omega, rfl, (puti_new (by have h_ := hP; rw [Bool.eq_false_iff.2 c_25] at h_; exact h_) (by omega) (by have h_ := c_44; unfold kl; simpa using h_)).1 c_64, hr_74, hk_79, hne_81, (Nat.le_trans hle4 (Nat.le_trans (Nat.le_trans (Nat.le_trans hb_17.size hg_22.size) hg_55.size) hg_76.size)), hB_83⟩
   (try dsimp only); omega
  refine xr 2 [(23, .eq (.bool false))] [(24, .bool false)] [18, 20, 22] [Value.bool (!(Op.bytesLess ((xs.getD i at0).1).toList a.1.toList)) = Value.bool false] ⟨congrArg Value.bool (Bool.eq_false_iff.2 (c_44)), trivial⟩ ?_
  refine nl (cf (sk (sq (rg (xe 4 [(30, .load (.string ((xs.getD i at0).1))), (32, .load (.string a.1))] [(3, pw w.heap.size 0), (5, .slice A4 out.length c4), (6, .bool false), (8, pw wl.heap.size 0), (10, .slice A xs.length c), (11, .int .i64 (xs.length : Int)), (12, nv i), (30, .string ((xs.getD i at0).1)), (32, .string a.1)] [LoadsAs Tryd.prog 9 (⟨wl.heap.size, 0, none⟩) (.string ((xs.getD i at0).1)) w_21, LoadsAs Tryd.prog 9 (⟨w.heap.size, 0, none⟩) (.string a.1) w_21] ⟨loads1 rfl (Blk.cell hk_23 0 _ rfl), loads1 rfl (Blk.cell (Blk.below hk4 (bg hb_17 hg_22 (Nat.le_refl _))) 0 _ rfl), trivial⟩ ?_)))))
  by_cases c_84 : ((xs.getD i at0).1) = a.1
  ·exact absurd ‹_› (puti_lo (by have h_ := hP; rw [Bool.eq_false_iff.2 c_25] at h_; exact h_) (by omega) (by have h_ := c_44; unfold kl; simpa using h_)).2
  refine xr 1 [(33, .eq (.bool true))] [(33, .bool true)] [30, 32] [Value.bool (!((xs.getD i at0).1).toList == a.1.toList) = Value.bool true] ⟨congrArg Value.bool (strNeT (c_84)), trivial⟩ ?_
  refine nl (ct (rg (xw 3 [(35, .load (.agg #[.string ((xs.getD i at0).1), .int .i64 ((xs.getD i at0).2.1), .int .i64 ((xs.getD i at0).2.2.1), .string ((xs.getD i at0).2.2.2)]))] [(34, .slice A4 out.length c4), (36, .slice (some ⟨w_21.heap.size, 0, none⟩) 1 1)] [5, 8, 33] (w_21.alloc (.cells #[.string ((xs.getD i at0).1), .int .i64 ((xs.getD i at0).2.1), .int .i64 ((xs.getD i at0).2.2.1), .string ((xs.getD i at0).2.2.2)] 71)) [LoadsAs Tryd.prog 71 (⟨wl.heap.size, 0, none⟩) (.agg #[.string ((xs.getD i at0).1), .int .i64 ((xs.getD i at0).2.1), .int .i64 ((xs.getD i at0).2.2.1), .string ((xs.getD i at0).2.2.2)]) w_21] ⟨loadsB rfl rfl hk_23 0 ⟨by kernel_rfl, by kernel_rfl⟩, trivial⟩ ?_)))
  obtain ⟨w_85, hw_89, hb_86, hk_87, hz_88⟩ := new_world w_21 #[.string ((xs.getD i at0).1), .int .i64 ((xs.getD i at0).2.1), .int .i64 ((xs.getD i at0).2.2.1), .string ((xs.getD i at0).2.2.2)] 71
  rw [hw_89]
  rw [← hw_89]
  refine XL_append kAttr rfl rfl rfl w_1.heap.size 71 (.agg #[.string ByteArray.empty, .int .i64 0, .int .i64 0, .string ByteArray.empty]) 48 Tryd.underlying45 info71 rfl (by decide) (by omega) out ((xs.getD i at0).1, (xs.getD i at0).2.1, (xs.getD i at0).2.2.1, (xs.getD i at0).2.2.2) [.string ((xs.getD i at0).1), .int .i64 ((xs.getD i at0).2.1), .int .i64 ((xs.getD i at0).2.2.1), .string ((xs.getD i at0).2.2.2)] (fun _ => False) (by kernel_rfl) (kAttr_M _ _ _ _) (fun _ h => h.elim) (Kd.R_below hr4 (bg hb_17 hg_22 (Nat.le_refl _))) (Nat.le_trans hle4 (Nat.le_trans hb_17.size hg_22.size)) (by first | omega | (simp; omega)) ?_
  intro A_90 c_91 w_92 hr_93 hc_94 hg_95 hl_96 ha_97
  have hk_98 := Blk.ne (Blk.below hk4 (bg hb_17 hg_22 (Nat.le_refl _))) hg_95 hne4
  have hne_99 := rne_step hne4 ha_97 (Blk.lt (Blk.below hk4 (bg hb_17 hg_22 (Nat.le_refl _))))
  have he_100 : (out ++ [((xs.getD i at0).1, (xs.getD i at0).2.1, (xs.getD i at0).2.2.1, (xs.getD i at0).2.2.2)]) = (out ++ [(xs.getD i at0)]) := rfl
  rw [he_100] at hr_93 ⊢
  refine xr0 1 [(5, .slice A_90 ((out ++ [(xs.getD i at0)]).length) c_91)] [34, 36, 37] ?_
  refine nl (rg (xr 2 [(38, .eq (.int .i64 ((i : Int) + 1)))] [(12, .int .i64 ((i : Int) + 1))] [] [Value.int .i64 (IntKind.i64.wrap ((i : Int) + 1)) = Value.int .i64 ((i : Int) + 1)] ⟨wr_i64 (by omega) (by omega), trivial⟩ ?_))
  refine nl ?_
  have hB_101 : Below w.heap.size w w_92 := (bgo (bg (bt HB hb_17) hg_22 (HB).size) hg_95 hl_96 (hb_2).size)
  refine ⟨(i + 1, A_90, c_91, (out ++ [(xs.getD i at0)]).length, (out ++ [(xs.getD i at0)]), false), by kernel_rfl, ?_, ?_⟩
  ·exact ⟨by omega, rfl, (puti_lo (by have h_ := hP; rw [Bool.eq_false_iff.2 c_25] at h_; exact h_) (by omega) (by have h_ := c_44; unfold kl; simpa using h_)).1, hr_93, hk_98, hne_99, (Nat.le_trans hle4 (Nat.le_trans (Nat.le_trans hb_17.size hg_22.size) hg_95.size)), hB_101⟩
  (try dsimp only); omega
 refine xr 1 [(13, .eq (.bool false))] [(5, .slice A4 out.length c4), (13, .bool false)] [] [Value.bool (decide ((i : Int) < (xs.length : Int))) = Value.bool false] ⟨congrArg Value.bool (decide_eq_false (c_12)), trivial⟩ ?_
 refine nl (sq (cf (X_exit (sq (sq (rg (xr0 1 [(39, .bool dn)] [6, 10, 11, 12, 13] ?_)))))))
 by_cases c_102 : dn = true
 ·rw [show (dn : Bool) = true from by simpa using c_102]
  refine xr0 1 [(40, .bool false)] [39] ?_
  refine nl (cf (sk (sq (rg (xe0 2 [(4, .slice A4 out.length c4)] ?_)))))
  refine nl (X_ret (rk [.slice A4 out.length c4] (hR_ _ _ ?_)))
  obtain rfl : i = xs.length := by omega
  have he_ := puti_end hP
  rw [if_pos c_102] at he_
  exact ⟨_, _, _, he_, rfl, (RX.Kd.R_len hr4).2, (RX.Kd.R_low hr4 (hb_2).size), HB⟩
 rw [show (dn : Bool) = false from by simpa using c_102]
 refine xr0 1 [(40, .bool true)] [39] ?_
 refine nl (ct (rg (xwe 3 [(42, .load (.agg #[.string a.1, .int .i64 a.2.1, .int .i64 a.2.2.1, .string a.2.2.2]))] [(41, .slice A4 out.length c4), (43, .slice (some ⟨wl.heap.size, 0, none⟩) 1 1)] (wl.alloc (.cells #[.string a.1, .int .i64 a.2.1, .int .i64 a.2.2.1, .string a.2.2.2] 71)) [LoadsAs Tryd.prog 71 (⟨w.heap.size, 0, none⟩) (.agg #[.string a.1, .int .i64 a.2.1, .int .i64 a.2.2.1, .string a.2.2.2]) wl] ⟨loadsB rfl rfl hk4 0 ⟨by kernel_rfl, by kernel_rfl⟩, trivial⟩ ?_)))
 obtain ⟨w_103, hw_107, hb_104, hk_105, hz_106⟩ := new_world wl #[.string a.1, .int .i64 a.2.1, .int .i64 a.2.2.1, .string a.2.2.2] 71
 rw [hw_107]
 rw [← hw_107]
 refine XL_append kAttr rfl rfl rfl w_1.heap.size 71 (.agg #[.string ByteArray.empty, .int .i64 0, .int .i64 0, .string ByteArray.empty]) 48 Tryd.underlying45 info71 rfl (by decide) (by omega) out (a.1, a.2.1, a.2.2.1, a.2.2.2) [.string a.1, .int .i64 a.2.1, .int .i64 a.2.2.1, .string a.2.2.2] (fun _ => False) (by kernel_rfl) (kAttr_M _ _ _ _) (fun _ h => h.elim) hr4 hle4 (by first | omega | (simp; omega)) ?_
 intro A_108 c_109 w_110 hr_111 hc_112 hg_113 hl_114 ha_115
 have hk_116 := Blk.ne hk4 hg_113 hne4
 have he_117 : (out ++ [(a.1, a.2.1, a.2.2.1, a.2.2.2)]) = (out ++ [a]) := rfl
 rw [he_117] at hr_111 ⊢
 refine xe0 1 [(5, .slice A_108 ((out ++ [a]).length) c_109)] ?_
 refine nl (sq (rg (xe0 2 [(4, .slice A_108 ((out ++ [a]).length) c_109)] ?_)))
 refine nl (X_ret (rk [.slice A_108 ((out ++ [a]).length) c_109] (hR_ _ _ ?_)))
 obtain rfl : i = xs.length := by omega
 have he_ := puti_end hP
 rw [if_neg c_102] at he_
 exact ⟨_, _, _, he_, rfl, (RX.Kd.R_len hr_111).2, (RX.Kd.R_low hr_111 (hb_2).size), (bgo HB hg_113 hl_114 (hb_2).size)⟩
theorem rof3_any (A : Option Addr) (c : Nat) (xs : List At) (w : World) (hx : kAttr.C w A xs.length xs) (hl : xs.length ≤ 1000000) (hsz : ∀ i, i < xs.length → (xs.getD i at0).1.size ≤ 100000000 ∧ (xs.getD i at0).2.2.2.size ≤ 100000000) (hT : Tabs w) :
  Calls Tryd.prog 35 #[.slice A xs.length c] w fun e w' => ∃ A' c' zs, zs = (if pE xs = 0 then ofA xs else []) ∧ e = .returned (.tuple #[.slice A' zs.length c', .int .i64 (pE xs : Int)]) ∧ zs.length ≤ c' ∧ kAttr.C w' A' zs.length zs ∧ Below w.heap.size w w' := by
 refine RX.enter Tryd.func35 rfl 34 rfl [(0, .slice A xs.length c)] rfl (by kernel_rfl) (fun R_ hR_ => ?_)
 refine sq (rg (xe0 2 [(0, .slice A xs.length c)] ?_))
 refine nl (sq (sq (rg (xr0 3 [(10, .slice A xs.length c), (11, .int .i64 (xs.length : Int)), (12, .int .i64 0)] [] ?_))))
 refine nl (bk (X_loop (ι := Nat) (fun i => [(0, .slice A xs.length c), (10, .slice A xs.length c), (11, .int .i64 (xs.length : Int)), (12, .int .i64 (i : Int))]) (fun i wl => i ≤ xs.length ∧ (∀ t, t < i → pairErr (xs.getD t at0) = 0) ∧ Below w.heap.size w wl) (fun i => xs.length - i) 0 ⟨by omega, fun t ht => by omega, (Below.refl _ _)⟩ (by kernel_rfl) ?_))
 rintro i wl ⟨hi, h0, HB⟩
 refine sq (X_region ?_)
 by_cases c_1 : (i : Int) < (xs.length : Int)
 ·refine xr 1 [(13, .eq (.bool true))] [(13, .bool true)] [] [Value.bool (decide ((i : Int) < (xs.length : Int))) = Value.bool true] ⟨congrArg Value.bool (decide_eq_true (c_1)), trivial⟩ ?_
  refine nl (sq (ct (sk (sq (bk (sq (X_region ?_)))))))
  obtain ⟨ad_2, ha_3, hc_4⟩ := Kd.atAttr (Kd.C_below hx HB) (i := (i : Int)) (by omega) (by omega)
  replace hc_4 : CellsAt wl (ad_2.add ((i : Int).toNat * 4)) [.string ((xs.getD i at0).1), .int .i64 ((xs.getD i at0).2.1), .int .i64 ((xs.getD i at0).2.2.1), .string ((xs.getD i at0).2.2.2)] := hc_4
  refine xw 3 [(14, .idx ad_2), (15, .load (.agg #[.string ((xs.getD i at0).1), .int .i64 ((xs.getD i at0).2.1), .int .i64 ((xs.getD i at0).2.2.1), .string ((xs.getD i at0).2.2.2)]))] [(5, pw wl.heap.size 0), (15, .agg #[.string ((xs.getD i at0).1), .int .i64 ((xs.getD i at0).2.1), .int .i64 ((xs.getD i at0).2.2.1), .string ((xs.getD i at0).2.2.2)])] [13] (wl.alloc (.cells #[.string ByteArray.empty, .int .i64 0, .int .i64 0, .string ByteArray.empty] 71)) [A = some ad_2, (0 : Int) ≤ (i : Int), (i : Int) < (xs.length : Int), LoadsAs Tryd.prog 71 (ad_2.add ((i : Int).toNat * 4)) (.agg #[.string ((xs.getD i at0).1), .int .i64 ((xs.getD i at0).2.1), .int .i64 ((xs.getD i at0).2.2.1), .string ((xs.getD i at0).2.2.2)]) wl] ⟨ha_3, (by omega), (by omega), loadsE rfl rfl hc_4 0 ⟨by kernel_rfl, by kernel_rfl⟩, trivial⟩ ?_
  obtain ⟨w_5, hw_9, hb_6, hk_7, hz_8⟩ := new_world wl #[.string ByteArray.empty, .int .i64 0, .int .i64 0, .string ByteArray.empty] 71
  rw [hw_9]
  refine xst (.agg #[.string ((xs.getD i at0).1), .int .i64 ((xs.getD i at0).2.1), .int .i64 ((xs.getD i at0).2.2.1), .string ((xs.getD i at0).2.2.2)]) hk_7 0 #[.string ((xs.getD i at0).1), .int .i64 ((xs.getD i at0).2.1), .int .i64 ((xs.getD i at0).2.2.1), .string ((xs.getD i at0).2.2.2)] (fun w_10 hg_11 hk_12 hz_13 => ?_)
  refine nl (sq (rg (xr 1 [(16, .load (.agg #[.string ((xs.getD i at0).1), .int .i64 ((xs.getD i at0).2.1), .int .i64 ((xs.getD i at0).2.2.1), .string ((xs.getD i at0).2.2.2)]))] [(16, .agg #[.string ((xs.getD i at0).1), .int .i64 ((xs.getD i at0).2.1), .int .i64 ((xs.getD i at0).2.2.1), .string ((xs.getD i at0).2.2.2)])] [5, 15] [LoadsAs Tryd.prog 71 (⟨wl.heap.size, 0, none⟩) (.agg #[.string ((xs.getD i at0).1), .int .i64 ((xs.getD i at0).2.1), .int .i64 ((xs.getD i at0).2.2.1), .string ((xs.getD i at0).2.2.2)]) w_10] ⟨loadsB rfl rfl hk_12 0 ⟨by kernel_rfl, by kernel_rfl⟩, trivial⟩ ?_)))
  refine xc 100 ent100 [.agg #[.string ((xs.getD i at0).1), .int .i64 ((xs.getD i at0).2.1), .int .i64 ((xs.getD i at0).2.2.1), .string ((xs.getD i at0).2.2.2)]] (r3pair_any (xs.getD i at0) _ (hsz i (by omega)).1 (hsz i (by omega)).2 (hT.below (bg (bt HB hb_6) hg_11 (HB).size))) ?_
  rintro e w_14 ⟨rfl, hb_15⟩; refine ⟨_, rfl, ?_⟩
  refine xr0 1 [(6, .int .i64 (pairErr (xs.getD i at0) : Int))] [16, 17] ?_
  refine nl (sq (rg (xr0 1 [(18, .int .i64 (pairErr (xs.getD i at0) : Int))] [] ?_)))
  by_cases c_16 : (pairErr (xs.getD i at0) : Int) = 0
  ·refine xe 1 [(19, .eq (.bool false))] [(0, .slice A xs.length c), (6, .int .i64 (pairErr (xs.getD i at0) : Int)), (10, .slice A xs.length c), (11, .int .i64 (xs.length : Int)), (12, nv i), (19, .bool false)] [Value.bool ((pairErr (xs.getD i at0) : Int) != 0) = Value.bool false] ⟨congrArg Value.bool (bneF (c_16)), trivial⟩ ?_
   refine nl (cf (sk (rg (xr 2 [(21, .eq (.int .i64 ((i : Int) + 1)))] [(12, .int .i64 ((i : Int) + 1))] [6, 19] [Value.int .i64 (IntKind.i64.wrap ((i : Int) + 1)) = Value.int .i64 ((i : Int) + 1)] ⟨wr_i64 (by omega) (by omega), trivial⟩ ?_))))
   refine nl ?_
   have hB_17 : Below w.heap.size w w_14 := (bt (bg (bt HB hb_6) hg_11 (HB).size) hb_15)
   refine ⟨(i + 1), by kernel_rfl, ?_, ?_⟩
   ·exact ⟨by omega, fun t ht => by by_cases e_ : t = i; (· subst e_; omega); (· exact h0 t (by omega)), hB_17⟩
   (try dsimp only); omega
  refine xe 1 [(19, .eq (.bool true))] [(0, .slice A xs.length c), (6, .int .i64 (pairErr (xs.getD i at0) : Int)), (10, .slice A xs.length c), (11, .int .i64 (xs.length : Int)), (12, nv i), (19, .bool true)] [Value.bool ((pairErr (xs.getD i at0) : Int) != 0) = Value.bool true] ⟨congrArg Value.bool (bneT (c_16)), trivial⟩ ?_
  refine nl (ct (sq (rg (xe0 3 [(2, .slice none 0 0), (3, .int .i64 (pairErr (xs.getD i at0) : Int))] ?_))))
  refine nl (X_ret (rk [.slice none 0 0, .int .i64 (pairErr (xs.getD i at0) : Int)] (hR_ _ _ ?_)))
  have hB_18 : Below w.heap.size w w_14 := (bt (bg (bt HB hb_6) hg_11 (HB).size) hb_15)
  have he_ := pE_take (show i < xs.length by omega) h0 (by omega)
  refine ⟨none, 0, [], by rw [if_neg (by omega)], by rw [he_]; rfl, Nat.le_refl _, ⟨rfl, by decide, fun h => absurd h (by decide)⟩, hB_18⟩
 refine xr 1 [(13, .eq (.bool false))] [(13, .bool false)] [] [Value.bool (decide ((i : Int) < (xs.length : Int))) = Value.bool false] ⟨congrArg Value.bool (decide_eq_false (c_1)), trivial⟩ ?_
 refine nl (sq (cf (X_exit (sq (rg (xw 1 [] [(22, .slice (some ⟨wl.heap.size, 0, none⟩) 0 0)] [10, 11, 12, 13] (wl.alloc (.cells #[] 71)) [] trivial ?_))))))
 obtain ⟨w_19, hw_23, hb_20, hk_21, hz_22⟩ := new_world wl #[] 71
 rw [hw_23]
 refine xr0 1 [(7, .slice (some ⟨wl.heap.size, 0, none⟩) 0 0)] [22] ?_
 refine nl (sq (sq (rg (xr0 3 [(23, .slice A xs.length c), (24, .int .i64 (xs.length : Int)), (25, .int .i64 0)] [0] ?_))))
 refine nl (X_block ?_)
 have hr_24 := Kd.R_litB kAttr (W := wl) (e := 71) (cs := #[]) [] hk_21 (repsAttr []) (Nat.le_of_ble_eq_true (by kernel_rfl))
 refine X_loop (ι := Nat × Option Addr × Nat × Nat × List At) (fun ⟨j, A2, c2, n, out⟩ => [(7, .slice A2 n c2), (23, .slice A xs.length c), (24, .int .i64 (xs.length : Int)), (25, .int .i64 (j : Int))]) (fun ⟨j, A2, c2, n, out⟩ wk => j ≤ xs.length ∧ n = out.length ∧ out = ofA (xs.take j) ∧ n ≤ c2 ∧ kAttr.C wk A2 n out ∧ Below w.heap.size w wk) (fun ⟨j, A2, c2, n, out⟩ => xs.length - j) (0, (some ⟨wl.heap.size, 0, none⟩), 0, 0, []) ⟨by omega, rfl, rfl, Nat.zero_le _, ⟨rfl, by decide, fun h => absurd h (by decide)⟩, (bt HB hb_20)⟩ (by kernel_rfl) ?_
 rintro ⟨j, A2, c2, n, out⟩ wk ⟨hj, rfl, ho, hcc, hC2, HB2⟩
 have hor : Ris out := ho ▸ ofA_ris _
 have hol : out.length ≤ j := by have h_ := ofA_len (xs.take j); rw [List.length_take, ← ho] at h_; omega
 refine sq (X_region ?_)
 by_cases c_25 : (j : Int) < (xs.length : Int)
 ·refine xr 1 [(26, .eq (.bool true))] [(7, .slice A2 out.length c2), (26, .bool true)] [] [Value.bool (decide ((j : Int) < (xs.length : Int))) = Value.bool true] ⟨congrArg Value.bool (decide_eq_true (c_25)), trivial⟩ ?_
  refine nl (sq (ct (sk (sq (bk (sq (X_region ?_)))))))
  obtain ⟨ad_26, ha_27, hc_28⟩ := Kd.atAttr (Kd.C_below hx HB2) (i := (j : Int)) (by omega) (by omega)
  replace hc_28 : CellsAt wk (ad_26.add ((j : Int).toNat * 4)) [.string ((xs.getD j at0).1), .int .i64 ((xs.getD j at0).2.1), .int .i64 ((xs.getD j at0).2.2.1), .string ((xs.getD j at0).2.2.2)] := hc_28
  refine xw 3 [(27, .idx ad_26), (28, .load (.agg #[.string ((xs.getD j at0).1), .int .i64 ((xs.getD j at0).2.1), .int .i64 ((xs.getD j at0).2.2.1), .string ((xs.getD j at0).2.2.2)]))] [(9, pw wk.heap.size 0), (28, .agg #[.string ((xs.getD j at0).1), .int .i64 ((xs.getD j at0).2.1), .int .i64 ((xs.getD j at0).2.2.1), .string ((xs.getD j at0).2.2.2)])] [26] (wk.alloc (.cells #[.string ByteArray.empty, .int .i64 0, .int .i64 0, .string ByteArray.empty] 71)) [A = some ad_26, (0 : Int) ≤ (j : Int), (j : Int) < (xs.length : Int), LoadsAs Tryd.prog 71 (ad_26.add ((j : Int).toNat * 4)) (.agg #[.string ((xs.getD j at0).1), .int .i64 ((xs.getD j at0).2.1), .int .i64 ((xs.getD j at0).2.2.1), .string ((xs.getD j at0).2.2.2)]) wk] ⟨ha_27, (by omega), (by omega), loadsE rfl rfl hc_28 0 ⟨by kernel_rfl, by kernel_rfl⟩, trivial⟩ ?_
  obtain ⟨w_29, hw_33, hb_30, hk_31, hz_32⟩ := new_world wk #[.string ByteArray.empty, .int .i64 0, .int .i64 0, .string ByteArray.empty] 71
  rw [hw_33]
  refine xst (.agg #[.string ((xs.getD j at0).1), .int .i64 ((xs.getD j at0).2.1), .int .i64 ((xs.getD j at0).2.2.1), .string ((xs.getD j at0).2.2.2)]) hk_31 0 #[.string ((xs.getD j at0).1), .int .i64 ((xs.getD j at0).2.1), .int .i64 ((xs.getD j at0).2.2.1), .string ((xs.getD j at0).2.2.2)] (fun w_34 hg_35 hk_36 hz_37 => ?_)
  refine nl (rg (xr 2 [(30, .load (.agg #[.string ((xs.getD j at0).1), .int .i64 ((xs.getD j at0).2.1), .int .i64 ((xs.getD j at0).2.2.1), .string ((xs.getD j at0).2.2.2)]))] [(29, .slice A2 out.length c2), (30, .agg #[.string ((xs.getD j at0).1), .int .i64 ((xs.getD j at0).2.1), .int .i64 ((xs.getD j at0).2.2.1), .string ((xs.getD j at0).2.2.2)])] [7, 9, 28] [LoadsAs Tryd.prog 71 (⟨wk.heap.size, 0, none⟩) (.agg #[.string ((xs.getD j at0).1), .int .i64 ((xs.getD j at0).2.1), .int .i64 ((xs.getD j at0).2.2.1), .string ((xs.getD j at0).2.2.2)]) w_34] ⟨loadsB rfl rfl hk_36 0 ⟨by kernel_rfl, by kernel_rfl⟩, trivial⟩ ?_))
  refine xc 103 ent103 [.slice A2 out.length c2, .agg #[.string ((xs.getD j at0).1), .int .i64 ((xs.getD j at0).2.1), .int .i64 ((xs.getD j at0).2.2.1), .string ((xs.getD j at0).2.2.2)]] (rput_any _ _ out (xs.getD j at0) _ (Kd.C_below hC2 (bg hb_30 hg_35 (Nat.le_refl _))) hor (by omega)) ?_
  rintro e w_44 ⟨A_38, c_39, zs_40, ez_41, rfl, hl_42, hr_43, hb_45⟩; refine ⟨_, rfl, ?_⟩
  refine xr0 1 [(7, .slice A_38 zs_40.length c_39)] [29, 30, 31] ?_
  refine nl (rg (xr 2 [(32, .eq (.int .i64 ((j : Int) + 1)))] [(25, .int .i64 ((j : Int) + 1))] [] [Value.int .i64 (IntKind.i64.wrap ((j : Int) + 1)) = Value.int .i64 ((j : Int) + 1)] ⟨wr_i64 (by omega) (by omega), trivial⟩ ?_))
  refine nl ?_
  have hB_46 : Below w.heap.size w w_44 := (bt (bg (bt HB2 hb_30) hg_35 (HB2).size) hb_45)
  refine ⟨(j + 1, A_38, c_39, zs_40.length, zs_40), by kernel_rfl, ?_, ?_⟩
  ·exact ⟨by omega, rfl, by rw [ofA_take (by omega), ← ho]; exact ez_41, hl_42, (RX.Kd.R_C hr_43), hB_46⟩
  (try dsimp only); omega
 refine xr 1 [(26, .eq (.bool false))] [(7, .slice A2 out.length c2), (26, .bool false)] [] [Value.bool (decide ((j : Int) < (xs.length : Int))) = Value.bool false] ⟨congrArg Value.bool (decide_eq_false (c_25)), trivial⟩ ?_
 refine nl (sq (cf (X_exit (sq (rg (xe0 3 [(2, .slice A2 out.length c2), (3, .int .i64 0)] ?_))))))
 refine nl (X_ret (rk [.slice A2 out.length c2, .int .i64 0] (hR_ _ _ ?_)))
 obtain rfl : j = xs.length := by omega
 have hz_ := pE_zero (xs := xs) (fun t ht => h0 t (by omega))
 rw [List.take_length] at ho
 exact ⟨_, _, out, by rw [if_pos hz_]; exact ho, by rw [hz_]; rfl, hcc, hC2, HB2⟩
end Go.Proofs.YtkehomiogkoomaaDoor
