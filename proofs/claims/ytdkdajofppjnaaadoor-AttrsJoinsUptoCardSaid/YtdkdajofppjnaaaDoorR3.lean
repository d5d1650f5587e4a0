/- What the reference's Compose, Apply, Diff, Invert and Transform answer: what the program's do. Conditions: sizes, lengths, the tables of utf8; good lists for the inner ones. -/
import Derived.Test.YtdkdajofppjnaaaDoorR2
set_option linter.unusedVariables false
set_option linter.unusedSimpArgs false
set_option maxRecDepth 100000
namespace Go.Proofs.YtdkdajofppjnaaaDoor
open Go Go.RowKit Go.Proofs.YtdkdajofppjnaaaDoorW.PrintWords RX
theorem whole_any (A : Option Addr) (c : Nat) (xs : List At) (w : World) (hx : kAttr.C w A xs.length xs) (hn : xs.length ≤ 400000000) : Calls Tryd.prog 47 #[.slice A xs.length c] w fun e w' => ∃ A' c' zs, zs = xs.filterMap wF ∧ zs.length ≤ xs.length ∧ e = .returned (.slice A' zs.length c') ∧ zs.length ≤ c' ∧ kAttr.R 55 w' w.heap.size (OkFrom w.heap.size) (.slice A' zs.length c') zs ∧ Below w.heap.size w w' := by
  have hpl : xs.length ≤ 9223372036854775807 := hx.2.1
  refine RX.enter Tryd.func47 rfl 23 rfl [(0, .slice A xs.length c)] rfl (by kernel_rfl) (fun R_ hR_ => ?_)
  refine X_seq ?_
  refine X_region ?_
  refine XL_run 1 [] [(0, .slice A xs.length c)] w [] (by kernel_rfl) trivial ?_
  refine XL_nil ?_
  refine X_seq ?_
  refine X_region ?_
  refine XL_run 1 [] [(0, .slice A xs.length c), (6, .slice (some ⟨w.heap.size, 0, none⟩) 0 0)] (w.alloc (.cells #[] 55)) [] (by kernel_rfl) trivial ?_
  obtain ⟨w_1, hw_5, hb_2, hk_3, hz_4⟩ := new_world w #[] 55
  rw [hw_5]
  refine XL_run 1 [] [(0, .slice A xs.length c), (3, .slice (some ⟨w.heap.size, 0, none⟩) 0 0)] w_1 [] (by kernel_rfl) trivial ?_
  refine XL_nil ?_
  refine X_seq ?_
  refine X_seq ?_
  refine X_region ?_
  refine XL_run 3 [] [(3, .slice (some ⟨w.heap.size, 0, none⟩) 0 0), (7, .slice A xs.length c), (8, .int .i64 (xs.length : Int)), (9, .int .i64 0)] w_1 [] (by kernel_rfl) trivial ?_
  refine XL_nil ?_
  refine X_block ?_
  have hr_6 := Kd.R_litB kAttr (W := w) (e := 55) (cs := #[]) [] hk_3 (repsAttr []) (Nat.le_of_ble_eq_true (by kernel_rfl))
  refine X_loop (ι := Nat × Option Addr × Nat × List At) (fun ⟨i, A3, c3, zs3⟩ => [(3, .slice A3 zs3.length c3), (7, .slice A xs.length c), (8, .int .i64 (xs.length : Int)), (9, .int .i64 (i : Int))]) (fun ⟨i, A3, c3, zs3⟩ wl => i ≤ xs.length ∧ zs3 = (xs.take i).filterMap (wF) ∧ kAttr.R 55 wl w.heap.size (OkFrom w.heap.size) (.slice A3 zs3.length c3) zs3 ∧ w.heap.size ≤ wl.heap.size ∧ Below w.heap.size w wl) (fun ⟨i, A3, c3, zs3⟩ => xs.length - i) (0, (some ⟨w.heap.size, 0, none⟩), 0, []) ⟨by omega, rfl, hr_6, (hb_2).size, hb_2⟩ (by kernel_rfl) ?_
  rintro ⟨i, A3, c3, zs3⟩ wl ⟨hi, he3, hr3, hle3, HB⟩
  have hzl : zs3.length ≤ xs.length := by rw [he3]; exact Nat.le_trans (List.length_filterMap_le _ _) (by rw [List.length_take]; omega)
  refine X_seq ?_
  refine X_region ?_
  by_cases c_7 : (i : Int) < (xs.length : Int)
  · refine XL_run 1 [(10, .eq (.bool true))] [(3, .slice A3 zs3.length c3), (7, .slice A xs.length c), (8, .int .i64 (xs.length : Int)), (9, .int .i64 (i : Int)), (10, .bool true)] wl [Value.bool (decide ((i : Int) < (xs.length : Int))) = Value.bool true] (by kernel_rfl) ⟨congrArg Value.bool (decide_eq_true (c_7)), trivial⟩ ?_
    refine XL_nil ?_
    refine X_seq ?_
    refine X_cond true rfl ?_
    refine X_skip ?_
    refine X_seq ?_
    refine X_block ?_
    refine X_seq ?_
    refine X_region ?_
    obtain ⟨ad_8, ha_9, hc_10⟩ := Kd.atAttr (Kd.C_below hx HB) (i := (i : Int)) (by omega) (by omega)
    replace hc_10 : CellsAt wl (ad_8.add ((i : Int).toNat * 4)) [.string ((xs.getD i at0).1), .int .i64 ((xs.getD i at0).2.1), .int .i64 ((xs.getD i at0).2.2.1), .string ((xs.getD i at0).2.2.2)] := hc_10
    refine XL_run 3 [(11, .idx ad_8), (12, .load (.agg #[.string ((xs.getD i at0).1), .int .i64 ((xs.getD i at0).2.1), .int .i64 ((xs.getD i at0).2.2.1), .string ((xs.getD i at0).2.2.2)]))] [(3, .slice A3 zs3.length c3), (5, .pointer (some ⟨wl.heap.size, 0, none⟩)), (7, .slice A xs.length c), (8, .int .i64 (xs.length : Int)), (9, .int .i64 (i : Int)), (12, .agg #[.string ((xs.getD i at0).1), .int .i64 ((xs.getD i at0).2.1), .int .i64 ((xs.getD i at0).2.2.1), .string ((xs.getD i at0).2.2.2)])] (wl.alloc (.cells #[.string ByteArray.empty, .int .i64 0, .int .i64 0, .string ByteArray.empty] 55)) [A = some ad_8, (0 : Int) ≤ (i : Int), (i : Int) < (xs.length : Int), LoadsAs Tryd.prog 55 (ad_8.add ((i : Int).toNat * 4)) (.agg #[.string ((xs.getD i at0).1), .int .i64 ((xs.getD i at0).2.1), .int .i64 ((xs.getD i at0).2.2.1), .string ((xs.getD i at0).2.2.2)]) wl] (by kernel_rfl) ⟨ha_9, (by omega), (by omega), loadsE rfl rfl hc_10 0 ⟨by kernel_rfl, by kernel_rfl⟩, trivial⟩ ?_
    obtain ⟨w_11, hw_15, hb_12, hk_13, hz_14⟩ := new_world wl #[.string ByteArray.empty, .int .i64 0, .int .i64 0, .string ByteArray.empty] 55
    rw [hw_15]
    refine XL_store (v := .agg #[.string ((xs.getD i at0).1), .int .i64 ((xs.getD i at0).2.1), .int .i64 ((xs.getD i at0).2.2.1), .string ((xs.getD i at0).2.2.2)]) rfl rfl rfl (by kernel_rfl) hk_13 0 [.string ((xs.getD i at0).1), .int .i64 ((xs.getD i at0).2.1), .int .i64 ((xs.getD i at0).2.2.1), .string ((xs.getD i at0).2.2.2)] #[.string ((xs.getD i at0).1), .int .i64 ((xs.getD i at0).2.1), .int .i64 ((xs.getD i at0).2.2.1), .string ((xs.getD i at0).2.2.2)] ⟨by kernel_rfl, rfl, by kernel_rfl⟩ ⟨by kernel_rfl, by kernel_rfl⟩ (Nat.le_of_ble_eq_true (by kernel_rfl)) (fun w_16 hg_17 hk_18 hz_19 => ?_)
    refine XL_nil ?_
    refine X_seq ?_
    refine X_region ?_
    refine XL_run 3 [(15, .load (.int .i64 ((xs.getD i at0).2.1)))] [(3, .slice A3 zs3.length c3), (5, .pointer (some ⟨wl.heap.size, 0, none⟩)), (7, .slice A xs.length c), (8, .int .i64 (xs.length : Int)), (9, .int .i64 (i : Int)), (15, .int .i64 ((xs.getD i at0).2.1))] w_16 [LoadsAs Tryd.prog 3 (⟨wl.heap.size, 1, none⟩) (.int .i64 ((xs.getD i at0).2.1)) w_16] (by kernel_rfl) ⟨loads1 rfl (Blk.cell hk_18 1 _ rfl), trivial⟩ ?_
    by_cases c_20 : (xs.getD i at0).2.1 = 0
    · refine XL_run 1 [(16, .eq (.bool false))] [(3, .slice A3 zs3.length c3), (5, .pointer (some ⟨wl.heap.size, 0, none⟩)), (7, .slice A xs.length c), (8, .int .i64 (xs.length : Int)), (9, .int .i64 (i : Int)), (16, .bool false)] w_16 [Value.bool ((xs.getD i at0).2.1 != 0) = Value.bool false] (by kernel_rfl) ⟨congrArg Value.bool (bneF (c_20)), trivial⟩ ?_
      refine XL_nil ?_
      refine X_cond false rfl ?_
      refine X_skip ?_
      refine X_region ?_
      refine XL_run 2 [(21, .eq (.int .i64 ((i : Int) + 1)))] [(3, .slice A3 zs3.length c3), (7, .slice A xs.length c), (8, .int .i64 (xs.length : Int)), (9, .int .i64 ((i : Int) + 1))] w_16 [Value.int .i64 (IntKind.i64.wrap ((i : Int) + 1)) = Value.int .i64 ((i : Int) + 1)] (by kernel_rfl) ⟨wr_i64 (by omega) (by omega), trivial⟩ ?_
      refine XL_nil ?_
      refine ⟨(i + 1, A3, c3, zs3), by kernel_rfl, ?_, ?_⟩
      · have hnx : zs3 = (xs.take (i + 1)).filterMap (wF) := by rw [take_map_snoc (wF) (show i < xs.length from by omega), ← he3]; unfold wF; rw [if_pos c_20]; simp
        exact ⟨by omega, hnx, (Kd.R_below hr3 (bg hb_12 hg_17 (Nat.le_refl _))), ((bg (bt HB hb_12) hg_17 hle3)).size, (bg (bt HB hb_12) hg_17 hle3)⟩
      · (try dsimp only); omega
    · refine XL_run 1 [(16, .eq (.bool true))] [(3, .slice A3 zs3.length c3), (5, .pointer (some ⟨wl.heap.size, 0, none⟩)), (7, .slice A xs.length c), (8, .int .i64 (xs.length : Int)), (9, .int .i64 (i : Int)), (16, .bool true)] w_16 [Value.bool ((xs.getD i at0).2.1 != 0) = Value.bool true] (by kernel_rfl) ⟨congrArg Value.bool (bneT (c_20)), trivial⟩ ?_
      refine XL_nil ?_
      refine X_cond true rfl ?_
      refine X_region ?_
      refine XL_run 3 [(18, .load (.agg #[.string ((xs.getD i at0).1), .int .i64 ((xs.getD i at0).2.1), .int .i64 ((xs.getD i at0).2.2.1), .string ((xs.getD i at0).2.2.2)]))] [(7, .slice A xs.length c), (8, .int .i64 (xs.length : Int)), (9, .int .i64 (i : Int)), (17, .slice A3 zs3.length c3), (19, .slice (some ⟨w_16.heap.size, 0, none⟩) 1 1)] (w_16.alloc (.cells #[.string ((xs.getD i at0).1), .int .i64 ((xs.getD i at0).2.1), .int .i64 ((xs.getD i at0).2.2.1), .string ((xs.getD i at0).2.2.2)] 55)) [LoadsAs Tryd.prog 55 (⟨wl.heap.size, 0, none⟩) (.agg #[.string ((xs.getD i at0).1), .int .i64 ((xs.getD i at0).2.1), .int .i64 ((xs.getD i at0).2.2.1), .string ((xs.getD i at0).2.2.2)]) w_16] (by kernel_rfl) ⟨loadsB rfl rfl hk_18 0 ⟨by kernel_rfl, by kernel_rfl⟩, trivial⟩ ?_
      obtain ⟨w_21, hw_25, hb_22, hk_23, hz_24⟩ := new_world w_16 #[.string ((xs.getD i at0).1), .int .i64 ((xs.getD i at0).2.1), .int .i64 ((xs.getD i at0).2.2.1), .string ((xs.getD i at0).2.2.2)] 55
      rw [hw_25]
      rw [← hw_25]
      refine XL_append kAttr rfl rfl rfl w.heap.size 55 (.agg #[.string ByteArray.empty, .int .i64 0, .int .i64 0, .string ByteArray.empty]) 48 Tryd.underlying22 info55 rfl (by decide) (by omega) zs3 ((xs.getD i at0).1, (xs.getD i at0).2.1, (xs.getD i at0).2.2.1, (xs.getD i at0).2.2.2) [.string ((xs.getD i at0).1), .int .i64 ((xs.getD i at0).2.1), .int .i64 ((xs.getD i at0).2.2.1), .string ((xs.getD i at0).2.2.2)] (fun _ => False) (by kernel_rfl) (kAttr_M _ _ _ _) (fun _ h => h.elim) (Kd.R_below hr3 (bg hb_12 hg_17 (Nat.le_refl _))) ((bg (bt HB hb_12) hg_17 hle3)).size (by first | omega | (simp; omega)) ?_
      intro A_26 c_27 w_28 hr_29 hc_30 hg_31 hl_32 ha_33
      refine XL_run 1 [] [(3, .slice A_26 ((zs3 ++ [((xs.getD i at0).1, (xs.getD i at0).2.1, (xs.getD i at0).2.2.1, (xs.getD i at0).2.2.2)]).length) c_27), (7, .slice A xs.length c), (8, .int .i64 (xs.length : Int)), (9, .int .i64 (i : Int))] w_28 [] (by kernel_rfl) trivial ?_
      refine XL_nil ?_
      refine X_region ?_
      refine XL_run 2 [(21, .eq (.int .i64 ((i : Int) + 1)))] [(3, .slice A_26 ((zs3 ++ [((xs.getD i at0).1, (xs.getD i at0).2.1, (xs.getD i at0).2.2.1, (xs.getD i at0).2.2.2)]).length) c_27), (7, .slice A xs.length c), (8, .int .i64 (xs.length : Int)), (9, .int .i64 ((i : Int) + 1))] w_28 [Value.int .i64 (IntKind.i64.wrap ((i : Int) + 1)) = Value.int .i64 ((i : Int) + 1)] (by kernel_rfl) ⟨wr_i64 (by omega) (by omega), trivial⟩ ?_
      refine XL_nil ?_
      have hB_34 : Below w.heap.size w w_28 := (bgo (bg (bt HB hb_12) hg_17 hle3) hg_31 hl_32 (Nat.le_refl _))
      refine ⟨(i + 1, A_26, c_27, (zs3 ++ [((xs.getD i at0).1, (xs.getD i at0).2.1, (xs.getD i at0).2.2.1, (xs.getD i at0).2.2.2)])), by kernel_rfl, ?_, ?_⟩
      · have hnx : (zs3 ++ [((xs.getD i at0).1, (xs.getD i at0).2.1, (xs.getD i at0).2.2.1, (xs.getD i at0).2.2.2)]) = (xs.take (i + 1)).filterMap (wF) := by rw [take_map_snoc (wF) (show i < xs.length from by omega), ← he3]; unfold wF; rw [if_neg c_20]; simp
        exact ⟨by omega, hnx, hr_29, (hB_34).size, hB_34⟩
      · (try dsimp only); omega
  · refine XL_run 1 [(10, .eq (.bool false))] [(3, .slice A3 zs3.length c3), (7, .slice A xs.length c), (8, .int .i64 (xs.length : Int)), (9, .int .i64 (i : Int)), (10, .bool false)] wl [Value.bool (decide ((i : Int) < (xs.length : Int))) = Value.bool false] (by kernel_rfl) ⟨congrArg Value.bool (decide_eq_false (c_7)), trivial⟩ ?_
    refine XL_nil ?_
    refine X_seq ?_
    refine X_cond false rfl ?_
    refine X_exit ?_
    refine X_seq ?_
    refine X_region ?_
    refine XL_run 2 [] [(2, .slice A3 zs3.length c3)] wl [] (by kernel_rfl) trivial ?_
    refine XL_nil ?_
    refine X_ret ?_
    refine RX.ret_ok (P := Tryd.prog) (fn := Tryd.f47) (N := 23) (R := R_) [.slice A3 zs3.length c3] (by kernel_rfl) (hR_ _ _ ?_)
    have hta : xs.take i = xs := List.take_of_length_le (by omega)
    rw [hta] at he3
    exact ⟨_, _, zs3, he3, by omega, rfl, (RX.Kd.R_len hr3).2, hr3, HB⟩
theorem over_any (A B : Option Addr) (c d : Nat) (xs ys : List At) (w : World) (hx : kAttr.C w A xs.length xs) (hy : kAttr.C w B ys.length ys) (hn : xs.length + ys.length ≤ 400000000) (first : Bool) : Calls Tryd.prog 35 #[.slice A xs.length c, .slice B ys.length d, .bool first] w fun e w' => ∃ A' c' zs, zs = ys.filterMap (oF first xs) ∧ zs.length ≤ ys.length ∧ e = .returned (.slice A' zs.length c') ∧ zs.length ≤ c' ∧ kAttr.R 55 w' w.heap.size (OkFrom w.heap.size) (.slice A' zs.length c') zs ∧ Below w.heap.size w w' := by
  have hpl : xs.length ≤ 9223372036854775807 := hx.2.1
  have hpl2 : ys.length ≤ 9223372036854775807 := hy.2.1
  refine RX.enter Tryd.func35 rfl 38 rfl [(0, .slice A xs.length c), (1, .slice B ys.length d), (2, .bool first)] rfl (by kernel_rfl) (fun R_ hR_ => ?_)
  refine X_seq ?_
  refine X_region ?_
  refine XL_run 1 [] [(0, .slice A xs.length c), (1, .slice B ys.length d), (2, .bool first)] w [] (by kernel_rfl) trivial ?_
  refine XL_nil ?_
  refine X_seq ?_
  refine X_region ?_
  refine XL_run 1 [] [(0, .slice A xs.length c), (1, .slice B ys.length d), (2, .bool first), (12, .slice (some ⟨w.heap.size, 0, none⟩) 0 0)] (w.alloc (.cells #[] 55)) [] (by kernel_rfl) trivial ?_
  obtain ⟨w_1, hw_5, hb_2, hk_3, hz_4⟩ := new_world w #[] 55
  rw [hw_5]
  refine XL_run 1 [] [(0, .slice A xs.length c), (1, .slice B ys.length d), (2, .bool first), (7, .slice (some ⟨w.heap.size, 0, none⟩) 0 0)] w_1 [] (by kernel_rfl) trivial ?_
  refine XL_nil ?_
  refine X_seq ?_
  refine X_seq ?_
  refine X_region ?_
  refine XL_run 3 [] [(0, .slice A xs.length c), (2, .bool first), (7, .slice (some ⟨w.heap.size, 0, none⟩) 0 0), (13, .slice B ys.length d), (14, .int .i64 (ys.length : Int)), (15, .int .i64 0)] w_1 [] (by kernel_rfl) trivial ?_
  refine XL_nil ?_
  refine X_block ?_
  have hr_6 := Kd.R_litB kAttr (W := w) (e := 55) (cs := #[]) [] hk_3 (repsAttr []) (Nat.le_of_ble_eq_true (by kernel_rfl))
  refine X_loop (ι := Nat × Option Addr × Nat × List At) (fun ⟨i, A3, c3, zs3⟩ => [(0, .slice A xs.length c), (2, .bool first), (7, .slice A3 zs3.length c3), (13, .slice B ys.length d), (14, .int .i64 (ys.length : Int)), (15, .int .i64 (i : Int))]) (fun ⟨i, A3, c3, zs3⟩ wl => i ≤ ys.length ∧ zs3 = (ys.take i).filterMap (oF first xs) ∧ kAttr.R 55 wl w.heap.size (OkFrom w.heap.size) (.slice A3 zs3.length c3) zs3 ∧ w.heap.size ≤ wl.heap.size ∧ Below w.heap.size w wl) (fun ⟨i, A3, c3, zs3⟩ => ys.length - i) (0, (some ⟨w.heap.size, 0, none⟩), 0, []) ⟨by omega, rfl, hr_6, (hb_2).size, hb_2⟩ (by kernel_rfl) ?_
  rintro ⟨i, A3, c3, zs3⟩ wl ⟨hi, he3, hr3, hle3, HB⟩
  have hzl : zs3.length ≤ ys.length := by rw [he3]; exact Nat.le_trans (List.length_filterMap_le _ _) (by rw [List.length_take]; omega)
  refine X_seq ?_
  refine X_region ?_
  by_cases c_7 : (i : Int) < (ys.length : Int)
  · refine XL_run 1 [(16, .eq (.bool true))] [(0, .slice A xs.length c), (2, .bool first), (7, .slice A3 zs3.length c3), (13, .slice B ys.length d), (14, .int .i64 (ys.length : Int)), (15, .int .i64 (i : Int)), (16, .bool true)] wl [Value.bool (decide ((i : Int) < (ys.length : Int))) = Value.bool true] (by kernel_rfl) ⟨congrArg Value.bool (decide_eq_true (c_7)), trivial⟩ ?_
    refine XL_nil ?_
    refine X_seq ?_
    refine X_cond true rfl ?_
    refine X_skip ?_
    refine X_seq ?_
    refine X_block ?_
    refine X_seq ?_
    refine X_region ?_
    obtain ⟨ad_8, ha_9, hc_10⟩ := Kd.atAttr (Kd.C_below hy HB) (i := (i : Int)) (by omega) (by omega)
    replace hc_10 : CellsAt wl (ad_8.add ((i : Int).toNat * 4)) [.string ((ys.getD i at0).1), .int .i64 ((ys.getD i at0).2.1), .int .i64 ((ys.getD i at0).2.2.1), .string ((ys.getD i at0).2.2.2)] := hc_10
    refine XL_run 3 [(17, .idx ad_8), (18, .load (.agg #[.string ((ys.getD i at0).1), .int .i64 ((ys.getD i at0).2.1), .int .i64 ((ys.getD i at0).2.2.1), .string ((ys.getD i at0).2.2.2)]))] [(0, .slice A xs.length c), (2, .bool first), (7, .slice A3 zs3.length c3), (9, .pointer (some ⟨wl.heap.size, 0, none⟩)), (13, .slice B ys.length d), (14, .int .i64 (ys.length : Int)), (15, .int .i64 (i : Int)), (18, .agg #[.string ((ys.getD i at0).1), .int .i64 ((ys.getD i at0).2.1), .int .i64 ((ys.getD i at0).2.2.1), .string ((ys.getD i at0).2.2.2)])] (wl.alloc (.cells #[.string ByteArray.empty, .int .i64 0, .int .i64 0, .string ByteArray.empty] 55)) [B = some ad_8, (0 : Int) ≤ (i : Int), (i : Int) < (ys.length : Int), LoadsAs Tryd.prog 55 (ad_8.add ((i : Int).toNat * 4)) (.agg #[.string ((ys.getD i at0).1), .int .i64 ((ys.getD i at0).2.1), .int .i64 ((ys.getD i at0).2.2.1), .string ((ys.getD i at0).2.2.2)]) wl] (by kernel_rfl) ⟨ha_9, (by omega), (by omega), loadsE rfl rfl hc_10 0 ⟨by kernel_rfl, by kernel_rfl⟩, trivial⟩ ?_
    obtain ⟨w_11, hw_15, hb_12, hk_13, hz_14⟩ := new_world wl #[.string ByteArray.empty, .int .i64 0, .int .i64 0, .string ByteArray.empty] 55
    rw [hw_15]
    refine XL_store (v := .agg #[.string ((ys.getD i at0).1), .int .i64 ((ys.getD i at0).2.1), .int .i64 ((ys.getD i at0).2.2.1), .string ((ys.getD i at0).2.2.2)]) rfl rfl rfl (by kernel_rfl) hk_13 0 [.string ((ys.getD i at0).1), .int .i64 ((ys.getD i at0).2.1), .int .i64 ((ys.getD i at0).2.2.1), .string ((ys.getD i at0).2.2.2)] #[.string ((ys.getD i at0).1), .int .i64 ((ys.getD i at0).2.1), .int .i64 ((ys.getD i at0).2.2.1), .string ((ys.getD i at0).2.2.2)] ⟨by kernel_rfl, rfl, by kernel_rfl⟩ ⟨by kernel_rfl, by kernel_rfl⟩ (Nat.le_of_ble_eq_true (by kernel_rfl)) (fun w_16 hg_17 hk_18 hz_19 => ?_)
    refine XL_nil ?_
    refine X_seq ?_
    refine X_region ?_
    refine XL_run 3 [(22, .load (.string ((ys.getD i at0).1)))] [(0, .slice A xs.length c), (2, .bool first), (7, .slice A3 zs3.length c3), (9, .pointer (some ⟨wl.heap.size, 0, none⟩)), (13, .slice B ys.length d), (14, .int .i64 (ys.length : Int)), (15, .int .i64 (i : Int)), (20, .slice A xs.length c), (22, .string ((ys.getD i at0).1))] w_16 [LoadsAs Tryd.prog 9 (⟨wl.heap.size, 0, none⟩) (.string ((ys.getD i at0).1)) w_16] (by kernel_rfl) ⟨loads1 rfl (Blk.cell hk_18 0 _ rfl), trivial⟩ ?_
    refine XL_call 30 rfl rfl rfl ent30 [.slice A xs.length c, .string ((ys.getD i at0).1)] (by kernel_rfl) (has_any _ _ xs ((ys.getD i at0).1) _ (Kd.C_below hx (bg (bt HB hb_12) hg_17 hle3))) ?_
    rintro e w_20 ⟨rfl, hb_21⟩; refine ⟨_, rfl, ?_⟩
    refine XL_run 4 [] [(0, .slice A xs.length c), (2, .bool first), (7, .slice A3 zs3.length c3), (9, .pointer (some ⟨wl.heap.size, 0, none⟩)), (10, .pointer (some ⟨w_20.heap.size, 0, none⟩)), (13, .slice B ys.length d), (14, .int .i64 (ys.length : Int)), (15, .int .i64 (i : Int)), (24, .agg #[.int .i64 ((gv xs ((ys.getD i at0).1)).1), .int .i64 ((gv xs ((ys.getD i at0).1)).2.1), .string ((gv xs ((ys.getD i at0).1)).2.2)]), (25, .bool ((get xs ((ys.getD i at0).1)).isSome))] (w_20.alloc (.cells #[.int .i64 0, .int .i64 0, .string ByteArray.empty] 43)) [] (by kernel_rfl) trivial ?_
    obtain ⟨w_22, hw_26, hb_23, hk_24, hz_25⟩ := new_world w_20 #[.int .i64 0, .int .i64 0, .string ByteArray.empty] 43
    rw [hw_26]
    refine XL_store (v := .agg #[.int .i64 ((gv xs ((ys.getD i at0).1)).1), .int .i64 ((gv xs ((ys.getD i at0).1)).2.1), .string ((gv xs ((ys.getD i at0).1)).2.2)]) rfl rfl rfl (by kernel_rfl) hk_24 0 [.int .i64 ((gv xs ((ys.getD i at0).1)).1), .int .i64 ((gv xs ((ys.getD i at0).1)).2.1), .string ((gv xs ((ys.getD i at0).1)).2.2)] #[.int .i64 ((gv xs ((ys.getD i at0).1)).1), .int .i64 ((gv xs ((ys.getD i at0).1)).2.1), .string ((gv xs ((ys.getD i at0).1)).2.2)] ⟨by kernel_rfl, rfl, by kernel_rfl⟩ ⟨by kernel_rfl, by kernel_rfl⟩ (Nat.le_of_ble_eq_true (by kernel_rfl)) (fun w_27 hg_28 hk_29 hz_30 => ?_)
    refine XL_run 1 [] [(0, .slice A xs.length c), (2, .bool first), (7, .slice A3 zs3.length c3), (9, .pointer (some ⟨wl.heap.size, 0, none⟩)), (11, .bool ((get xs ((ys.getD i at0).1)).isSome)), (13, .slice B ys.length d), (14, .int .i64 (ys.length : Int)), (15, .int .i64 (i : Int))] w_27 [] (by kernel_rfl) trivial ?_
    refine XL_nil ?_
    refine X_seq ?_
    refine X_region ?_
    refine XL_run 1 [] [(0, .slice A xs.length c), (2, .bool first), (7, .slice A3 zs3.length c3), (9, .pointer (some ⟨wl.heap.size, 0, none⟩)), (11, .bool ((get xs ((ys.getD i at0).1)).isSome)), (13, .slice B ys.length d), (14, .int .i64 (ys.length : Int)), (15, .int .i64 (i : Int)), (26, .bool first)] w_27 [] (by kernel_rfl) trivial ?_
    by_cases c_31 : first = true
    · rw [show (first : Bool) = true from by simpa using c_31]
      refine XL_run 3 [] [(0, .slice A xs.length c), (2, .bool true), (7, .slice A3 zs3.length c3), (9, .pointer (some ⟨wl.heap.size, 0, none⟩)), (13, .slice B ys.length d), (14, .int .i64 (ys.length : Int)), (15, .int .i64 (i : Int)), (28, .bool false), (29, .bool ((get xs ((ys.getD i at0).1)).isSome))] w_27 [] (by kernel_rfl) trivial ?_
      by_cases c_32 : (get xs ((ys.getD i at0).1)).isSome = true
      · rw [show ((get xs ((ys.getD i at0).1)).isSome : Bool) = true from by simpa using c_32]
        refine XL_run 2 [] [(0, .slice A xs.length c), (2, .bool true), (7, .slice A3 zs3.length c3), (9, .pointer (some ⟨wl.heap.size, 0, none⟩)), (13, .slice B ys.length d), (14, .int .i64 (ys.length : Int)), (15, .int .i64 (i : Int)), (31, .bool false)] w_27 [] (by kernel_rfl) trivial ?_
        refine XL_nil ?_
        refine X_cond false rfl ?_
        refine X_skip ?_
        refine X_region ?_
        refine XL_run 2 [(36, .eq (.int .i64 ((i : Int) + 1)))] [(0, .slice A xs.length c), (2, .bool true), (7, .slice A3 zs3.length c3), (13, .slice B ys.length d), (14, .int .i64 (ys.length : Int)), (15, .int .i64 ((i : Int) + 1))] w_27 [Value.int .i64 (IntKind.i64.wrap ((i : Int) + 1)) = Value.int .i64 ((i : Int) + 1)] (by kernel_rfl) ⟨wr_i64 (by omega) (by omega), trivial⟩ ?_
        refine XL_nil ?_
        have hB_33 : Below wl.heap.size wl w_20 := (bt (bg hb_12 hg_17 (Nat.le_refl _)) hb_21)
        have hB_34 : Below wl.heap.size wl w_27 := (bg (bt (bt (bg hb_12 hg_17 (Nat.le_refl _)) hb_21) hb_23) hg_28 (hB_33).size)
        have hB_35 : Below w.heap.size w w_27 := (bg (bt (bt (bg (bt HB hb_12) hg_17 hle3) hb_21) hb_23) hg_28 ((bt (bg (bt HB hb_12) hg_17 hle3) hb_21)).size)
        refine ⟨(i + 1, A3, c3, zs3), by kernel_rfl, ?_, ?_⟩
        · have hnx : zs3 = (ys.take (i + 1)).filterMap (oF first xs) := by rw [take_map_snoc (oF first xs) (show i < ys.length from by omega), ← he3]; unfold oF; rw [if_pos ⟨c_31, c_32⟩]; simp
          obtain rfl : first = true := c_31
          exact ⟨by omega, hnx, (Kd.R_below hr3 hB_34), (hB_35).size, hB_35⟩
        · (try dsimp only); omega
      · rw [show ((get xs ((ys.getD i at0).1)).isSome : Bool) = false from by simpa using c_32]
        refine XL_run 2 [] [(0, .slice A xs.length c), (2, .bool true), (7, .slice A3 zs3.length c3), (9, .pointer (some ⟨wl.heap.size, 0, none⟩)), (13, .slice B ys.length d), (14, .int .i64 (ys.length : Int)), (15, .int .i64 (i : Int)), (31, .bool true)] w_27 [] (by kernel_rfl) trivial ?_
        refine XL_nil ?_
        refine X_cond true rfl ?_
        refine X_region ?_
        refine XL_run 3 [(33, .load (.agg #[.string ((ys.getD i at0).1), .int .i64 ((ys.getD i at0).2.1), .int .i64 ((ys.getD i at0).2.2.1), .string ((ys.getD i at0).2.2.2)]))] [(0, .slice A xs.length c), (2, .bool true), (13, .slice B ys.length d), (14, .int .i64 (ys.length : Int)), (15, .int .i64 (i : Int)), (32, .slice A3 zs3.length c3), (34, .slice (some ⟨w_27.heap.size, 0, none⟩) 1 1)] (w_27.alloc (.cells #[.string ((ys.getD i at0).1), .int .i64 ((ys.getD i at0).2.1), .int .i64 ((ys.getD i at0).2.2.1), .string ((ys.getD i at0).2.2.2)] 55)) [LoadsAs Tryd.prog 55 (⟨wl.heap.size, 0, none⟩) (.agg #[.string ((ys.getD i at0).1), .int .i64 ((ys.getD i at0).2.1), .int .i64 ((ys.getD i at0).2.2.1), .string ((ys.getD i at0).2.2.2)]) w_27] (by kernel_rfl) ⟨loadsB rfl rfl (Blk.below hk_18 (bg (bt hb_21 hb_23) hg_28 (hb_21).size)) 0 ⟨by kernel_rfl, by kernel_rfl⟩, trivial⟩ ?_
        obtain ⟨w_36, hw_40, hb_37, hk_38, hz_39⟩ := new_world w_27 #[.string ((ys.getD i at0).1), .int .i64 ((ys.getD i at0).2.1), .int .i64 ((ys.getD i at0).2.2.1), .string ((ys.getD i at0).2.2.2)] 55
        rw [hw_40]
        rw [← hw_40]
        have hB_49 : Below wl.heap.size wl w_20 := (bt (bg hb_12 hg_17 (Nat.le_refl _)) hb_21)
        have hB_50 : Below wl.heap.size wl w_27 := (bg (bt (bt (bg hb_12 hg_17 (Nat.le_refl _)) hb_21) hb_23) hg_28 (hB_49).size)
        have hB_51 : Below w.heap.size w w_27 := (bg (bt (bt (bg (bt HB hb_12) hg_17 hle3) hb_21) hb_23) hg_28 ((bt (bg (bt HB hb_12) hg_17 hle3) hb_21)).size)
        refine XL_append kAttr rfl rfl rfl w.heap.size 55 (.agg #[.string ByteArray.empty, .int .i64 0, .int .i64 0, .string ByteArray.empty]) 48 Tryd.underlying22 info55 rfl (by decide) (by omega) zs3 ((ys.getD i at0).1, (ys.getD i at0).2.1, (ys.getD i at0).2.2.1, (ys.getD i at0).2.2.2) [.string ((ys.getD i at0).1), .int .i64 ((ys.getD i at0).2.1), .int .i64 ((ys.getD i at0).2.2.1), .string ((ys.getD i at0).2.2.2)] (fun _ => False) (by kernel_rfl) (kAttr_M _ _ _ _) (fun _ h => h.elim) (Kd.R_below hr3 hB_50) (hB_51).size (by first | omega | (simp; omega)) ?_
        intro A_41 c_42 w_43 hr_44 hc_45 hg_46 hl_47 ha_48
        refine XL_run 1 [] [(0, .slice A xs.length c), (2, .bool true), (7, .slice A_41 ((zs3 ++ [((ys.getD i at0).1, (ys.getD i at0).2.1, (ys.getD i at0).2.2.1, (ys.getD i at0).2.2.2)]).length) c_42), (13, .slice B ys.length d), (14, .int .i64 (ys.length : Int)), (15, .int .i64 (i : Int))] w_43 [] (by kernel_rfl) trivial ?_
        refine XL_nil ?_
        refine X_region ?_
        refine XL_run 2 [(36, .eq (.int .i64 ((i : Int) + 1)))] [(0, .slice A xs.length c), (2, .bool true), (7, .slice A_41 ((zs3 ++ [((ys.getD i at0).1, (ys.getD i at0).2.1, (ys.getD i at0).2.2.1, (ys.getD i at0).2.2.2)]).length) c_42), (13, .slice B ys.length d), (14, .int .i64 (ys.length : Int)), (15, .int .i64 ((i : Int) + 1))] w_43 [Value.int .i64 (IntKind.i64.wrap ((i : Int) + 1)) = Value.int .i64 ((i : Int) + 1)] (by kernel_rfl) ⟨wr_i64 (by omega) (by omega), trivial⟩ ?_
        refine XL_nil ?_
        refine ⟨(i + 1, A_41, c_42, (zs3 ++ [((ys.getD i at0).1, (ys.getD i at0).2.1, (ys.getD i at0).2.2.1, (ys.getD i at0).2.2.2)])), by kernel_rfl, ?_, ?_⟩
        · have hnx : (zs3 ++ [((ys.getD i at0).1, (ys.getD i at0).2.1, (ys.getD i at0).2.2.1, (ys.getD i at0).2.2.2)]) = (ys.take (i + 1)).filterMap (oF first xs) := by rw [take_map_snoc (oF first xs) (show i < ys.length from by omega), ← he3]; unfold oF; rw [if_neg (fun h_ => c_32 h_.2)]; simp
          obtain rfl : first = true := c_31
          exact ⟨by omega, hnx, hr_44, ((bgo hB_51 hg_46 hl_47 (Nat.le_refl _))).size, (bgo hB_51 hg_46 hl_47 (Nat.le_refl _))⟩
        · (try dsimp only); omega
    · rw [show (first : Bool) = false from by simpa using c_31]
      refine XL_run 5 [] [(0, .slice A xs.length c), (2, .bool false), (7, .slice A3 zs3.length c3), (9, .pointer (some ⟨wl.heap.size, 0, none⟩)), (13, .slice B ys.length d), (14, .int .i64 (ys.length : Int)), (15, .int .i64 (i : Int)), (31, .bool true)] w_27 [] (by kernel_rfl) trivial ?_
      refine XL_nil ?_
      refine X_cond true rfl ?_
      refine X_region ?_
      refine XL_run 3 [(33, .load (.agg #[.string ((ys.getD i at0).1), .int .i64 ((ys.getD i at0).2.1), .int .i64 ((ys.getD i at0).2.2.1), .string ((ys.getD i at0).2.2.2)]))] [(0, .slice A xs.length c), (2, .bool false), (13, .slice B ys.length d), (14, .int .i64 (ys.length : Int)), (15, .int .i64 (i : Int)), (32, .slice A3 zs3.length c3), (34, .slice (some ⟨w_27.heap.size, 0, none⟩) 1 1)] (w_27.alloc (.cells #[.string ((ys.getD i at0).1), .int .i64 ((ys.getD i at0).2.1), .int .i64 ((ys.getD i at0).2.2.1), .string ((ys.getD i at0).2.2.2)] 55)) [LoadsAs Tryd.prog 55 (⟨wl.heap.size, 0, none⟩) (.agg #[.string ((ys.getD i at0).1), .int .i64 ((ys.getD i at0).2.1), .int .i64 ((ys.getD i at0).2.2.1), .string ((ys.getD i at0).2.2.2)]) w_27] (by kernel_rfl) ⟨loadsB rfl rfl (Blk.below hk_18 (bg (bt hb_21 hb_23) hg_28 (hb_21).size)) 0 ⟨by kernel_rfl, by kernel_rfl⟩, trivial⟩ ?_
      obtain ⟨w_52, hw_56, hb_53, hk_54, hz_55⟩ := new_world w_27 #[.string ((ys.getD i at0).1), .int .i64 ((ys.getD i at0).2.1), .int .i64 ((ys.getD i at0).2.2.1), .string ((ys.getD i at0).2.2.2)] 55
      rw [hw_56]
      rw [← hw_56]
      have hB_65 : Below wl.heap.size wl w_20 := (bt (bg hb_12 hg_17 (Nat.le_refl _)) hb_21)
      have hB_66 : Below wl.heap.size wl w_27 := (bg (bt (bt (bg hb_12 hg_17 (Nat.le_refl _)) hb_21) hb_23) hg_28 (hB_65).size)
      have hB_67 : Below w.heap.size w w_27 := (bg (bt (bt (bg (bt HB hb_12) hg_17 hle3) hb_21) hb_23) hg_28 ((bt (bg (bt HB hb_12) hg_17 hle3) hb_21)).size)
      refine XL_append kAttr rfl rfl rfl w.heap.size 55 (.agg #[.string ByteArray.empty, .int .i64 0, .int .i64 0, .string ByteArray.empty]) 48 Tryd.underlying22 info55 rfl (by decide) (by omega) zs3 ((ys.getD i at0).1, (ys.getD i at0).2.1, (ys.getD i at0).2.2.1, (ys.getD i at0).2.2.2) [.string ((ys.getD i at0).1), .int .i64 ((ys.getD i at0).2.1), .int .i64 ((ys.getD i at0).2.2.1), .string ((ys.getD i at0).2.2.2)] (fun _ => False) (by kernel_rfl) (kAttr_M _ _ _ _) (fun _ h => h.elim) (Kd.R_below hr3 hB_66) (hB_67).size (by first | omega | (simp; omega)) ?_
      intro A_57 c_58 w_59 hr_60 hc_61 hg_62 hl_63 ha_64
      refine XL_run 1 [] [(0, .slice A xs.length c), (2, .bool false), (7, .slice A_57 ((zs3 ++ [((ys.getD i at0).1, (ys.getD i at0).2.1, (ys.getD i at0).2.2.1, (ys.getD i at0).2.2.2)]).length) c_58), (13, .slice B ys.length d), (14, .int .i64 (ys.length : Int)), (15, .int .i64 (i : Int))] w_59 [] (by kernel_rfl) trivial ?_
      refine XL_nil ?_
      refine X_region ?_
      refine XL_run 2 [(36, .eq (.int .i64 ((i : Int) + 1)))] [(0, .slice A xs.length c), (2, .bool false), (7, .slice A_57 ((zs3 ++ [((ys.getD i at0).1, (ys.getD i at0).2.1, (ys.getD i at0).2.2.1, (ys.getD i at0).2.2.2)]).length) c_58), (13, .slice B ys.length d), (14, .int .i64 (ys.length : Int)), (15, .int .i64 ((i : Int) + 1))] w_59 [Value.int .i64 (IntKind.i64.wrap ((i : Int) + 1)) = Value.int .i64 ((i : Int) + 1)] (by kernel_rfl) ⟨wr_i64 (by omega) (by omega), trivial⟩ ?_
      refine XL_nil ?_
      refine ⟨(i + 1, A_57, c_58, (zs3 ++ [((ys.getD i at0).1, (ys.getD i at0).2.1, (ys.getD i at0).2.2.1, (ys.getD i at0).2.2.2)])), by kernel_rfl, ?_, ?_⟩
      · have hnx : (zs3 ++ [((ys.getD i at0).1, (ys.getD i at0).2.1, (ys.getD i at0).2.2.1, (ys.getD i at0).2.2.2)]) = (ys.take (i + 1)).filterMap (oF first xs) := by rw [take_map_snoc (oF first xs) (show i < ys.length from by omega), ← he3]; unfold oF; rw [if_neg (fun h_ => c_31 h_.1)]; simp
        obtain rfl : first = false := Bool.eq_false_iff.2 c_31
        exact ⟨by omega, hnx, hr_60, ((bgo hB_67 hg_62 hl_63 (Nat.le_refl _))).size, (bgo hB_67 hg_62 hl_63 (Nat.le_refl _))⟩
      · (try dsimp only); omega
  · refine XL_run 1 [(16, .eq (.bool false))] [(0, .slice A xs.length c), (2, .bool first), (7, .slice A3 zs3.length c3), (13, .slice B ys.length d), (14, .int .i64 (ys.length : Int)), (15, .int .i64 (i : Int)), (16, .bool false)] wl [Value.bool (decide ((i : Int) < (ys.length : Int))) = Value.bool false] (by kernel_rfl) ⟨congrArg Value.bool (decide_eq_false (c_7)), trivial⟩ ?_
    refine XL_nil ?_
    refine X_seq ?_
    refine X_cond false rfl ?_
    refine X_exit ?_
    refine X_seq ?_
    refine X_region ?_
    refine XL_run 2 [] [(6, .slice A3 zs3.length c3)] wl [] (by kernel_rfl) trivial ?_
    refine XL_nil ?_
    refine X_ret ?_
    refine RX.ret_ok (P := Tryd.prog) (fn := Tryd.f35) (N := 38) (R := R_) [.slice A3 zs3.length c3] (by kernel_rfl) (hR_ _ _ ?_)
    have hta : ys.take i = ys := List.take_of_length_le (by omega)
    rw [hta] at he3
    exact ⟨_, _, zs3, he3, by omega, rfl, (RX.Kd.R_len hr3).2, hr3, HB⟩
def ple (x y : Int × Int × ByteArray) : Bool := (x.1 == y.1) && ((x.2.1 == y.2.1) && (x.2.2.toList == y.2.2.toList))
theorem ple_iff (x y : Int × Int × ByteArray) : ple x y = true ↔ x = y := by
  obtain ⟨a, b, c⟩ := x
  obtain ⟨a', b', c'⟩ := y
  simp only [ple, Bool.and_eq_true, beq_iff_eq, Prod.mk.injEq]
  exact ⟨fun ⟨h1, h2, h3⟩ => ⟨h1, h2, bytes_ext h3⟩, fun ⟨h1, h2, h3⟩ => ⟨h1, h2, by rw [h3]⟩⟩
theorem plain_neq (x y : Int × Int × ByteArray) (w : World) : (binOp .neq 43 (.agg #[.int .i64 x.1, .int .i64 x.2.1, .string x.2.2]) (.agg #[.int .i64 y.1, .int .i64 y.2.1, .string y.2.2])).run Tryd.prog w = .ok (.bool (!(ple x y))) w := by
  have h : (Op.equalIn 10000 43 (.agg #[.int .i64 x.1, .int .i64 x.2.1, .string x.2.2]) (.agg #[.int .i64 y.1, .int .i64 y.2.1, .string y.2.2])).run Tryd.prog w = .ok (ple x y) w := by
    refine eqA_of (d := 9999) Tryd.underlying43 (by kernel_rfl) ?_
    exact eqf_cons (a := .int .i64 x.1) (b := .int .i64 y.1) rfl (by kernel_rfl) (by kernel_rfl) (run_equalIn_int _ _ _ _ _ _ _ Tryd.underlying3) (eqf_cons (a := .int .i64 x.2.1) (b := .int .i64 y.2.1) rfl (by kernel_rfl) (by kernel_rfl) (run_equalIn_int _ _ _ _ _ _ _ Tryd.underlying2) (eqf_last (a := .string x.2.2) (b := .string y.2.2) rfl (by kernel_rfl) (by kernel_rfl) (run_equalIn_string _ _ _ _ _ Tryd.underlying9)))
  rw [run_neq_struct]
  show ((Op.equalIn 10000 43 _ _).run Tryd.prog w).andThen _ = _
  rw [h]; rfl
set_option maxHeartbeats 1000000 in
theorem rbetween_any (A B : Option Addr) (c d : Nat) (xs ys : List At) (w : World) (hx : kAttr.C w A xs.length xs) (hy : kAttr.C w B ys.length ys) (gx : Good false xs) (gy : Good false ys) (hyd : ys.length ≤ d) (hn : xs.length + ys.length ≤ 400000000) : Calls Tryd.prog 49 #[.slice A xs.length c, .slice B ys.length d] w fun e w' => ∃ A' c' zs, zs = comp btwF xs ys ∧ zs.length ≤ xs.length + ys.length ∧ e = .returned (.slice A' zs.length c') ∧ zs.length ≤ c' ∧ kAttr.R 55 w' w.heap.size (OkFrom w.heap.size) (.slice A' zs.length c') zs ∧ Below w.heap.size w w' := by
  have hpl : xs.length ≤ 9223372036854775807 := hx.2.1
  have hpl2 : ys.length ≤ 9223372036854775807 := hy.2.1
  refine RX.enter Tryd.func49 rfl 47 rfl [(0, .slice A xs.length c), (1, .slice B ys.length d)] rfl (by kernel_rfl) (fun R_ hR_ => ?_)
  refine X_seq ?_
  refine X_region ?_
  refine XL_run 1 [] [(0, .slice A xs.length c), (1, .slice B ys.length d)] w [] (by kernel_rfl) trivial ?_
  refine XL_nil ?_
  refine X_seq ?_
  refine X_region ?_
  refine XL_run 1 [] [(0, .slice A xs.length c), (1, .slice B ys.length d), (12, .slice (some ⟨w.heap.size, 0, none⟩) 0 0)] (w.alloc (.cells #[] 55)) [] (by kernel_rfl) trivial ?_
  obtain ⟨w_1, hw_5, hb_2, hk_3, hz_4⟩ := new_world w #[] 55
  rw [hw_5]
  refine XL_run 1 [] [(0, .slice A xs.length c), (1, .slice B ys.length d), (5, .slice (some ⟨w.heap.size, 0, none⟩) 0 0)] w_1 [] (by kernel_rfl) trivial ?_
  refine XL_nil ?_
  refine X_seq ?_
  refine X_seq ?_
  refine X_region ?_
  refine XL_run 2 [] [(0, .slice A xs.length c), (1, .slice B ys.length d), (5, .slice (some ⟨w.heap.size, 0, none⟩) 0 0), (13, .slice A xs.length c), (14, .slice B ys.length d)] w_1 [] (by kernel_rfl) trivial ?_
  refine XL_call 46 rfl rfl rfl ent46 [.slice A xs.length c, .slice B ys.length d] (by kernel_rfl) (join_any _ _ _ _ xs ys _ (Kd.C_below hx hb_2) (Kd.C_below hy hb_2) gx.2 gy.2 hyd hn) ?_
  rintro e w_13 ⟨A_6, c_7, zs_8, ez_9, lz_10, rfl, hl_11, hr_12, hb_14⟩; refine ⟨_, rfl, ?_⟩
  refine XL_run 2 [] [(0, .slice A xs.length c), (1, .slice B ys.length d), (5, .slice (some ⟨w.heap.size, 0, none⟩) 0 0), (15, .slice A_6 zs_8.length c_7), (16, .int .i64 (zs_8.length : Int)), (17, .int .i64 0)] w_13 [] (by kernel_rfl) trivial ?_
  refine XL_nil ?_
  refine X_block ?_
  have hr_15 := Kd.R_litB kAttr (W := w) (e := 55) (cs := #[]) [] hk_3 (repsAttr []) (Nat.le_of_ble_eq_true (by kernel_rfl))
  have hne_16 := rrne_new (RX.Kd.R_lt hr_15) (Nat.le_refl _) (RX.Kd.R_ge hr_12)
  refine X_loop (ι := Nat × Option Addr × Nat × List At) (fun ⟨i, A3, c3, zs3⟩ => [(0, .slice A xs.length c), (1, .slice B ys.length d), (5, .slice A3 zs3.length c3), (15, .slice A_6 zs_8.length c_7), (16, .int .i64 (zs_8.length : Int)), (17, .int .i64 (i : Int))]) (fun ⟨i, A3, c3, zs3⟩ wl => i ≤ zs_8.length ∧ zs3 = (zs_8.take i).filterMap (bG xs ys) ∧ kAttr.R 55 wl w.heap.size (OkFrom w.heap.size) (.slice A3 zs3.length c3) zs3 ∧ kAttr.R 55 wl w_1.heap.size (OkFrom w_1.heap.size) (.slice A_6 zs_8.length c_7) zs_8 ∧ (∀ k, A3.map (·.block) = some k → A_6.map (·.block) ≠ some k) ∧ w.heap.size ≤ wl.heap.size ∧ Below w.heap.size w wl) (fun ⟨i, A3, c3, zs3⟩ => zs_8.length - i) (0, (some ⟨w.heap.size, 0, none⟩), 0, []) ⟨by omega, rfl, (Kd.R_below hr_15 hb_14), hr_12, hne_16, ((bt hb_2 hb_14)).size, (bt hb_2 hb_14)⟩ (by kernel_rfl) ?_
  rintro ⟨i, A3, c3, zs3⟩ wl ⟨hi, he3, hr3, hq0, hqn0, hle3, HB⟩
  have hzl : zs3.length ≤ zs_8.length := by rw [he3]; exact Nat.le_trans (List.length_filterMap_le _ _) (by rw [List.length_take]; omega)
  refine X_seq ?_
  refine X_region ?_
  by_cases c_17 : (i : Int) < (zs_8.length : Int)
  · refine XL_run 1 [(18, .eq (.bool true))] [(0, .slice A xs.length c), (1, .slice B ys.length d), (5, .slice A3 zs3.length c3), (15, .slice A_6 zs_8.length c_7), (16, .int .i64 (zs_8.length : Int)), (17, .int .i64 (i : Int)), (18, .bool true)] wl [Value.bool (decide ((i : Int) < (zs_8.length : Int))) = Value.bool true] (by kernel_rfl) ⟨congrArg Value.bool (decide_eq_true (c_17)), trivial⟩ ?_
    refine XL_nil ?_
    refine X_seq ?_
    refine X_cond true rfl ?_
    refine X_skip ?_
    refine X_seq ?_
    refine X_block ?_
    refine X_seq ?_
    refine X_region ?_
    obtain ⟨ad_18, ha_19, hc_20⟩ := Kd.atAttr (Kd.R_C hq0) (i := (i : Int)) (by omega) (by omega)
    replace hc_20 : CellsAt wl (ad_18.add ((i : Int).toNat * 4)) [.string ((zs_8.getD i at0).1), .int .i64 ((zs_8.getD i at0).2.1), .int .i64 ((zs_8.getD i at0).2.2.1), .string ((zs_8.getD i at0).2.2.2)] := hc_20
    refine XL_run 3 [(19, .idx ad_18), (20, .load (.agg #[.string ((zs_8.getD i at0).1), .int .i64 ((zs_8.getD i at0).2.1), .int .i64 ((zs_8.getD i at0).2.2.1), .string ((zs_8.getD i at0).2.2.2)]))] [(0, .slice A xs.length c), (1, .slice B ys.length d), (5, .slice A3 zs3.length c3), (7, .pointer (some ⟨wl.heap.size, 0, none⟩)), (15, .slice A_6 zs_8.length c_7), (16, .int .i64 (zs_8.length : Int)), (17, .int .i64 (i : Int)), (20, .agg #[.string ((zs_8.getD i at0).1), .int .i64 ((zs_8.getD i at0).2.1), .int .i64 ((zs_8.getD i at0).2.2.1), .string ((zs_8.getD i at0).2.2.2)])] (wl.alloc (.cells #[.string ByteArray.empty, .int .i64 0, .int .i64 0, .string ByteArray.empty] 55)) [A_6 = some ad_18, (0 : Int) ≤ (i : Int), (i : Int) < (zs_8.length : Int), LoadsAs Tryd.prog 55 (ad_18.add ((i : Int).toNat * 4)) (.agg #[.string ((zs_8.getD i at0).1), .int .i64 ((zs_8.getD i at0).2.1), .int .i64 ((zs_8.getD i at0).2.2.1), .string ((zs_8.getD i at0).2.2.2)]) wl] (by kernel_rfl) ⟨ha_19, (by omega), (by omega), loadsE rfl rfl hc_20 0 ⟨by kernel_rfl, by kernel_rfl⟩, trivial⟩ ?_
    obtain ⟨w_21, hw_25, hb_22, hk_23, hz_24⟩ := new_world wl #[.string ByteArray.empty, .int .i64 0, .int .i64 0, .string ByteArray.empty] 55
    rw [hw_25]
    refine XL_store (v := .agg #[.string ((zs_8.getD i at0).1), .int .i64 ((zs_8.getD i at0).2.1), .int .i64 ((zs_8.getD i at0).2.2.1), .string ((zs_8.getD i at0).2.2.2)]) rfl rfl rfl (by kernel_rfl) hk_23 0 [.string ((zs_8.getD i at0).1), .int .i64 ((zs_8.getD i at0).2.1), .int .i64 ((zs_8.getD i at0).2.2.1), .string ((zs_8.getD i at0).2.2.2)] #[.string ((zs_8.getD i at0).1), .int .i64 ((zs_8.getD i at0).2.1), .int .i64 ((zs_8.getD i at0).2.2.1), .string ((zs_8.getD i at0).2.2.2)] ⟨by kernel_rfl, rfl, by kernel_rfl⟩ ⟨by kernel_rfl, by kernel_rfl⟩ (Nat.le_of_ble_eq_true (by kernel_rfl)) (fun w_26 hg_27 hk_28 hz_29 => ?_)
    refine XL_nil ?_
    refine X_seq ?_
    refine X_region ?_
    refine XL_run 3 [(24, .load (.string ((zs_8.getD i at0).1)))] [(0, .slice A xs.length c), (1, .slice B ys.length d), (5, .slice A3 zs3.length c3), (7, .pointer (some ⟨wl.heap.size, 0, none⟩)), (15, .slice A_6 zs_8.length c_7), (16, .int .i64 (zs_8.length : Int)), (17, .int .i64 (i : Int)), (22, .slice A xs.length c), (24, .string ((zs_8.getD i at0).1))] w_26 [LoadsAs Tryd.prog 9 (⟨wl.heap.size, 0, none⟩) (.string ((zs_8.getD i at0).1)) w_26] (by kernel_rfl) ⟨loads1 rfl (Blk.cell hk_28 0 _ rfl), trivial⟩ ?_
    refine XL_call 30 rfl rfl rfl ent30 [.slice A xs.length c, .string ((zs_8.getD i at0).1)] (by kernel_rfl) (has_any _ _ xs ((zs_8.getD i at0).1) _ (Kd.C_below hx (bg (bt HB hb_22) hg_27 hle3))) ?_
    rintro e w_30 ⟨rfl, hb_31⟩; refine ⟨_, rfl, ?_⟩
    refine XL_run 4 [] [(0, .slice A xs.length c), (1, .slice B ys.length d), (5, .slice A3 zs3.length c3), (7, .pointer (some ⟨wl.heap.size, 0, none⟩)), (8, .pointer (some ⟨w_30.heap.size, 0, none⟩)), (15, .slice A_6 zs_8.length c_7), (16, .int .i64 (zs_8.length : Int)), (17, .int .i64 (i : Int)), (26, .agg #[.int .i64 ((gv xs ((zs_8.getD i at0).1)).1), .int .i64 ((gv xs ((zs_8.getD i at0).1)).2.1), .string ((gv xs ((zs_8.getD i at0).1)).2.2)]), (27, .bool ((get xs ((zs_8.getD i at0).1)).isSome))] (w_30.alloc (.cells #[.int .i64 0, .int .i64 0, .string ByteArray.empty] 43)) [] (by kernel_rfl) trivial ?_
    obtain ⟨w_32, hw_36, hb_33, hk_34, hz_35⟩ := new_world w_30 #[.int .i64 0, .int .i64 0, .string ByteArray.empty] 43
    rw [hw_36]
    refine XL_store (v := .agg #[.int .i64 ((gv xs ((zs_8.getD i at0).1)).1), .int .i64 ((gv xs ((zs_8.getD i at0).1)).2.1), .string ((gv xs ((zs_8.getD i at0).1)).2.2)]) rfl rfl rfl (by kernel_rfl) hk_34 0 [.int .i64 ((gv xs ((zs_8.getD i at0).1)).1), .int .i64 ((gv xs ((zs_8.getD i at0).1)).2.1), .string ((gv xs ((zs_8.getD i at0).1)).2.2)] #[.int .i64 ((gv xs ((zs_8.getD i at0).1)).1), .int .i64 ((gv xs ((zs_8.getD i at0).1)).2.1), .string ((gv xs ((zs_8.getD i at0).1)).2.2)] ⟨by kernel_rfl, rfl, by kernel_rfl⟩ ⟨by kernel_rfl, by kernel_rfl⟩ (Nat.le_of_ble_eq_true (by kernel_rfl)) (fun w_37 hg_38 hk_39 hz_40 => ?_)
    refine XL_run 1 [] [(0, .slice A xs.length c), (1, .slice B ys.length d), (5, .slice A3 zs3.length c3), (7, .pointer (some ⟨wl.heap.size, 0, none⟩)), (8, .pointer (some ⟨w_30.heap.size, 0, none⟩)), (15, .slice A_6 zs_8.length c_7), (16, .int .i64 (zs_8.length : Int)), (17, .int .i64 (i : Int))] w_37 [] (by kernel_rfl) trivial ?_
    refine XL_nil ?_
    refine X_seq ?_
    refine X_region ?_
    refine XL_run 3 [(31, .load (.string ((zs_8.getD i at0).1)))] [(0, .slice A xs.length c), (1, .slice B ys.length d), (5, .slice A3 zs3.length c3), (7, .pointer (some ⟨wl.heap.size, 0, none⟩)), (8, .pointer (some ⟨w_30.heap.size, 0, none⟩)), (15, .slice A_6 zs_8.length c_7), (16, .int .i64 (zs_8.length : Int)), (17, .int .i64 (i : Int)), (29, .slice B ys.length d), (31, .string ((zs_8.getD i at0).1))] w_37 [LoadsAs Tryd.prog 9 (⟨wl.heap.size, 0, none⟩) (.string ((zs_8.getD i at0).1)) w_37] (by kernel_rfl) ⟨loads1 rfl (Blk.cell (Blk.below hk_28 (bg (bt hb_31 hb_33) hg_38 (hb_31).size)) 0 _ rfl), trivial⟩ ?_
    have hB_41 : Below w.heap.size w w_37 := (bg (bt (bt (bg (bt HB hb_22) hg_27 hle3) hb_31) hb_33) hg_38 ((bt (bg (bt HB hb_22) hg_27 hle3) hb_31)).size)
    refine XL_call 30 rfl rfl rfl ent30 [.slice B ys.length d, .string ((zs_8.getD i at0).1)] (by kernel_rfl) (has_any _ _ ys ((zs_8.getD i at0).1) _ (Kd.C_below hy hB_41)) ?_
    rintro e w_42 ⟨rfl, hb_43⟩; refine ⟨_, rfl, ?_⟩
    refine XL_run 4 [] [(0, .slice A xs.length c), (1, .slice B ys.length d), (5, .slice A3 zs3.length c3), (7, .pointer (some ⟨wl.heap.size, 0, none⟩)), (8, .pointer (some ⟨w_30.heap.size, 0, none⟩)), (10, .pointer (some ⟨w_42.heap.size, 0, none⟩)), (15, .slice A_6 zs_8.length c_7), (16, .int .i64 (zs_8.length : Int)), (17, .int .i64 (i : Int)), (33, .agg #[.int .i64 ((gv ys ((zs_8.getD i at0).1)).1), .int .i64 ((gv ys ((zs_8.getD i at0).1)).2.1), .string ((gv ys ((zs_8.getD i at0).1)).2.2)]), (34, .bool ((get ys ((zs_8.getD i at0).1)).isSome))] (w_42.alloc (.cells #[.int .i64 0, .int .i64 0, .string ByteArray.empty] 43)) [] (by kernel_rfl) trivial ?_
    obtain ⟨w_44, hw_48, hb_45, hk_46, hz_47⟩ := new_world w_42 #[.int .i64 0, .int .i64 0, .string ByteArray.empty] 43
    rw [hw_48]
    refine XL_store (v := .agg #[.int .i64 ((gv ys ((zs_8.getD i at0).1)).1), .int .i64 ((gv ys ((zs_8.getD i at0).1)).2.1), .string ((gv ys ((zs_8.getD i at0).1)).2.2)]) rfl rfl rfl (by kernel_rfl) hk_46 0 [.int .i64 ((gv ys ((zs_8.getD i at0).1)).1), .int .i64 ((gv ys ((zs_8.getD i at0).1)).2.1), .string ((gv ys ((zs_8.getD i at0).1)).2.2)] #[.int .i64 ((gv ys ((zs_8.getD i at0).1)).1), .int .i64 ((gv ys ((zs_8.getD i at0).1)).2.1), .string ((gv ys ((zs_8.getD i at0).1)).2.2)] ⟨by kernel_rfl, rfl, by kernel_rfl⟩ ⟨by kernel_rfl, by kernel_rfl⟩ (Nat.le_of_ble_eq_true (by kernel_rfl)) (fun w_49 hg_50 hk_51 hz_52 => ?_)
    refine XL_run 1 [] [(0, .slice A xs.length c), (1, .slice B ys.length d), (5, .slice A3 zs3.length c3), (7, .pointer (some ⟨wl.heap.size, 0, none⟩)), (8, .pointer (some ⟨w_30.heap.size, 0, none⟩)), (10, .pointer (some ⟨w_42.heap.size, 0, none⟩)), (15, .slice A_6 zs_8.length c_7), (16, .int .i64 (zs_8.length : Int)), (17, .int .i64 (i : Int))] w_49 [] (by kernel_rfl) trivial ?_
    refine XL_nil ?_
    refine X_seq ?_
    refine X_region ?_
    refine XL_run 2 [(35, .load (.agg #[.int .i64 ((gv xs ((zs_8.getD i at0).1)).1), .int .i64 ((gv xs ((zs_8.getD i at0).1)).2.1), .string ((gv xs ((zs_8.getD i at0).1)).2.2)])), (36, .load (.agg #[.int .i64 ((gv ys ((zs_8.getD i at0).1)).1), .int .i64 ((gv ys ((zs_8.getD i at0).1)).2.1), .string ((gv ys ((zs_8.getD i at0).1)).2.2)]))] [(0, .slice A xs.length c), (1, .slice B ys.length d), (5, .slice A3 zs3.length c3), (7, .pointer (some ⟨wl.heap.size, 0, none⟩)), (10, .pointer (some ⟨w_42.heap.size, 0, none⟩)), (15, .slice A_6 zs_8.length c_7), (16, .int .i64 (zs_8.length : Int)), (17, .int .i64 (i : Int)), (35, .agg #[.int .i64 ((gv xs ((zs_8.getD i at0).1)).1), .int .i64 ((gv xs ((zs_8.getD i at0).1)).2.1), .string ((gv xs ((zs_8.getD i at0).1)).2.2)]), (36, .agg #[.int .i64 ((gv ys ((zs_8.getD i at0).1)).1), .int .i64 ((gv ys ((zs_8.getD i at0).1)).2.1), .string ((gv ys ((zs_8.getD i at0).1)).2.2)])] w_49 [LoadsAs Tryd.prog 43 (⟨w_30.heap.size, 0, none⟩) (.agg #[.int .i64 ((gv xs ((zs_8.getD i at0).1)).1), .int .i64 ((gv xs ((zs_8.getD i at0).1)).2.1), .string ((gv xs ((zs_8.getD i at0).1)).2.2)]) w_49, LoadsAs Tryd.prog 43 (⟨w_42.heap.size, 0, none⟩) (.agg #[.int .i64 ((gv ys ((zs_8.getD i at0).1)).1), .int .i64 ((gv ys ((zs_8.getD i at0).1)).2.1), .string ((gv ys ((zs_8.getD i at0).1)).2.2)]) w_49] (by kernel_rfl) ⟨loadsB rfl rfl (Blk.below hk_39 (bg (bt hb_43 hb_45) hg_50 (hb_43).size)) 0 ⟨by kernel_rfl, by kernel_rfl⟩, loadsB rfl rfl hk_51 0 ⟨by kernel_rfl, by kernel_rfl⟩, trivial⟩ ?_
    by_cases c_53 : (gv xs ((zs_8.getD i at0).1)) = (gv ys ((zs_8.getD i at0).1))
    · refine XL_run 1 [(37, .as (.bool false))] [(0, .slice A xs.length c), (1, .slice B ys.length d), (5, .slice A3 zs3.length c3), (7, .pointer (some ⟨wl.heap.size, 0, none⟩)), (10, .pointer (some ⟨w_42.heap.size, 0, none⟩)), (15, .slice A_6 zs_8.length c_7), (16, .int .i64 (zs_8.length : Int)), (17, .int .i64 (i : Int)), (37, .bool false)] w_49 [RunsAs Tryd.prog [(35, .agg #[.int .i64 ((gv xs ((zs_8.getD i at0).1)).1), .int .i64 ((gv xs ((zs_8.getD i at0).1)).2.1), .string ((gv xs ((zs_8.getD i at0).1)).2.2)]), (36, .agg #[.int .i64 ((gv ys ((zs_8.getD i at0).1)).1), .int .i64 ((gv ys ((zs_8.getD i at0).1)).2.1), .string ((gv ys ((zs_8.getD i at0).1)).2.2)])] (Go.Op.binOp Go.BinOp.neq 43 (Go.Operand.tmp 35) (Go.Operand.tmp 36) 43) 4 (.bool false) w_49] (by kernel_rfl) ⟨runs_bin rfl rfl (run_eqGuard_agg _ _ _ _ _ _ _ (by kernel_rfl)) (by have h := plain_neq (gv xs ((zs_8.getD i at0).1)) (gv ys ((zs_8.getD i at0).1)) w_49; rw [show ple (gv xs ((zs_8.getD i at0).1)) (gv ys ((zs_8.getD i at0).1)) = true from (ple_iff _ _).2 c_53] at h; exact h), trivial⟩ ?_
      refine XL_nil ?_
      refine X_cond false rfl ?_
      refine X_skip ?_
      refine X_region ?_
      refine XL_run 2 [(45, .eq (.int .i64 ((i : Int) + 1)))] [(0, .slice A xs.length c), (1, .slice B ys.length d), (5, .slice A3 zs3.length c3), (15, .slice A_6 zs_8.length c_7), (16, .int .i64 (zs_8.length : Int)), (17, .int .i64 ((i : Int) + 1))] w_49 [Value.int .i64 (IntKind.i64.wrap ((i : Int) + 1)) = Value.int .i64 ((i : Int) + 1)] (by kernel_rfl) ⟨wr_i64 (by omega) (by omega), trivial⟩ ?_
      refine XL_nil ?_
      have hB_54 : Below wl.heap.size wl w_30 := (bt (bg hb_22 hg_27 (Nat.le_refl _)) hb_31)
      have hB_55 : Below wl.heap.size wl w_42 := (bt (bg (bt hB_54 hb_33) hg_38 (hB_54).size) hb_43)
      have hB_56 : Below wl.heap.size wl w_49 := (bg (bt (bt (bg (bt (bt (bg hb_22 hg_27 (Nat.le_refl _)) hb_31) hb_33) hg_38 (hB_54).size) hb_43) hb_45) hg_50 (hB_55).size)
      have hB_57 : Below w.heap.size w w_49 := (bg (bt (bt hB_41 hb_43) hb_45) hg_50 ((bt hB_41 hb_43)).size)
      refine ⟨(i + 1, A3, c3, zs3), by kernel_rfl, ?_, ?_⟩
      · have hnx : zs3 = (zs_8.take (i + 1)).filterMap (bG xs ys) := by rw [take_map_snoc (bG xs ys) (show i < zs_8.length from by omega), ← he3]; unfold bG; rw [if_pos c_53]; simp
        exact ⟨by omega, hnx, (Kd.R_below hr3 hB_56), (Kd.R_below hq0 hB_56), hqn0, (hB_57).size, hB_57⟩
      · (try dsimp only); omega
    · refine XL_run 1 [(37, .as (.bool true))] [(0, .slice A xs.length c), (1, .slice B ys.length d), (5, .slice A3 zs3.length c3), (7, .pointer (some ⟨wl.heap.size, 0, none⟩)), (10, .pointer (some ⟨w_42.heap.size, 0, none⟩)), (15, .slice A_6 zs_8.length c_7), (16, .int .i64 (zs_8.length : Int)), (17, .int .i64 (i : Int)), (37, .bool true)] w_49 [RunsAs Tryd.prog [(35, .agg #[.int .i64 ((gv xs ((zs_8.getD i at0).1)).1), .int .i64 ((gv xs ((zs_8.getD i at0).1)).2.1), .string ((gv xs ((zs_8.getD i at0).1)).2.2)]), (36, .agg #[.int .i64 ((gv ys ((zs_8.getD i at0).1)).1), .int .i64 ((gv ys ((zs_8.getD i at0).1)).2.1), .string ((gv ys ((zs_8.getD i at0).1)).2.2)])] (Go.Op.binOp Go.BinOp.neq 43 (Go.Operand.tmp 35) (Go.Operand.tmp 36) 43) 4 (.bool true) w_49] (by kernel_rfl) ⟨runs_bin rfl rfl (run_eqGuard_agg _ _ _ _ _ _ _ (by kernel_rfl)) (by have h := plain_neq (gv xs ((zs_8.getD i at0).1)) (gv ys ((zs_8.getD i at0).1)) w_49; rw [show ple (gv xs ((zs_8.getD i at0).1)) (gv ys ((zs_8.getD i at0).1)) = false from Bool.eq_false_iff.2 (fun k => c_53 ((ple_iff _ _).1 k))] at h; exact h), trivial⟩ ?_
      refine XL_nil ?_
      refine X_cond true rfl ?_
      refine X_region ?_
      have hB_58 : Below w_26.heap.size w_26 w_42 := (bt (bg (bt hb_31 hb_33) hg_38 (hb_31).size) hb_43)
      have hB_59 : Below w_26.heap.size w_26 w_49 := (bg (bt (bt (bg (bt hb_31 hb_33) hg_38 (hb_31).size) hb_43) hb_45) hg_50 (hB_58).size)
      refine XL_run 6 [(40, .load (.string ((zs_8.getD i at0).1))), (41, .load (.agg #[.int .i64 ((gv ys ((zs_8.getD i at0).1)).1), .int .i64 ((gv ys ((zs_8.getD i at0).1)).2.1), .string ((gv ys ((zs_8.getD i at0).1)).2.2)]))] [(0, .slice A xs.length c), (1, .slice B ys.length d), (15, .slice A_6 zs_8.length c_7), (16, .int .i64 (zs_8.length : Int)), (17, .int .i64 (i : Int)), (38, .slice A3 zs3.length c3), (43, .slice (some ⟨w_49.heap.size, 0, none⟩) 1 1)] (w_49.alloc (.cells #[.string ((zs_8.getD i at0).1), .int .i64 ((gv ys ((zs_8.getD i at0).1)).1), .int .i64 ((gv ys ((zs_8.getD i at0).1)).2.1), .string ((gv ys ((zs_8.getD i at0).1)).2.2)] 55)) [LoadsAs Tryd.prog 9 (⟨wl.heap.size, 0, none⟩) (.string ((zs_8.getD i at0).1)) w_49, LoadsAs Tryd.prog 43 (⟨w_42.heap.size, 0, none⟩) (.agg #[.int .i64 ((gv ys ((zs_8.getD i at0).1)).1), .int .i64 ((gv ys ((zs_8.getD i at0).1)).2.1), .string ((gv ys ((zs_8.getD i at0).1)).2.2)]) w_49] (by kernel_rfl) ⟨loads1 rfl (Blk.cell (Blk.below hk_28 hB_59) 0 _ rfl), loadsB rfl rfl hk_51 0 ⟨by kernel_rfl, by kernel_rfl⟩, trivial⟩ ?_
      obtain ⟨w_60, hw_64, hb_61, hk_62, hz_63⟩ := new_world w_49 #[.string ((zs_8.getD i at0).1), .int .i64 ((gv ys ((zs_8.getD i at0).1)).1), .int .i64 ((gv ys ((zs_8.getD i at0).1)).2.1), .string ((gv ys ((zs_8.getD i at0).1)).2.2)] 55
      rw [hw_64]
      rw [← hw_64]
      have hB_73 : Below wl.heap.size wl w_30 := (bt (bg hb_22 hg_27 (Nat.le_refl _)) hb_31)
      have hB_74 : Below wl.heap.size wl w_42 := (bt (bg (bt hB_73 hb_33) hg_38 (hB_73).size) hb_43)
      have hB_75 : Below wl.heap.size wl w_49 := (bg (bt (bt (bg (bt (bt (bg hb_22 hg_27 (Nat.le_refl _)) hb_31) hb_33) hg_38 (hB_73).size) hb_43) hb_45) hg_50 (hB_74).size)
      have hB_76 : Below w.heap.size w w_49 := (bg (bt (bt hB_41 hb_43) hb_45) hg_50 ((bt hB_41 hb_43)).size)
      refine XL_append kAttr rfl rfl rfl w.heap.size 55 (.agg #[.string ByteArray.empty, .int .i64 0, .int .i64 0, .string ByteArray.empty]) 48 Tryd.underlying22 info55 rfl (by decide) (by omega) zs3 ((zs_8.getD i at0).1, (gv ys ((zs_8.getD i at0).1)).1, (gv ys ((zs_8.getD i at0).1)).2.1, (gv ys ((zs_8.getD i at0).1)).2.2) [.string ((zs_8.getD i at0).1), .int .i64 ((gv ys ((zs_8.getD i at0).1)).1), .int .i64 ((gv ys ((zs_8.getD i at0).1)).2.1), .string ((gv ys ((zs_8.getD i at0).1)).2.2)] (fun _ => False) (by kernel_rfl) (kAttr_M _ _ _ _) (fun _ h => h.elim) (Kd.R_below hr3 hB_75) (hB_76).size (by first | omega | (simp; omega)) ?_
      intro A_65 c_66 w_67 hr_68 hc_69 hg_70 hl_71 ha_72
      have hr_77 := RX.Kd.R_flat rfl (Kd.R_below hq0 hB_75) hg_70 hqn0
      have hne_78 := rrne_step hqn0 ha_72 (RX.Kd.R_lt (Kd.R_below hq0 hB_75))
      refine XL_run 1 [] [(0, .slice A xs.length c), (1, .slice B ys.length d), (5, .slice A_65 ((zs3 ++ [((zs_8.getD i at0).1, (gv ys ((zs_8.getD i at0).1)).1, (gv ys ((zs_8.getD i at0).1)).2.1, (gv ys ((zs_8.getD i at0).1)).2.2)]).length) c_66), (15, .slice A_6 zs_8.length c_7), (16, .int .i64 (zs_8.length : Int)), (17, .int .i64 (i : Int))] w_67 [] (by kernel_rfl) trivial ?_
      refine XL_nil ?_
      refine X_region ?_
      refine XL_run 2 [(45, .eq (.int .i64 ((i : Int) + 1)))] [(0, .slice A xs.length c), (1, .slice B ys.length d), (5, .slice A_65 ((zs3 ++ [((zs_8.getD i at0).1, (gv ys ((zs_8.getD i at0).1)).1, (gv ys ((zs_8.getD i at0).1)).2.1, (gv ys ((zs_8.getD i at0).1)).2.2)]).length) c_66), (15, .slice A_6 zs_8.length c_7), (16, .int .i64 (zs_8.length : Int)), (17, .int .i64 ((i : Int) + 1))] w_67 [Value.int .i64 (IntKind.i64.wrap ((i : Int) + 1)) = Value.int .i64 ((i : Int) + 1)] (by kernel_rfl) ⟨wr_i64 (by omega) (by omega), trivial⟩ ?_
      refine XL_nil ?_
      refine ⟨(i + 1, A_65, c_66, (zs3 ++ [((zs_8.getD i at0).1, (gv ys ((zs_8.getD i at0).1)).1, (gv ys ((zs_8.getD i at0).1)).2.1, (gv ys ((zs_8.getD i at0).1)).2.2)])), by kernel_rfl, ?_, ?_⟩
      · have hnx : (zs3 ++ [((zs_8.getD i at0).1, (gv ys ((zs_8.getD i at0).1)).1, (gv ys ((zs_8.getD i at0).1)).2.1, (gv ys ((zs_8.getD i at0).1)).2.2)]) = (zs_8.take (i + 1)).filterMap (bG xs ys) := by rw [take_map_snoc (bG xs ys) (show i < zs_8.length from by omega), ← he3]; unfold bG; rw [if_neg c_53]; simp
        exact ⟨by omega, hnx, hr_68, hr_77, hne_78, ((bgo hB_76 hg_70 hl_71 (Nat.le_refl _))).size, (bgo hB_76 hg_70 hl_71 (Nat.le_refl _))⟩
      · (try dsimp only); omega
  · refine XL_run 1 [(18, .eq (.bool false))] [(0, .slice A xs.length c), (1, .slice B ys.length d), (5, .slice A3 zs3.length c3), (15, .slice A_6 zs_8.length c_7), (16, .int .i64 (zs_8.length : Int)), (17, .int .i64 (i : Int)), (18, .bool false)] wl [Value.bool (decide ((i : Int) < (zs_8.length : Int))) = Value.bool false] (by kernel_rfl) ⟨congrArg Value.bool (decide_eq_false (c_17)), trivial⟩ ?_
    refine XL_nil ?_
    refine X_seq ?_
    refine X_cond false rfl ?_
    refine X_exit ?_
    refine X_seq ?_
    refine X_region ?_
    refine XL_run 2 [] [(4, .slice A3 zs3.length c3)] wl [] (by kernel_rfl) trivial ?_
    refine XL_nil ?_
    refine X_ret ?_
    refine RX.ret_ok (P := Tryd.prog) (fn := Tryd.f49) (N := 47) (R := R_) [.slice A3 zs3.length c3] (by kernel_rfl) (hR_ _ _ ?_)
    have hta : zs_8.take i = zs_8 := List.take_of_length_le (by omega)
    rw [hta] at he3
    have hz2 : zs3 = comp btwF xs ys := by rw [he3, ez_9, between_eq gx gy]
    exact ⟨_, _, zs3, hz2, by rw [hz2]; exact comp_le _ _ _, rfl, (RX.Kd.R_len hr3).2, hr3, HB⟩
end Go.Proofs.YtdkdajofppjnaaaDoor
