import Derived.Test.YtkehomiogkoomaaDoorRef3
import Derived.Test.YtkehomiogkoomaaDoorOp
/- What vellumref03.Patched answers. Conditions: sizes, lengths. -/
set_option linter.unusedVariables false
set_option linter.unusedSimpArgs false
set_option maxRecDepth 100000
namespace Go.Proofs.YtkehomiogkoomaaDoor
open Go Go.RowKit Go.Proofs.YtkehomiogkoomaaDoorW.PrintWords RX
theorem ent112 : Ent Tryd.prog 112 := ent_of Tryd.func112 (by kernel_rfl) rfl
theorem ent113 : Ent Tryd.prog 113 := ent_of Tryd.func113 (by kernel_rfl) rfl
theorem ent37 : Ent Tryd.prog 37 := ent_of Tryd.func37 (by kernel_rfl) rfl
theorem has_any (A : Option Addr) (c : Nat) (xs : List At) (k : ByteArray) (w : World) (hx : kAttr.C w A xs.length xs) :
  Calls Tryd.prog 37 #[.slice A xs.length c, .string k] w fun e w' => e = .returned (.tuple #[.agg #[.int .i64 (gv xs k).1, .int .i64 (gv xs k).2.1, .string (gv xs k).2.2], .bool (get xs k).isSome]) ∧ Below w.heap.size w w' := by
 have hpl : xs.length ≤ 9223372036854775807 := hx.2.1
 refine RX.enter Tryd.func37 rfl 22 rfl [(0, .slice A xs.length c), (1, .string k)] rfl (by kernel_rfl) (fun R_ hR_ => ?_)
 refine sq (rg (xwe 1 [] [(0, .slice A xs.length c), (1, .string k), (4, pw w.heap.size 0)] (w.alloc (.cells #[.int .i64 0, .int .i64 0, .string ByteArray.empty] 44)) [] trivial ?_))
 obtain ⟨w_1, hw_5, hb_2, hk_3, hz_4⟩ := new_world w #[.int .i64 0, .int .i64 0, .string ByteArray.empty] 44
 rw [hw_5]
 refine xr0 1 [] [] ?_
 refine nl (sq (sq (rg (xr0 3 [(8, .slice A xs.length c), (9, .int .i64 (xs.length : Int)), (10, .int .i64 0)] [0] ?_))))
 refine nl (bk (X_loop (ι := Nat) (fun i => [(1, .string k), (4, .pointer (some ⟨w.heap.size, 0, none⟩)), (8, .slice A xs.length c), (9, .int .i64 (xs.length : Int)), (10, .int .i64 (i : Int))]) (fun i wl => i ≤ xs.length ∧ (∀ j, j < i → ¬ (xs.getD j at0).1 = k) ∧ Below w_1.heap.size w_1 wl) (fun i => xs.length - i) 0 ⟨by omega, fun j hj => by omega, Below.refl _ _⟩ (by kernel_rfl) ?_))
 rintro i wl ⟨hi, hq, HB⟩
 refine sq (X_region ?_)
 by_cases c_6 : (i : Int) < (xs.length : Int)
 ·refine xr 1 [(11, .eq (.bool true))] [(11, .bool true)] [] [Value.bool (decide ((i : Int) < (xs.length : Int))) = Value.bool true] ⟨congrArg Value.bool (decide_eq_true (c_6)), trivial⟩ ?_
  refine nl (sq (ct (sk (sq (bk (sq (X_region ?_)))))))
  obtain ⟨ad_7, ha_8, hc_9⟩ := Kd.atAttr (Kd.C_below hx (bt hb_2 HB)) (i := (i : Int)) (by omega) (by omega)
  replace hc_9 : CellsAt wl (ad_7.add ((i : Int).toNat * 4)) [.string ((xs.getD i at0).1), .int .i64 ((xs.getD i at0).2.1), .int .i64 ((xs.getD i at0).2.2.1), .string ((xs.getD i at0).2.2.2)] := hc_9
  refine xw 3 [(12, .idx ad_7), (13, .load (.agg #[.string ((xs.getD i at0).1), .int .i64 ((xs.getD i at0).2.1), .int .i64 ((xs.getD i at0).2.2.1), .string ((xs.getD i at0).2.2.2)]))] [(7, pw wl.heap.size 0), (13, .agg #[.string ((xs.getD i at0).1), .int .i64 ((xs.getD i at0).2.1), .int .i64 ((xs.getD i at0).2.2.1), .string ((xs.getD i at0).2.2.2)])] [11] (wl.alloc (.cells #[.string ByteArray.empty, .int .i64 0, .int .i64 0, .string ByteArray.empty] 71)) [A = some ad_7, (0 : Int) ≤ (i : Int), (i : Int) < (xs.length : Int), LoadsAs Tryd.prog 71 (ad_7.add ((i : Int).toNat * 4)) (.agg #[.string ((xs.getD i at0).1), .int .i64 ((xs.getD i at0).2.1), .int .i64 ((xs.getD i at0).2.2.1), .string ((xs.getD i at0).2.2.2)]) wl] ⟨ha_8, (by omega), (by omega), loadsE rfl rfl hc_9 0 ⟨by kernel_rfl, by kernel_rfl⟩, trivial⟩ ?_
  obtain ⟨w_10, hw_14, hb_11, hk_12, hz_13⟩ := new_world wl #[.string ByteArray.empty, .int .i64 0, .int .i64 0, .string ByteArray.empty] 71
  rw [hw_14]
  refine xst (.agg #[.string ((xs.getD i at0).1), .int .i64 ((xs.getD i at0).2.1), .int .i64 ((xs.getD i at0).2.2.1), .string ((xs.getD i at0).2.2.2)]) hk_12 0 #[.string ((xs.getD i at0).1), .int .i64 ((xs.getD i at0).2.1), .int .i64 ((xs.getD i at0).2.2.1), .string ((xs.getD i at0).2.2.2)] (fun w_15 hg_16 hk_17 hz_18 => ?_)
  refine nl (sq (rg (xr 3 [(15, .load (.string ((xs.getD i at0).1)))] [(15, .string ((xs.getD i at0).1)), (16, .string k)] [13] [LoadsAs Tryd.prog 9 (⟨wl.heap.size, 0, none⟩) (.string ((xs.getD i at0).1)) w_15] ⟨loads1 rfl (Blk.cell hk_17 0 _ rfl), trivial⟩ ?_)))
  by_cases c_19 : ((xs.getD i at0).1) = k
  ·refine xr 1 [(17, .eq (.bool true))] [(17, .bool true)] [15, 16] [Value.bool (((xs.getD i at0).1).toList == k.toList) = Value.bool true] ⟨congrArg Value.bool (strEqT (c_19)), trivial⟩ ?_
   refine nl (ct (sq (rg (xr 2 [(19, .load (.agg #[.int .i64 ((xs.getD i at0).2.1), .int .i64 ((xs.getD i at0).2.2.1), .string ((xs.getD i at0).2.2.2)]))] [(19, .agg #[.int .i64 ((xs.getD i at0).2.1), .int .i64 ((xs.getD i at0).2.2.1), .string ((xs.getD i at0).2.2.2)])] [1, 7, 8, 9, 10, 17] [LoadsAs Tryd.prog 44 (⟨wl.heap.size, 1, none⟩) (.agg #[.int .i64 ((xs.getD i at0).2.1), .int .i64 ((xs.getD i at0).2.2.1), .string ((xs.getD i at0).2.2.2)]) w_15] ⟨loadsB rfl rfl hk_17 1 ⟨by kernel_rfl, by kernel_rfl⟩, trivial⟩ ?_))))
   refine xst (.agg #[.int .i64 ((xs.getD i at0).2.1), .int .i64 ((xs.getD i at0).2.2.1), .string ((xs.getD i at0).2.2.2)]) (Blk.below hk_3 (bg (bt HB hb_11) hg_16 (HB).size)) 0 #[.int .i64 ((xs.getD i at0).2.1), .int .i64 ((xs.getD i at0).2.2.1), .string ((xs.getD i at0).2.2.2)] (fun w_20 hg_21 hk_22 hz_23 => ?_)
   have hne_24 : wl.heap.size ≠ w.heap.size := Nat.ne_of_gt (Nat.lt_of_lt_of_le (Blk.lt hk_3) (HB).size)
   have hk_25 := Blk.other hk_17 hg_21 hne_24
   refine xe0 1 [(4, pw w.heap.size 0), (5, .bool true)] ?_
   refine nl (X_ret (RX.ret_cellT (P := Tryd.prog) (fn := Tryd.f37) (N := 22) (R := R_) (c := 4) (t := 44) (p := ⟨w.heap.size, 0, none⟩) (v := .agg #[.int .i64 ((xs.getD i at0).2.1), .int .i64 ((xs.getD i at0).2.2.1), .string ((xs.getD i at0).2.2.2)]) (b := 5) (u := .bool true) rfl rfl (loadsB rfl rfl hk_22 0 ⟨by kernel_rfl, by kernel_rfl⟩) rfl (hR_ _ _ ?_)))
   have hg := get_at (show i < xs.length from by omega) hq c_19
   have hB_26 : Below w.heap.size w w_20 := (bg (bg (bt (bt hb_2 HB) hb_11) hg_16 ((bt hb_2 HB)).size) hg_21 (Nat.le_refl _))
   refine ⟨?_, hB_26⟩
   unfold gv; rw [hg]; rfl
  refine xr 1 [(17, .eq (.bool false))] [(17, .bool false)] [15, 16] [Value.bool (((xs.getD i at0).1).toList == k.toList) = Value.bool false] ⟨congrArg Value.bool (strEqF (c_19)), trivial⟩ ?_
  refine nl (cf (sk (rg (xr 2 [(20, .eq (.int .i64 ((i : Int) + 1)))] [(10, .int .i64 ((i : Int) + 1))] [7, 17] [Value.int .i64 (IntKind.i64.wrap ((i : Int) + 1)) = Value.int .i64 ((i : Int) + 1)] ⟨wr_i64 (by omega) (by omega), trivial⟩ ?_))))
  refine nl ?_
  refine ⟨(i + 1), by kernel_rfl, ?_, ?_⟩
  ·exact ⟨by omega, fun j hj => by by_cases e : j = i; (· subst e; exact c_19); (· exact hq j (by omega)), (bg (bt HB hb_11) hg_16 (HB).size)⟩
  (try dsimp only); omega
 refine xr 1 [(11, .eq (.bool false))] [(11, .bool false)] [] [Value.bool (decide ((i : Int) < (xs.length : Int))) = Value.bool false] ⟨congrArg Value.bool (decide_eq_false (c_6)), trivial⟩ ?_
 refine nl (sq (cf (X_exit (sq (rg (xr0 1 [(21, .agg #[.int .i64 0, .int .i64 0, .string ByteArray.empty])] [1, 8, 9, 10, 11] ?_))))))
 refine xst (.agg #[.int .i64 0, .int .i64 0, .string ByteArray.empty]) (Blk.below hk_3 HB) 0 #[.int .i64 0, .int .i64 0, .string ByteArray.empty] (fun w_27 hg_28 hk_29 hz_30 => ?_)
 refine xr0 1 [(5, .bool false)] [21] ?_
 refine nl (X_ret (RX.ret_cellT (P := Tryd.prog) (fn := Tryd.f37) (N := 22) (R := R_) (c := 4) (t := 44) (p := ⟨w.heap.size, 0, none⟩) (v := .agg #[.int .i64 0, .int .i64 0, .string ByteArray.empty]) (b := 5) (u := .bool false) rfl rfl (loadsB rfl rfl hk_29 0 ⟨by kernel_rfl, by kernel_rfl⟩) rfl (hR_ _ _ ?_)))
 have hg := get_end (k := k) (xs := xs) (fun j hj => hq j (by omega))
 refine ⟨?_, (bg (bt hb_2 HB) hg_28 (Nat.le_refl _))⟩
 unfold gv; rw [hg]; rfl
set_option maxHeartbeats 1000000 in
theorem join_any (A B : Option Addr) (c d : Nat) (xs ys : List At) (w : World) (hx : kAttr.C w A xs.length xs) (hy : kAttr.C w B ys.length ys) (rx : Ris xs) (ry : Ris ys) (hyd : ys.length ≤ d) (hn : xs.length + ys.length ≤ 400000000) : Calls Tryd.prog 112 #[.slice A xs.length c, .slice B ys.length d] w fun e w' => ∃ A' c' zs, zs = jn xs ys ∧ zs.length ≤ xs.length + ys.length ∧ e = .returned (.slice A' zs.length c') ∧ zs.length ≤ c' ∧ kAttr.R 71 w' w.heap.size (OkFrom w.heap.size) (.slice A' zs.length c') zs ∧ Below w.heap.size w w' := by
 have hpl : xs.length ≤ 9223372036854775807 := hx.2.1
 have hpl2 : ys.length ≤ 9223372036854775807 := hy.2.1
 have hcl : (jn xs ys).length ≤ xs.length + ys.length := comp_le (cmpF true) xs ys
 refine RX.enter Tryd.func112 rfl 87 rfl [(0, .slice A xs.length c), (1, .slice B ys.length d)] rfl (by kernel_rfl) (fun R_ hR_ => ?_)
 refine sq (rg (xe0 1 [(0, .slice A xs.length c), (1, .slice B ys.length d)] ?_))
 refine nl (sq (rg (xw 1 [] [(13, .slice (some ⟨w.heap.size, 0, none⟩) 0 0)] [] (w.alloc (.cells #[] 71)) [] trivial ?_)))
 obtain ⟨w_1, hw_5, hb_2, hk_3, hz_4⟩ := new_world w #[] 71
 rw [hw_5]
 refine xr0 1 [(5, .slice (some ⟨w.heap.size, 0, none⟩) 0 0)] [13] ?_
 refine nl (sq (rg (xr0 1 [(6, .int .i64 0)] [] ?_)))
 refine nl (sq (sq (rg (xr0 3 [(14, .slice A xs.length c), (15, .int .i64 (xs.length : Int)), (16, .int .i64 0)] [0] ?_))))
 refine nl (X_block ?_)
 have hr_6 := Kd.R_litB kAttr (W := w) (e := 71) (cs := #[]) [] hk_3 (repsAttr []) (Nat.le_of_ble_eq_true (by kernel_rfl))
 refine X_loop (ι := Nat × Nat × Option Addr × Nat × List At) (fun ⟨j, i, A3, c3, zs3⟩ => [(1, .slice B ys.length d), (5, .slice A3 zs3.length c3), (6, .int .i64 (i : Int)), (14, .slice A xs.length c), (15, .int .i64 (xs.length : Int)), (16, .int .i64 (j : Int))]) (fun ⟨j, i, A3, c3, zs3⟩ wl => j ≤ xs.length ∧ i ≤ ys.length ∧ zs3 ++ jn (xs.drop j) (ys.drop i) = jn xs ys ∧ kAttr.R 71 wl w.heap.size (OkFrom w.heap.size) (.slice A3 zs3.length c3) zs3 ∧ w.heap.size ≤ wl.heap.size ∧ Below w.heap.size w wl) (fun ⟨j, i, A3, c3, zs3⟩ => xs.length - j) (0, 0, (some ⟨w.heap.size, 0, none⟩), 0, []) ⟨by omega, by omega, rfl, hr_6, (hb_2).size, hb_2⟩ (by kernel_rfl) ?_
 rintro ⟨j, i, A3, c3, zs3⟩ wl ⟨hj, hi, he3, hr3, hle3, HB⟩
 have hzl : zs3.length ≤ xs.length + ys.length := by have h_ := congrArg List.length he3; rw [List.length_append] at h_; omega
 refine sq (X_region ?_)
 by_cases c_7 : (j : Int) < (xs.length : Int)
 ·refine xr 1 [(17, .eq (.bool true))] [(17, .bool true)] [] [Value.bool (decide ((j : Int) < (xs.length : Int))) = Value.bool true] ⟨congrArg Value.bool (decide_eq_true (c_7)), trivial⟩ ?_
  refine nl (sq (ct (sk (sq (bk (sq (X_region ?_)))))))
  obtain ⟨ad_8, ha_9, hc_10⟩ := Kd.atAttr (Kd.C_below hx HB) (i := (j : Int)) (by omega) (by omega)
  replace hc_10 : CellsAt wl (ad_8.add ((j : Int).toNat * 4)) [.string ((xs.getD j at0).1), .int .i64 ((xs.getD j at0).2.1), .int .i64 ((xs.getD j at0).2.2.1), .string ((xs.getD j at0).2.2.2)] := hc_10
  refine xw 3 [(18, .idx ad_8), (19, .load (.agg #[.string ((xs.getD j at0).1), .int .i64 ((xs.getD j at0).2.1), .int .i64 ((xs.getD j at0).2.2.1), .string ((xs.getD j at0).2.2.2)]))] [(8, pw wl.heap.size 0), (19, .agg #[.string ((xs.getD j at0).1), .int .i64 ((xs.getD j at0).2.1), .int .i64 ((xs.getD j at0).2.2.1), .string ((xs.getD j at0).2.2.2)])] [17] (wl.alloc (.cells #[.string ByteArray.empty, .int .i64 0, .int .i64 0, .string ByteArray.empty] 71)) [A = some ad_8, (0 : Int) ≤ (j : Int), (j : Int) < (xs.length : Int), LoadsAs Tryd.prog 71 (ad_8.add ((j : Int).toNat * 4)) (.agg #[.string ((xs.getD j at0).1), .int .i64 ((xs.getD j at0).2.1), .int .i64 ((xs.getD j at0).2.2.1), .string ((xs.getD j at0).2.2.2)]) wl] ⟨ha_9, (by omega), (by omega), loadsE rfl rfl hc_10 0 ⟨by kernel_rfl, by kernel_rfl⟩, trivial⟩ ?_
  obtain ⟨w_11, hw_15, hb_12, hk_13, hz_14⟩ := new_world wl #[.string ByteArray.empty, .int .i64 0, .int .i64 0, .string ByteArray.empty] 71
  rw [hw_15]
  refine xst (.agg #[.string ((xs.getD j at0).1), .int .i64 ((xs.getD j at0).2.1), .int .i64 ((xs.getD j at0).2.2.1), .string ((xs.getD j at0).2.2.2)]) hk_13 0 #[.string ((xs.getD j at0).1), .int .i64 ((xs.getD j at0).2.1), .int .i64 ((xs.getD j at0).2.2.1), .string ((xs.getD j at0).2.2.2)] (fun w_16 hg_17 hk_18 hz_19 => ?_)
  refine nl (sq (X_block ?_))
  have hne_20 := rne_new (RX.Kd.R_lt hr3) (Nat.le_refl _)
  refine X_loop (ι := Nat × Option Addr × Nat × List At) (fun ⟨i2, A4, c4, zs4⟩ => [(1, .slice B ys.length d), (5, .slice A4 zs4.length c4), (6, .int .i64 (i2 : Int)), (8, .pointer (some ⟨wl.heap.size, 0, none⟩)), (14, .slice A xs.length c), (15, .int .i64 (xs.length : Int)), (16, .int .i64 (j : Int))]) (fun ⟨i2, A4, c4, zs4⟩ wk => i2 ≤ ys.length ∧ zs4 ++ jn (xs.drop j) (ys.drop i2) = jn xs ys ∧ kAttr.R 71 wk w.heap.size (OkFrom w.heap.size) (.slice A4 zs4.length c4) zs4 ∧ Blk wk wl.heap.size 71 #[.string ((xs.getD j at0).1), .int .i64 ((xs.getD j at0).2.1), .int .i64 ((xs.getD j at0).2.2.1), .string ((xs.getD j at0).2.2.2)] ∧ (∀ k, A4.map (·.block) = some k → k ≠ wl.heap.size) ∧ w.heap.size ≤ wk.heap.size ∧ Below w.heap.size w wk) (fun ⟨i2, A4, c4, zs4⟩ => ys.length - i2) (i, A3, c3, zs3) ⟨by omega, he3, (Kd.R_below hr3 (bg hb_12 hg_17 (Nat.le_refl _))), hk_18, hne_20, ((bg (bt HB hb_12) hg_17 hle3)).size, (bg (bt HB hb_12) hg_17 hle3)⟩ (by kernel_rfl) ?_
  rintro ⟨i2, A4, c4, zs4⟩ wk ⟨hi2, he4, hr4, hk4, hne4, hle4, HB2⟩
  have hzl4 : zs4.length ≤ xs.length + ys.length := by have h_ := congrArg List.length he4; rw [List.length_append] at h_; omega
  refine sq (sq (X_still (by kernel_rfl) (by kernel_rfl) (fun wd_21 hb_22 hh_23 => ?_)))
  refine xse 3 [] [(1, .slice B ys.length d), (5, .slice A4 zs4.length c4), (6, .int .i64 (i2 : Int)), (8, .pointer (some ⟨wl.heap.size, 0, none⟩)), (14, .slice A xs.length c), (15, .int .i64 (xs.length : Int)), (16, .int .i64 (j : Int)), (20, .int .i64 (i2 : Int)), (22, .int .i64 (ys.length : Int))] [] trivial ?_
  by_cases c_24 : (i2 : Int) < (ys.length : Int)
  ·refine xse 4 [(23, .eq (.bool true))] [(1, .slice B ys.length d), (5, .slice A4 zs4.length c4), (6, .int .i64 (i2 : Int)), (8, .pointer (some ⟨wl.heap.size, 0, none⟩)), (14, .slice A xs.length c), (15, .int .i64 (xs.length : Int)), (16, .int .i64 (j : Int)), (24, .bool true), (25, .slice B ys.length d), (26, .int .i64 (i2 : Int))] [Value.bool (decide ((i2 : Int) < (ys.length : Int))) = Value.bool true] ⟨congrArg Value.bool (decide_eq_true (c_24)), trivial⟩ ?_
   obtain ⟨ad_25, ha_26, hc_27⟩ := Kd.atAttr (Kd.C_below hy (bt HB2 hb_22)) (i := (i2 : Int)) (by omega) (by omega)
   replace hc_27 : CellsAt wd_21 (ad_25.add ((i2 : Int).toNat * 4)) [.string ((ys.getD i2 at0).1), .int .i64 ((ys.getD i2 at0).2.1), .int .i64 ((ys.getD i2 at0).2.2.1), .string ((ys.getD i2 at0).2.2.2)] := hc_27
   refine xse 5 [(27, .idx ad_25), (29, .load (.string ((ys.getD i2 at0).1))), (31, .load (.string ((xs.getD j at0).1)))] [(1, .slice B ys.length d), (5, .slice A4 zs4.length c4), (6, .int .i64 (i2 : Int)), (8, .pointer (some ⟨wl.heap.size, 0, none⟩)), (14, .slice A xs.length c), (15, .int .i64 (xs.length : Int)), (16, .int .i64 (j : Int)), (24, .bool true), (29, .string ((ys.getD i2 at0).1)), (31, .string ((xs.getD j at0).1))] [B = some ad_25, (0 : Int) ≤ (i2 : Int), (i2 : Int) < (ys.length : Int), LoadsAs Tryd.prog 9 (ad_25.add ((i2 : Int).toNat * 4)) (.string ((ys.getD i2 at0).1)) wd_21, LoadsAs Tryd.prog 9 (⟨wl.heap.size, 0, none⟩) (.string ((xs.getD j at0).1)) wd_21] ⟨ha_26, (by omega), (by omega), loads1 rfl (elem_cell hc_27 0 _ rfl), loads1 rfl (Blk.cell (Blk.below hk4 hb_22) 0 _ rfl), trivial⟩ ?_
   by_cases c_28 : (Op.bytesLess ((ys.getD i2 at0).1).toList ((xs.getD j at0).1).toList) = true
   ·refine xse 2 [(32, .eq (.bool true))] [(1, .slice B ys.length d), (5, .slice A4 zs4.length c4), (6, .int .i64 (i2 : Int)), (8, .pointer (some ⟨wl.heap.size, 0, none⟩)), (14, .slice A xs.length c), (15, .int .i64 (xs.length : Int)), (16, .int .i64 (j : Int)), (33, .bool true)] [Value.bool (Op.bytesLess ((ys.getD i2 at0).1).toList ((xs.getD j at0).1).toList) = Value.bool true] ⟨congrArg Value.bool (c_28), trivial⟩ ?_
    refine XS_nil ?_
    refine ct (sk (bk (sq (rg (xr0 3 [(34, .slice A4 zs4.length c4), (35, .slice B ys.length d), (36, nv i2)] [5, 33] ?_)))))
    obtain ⟨ad_29, ha_30, hc_31⟩ := Kd.atAttr (Kd.C_below hy (bt HB2 hb_22)) (i := (i2 : Int)) (by omega) (by omega)
    replace hc_31 : CellsAt wd_21 (ad_29.add ((i2 : Int).toNat * 4)) [.string ((ys.getD i2 at0).1), .int .i64 ((ys.getD i2 at0).2.1), .int .i64 ((ys.getD i2 at0).2.2.1), .string ((ys.getD i2 at0).2.2.2)] := hc_31
    refine xw 3 [(37, .idx ad_29), (38, .load (.agg #[.string ((ys.getD i2 at0).1), .int .i64 ((ys.getD i2 at0).2.1), .int .i64 ((ys.getD i2 at0).2.2.1), .string ((ys.getD i2 at0).2.2.2)]))] [(39, .slice (some ⟨wd_21.heap.size, 0, none⟩) 1 1)] [35, 36] (wd_21.alloc (.cells #[.string ((ys.getD i2 at0).1), .int .i64 ((ys.getD i2 at0).2.1), .int .i64 ((ys.getD i2 at0).2.2.1), .string ((ys.getD i2 at0).2.2.2)] 71)) [B = some ad_29, (0 : Int) ≤ (i2 : Int), (i2 : Int) < (ys.length : Int), LoadsAs Tryd.prog 71 (ad_29.add ((i2 : Int).toNat * 4)) (.agg #[.string ((ys.getD i2 at0).1), .int .i64 ((ys.getD i2 at0).2.1), .int .i64 ((ys.getD i2 at0).2.2.1), .string ((ys.getD i2 at0).2.2.2)]) wd_21] ⟨ha_30, (by omega), (by omega), loadsE rfl rfl hc_31 0 ⟨by kernel_rfl, by kernel_rfl⟩, trivial⟩ ?_
    obtain ⟨w_32, hw_36, hb_33, hk_34, hz_35⟩ := new_world wd_21 #[.string ((ys.getD i2 at0).1), .int .i64 ((ys.getD i2 at0).2.1), .int .i64 ((ys.getD i2 at0).2.2.1), .string ((ys.getD i2 at0).2.2.2)] 71
    rw [hw_36]
    rw [← hw_36]
    refine XL_append kAttr rfl rfl rfl w.heap.size 71 (.agg #[.string ByteArray.empty, .int .i64 0, .int .i64 0, .string ByteArray.empty]) 48 Tryd.underlying45 info71 rfl (by decide) (by omega) zs4 ((ys.getD i2 at0).1, (ys.getD i2 at0).2.1, (ys.getD i2 at0).2.2.1, (ys.getD i2 at0).2.2.2) [.string ((ys.getD i2 at0).1), .int .i64 ((ys.getD i2 at0).2.1), .int .i64 ((ys.getD i2 at0).2.2.1), .string ((ys.getD i2 at0).2.2.2)] (fun _ => False) (by kernel_rfl) (kAttr_M _ _ _ _) (fun _ h => h.elim) (Kd.R_below hr4 hb_22) ((bt HB2 hb_22)).size (by first | omega | (simp; omega)) ?_
    intro A_37 c_38 w_39 hr_40 hc_41 hg_42 hl_43 ha_44
    have hk_45 := Blk.ne (Blk.below hk4 hb_22) hg_42 hne4
    have hne_46 := rne_step hne4 ha_44 (Blk.lt (Blk.below hk4 hb_22))
    have he_47 : (zs4 ++ [((ys.getD i2 at0).1, (ys.getD i2 at0).2.1, (ys.getD i2 at0).2.2.1, (ys.getD i2 at0).2.2.2)]) = (zs4 ++ [(ys.getD i2 at0)]) := rfl
    rw [he_47] at hr_40 ⊢
    refine xr0 1 [(5, .slice A_37 ((zs4 ++ [(ys.getD i2 at0)]).length) c_38)] [34, 39, 40] ?_
    refine nl (rg (xr 3 [(42, .eq (.int .i64 ((i2 : Int) + 1)))] [(6, .int .i64 ((i2 : Int) + 1))] [] [Value.int .i64 (IntKind.i64.wrap ((i2 : Int) + 1)) = Value.int .i64 ((i2 : Int) + 1)] ⟨wr_i64 (by omega) (by omega), trivial⟩ ?_))
    refine nl ?_
    have hB_48 : Below w.heap.size w w_39 := (bgo (bt HB2 hb_22) hg_42 hl_43 (Nat.le_refl _))
    refine ⟨(i2 + 1, A_37, c_38, (zs4 ++ [(ys.getD i2 at0)])), by kernel_rfl, ?_, ?_⟩
    ·have hnx : (zs4 ++ [(ys.getD i2 at0)]) ++ jn (xs.drop j) (ys.drop (i2 + 1)) = jn xs ys := by rw [List.append_assoc, List.singleton_append, ← jn_low (by omega) (by omega) c_28]; exact he4
     exact ⟨by omega, hnx, hr_40, hk_45, hne_46, (hB_48).size, hB_48⟩
    (try dsimp only); omega
   refine xse 2 [(32, .eq (.bool false))] [(1, .slice B ys.length d), (5, .slice A4 zs4.length c4), (6, .int .i64 (i2 : Int)), (8, .pointer (some ⟨wl.heap.size, 0, none⟩)), (14, .slice A xs.length c), (15, .int .i64 (xs.length : Int)), (16, .int .i64 (j : Int)), (33, .bool false)] [Value.bool (Op.bytesLess ((ys.getD i2 at0).1).toList ((xs.getD j at0).1).toList) = Value.bool false] ⟨congrArg Value.bool (Bool.eq_false_iff.2 (c_28)), trivial⟩ ?_
   refine XS_nil ?_
   refine cf (X_exit (sq (sq (X_still (by kernel_rfl) (by kernel_rfl) (fun wd_49 hb_50 hh_51 => ?_)))))
   refine xse 7 [(46, .eq (.bool true))] [(1, .slice B ys.length d), (5, .slice A4 zs4.length c4), (6, .int .i64 (i2 : Int)), (8, .pointer (some ⟨wl.heap.size, 0, none⟩)), (14, .slice A xs.length c), (15, .int .i64 (xs.length : Int)), (16, .int .i64 (j : Int)), (47, .bool true), (48, .slice B ys.length d), (49, .int .i64 (i2 : Int))] [Value.bool (decide ((i2 : Int) < (ys.length : Int))) = Value.bool true] ⟨congrArg Value.bool (decide_eq_true (c_24)), trivial⟩ ?_
   obtain ⟨ad_52, ha_53, hc_54⟩ := Kd.atAttr (Kd.C_below hy (bt (bt HB2 hb_22) hb_50)) (i := (i2 : Int)) (by omega) (by omega)
   replace hc_54 : CellsAt wd_49 (ad_52.add ((i2 : Int).toNat * 4)) [.string ((ys.getD i2 at0).1), .int .i64 ((ys.getD i2 at0).2.1), .int .i64 ((ys.getD i2 at0).2.2.1), .string ((ys.getD i2 at0).2.2.2)] := hc_54
   refine xse 5 [(50, .idx ad_52), (52, .load (.string ((ys.getD i2 at0).1))), (54, .load (.string ((xs.getD j at0).1)))] [(1, .slice B ys.length d), (5, .slice A4 zs4.length c4), (6, .int .i64 (i2 : Int)), (8, .pointer (some ⟨wl.heap.size, 0, none⟩)), (14, .slice A xs.length c), (15, .int .i64 (xs.length : Int)), (16, .int .i64 (j : Int)), (47, .bool true), (52, .string ((ys.getD i2 at0).1)), (54, .string ((xs.getD j at0).1))] [B = some ad_52, (0 : Int) ≤ (i2 : Int), (i2 : Int) < (ys.length : Int), LoadsAs Tryd.prog 9 (ad_52.add ((i2 : Int).toNat * 4)) (.string ((ys.getD i2 at0).1)) wd_49, LoadsAs Tryd.prog 9 (⟨wl.heap.size, 0, none⟩) (.string ((xs.getD j at0).1)) wd_49] ⟨ha_53, (by omega), (by omega), loads1 rfl (elem_cell hc_54 0 _ rfl), loads1 rfl (Blk.cell (Blk.below hk4 (bt hb_22 hb_50)) 0 _ rfl), trivial⟩ ?_
   by_cases c_55 : ((ys.getD i2 at0).1) = ((xs.getD j at0).1)
   ·refine xse 2 [(55, .eq (.bool true))] [(1, .slice B ys.length d), (5, .slice A4 zs4.length c4), (6, .int .i64 (i2 : Int)), (8, .pointer (some ⟨wl.heap.size, 0, none⟩)), (14, .slice A xs.length c), (15, .int .i64 (xs.length : Int)), (16, .int .i64 (j : Int)), (56, .bool true)] [Value.bool (((ys.getD i2 at0).1).toList == ((xs.getD j at0).1).toList) = Value.bool true] ⟨congrArg Value.bool (strEqT (c_55)), trivial⟩ ?_
    refine XS_nil ?_
    refine ct (X_exit (rg (xr 2 [(61, .eq (.int .i64 ((j : Int) + 1)))] [(16, .int .i64 ((j : Int) + 1))] [8, 56] [Value.int .i64 (IntKind.i64.wrap ((j : Int) + 1)) = Value.int .i64 ((j : Int) + 1)] ⟨wr_i64 (by omega) (by omega), trivial⟩ ?_)))
    refine nl ?_
    refine ⟨(j + 1, i2, A4, c4, zs4), by kernel_rfl, ?_, ?_⟩
    ·have hnx : zs4 ++ jn (xs.drop (j + 1)) (ys.drop i2) = jn xs ys := by rw [← jn_eq rx (by omega) (by omega) c_55]; exact he4
     exact ⟨by omega, by omega, hnx, (Kd.R_below hr4 (bt hb_22 hb_50)), ((bt (bt HB2 hb_22) hb_50)).size, (bt (bt HB2 hb_22) hb_50)⟩
    (try dsimp only); omega
   refine xse 2 [(55, .eq (.bool false))] [(1, .slice B ys.length d), (5, .slice A4 zs4.length c4), (6, .int .i64 (i2 : Int)), (8, .pointer (some ⟨wl.heap.size, 0, none⟩)), (14, .slice A xs.length c), (15, .int .i64 (xs.length : Int)), (16, .int .i64 (j : Int)), (56, .bool false)] [Value.bool (((ys.getD i2 at0).1).toList == ((xs.getD j at0).1).toList) = Value.bool false] ⟨congrArg Value.bool (strEqF (c_55)), trivial⟩ ?_
   refine XS_nil ?_
   refine cf (sk (rg (xw 3 [(58, .load (.agg #[.string ((xs.getD j at0).1), .int .i64 ((xs.getD j at0).2.1), .int .i64 ((xs.getD j at0).2.2.1), .string ((xs.getD j at0).2.2.2)]))] [(57, .slice A4 zs4.length c4), (59, .slice (some ⟨wd_49.heap.size, 0, none⟩) 1 1)] [5, 8, 56] (wd_49.alloc (.cells #[.string ((xs.getD j at0).1), .int .i64 ((xs.getD j at0).2.1), .int .i64 ((xs.getD j at0).2.2.1), .string ((xs.getD j at0).2.2.2)] 71)) [LoadsAs Tryd.prog 71 (⟨wl.heap.size, 0, none⟩) (.agg #[.string ((xs.getD j at0).1), .int .i64 ((xs.getD j at0).2.1), .int .i64 ((xs.getD j at0).2.2.1), .string ((xs.getD j at0).2.2.2)]) wd_49] ⟨loadsB rfl rfl (Blk.below hk4 (bt hb_22 hb_50)) 0 ⟨by kernel_rfl, by kernel_rfl⟩, trivial⟩ ?_)))
   obtain ⟨w_56, hw_60, hb_57, hk_58, hz_59⟩ := new_world wd_49 #[.string ((xs.getD j at0).1), .int .i64 ((xs.getD j at0).2.1), .int .i64 ((xs.getD j at0).2.2.1), .string ((xs.getD j at0).2.2.2)] 71
   rw [hw_60]
   rw [← hw_60]
   refine XL_append kAttr rfl rfl rfl w.heap.size 71 (.agg #[.string ByteArray.empty, .int .i64 0, .int .i64 0, .string ByteArray.empty]) 48 Tryd.underlying45 info71 rfl (by decide) (by omega) zs4 ((xs.getD j at0).1, (xs.getD j at0).2.1, (xs.getD j at0).2.2.1, (xs.getD j at0).2.2.2) [.string ((xs.getD j at0).1), .int .i64 ((xs.getD j at0).2.1), .int .i64 ((xs.getD j at0).2.2.1), .string ((xs.getD j at0).2.2.2)] (fun _ => False) (by kernel_rfl) (kAttr_M _ _ _ _) (fun _ h => h.elim) (Kd.R_below hr4 (bt hb_22 hb_50)) ((bt (bt HB2 hb_22) hb_50)).size (by first | omega | (simp; omega)) ?_
   intro A_61 c_62 w_63 hr_64 hc_65 hg_66 hl_67 ha_68
   have hk_69 := Blk.ne (Blk.below hk4 (bt hb_22 hb_50)) hg_66 hne4
   have he_70 : (zs4 ++ [((xs.getD j at0).1, (xs.getD j at0).2.1, (xs.getD j at0).2.2.1, (xs.getD j at0).2.2.2)]) = (zs4 ++ [(xs.getD j at0)]) := rfl
   rw [he_70] at hr_64 ⊢
   refine xr0 1 [(5, .slice A_61 ((zs4 ++ [(xs.getD j at0)]).length) c_62)] [57, 59, 60] ?_
   refine nl (rg (xr 2 [(61, .eq (.int .i64 ((j : Int) + 1)))] [(16, .int .i64 ((j : Int) + 1))] [] [Value.int .i64 (IntKind.i64.wrap ((j : Int) + 1)) = Value.int .i64 ((j : Int) + 1)] ⟨wr_i64 (by omega) (by omega), trivial⟩ ?_))
   refine nl ?_
   have hB_71 : Below w.heap.size w w_63 := (bgo (bt (bt HB2 hb_22) hb_50) hg_66 hl_67 (Nat.le_refl _))
   refine ⟨(j + 1, i2, A_61, c_62, (zs4 ++ [(xs.getD j at0)])), by kernel_rfl, ?_, ?_⟩
   ·have hnx : (zs4 ++ [(xs.getD j at0)]) ++ jn (xs.drop (j + 1)) (ys.drop i2) = jn xs ys := by rw [List.append_assoc, List.singleton_append, ← jn_x (by omega) (.inr ⟨Bool.eq_false_iff.2 c_28, c_55⟩)]; exact he4
    exact ⟨by omega, by omega, hnx, hr_64, (hB_71).size, hB_71⟩
   (try dsimp only); omega
  refine xse 11 [(23, .eq (.bool false))] [(1, .slice B ys.length d), (5, .slice A4 zs4.length c4), (6, .int .i64 (i2 : Int)), (8, .pointer (some ⟨wl.heap.size, 0, none⟩)), (14, .slice A xs.length c), (15, .int .i64 (xs.length : Int)), (16, .int .i64 (j : Int)), (33, .bool false)] [Value.bool (decide ((i2 : Int) < (ys.length : Int))) = Value.bool false] ⟨congrArg Value.bool (decide_eq_false (c_24)), trivial⟩ ?_
  refine XS_nil ?_
  refine cf (X_exit (sq (sq (X_still (by kernel_rfl) (by kernel_rfl) (fun wd_72 hb_73 hh_74 => ?_)))))
  refine xse 14 [(46, .eq (.bool false))] [(1, .slice B ys.length d), (5, .slice A4 zs4.length c4), (6, .int .i64 (i2 : Int)), (8, .pointer (some ⟨wl.heap.size, 0, none⟩)), (14, .slice A xs.length c), (15, .int .i64 (xs.length : Int)), (16, .int .i64 (j : Int)), (56, .bool false)] [Value.bool (decide ((i2 : Int) < (ys.length : Int))) = Value.bool false] ⟨congrArg Value.bool (decide_eq_false (c_24)), trivial⟩ ?_
  refine XS_nil ?_
  refine cf (sk (rg (xw 3 [(58, .load (.agg #[.string ((xs.getD j at0).1), .int .i64 ((xs.getD j at0).2.1), .int .i64 ((xs.getD j at0).2.2.1), .string ((xs.getD j at0).2.2.2)]))] [(57, .slice A4 zs4.length c4), (59, .slice (some ⟨wd_72.heap.size, 0, none⟩) 1 1)] [5, 8, 56] (wd_72.alloc (.cells #[.string ((xs.getD j at0).1), .int .i64 ((xs.getD j at0).2.1), .int .i64 ((xs.getD j at0).2.2.1), .string ((xs.getD j at0).2.2.2)] 71)) [LoadsAs Tryd.prog 71 (⟨wl.heap.size, 0, none⟩) (.agg #[.string ((xs.getD j at0).1), .int .i64 ((xs.getD j at0).2.1), .int .i64 ((xs.getD j at0).2.2.1), .string ((xs.getD j at0).2.2.2)]) wd_72] ⟨loadsB rfl rfl (Blk.below hk4 (bt hb_22 hb_73)) 0 ⟨by kernel_rfl, by kernel_rfl⟩, trivial⟩ ?_)))
  obtain ⟨w_75, hw_79, hb_76, hk_77, hz_78⟩ := new_world wd_72 #[.string ((xs.getD j at0).1), .int .i64 ((xs.getD j at0).2.1), .int .i64 ((xs.getD j at0).2.2.1), .string ((xs.getD j at0).2.2.2)] 71
  rw [hw_79]
  rw [← hw_79]
  refine XL_append kAttr rfl rfl rfl w.heap.size 71 (.agg #[.string ByteArray.empty, .int .i64 0, .int .i64 0, .string ByteArray.empty]) 48 Tryd.underlying45 info71 rfl (by decide) (by omega) zs4 ((xs.getD j at0).1, (xs.getD j at0).2.1, (xs.getD j at0).2.2.1, (xs.getD j at0).2.2.2) [.string ((xs.getD j at0).1), .int .i64 ((xs.getD j at0).2.1), .int .i64 ((xs.getD j at0).2.2.1), .string ((xs.getD j at0).2.2.2)] (fun _ => False) (by kernel_rfl) (kAttr_M _ _ _ _) (fun _ h => h.elim) (Kd.R_below hr4 (bt hb_22 hb_73)) ((bt (bt HB2 hb_22) hb_73)).size (by first | omega | (simp; omega)) ?_
  intro A_80 c_81 w_82 hr_83 hc_84 hg_85 hl_86 ha_87
  have hk_88 := Blk.ne (Blk.below hk4 (bt hb_22 hb_73)) hg_85 hne4
  have he_89 : (zs4 ++ [((xs.getD j at0).1, (xs.getD j at0).2.1, (xs.getD j at0).2.2.1, (xs.getD j at0).2.2.2)]) = (zs4 ++ [(xs.getD j at0)]) := rfl
  rw [he_89] at hr_83 ⊢
  refine xr0 1 [(5, .slice A_80 ((zs4 ++ [(xs.getD j at0)]).length) c_81)] [57, 59, 60] ?_
  refine nl (rg (xr 2 [(61, .eq (.int .i64 ((j : Int) + 1)))] [(16, .int .i64 ((j : Int) + 1))] [] [Value.int .i64 (IntKind.i64.wrap ((j : Int) + 1)) = Value.int .i64 ((j : Int) + 1)] ⟨wr_i64 (by omega) (by omega), trivial⟩ ?_))
  refine nl ?_
  have hB_90 : Below w.heap.size w w_82 := (bgo (bt (bt HB2 hb_22) hb_73) hg_85 hl_86 (Nat.le_refl _))
  refine ⟨(j + 1, i2, A_80, c_81, (zs4 ++ [(xs.getD j at0)])), by kernel_rfl, ?_, ?_⟩
  ·have hnx : (zs4 ++ [(xs.getD j at0)]) ++ jn (xs.drop (j + 1)) (ys.drop i2) = jn xs ys := by rw [List.append_assoc, List.singleton_append, ← jn_x (by omega) (.inl (by omega))]; exact he4
   exact ⟨by omega, by omega, hnx, hr_83, (hB_90).size, hB_90⟩
  (try dsimp only); omega
 refine xr 1 [(17, .eq (.bool false))] [(17, .bool false)] [] [Value.bool (decide ((j : Int) < (xs.length : Int))) = Value.bool false] ⟨congrArg Value.bool (decide_eq_false (c_7)), trivial⟩ ?_
 refine nl (sq (cf (X_exit (sq (X_region ?_)))))
 obtain ⟨A_91, hA_92⟩ : ∃ A_, (if d = i then B else B.map (·.add (i * 4))) = A_ := ⟨_, rfl⟩
 have hC_93 : kAttr.C w A_91 (ys.length - i) (ys.drop i) := by have h := RX.Kd.C_drop hy (k := i) (cap := d) (by omega) hyd; first | (rw [← hA_92]; exact h)
 refine xr 4 [(65, .as (.slice A_91 (ys.length - i) (d - i)))] [(62, .slice A3 zs3.length c3), (65, .slice A_91 (ys.length - i) (d - i))] [5, 6, 14, 15, 16, 17] [RunsAs Tryd.prog [(63, .slice B ys.length d), (64, .int .i64 (i : Int))] (Go.Op.slice 45 (Go.Operand.tmp 63) (some (Go.Operand.tmp 64)) none none) 45 (.slice A_91 (ys.length - i) (d - i)) wl] ⟨(hA_92 ▸ runs_slice_l (h := (i : Int)) rfl rfl rfl rfl (by omega) (by omega) hyd), trivial⟩ ?_
 refine XL_appendAll (c' := (d - i)) kAttr rfl rfl rfl w.heap.size 71 (.agg #[.string ByteArray.empty, .int .i64 0, .int .i64 0, .string ByteArray.empty]) 48 Tryd.underlying45 info71 rfl (by decide) (by omega) zs3 (ys.drop i) (by kernel_rfl) hr3 (Kd.C_below hC_93 HB) kAttr_KM hle3 (by first | omega | (simp; omega)) ?_
 intro A_94 c_95 w_96 hr_97 hc_98 hg_99 hl_100 ha_101
 have he_102 : (zs3 ++ (ys.drop i)) = (jn xs ys) := by rw [jn_end (show xs.length ≤ j from by omega)] at he3; exact he3
 rw [he_102] at hr_97 ⊢
 refine xr0 1 [(5, .slice A_94 ((jn xs ys).length) c_95)] [62, 65, 66] ?_
 refine nl (sq (sq (rg (xr0 3 [(67, .slice B ys.length d), (68, .int .i64 (ys.length : Int)), (69, .int .i64 0)] [1] ?_))))
 refine nl (bk (X_loop (ι := Nat) (fun k => [(5, .slice A_94 ((jn xs ys).length) c_95), (67, .slice B ys.length d), (68, .int .i64 (ys.length : Int)), (69, .int .i64 (k : Int))]) (fun k wm => k ≤ ys.length ∧ Below w_96.heap.size w_96 wm) (fun k => ys.length - k) 0 ⟨by omega, Below.refl _ _⟩ (by kernel_rfl) ?_))
 rintro k wm ⟨hk, HB5⟩
 refine sq (X_region ?_)
 by_cases c_103 : (k : Int) < (ys.length : Int)
 ·refine xr 1 [(70, .eq (.bool true))] [(70, .bool true)] [] [Value.bool (decide ((k : Int) < (ys.length : Int))) = Value.bool true] ⟨congrArg Value.bool (decide_eq_true (c_103)), trivial⟩ ?_
  refine nl (sq (ct (sk (sq (bk (sq (X_region ?_)))))))
  have hB_104 : Below w.heap.size w wm := (bt (bgo HB hg_99 hl_100 (Nat.le_refl _)) HB5)
  obtain ⟨ad_105, ha_106, hc_107⟩ := Kd.atAttr (Kd.C_below hy hB_104) (i := (k : Int)) (by omega) (by omega)
  replace hc_107 : CellsAt wm (ad_105.add ((k : Int).toNat * 4)) [.string ((ys.getD k at0).1), .int .i64 ((ys.getD k at0).2.1), .int .i64 ((ys.getD k at0).2.2.1), .string ((ys.getD k at0).2.2.2)] := hc_107
  refine xw 3 [(71, .idx ad_105), (72, .load (.agg #[.string ((ys.getD k at0).1), .int .i64 ((ys.getD k at0).2.1), .int .i64 ((ys.getD k at0).2.2.1), .string ((ys.getD k at0).2.2.2)]))] [(10, pw wm.heap.size 0), (72, .agg #[.string ((ys.getD k at0).1), .int .i64 ((ys.getD k at0).2.1), .int .i64 ((ys.getD k at0).2.2.1), .string ((ys.getD k at0).2.2.2)])] [70] (wm.alloc (.cells #[.string ByteArray.empty, .int .i64 0, .int .i64 0, .string ByteArray.empty] 71)) [B = some ad_105, (0 : Int) ≤ (k : Int), (k : Int) < (ys.length : Int), LoadsAs Tryd.prog 71 (ad_105.add ((k : Int).toNat * 4)) (.agg #[.string ((ys.getD k at0).1), .int .i64 ((ys.getD k at0).2.1), .int .i64 ((ys.getD k at0).2.2.1), .string ((ys.getD k at0).2.2.2)]) wm] ⟨ha_106, (by omega), (by omega), loadsE rfl rfl hc_107 0 ⟨by kernel_rfl, by kernel_rfl⟩, trivial⟩ ?_
  obtain ⟨w_108, hw_112, hb_109, hk_110, hz_111⟩ := new_world wm #[.string ByteArray.empty, .int .i64 0, .int .i64 0, .string ByteArray.empty] 71
  rw [hw_112]
  refine xst (.agg #[.string ((ys.getD k at0).1), .int .i64 ((ys.getD k at0).2.1), .int .i64 ((ys.getD k at0).2.2.1), .string ((ys.getD k at0).2.2.2)]) hk_110 0 #[.string ((ys.getD k at0).1), .int .i64 ((ys.getD k at0).2.1), .int .i64 ((ys.getD k at0).2.2.1), .string ((ys.getD k at0).2.2.2)] (fun w_113 hg_114 hk_115 hz_116 => ?_)
  refine nl (sq (rg (xr 3 [(76, .load (.string ((ys.getD k at0).1)))] [(74, .slice A_94 ((jn xs ys).length) c_95), (76, .string ((ys.getD k at0).1))] [72] [LoadsAs Tryd.prog 9 (⟨wm.heap.size, 0, none⟩) (.string ((ys.getD k at0).1)) w_113] ⟨loads1 rfl (Blk.cell hk_115 0 _ rfl), trivial⟩ ?_)))
  refine xc 37 ent37 [.slice A_94 ((jn xs ys).length) c_95, .string ((ys.getD k at0).1)] (has_any _ _ (jn xs ys) ((ys.getD k at0).1) _ (Kd.R_C (Kd.R_below hr_97 (bg (bt HB5 hb_109) hg_114 (HB5).size)))) ?_
  rintro e w_117 ⟨rfl, hb_118⟩; refine ⟨_, rfl, ?_⟩
  rw [show (get (jn xs ys) ((ys.getD k at0).1)).isSome = true from jn_has rx ry (by omega)]
  refine xw 4 [] [(11, pw w_117.heap.size 0), (78, .agg #[.int .i64 ((gv (jn xs ys) ((ys.getD k at0).1)).1), .int .i64 ((gv (jn xs ys) ((ys.getD k at0).1)).2.1), .string ((gv (jn xs ys) ((ys.getD k at0).1)).2.2)]), (79, .bool true)] [74, 76, 77] (w_117.alloc (.cells #[.int .i64 0, .int .i64 0, .string ByteArray.empty] 44)) [] trivial ?_
  obtain ⟨w_119, hw_123, hb_120, hk_121, hz_122⟩ := new_world w_117 #[.int .i64 0, .int .i64 0, .string ByteArray.empty] 44
  rw [hw_123]
  refine xst (.agg #[.int .i64 ((gv (jn xs ys) ((ys.getD k at0).1)).1), .int .i64 ((gv (jn xs ys) ((ys.getD k at0).1)).2.1), .string ((gv (jn xs ys) ((ys.getD k at0).1)).2.2)]) hk_121 0 #[.int .i64 ((gv (jn xs ys) ((ys.getD k at0).1)).1), .int .i64 ((gv (jn xs ys) ((ys.getD k at0).1)).2.1), .string ((gv (jn xs ys) ((ys.getD k at0).1)).2.2)] (fun w_124 hg_125 hk_126 hz_127 => ?_)
  have hB_128 : Below w_96.heap.size w_96 w_117 := (bt (bg (bt HB5 hb_109) hg_114 (HB5).size) hb_118)
  refine xr0 1 [(12, .bool true)] [11, 78, 79] ?_
  refine nl (sq (rg (xe0 2 [(5, .slice A_94 ((jn xs ys).length) c_95), (10, pw wm.heap.size 0), (67, .slice B ys.length d), (68, .int .i64 (ys.length : Int)), (69, nv k), (81, .bool false)] ?_)))
  refine nl (cf (sk (rg (xr 2 [(85, .eq (.int .i64 ((k : Int) + 1)))] [(69, .int .i64 ((k : Int) + 1))] [10, 81] [Value.int .i64 (IntKind.i64.wrap ((k : Int) + 1)) = Value.int .i64 ((k : Int) + 1)] ⟨wr_i64 (by omega) (by omega), trivial⟩ ?_))))
  refine nl ?_
  have hB_129 : Below w_96.heap.size w_96 w_124 := (bg (bt hB_128 hb_120) hg_125 (hB_128).size)
  refine ⟨(k + 1), by kernel_rfl, ?_, ?_⟩
  ·exact ⟨by omega, hB_129⟩
  (try dsimp only); omega
 refine xr 1 [(70, .eq (.bool false))] [(70, .bool false)] [] [Value.bool (decide ((k : Int) < (ys.length : Int))) = Value.bool false] ⟨congrArg Value.bool (decide_eq_false (c_103)), trivial⟩ ?_
 refine nl (sq (cf (X_exit (sq (rg (xe0 2 [(4, .slice A_94 ((jn xs ys).length) c_95)] ?_))))))
 refine nl (X_ret (rk [.slice A_94 ((jn xs ys).length) c_95] (hR_ _ _ ?_)))
 have hB_130 : Below w.heap.size w wm := (bt (bgo HB hg_99 hl_100 (Nat.le_refl _)) HB5)
 exact ⟨_, _, _, rfl, by omega, rfl, (RX.Kd.R_len (Kd.R_below hr_97 HB5)).2, (Kd.R_below hr_97 HB5), hB_130⟩
theorem whole_any (A : Option Addr) (c : Nat) (xs : List At) (w : World) (hx : kAttr.C w A xs.length xs) (hn : xs.length ≤ 400000000) : Calls Tryd.prog 113 #[.slice A xs.length c] w fun e w' => ∃ A' c' zs, zs = xs.filterMap wF ∧ zs.length ≤ xs.length ∧ e = .returned (.slice A' zs.length c') ∧ zs.length ≤ c' ∧ kAttr.R 71 w' w.heap.size (OkFrom w.heap.size) (.slice A' zs.length c') zs ∧ Below w.heap.size w w' := by
 have hpl : xs.length ≤ 9223372036854775807 := hx.2.1
 refine RX.enter Tryd.func113 rfl 23 rfl [(0, .slice A xs.length c)] rfl (by kernel_rfl) (fun R_ hR_ => ?_)
 refine sq (rg (xe0 1 [(0, .slice A xs.length c)] ?_))
 refine nl (sq (rg (xw 1 [] [(6, .slice (some ⟨w.heap.size, 0, none⟩) 0 0)] [] (w.alloc (.cells #[] 71)) [] trivial ?_)))
 obtain ⟨w_1, hw_5, hb_2, hk_3, hz_4⟩ := new_world w #[] 71
 rw [hw_5]
 refine xr0 1 [(3, .slice (some ⟨w.heap.size, 0, none⟩) 0 0)] [6] ?_
 refine nl (sq (sq (rg (xr0 3 [(7, .slice A xs.length c), (8, .int .i64 (xs.length : Int)), (9, .int .i64 0)] [0] ?_))))
 refine nl (X_block ?_)
 have hr_6 := Kd.R_litB kAttr (W := w) (e := 71) (cs := #[]) [] hk_3 (repsAttr []) (Nat.le_of_ble_eq_true (by kernel_rfl))
 refine X_loop (ι := Nat × Option Addr × Nat × List At) (fun ⟨i, A3, c3, zs3⟩ => [(3, .slice A3 zs3.length c3), (7, .slice A xs.length c), (8, .int .i64 (xs.length : Int)), (9, .int .i64 (i : Int))]) (fun ⟨i, A3, c3, zs3⟩ wl => i ≤ xs.length ∧ zs3 = (xs.take i).filterMap (wF) ∧ kAttr.R 71 wl w.heap.size (OkFrom w.heap.size) (.slice A3 zs3.length c3) zs3 ∧ w.heap.size ≤ wl.heap.size ∧ Below w.heap.size w wl) (fun ⟨i, A3, c3, zs3⟩ => xs.length - i) (0, (some ⟨w.heap.size, 0, none⟩), 0, []) ⟨by omega, rfl, hr_6, (hb_2).size, hb_2⟩ (by kernel_rfl) ?_
 rintro ⟨i, A3, c3, zs3⟩ wl ⟨hi, he3, hr3, hle3, HB⟩
 have hzl : zs3.length ≤ xs.length := by rw [he3]; exact Nat.le_trans (List.length_filterMap_le _ _) (by rw [List.length_take]; omega)
 refine sq (X_region ?_)
 by_cases c_7 : (i : Int) < (xs.length : Int)
 ·refine xr 1 [(10, .eq (.bool true))] [(10, .bool true)] [] [Value.bool (decide ((i : Int) < (xs.length : Int))) = Value.bool true] ⟨congrArg Value.bool (decide_eq_true (c_7)), trivial⟩ ?_
  refine nl (sq (ct (sk (sq (bk (sq (X_region ?_)))))))
  obtain ⟨ad_8, ha_9, hc_10⟩ := Kd.atAttr (Kd.C_below hx HB) (i := (i : Int)) (by omega) (by omega)
  replace hc_10 : CellsAt wl (ad_8.add ((i : Int).toNat * 4)) [.string ((xs.getD i at0).1), .int .i64 ((xs.getD i at0).2.1), .int .i64 ((xs.getD i at0).2.2.1), .string ((xs.getD i at0).2.2.2)] := hc_10
  refine xw 3 [(11, .idx ad_8), (12, .load (.agg #[.string ((xs.getD i at0).1), .int .i64 ((xs.getD i at0).2.1), .int .i64 ((xs.getD i at0).2.2.1), .string ((xs.getD i at0).2.2.2)]))] [(5, pw wl.heap.size 0), (12, .agg #[.string ((xs.getD i at0).1), .int .i64 ((xs.getD i at0).2.1), .int .i64 ((xs.getD i at0).2.2.1), .string ((xs.getD i at0).2.2.2)])] [10] (wl.alloc (.cells #[.string ByteArray.empty, .int .i64 0, .int .i64 0, .string ByteArray.empty] 71)) [A = some ad_8, (0 : Int) ≤ (i : Int), (i : Int) < (xs.length : Int), LoadsAs Tryd.prog 71 (ad_8.add ((i : Int).toNat * 4)) (.agg #[.string ((xs.getD i at0).1), .int .i64 ((xs.getD i at0).2.1), .int .i64 ((xs.getD i at0).2.2.1), .string ((xs.getD i at0).2.2.2)]) wl] ⟨ha_9, (by omega), (by omega), loadsE rfl rfl hc_10 0 ⟨by kernel_rfl, by kernel_rfl⟩, trivial⟩ ?_
  obtain ⟨w_11, hw_15, hb_12, hk_13, hz_14⟩ := new_world wl #[.string ByteArray.empty, .int .i64 0, .int .i64 0, .string ByteArray.empty] 71
  rw [hw_15]
  refine xst (.agg #[.string ((xs.getD i at0).1), .int .i64 ((xs.getD i at0).2.1), .int .i64 ((xs.getD i at0).2.2.1), .string ((xs.getD i at0).2.2.2)]) hk_13 0 #[.string ((xs.getD i at0).1), .int .i64 ((xs.getD i at0).2.1), .int .i64 ((xs.getD i at0).2.2.1), .string ((xs.getD i at0).2.2.2)] (fun w_16 hg_17 hk_18 hz_19 => ?_)
  refine nl (sq (rg (xr 3 [(15, .load (.int .i64 ((xs.getD i at0).2.1)))] [(15, .int .i64 ((xs.getD i at0).2.1))] [12] [LoadsAs Tryd.prog 3 (⟨wl.heap.size, 1, none⟩) (.int .i64 ((xs.getD i at0).2.1)) w_16] ⟨loads1 rfl (Blk.cell hk_18 1 _ rfl), trivial⟩ ?_)))
  by_cases c_20 : (xs.getD i at0).2.1 = 0
  ·refine xr 1 [(16, .eq (.bool false))] [(16, .bool false)] [15] [Value.bool ((xs.getD i at0).2.1 != 0) = Value.bool false] ⟨congrArg Value.bool (bneF (c_20)), trivial⟩ ?_
   refine nl (cf (sk (rg (xr 2 [(21, .eq (.int .i64 ((i : Int) + 1)))] [(9, .int .i64 ((i : Int) + 1))] [5, 16] [Value.int .i64 (IntKind.i64.wrap ((i : Int) + 1)) = Value.int .i64 ((i : Int) + 1)] ⟨wr_i64 (by omega) (by omega), trivial⟩ ?_))))
   refine nl ?_
   refine ⟨(i + 1, A3, c3, zs3), by kernel_rfl, ?_, ?_⟩
   ·have hnx : zs3 = (xs.take (i + 1)).filterMap (wF) := by rw [take_map_snoc (wF) (show i < xs.length from by omega), ← he3]; unfold wF; rw [if_pos c_20]; simp
    exact ⟨by omega, hnx, (Kd.R_below hr3 (bg hb_12 hg_17 (Nat.le_refl _))), ((bg (bt HB hb_12) hg_17 hle3)).size, (bg (bt HB hb_12) hg_17 hle3)⟩
   (try dsimp only); omega
  refine xr 1 [(16, .eq (.bool true))] [(16, .bool true)] [15] [Value.bool ((xs.getD i at0).2.1 != 0) = Value.bool true] ⟨congrArg Value.bool (bneT (c_20)), trivial⟩ ?_
  refine nl (ct (rg (xw 3 [(18, .load (.agg #[.string ((xs.getD i at0).1), .int .i64 ((xs.getD i at0).2.1), .int .i64 ((xs.getD i at0).2.2.1), .string ((xs.getD i at0).2.2.2)]))] [(17, .slice A3 zs3.length c3), (19, .slice (some ⟨w_16.heap.size, 0, none⟩) 1 1)] [3, 5, 16] (w_16.alloc (.cells #[.string ((xs.getD i at0).1), .int .i64 ((xs.getD i at0).2.1), .int .i64 ((xs.getD i at0).2.2.1), .string ((xs.getD i at0).2.2.2)] 71)) [LoadsAs Tryd.prog 71 (⟨wl.heap.size, 0, none⟩) (.agg #[.string ((xs.getD i at0).1), .int .i64 ((xs.getD i at0).2.1), .int .i64 ((xs.getD i at0).2.2.1), .string ((xs.getD i at0).2.2.2)]) w_16] ⟨loadsB rfl rfl hk_18 0 ⟨by kernel_rfl, by kernel_rfl⟩, trivial⟩ ?_)))
  obtain ⟨w_21, hw_25, hb_22, hk_23, hz_24⟩ := new_world w_16 #[.string ((xs.getD i at0).1), .int .i64 ((xs.getD i at0).2.1), .int .i64 ((xs.getD i at0).2.2.1), .string ((xs.getD i at0).2.2.2)] 71
  rw [hw_25]
  rw [← hw_25]
  refine XL_append kAttr rfl rfl rfl w.heap.size 71 (.agg #[.string ByteArray.empty, .int .i64 0, .int .i64 0, .string ByteArray.empty]) 48 Tryd.underlying45 info71 rfl (by decide) (by omega) zs3 ((xs.getD i at0).1, (xs.getD i at0).2.1, (xs.getD i at0).2.2.1, (xs.getD i at0).2.2.2) [.string ((xs.getD i at0).1), .int .i64 ((xs.getD i at0).2.1), .int .i64 ((xs.getD i at0).2.2.1), .string ((xs.getD i at0).2.2.2)] (fun _ => False) (by kernel_rfl) (kAttr_M _ _ _ _) (fun _ h => h.elim) (Kd.R_below hr3 (bg hb_12 hg_17 (Nat.le_refl _))) ((bg (bt HB hb_12) hg_17 hle3)).size (by first | omega | (simp; omega)) ?_
  intro A_26 c_27 w_28 hr_29 hc_30 hg_31 hl_32 ha_33
  refine xe0 1 [(3, .slice A_26 ((zs3 ++ [((xs.getD i at0).1, (xs.getD i at0).2.1, (xs.getD i at0).2.2.1, (xs.getD i at0).2.2.2)]).length) c_27), (7, .slice A xs.length c), (8, .int .i64 (xs.length : Int)), (9, nv i)] ?_
  refine nl (rg (xr 2 [(21, .eq (.int .i64 ((i : Int) + 1)))] [(9, .int .i64 ((i : Int) + 1))] [] [Value.int .i64 (IntKind.i64.wrap ((i : Int) + 1)) = Value.int .i64 ((i : Int) + 1)] ⟨wr_i64 (by omega) (by omega), trivial⟩ ?_))
  refine nl ?_
  have hB_34 : Below w.heap.size w w_28 := (bgo (bg (bt HB hb_12) hg_17 hle3) hg_31 hl_32 (Nat.le_refl _))
  refine ⟨(i + 1, A_26, c_27, (zs3 ++ [((xs.getD i at0).1, (xs.getD i at0).2.1, (xs.getD i at0).2.2.1, (xs.getD i at0).2.2.2)])), by kernel_rfl, ?_, ?_⟩
  ·have hnx : (zs3 ++ [((xs.getD i at0).1, (xs.getD i at0).2.1, (xs.getD i at0).2.2.1, (xs.getD i at0).2.2.2)]) = (xs.take (i + 1)).filterMap (wF) := by rw [take_map_snoc (wF) (show i < xs.length from by omega), ← he3]; unfold wF; rw [if_neg c_20]; simp
   exact ⟨by omega, hnx, hr_29, (hB_34).size, hB_34⟩
  (try dsimp only); omega
 refine xr 1 [(10, .eq (.bool false))] [(10, .bool false)] [] [Value.bool (decide ((i : Int) < (xs.length : Int))) = Value.bool false] ⟨congrArg Value.bool (decide_eq_false (c_7)), trivial⟩ ?_
 refine nl (sq (cf (X_exit (sq (rg (xe0 2 [(2, .slice A3 zs3.length c3)] ?_))))))
 refine nl (X_ret (rk [.slice A3 zs3.length c3] (hR_ _ _ ?_)))
 have hta : xs.take i = xs := List.take_of_length_le (by omega)
 rw [hta] at he3
 exact ⟨_, _, zs3, he3, by omega, rfl, (RX.Kd.R_len hr3).2, hr3, HB⟩
end Go.Proofs.YtkehomiogkoomaaDoor
