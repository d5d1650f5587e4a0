import Derived.Test.YtkehomiogkoomaaDoorA4
import Derived.Test.YtkehomiogkoomaaDoorA3
import Derived.Test.YtkehomiogkoomaaDoorPatch
import Derived.Test.YtkehomiogkoomaaDoorCap2
import Derived.Test.YtkehomiogkoomaaDoorAn2
/- What attrs.composed, between and Transform's last part answer: lists of steps' answers. Conditions: lengths. -/
set_option linter.unusedVariables false
set_option linter.unusedSimpArgs false
set_option maxRecDepth 100000
namespace Go.Proofs.YtkehomiogkoomaaDoor
open Go Go.RowKit Go.Proofs.YtkehomiogkoomaaDoorW.PrintWords RX
theorem ent108 : Ent Tryd.prog 108 := ent_of Tryd.func108 (by kernel_rfl) rfl
theorem ent153 : Ent Tryd.prog 153 := ent_of Tryd.func153 (by kernel_rfl) rfl
theorem ent110 : Ent Tryd.prog 110 := ent_of Tryd.func110 (by kernel_rfl) rfl
/-- what has been put out so far: a cell of the caller's holds the row -/
def OutSt (Wb : World) (g : Nat) (xs : List At) (w : World) : Prop := ∃ A c, Blk w g 45 #[.slice A xs.length c] ∧ kAttr.R 71 w Wb.heap.size (OkFrom Wb.heap.size) (.slice A xs.length c) xs ∧ Wb.heap.size ≤ w.heap.size
theorem OutSt.below {Wb : World} {g : Nat} {xs : List At} {w w1 : World} (h : OutSt Wb g xs w) (hb : Below w.heap.size w w1) : OutSt Wb g xs w1 := by
 obtain ⟨A, c, h1, h2, h3⟩ := h
 exact ⟨A, c, h1.below hb, Kd.R_below h2 hb, Nat.le_trans h3 hb.size⟩
set_option maxHeartbeats 1000000 in
theorem cmp1_x (w Wb W00 : World) (g2 : Nat) (h2 : g2 < Wb.heap.size) (hW : W00.heap.size ≤ g2) (hWb : W00.heap.size ≤ Wb.heap.size) (hB : Below W00.heap.size W00 w) (nulls : Bool) (g1 : Nat) (hne : g1 ≠ g2) (h1 : g1 < Wb.heap.size) (hb1 : Blk w g1 4 #[.bool nulls]) (x : At) (ax : Addr) (hax : CellsAt w ax (atV x)) (A : Option Addr) (c : Nat) (xs : List At) (hb2 : Blk w g2 45 #[.slice A xs.length c])
  (hr : kAttr.R 71 w Wb.heap.size (OkFrom Wb.heap.size) (.slice A xs.length c) xs) (hle : Wb.heap.size ≤ w.heap.size) (hl : xs.length ≤ 1000000000) :
  Calls Tryd.prog 153 #[.string x.1, .pointer (some ax), .pointer none, .pointer (some ⟨g1, 0, none⟩), .pointer (some ⟨g2, 0, none⟩)] w fun e w' => e = .returned (.tuple #[]) ∧ Blk w' g1 4 #[.bool nulls] ∧ OutSt Wb g2 (xs ++ (cmpF nulls (some x, none)).toList) w' ∧ Below W00.heap.size W00 w' := by
 refine RX.enter Tryd.func153 rfl 25 rfl [(0, .string x.1), (1, .pointer (some ax)), (2, .pointer none), (3, .pointer (some ⟨g1, 0, none⟩)), (4, .pointer (some ⟨g2, 0, none⟩))] rfl (by kernel_rfl) (fun R_ hR_ => ?_)
 refine sq (sq (rg (xe0 2 [(1, .pointer (some ax)), (2, .pointer none), (3, pw g1 0), (4, pw g2 0), (9, .bool true)] ?_)))
 refine nl (ct (rg (xr0 2 [(2, .pointer (some ax))] [1, 9] ?_)))
 refine nl (sq (rg (xr 2 [(11, .load (.bool nulls))] [(12, .bool nulls)] [3] [LoadsAs Tryd.prog 4 (⟨g1, 0, none⟩) (.bool nulls) w] ⟨loads1 rfl (Blk.cell hb1 0 _ rfl), trivial⟩ ?_)))
 by_cases c_1 : nulls = true
 ·rw [show (nulls : Bool) = true from by simpa using c_1]
  refine xr0 6 [(18, .bool true)] [12] ?_
  refine nl (ct (X_grow [5, 6] 7 #[false, false, false, false, false, false, false] (by kernel_rfl) (by kernel_rfl) (by kernel_rfl) (fun wd_2 hb_3 hh_4 => ?_)))
  refine XB_run (fuel' := 3) (Below.refl _ _) [0, 1, 2, 3] [(19, .load (.slice A xs.length c)), (22, .load (.agg #[.string x.1, .int .i64 x.2.1, .int .i64 x.2.2.1, .string x.2.2.2]))] [.slice A xs.length c, .pointer (some ax), .pointer (some ax), .agg #[.string x.1, .int .i64 x.2.1, .int .i64 x.2.2.1, .string x.2.2.2]] #[true, true, true, true, false, false, false] [(4, .pointer (some ⟨g2, 0, none⟩)), (19, .slice A xs.length c), (22, .agg #[.string x.1, .int .i64 x.2.1, .int .i64 x.2.2.1, .string x.2.2.2])] (fun w_ => [LoadsAs Tryd.prog 45 (⟨g2, 0, none⟩) (.slice A xs.length c) w_, LoadsAs Tryd.prog 71 ax (.agg #[.string x.1, .int .i64 x.2.1, .int .i64 x.2.2.1, .string x.2.2.2]) w_]) (fun _ _ _ _ h => h) (fun w_ => by kernel_rfl) rfl (fun w_ hC_ => ⟨loads1 rfl (Blk.cell (Blk.below hb2 (bt hb_3 hC_)) 0 _ rfl), loadsE rfl rfl (cells_below hax (bt hb_3 hC_)) 0 ⟨by kernel_rfl, by kernel_rfl⟩, trivial⟩) ?_
  refine XB_mid (fuel' := 2) 4 #[true, true, true, true, true, false, false] _ rfl (by kernel_rfl) (by kernel_rfl) rfl ?_
  refine xw 1 [] [(23, .slice (some ⟨wd_2.heap.size, 0, none⟩) 1 1)] [22] (wd_2.alloc (.cells #[.string x.1, .int .i64 x.2.1, .int .i64 x.2.2.1, .string x.2.2.2] 71)) [] trivial ?_
  obtain ⟨w_5, hw_9, hb_6, hk_7, hz_8⟩ := new_world wd_2 #[.string x.1, .int .i64 x.2.1, .int .i64 x.2.2.1, .string x.2.2.2] 71
  rw [hw_9]
  refine nl ?_
  refine ⟨hb_6, ?_⟩
  refine XB_act (fuel' := 1) 5 #[true, true, true, true, true, true, false] _ rfl (by kernel_rfl) rfl (by kernel_rfl) rfl ?_
  rw [← hw_9]
  refine XL_append kAttr rfl rfl rfl Wb.heap.size 71 (.agg #[.string ByteArray.empty, .int .i64 0, .int .i64 0, .string ByteArray.empty]) 48 Tryd.underlying45 info71 rfl (by decide) (by omega) xs (x.1, x.2.1, x.2.2.1, x.2.2.2) [.string x.1, .int .i64 x.2.1, .int .i64 x.2.2.1, .string x.2.2.2] (fun _ => False) (by kernel_rfl) (kAttr_M _ _ _ _) (fun _ h => h.elim) (Kd.R_below hr hb_3) (Nat.le_trans hle hb_3.size) (by first | omega | (simp; omega)) ?_
  intro A_10 c_11 w_12 hr_13 hc_14 hg_15 hl_16 ha_17
  have hk_18 := Blk.own (Blk.below hb1 hb_3) hg_15 hl_16 h1
  have hk_19 := Blk.own (Blk.below hb2 hb_3) hg_15 hl_16 h2
  refine nl (XB_act (fuel' := 0) 6 #[true, true, true, true, true, true, true] _ rfl (by kernel_rfl) rfl (by kernel_rfl) rfl ?_)
  refine xst (.slice A_10 ((xs ++ [(x.1, x.2.1, x.2.2.1, x.2.2.2)]).length) c_11) hk_19 0 #[.slice A_10 ((xs ++ [(x.1, x.2.1, x.2.2.1, x.2.2.2)]).length) c_11] (fun w_20 hg_21 hk_22 hz_23 => ?_)
  have hk_24 := Blk.other hk_18 hg_21 hne
  have hr_25 := RX.Kd.R_past hr_13 hg_21 h2
  refine nl (XB_done (by kernel_rfl) ?_)
  refine ek [] (hR_ _ _ ?_)
  have hB_26 : Below W00.heap.size W00 w_20 := (bg (bgo (bt hB hb_3) hg_15 hl_16 hWb) hg_21 hW)
  have hF : cmpF nulls (some x, none) = some ((x.1, x.2.1, x.2.2.1, x.2.2.2)) := by first | (simp_all [cmpF, btwF, trnF, isNull]; done) | (simp_all [cmpF, btwF, trnF, isNull]; rfl)
  rw [hF]; (try simp only [Option.toList_none, Option.toList_some, List.append_nil])
  exact ⟨rfl, hk_24, ⟨_, _, hk_22, hr_25, (Nat.le_trans hle (Nat.le_trans (Nat.le_trans hb_3.size hg_15.size) hg_21.size))⟩, hB_26⟩
 rw [show (nulls : Bool) = false from by simpa using c_1]
 refine xr 3 [(15, .load (.agg #[.string x.1, .int .i64 x.2.1, .int .i64 x.2.2.1, .string x.2.2.2]))] [(12, .bool false), (15, .agg #[.string x.1, .int .i64 x.2.1, .int .i64 x.2.2.1, .string x.2.2.2])] [] [LoadsAs Tryd.prog 71 ax (.agg #[.string x.1, .int .i64 x.2.1, .int .i64 x.2.2.1, .string x.2.2.2]) w] ⟨loadsE rfl rfl hax 0 ⟨by kernel_rfl, by kernel_rfl⟩, trivial⟩ ?_
 refine xc 99 ent99 [.agg #[.string x.1, .int .i64 x.2.1, .int .i64 x.2.2.1, .string x.2.2.2]] (null_any x _) ?_
 rintro e w_27 ⟨rfl, hb_28⟩; refine ⟨_, rfl, ?_⟩
 by_cases c_29 : decide (x.2.1 = 0) = true
 ·rw [show (decide (x.2.1 = 0) : Bool) = true from by simpa using c_29]
  refine xr0 2 [(18, .bool false)] [12, 15, 16] ?_
  refine nl (cf (sk (ek [] (hR_ _ _ ?_))))
  have hF : cmpF nulls (some x, none) = none := by first | (simp_all [cmpF, btwF, trnF, isNull]; done) | (simp_all [cmpF, btwF, trnF, isNull]; rfl)
  rw [hF]; (try simp only [Option.toList_none, Option.toList_some, List.append_nil])
  exact ⟨rfl, (Blk.below hb1 hb_28), ⟨_, _, (Blk.below hb2 hb_28), (Kd.R_below hr hb_28), (Nat.le_trans hle hb_28.size)⟩, (bt hB hb_28)⟩
 rw [show (decide (x.2.1 = 0) : Bool) = false from by simpa using c_29]
 refine xr0 2 [(18, .bool true)] [12, 15, 16] ?_
 refine nl (ct (X_grow [5, 6] 7 #[false, false, false, false, false, false, false] (by kernel_rfl) (by kernel_rfl) (by kernel_rfl) (fun wd_30 hb_31 hh_32 => ?_)))
 refine XB_run (fuel' := 3) (Below.refl _ _) [0, 1, 2, 3] [(19, .load (.slice A xs.length c)), (22, .load (.agg #[.string x.1, .int .i64 x.2.1, .int .i64 x.2.2.1, .string x.2.2.2]))] [.slice A xs.length c, .pointer (some ax), .pointer (some ax), .agg #[.string x.1, .int .i64 x.2.1, .int .i64 x.2.2.1, .string x.2.2.2]] #[true, true, true, true, false, false, false] [(4, .pointer (some ⟨g2, 0, none⟩)), (19, .slice A xs.length c), (22, .agg #[.string x.1, .int .i64 x.2.1, .int .i64 x.2.2.1, .string x.2.2.2])] (fun w_ => [LoadsAs Tryd.prog 45 (⟨g2, 0, none⟩) (.slice A xs.length c) w_, LoadsAs Tryd.prog 71 ax (.agg #[.string x.1, .int .i64 x.2.1, .int .i64 x.2.2.1, .string x.2.2.2]) w_]) (fun _ _ _ _ h => h) (fun w_ => by kernel_rfl) rfl (fun w_ hC_ => ⟨loads1 rfl (Blk.cell (Blk.below hb2 (bt (bt hb_28 hb_31) hC_)) 0 _ rfl), loadsE rfl rfl (cells_below hax (bt (bt hb_28 hb_31) hC_)) 0 ⟨by kernel_rfl, by kernel_rfl⟩, trivial⟩) ?_
 refine XB_mid (fuel' := 2) 4 #[true, true, true, true, true, false, false] _ rfl (by kernel_rfl) (by kernel_rfl) rfl ?_
 refine xw 1 [] [(23, .slice (some ⟨wd_30.heap.size, 0, none⟩) 1 1)] [22] (wd_30.alloc (.cells #[.string x.1, .int .i64 x.2.1, .int .i64 x.2.2.1, .string x.2.2.2] 71)) [] trivial ?_
 obtain ⟨w_33, hw_37, hb_34, hk_35, hz_36⟩ := new_world wd_30 #[.string x.1, .int .i64 x.2.1, .int .i64 x.2.2.1, .string x.2.2.2] 71
 rw [hw_37]
 refine nl ?_
 refine ⟨hb_34, ?_⟩
 refine XB_act (fuel' := 1) 5 #[true, true, true, true, true, true, false] _ rfl (by kernel_rfl) rfl (by kernel_rfl) rfl ?_
 rw [← hw_37]
 refine XL_append kAttr rfl rfl rfl Wb.heap.size 71 (.agg #[.string ByteArray.empty, .int .i64 0, .int .i64 0, .string ByteArray.empty]) 48 Tryd.underlying45 info71 rfl (by decide) (by omega) xs (x.1, x.2.1, x.2.2.1, x.2.2.2) [.string x.1, .int .i64 x.2.1, .int .i64 x.2.2.1, .string x.2.2.2] (fun _ => False) (by kernel_rfl) (kAttr_M _ _ _ _) (fun _ h => h.elim) (Kd.R_below hr (bt hb_28 hb_31)) (Nat.le_trans hle (Nat.le_trans hb_28.size hb_31.size)) (by first | omega | (simp; omega)) ?_
 intro A_38 c_39 w_40 hr_41 hc_42 hg_43 hl_44 ha_45
 have hk_46 := Blk.own (Blk.below hb1 (bt hb_28 hb_31)) hg_43 hl_44 h1
 have hk_47 := Blk.own (Blk.below hb2 (bt hb_28 hb_31)) hg_43 hl_44 h2
 refine nl (XB_act (fuel' := 0) 6 #[true, true, true, true, true, true, true] _ rfl (by kernel_rfl) rfl (by kernel_rfl) rfl ?_)
 refine xst (.slice A_38 ((xs ++ [(x.1, x.2.1, x.2.2.1, x.2.2.2)]).length) c_39) hk_47 0 #[.slice A_38 ((xs ++ [(x.1, x.2.1, x.2.2.1, x.2.2.2)]).length) c_39] (fun w_48 hg_49 hk_50 hz_51 => ?_)
 have hk_52 := Blk.other hk_46 hg_49 hne
 have hr_53 := RX.Kd.R_past hr_41 hg_49 h2
 refine nl (XB_done (by kernel_rfl) ?_)
 refine ek [] (hR_ _ _ ?_)
 have hB_54 : Below W00.heap.size W00 w_48 := (bg (bgo (bt (bt hB hb_28) hb_31) hg_43 hl_44 hWb) hg_49 hW)
 have hF : cmpF nulls (some x, none) = some ((x.1, x.2.1, x.2.2.1, x.2.2.2)) := by first | (simp_all [cmpF, btwF, trnF, isNull]; done) | (simp_all [cmpF, btwF, trnF, isNull]; rfl)
 rw [hF]; (try simp only [Option.toList_none, Option.toList_some, List.append_nil])
 exact ⟨rfl, hk_52, ⟨_, _, hk_50, hr_53, (Nat.le_trans hle (Nat.le_trans (Nat.le_trans (Nat.le_trans hb_28.size hb_31.size) hg_43.size) hg_49.size))⟩, hB_54⟩
set_option maxHeartbeats 1000000 in
theorem cmp1_y (w Wb W00 : World) (g2 : Nat) (h2 : g2 < Wb.heap.size) (hW : W00.heap.size ≤ g2) (hWb : W00.heap.size ≤ Wb.heap.size) (hB : Below W00.heap.size W00 w) (nulls : Bool) (g1 : Nat) (hne : g1 ≠ g2) (h1 : g1 < Wb.heap.size) (hb1 : Blk w g1 4 #[.bool nulls]) (y : At) (ay : Addr) (hay : CellsAt w ay (atV y)) (A : Option Addr) (c : Nat) (xs : List At) (hb2 : Blk w g2 45 #[.slice A xs.length c])
  (hr : kAttr.R 71 w Wb.heap.size (OkFrom Wb.heap.size) (.slice A xs.length c) xs) (hle : Wb.heap.size ≤ w.heap.size) (hl : xs.length ≤ 1000000000) :
  Calls Tryd.prog 153 #[.string y.1, .pointer none, .pointer (some ay), .pointer (some ⟨g1, 0, none⟩), .pointer (some ⟨g2, 0, none⟩)] w fun e w' => e = .returned (.tuple #[]) ∧ Blk w' g1 4 #[.bool nulls] ∧ OutSt Wb g2 (xs ++ (cmpF nulls (none, some y)).toList) w' ∧ Below W00.heap.size W00 w' := by
 refine RX.enter Tryd.func153 rfl 25 rfl [(0, .string y.1), (1, .pointer none), (2, .pointer (some ay)), (3, .pointer (some ⟨g1, 0, none⟩)), (4, .pointer (some ⟨g2, 0, none⟩))] rfl (by kernel_rfl) (fun R_ hR_ => ?_)
 refine sq (sq (rg (xe0 2 [(1, .pointer none), (2, .pointer (some ay)), (3, pw g1 0), (4, pw g2 0), (9, .bool false)] ?_)))
 refine nl (cf (sk (sq (rg (xr 2 [(11, .load (.bool nulls))] [(12, .bool nulls)] [1, 3, 9] [LoadsAs Tryd.prog 4 (⟨g1, 0, none⟩) (.bool nulls) w] ⟨loads1 rfl (Blk.cell hb1 0 _ rfl), trivial⟩ ?_)))))
 by_cases c_1 : nulls = true
 ·rw [show (nulls : Bool) = true from by simpa using c_1]
  refine xr0 6 [(18, .bool true)] [12] ?_
  refine nl (ct (X_grow [5, 6] 7 #[false, false, false, false, false, false, false] (by kernel_rfl) (by kernel_rfl) (by kernel_rfl) (fun wd_2 hb_3 hh_4 => ?_)))
  refine XB_run (fuel' := 3) (Below.refl _ _) [0, 1, 2, 3] [(19, .load (.slice A xs.length c)), (22, .load (.agg #[.string y.1, .int .i64 y.2.1, .int .i64 y.2.2.1, .string y.2.2.2]))] [.slice A xs.length c, .pointer (some ay), .pointer (some ay), .agg #[.string y.1, .int .i64 y.2.1, .int .i64 y.2.2.1, .string y.2.2.2]] #[true, true, true, true, false, false, false] [(4, .pointer (some ⟨g2, 0, none⟩)), (19, .slice A xs.length c), (22, .agg #[.string y.1, .int .i64 y.2.1, .int .i64 y.2.2.1, .string y.2.2.2])] (fun w_ => [LoadsAs Tryd.prog 45 (⟨g2, 0, none⟩) (.slice A xs.length c) w_, LoadsAs Tryd.prog 71 ay (.agg #[.string y.1, .int .i64 y.2.1, .int .i64 y.2.2.1, .string y.2.2.2]) w_]) (fun _ _ _ _ h => h) (fun w_ => by kernel_rfl) rfl (fun w_ hC_ => ⟨loads1 rfl (Blk.cell (Blk.below hb2 (bt hb_3 hC_)) 0 _ rfl), loadsE rfl rfl (cells_below hay (bt hb_3 hC_)) 0 ⟨by kernel_rfl, by kernel_rfl⟩, trivial⟩) ?_
  refine XB_mid (fuel' := 2) 4 #[true, true, true, true, true, false, false] _ rfl (by kernel_rfl) (by kernel_rfl) rfl ?_
  refine xw 1 [] [(23, .slice (some ⟨wd_2.heap.size, 0, none⟩) 1 1)] [22] (wd_2.alloc (.cells #[.string y.1, .int .i64 y.2.1, .int .i64 y.2.2.1, .string y.2.2.2] 71)) [] trivial ?_
  obtain ⟨w_5, hw_9, hb_6, hk_7, hz_8⟩ := new_world wd_2 #[.string y.1, .int .i64 y.2.1, .int .i64 y.2.2.1, .string y.2.2.2] 71
  rw [hw_9]
  refine nl ?_
  refine ⟨hb_6, ?_⟩
  refine XB_act (fuel' := 1) 5 #[true, true, true, true, true, true, false] _ rfl (by kernel_rfl) rfl (by kernel_rfl) rfl ?_
  rw [← hw_9]
  refine XL_append kAttr rfl rfl rfl Wb.heap.size 71 (.agg #[.string ByteArray.empty, .int .i64 0, .int .i64 0, .string ByteArray.empty]) 48 Tryd.underlying45 info71 rfl (by decide) (by omega) xs (y.1, y.2.1, y.2.2.1, y.2.2.2) [.string y.1, .int .i64 y.2.1, .int .i64 y.2.2.1, .string y.2.2.2] (fun _ => False) (by kernel_rfl) (kAttr_M _ _ _ _) (fun _ h => h.elim) (Kd.R_below hr hb_3) (Nat.le_trans hle hb_3.size) (by first | omega | (simp; omega)) ?_
  intro A_10 c_11 w_12 hr_13 hc_14 hg_15 hl_16 ha_17
  have hk_18 := Blk.own (Blk.below hb1 hb_3) hg_15 hl_16 h1
  have hk_19 := Blk.own (Blk.below hb2 hb_3) hg_15 hl_16 h2
  refine nl (XB_act (fuel' := 0) 6 #[true, true, true, true, true, true, true] _ rfl (by kernel_rfl) rfl (by kernel_rfl) rfl ?_)
  refine xst (.slice A_10 ((xs ++ [(y.1, y.2.1, y.2.2.1, y.2.2.2)]).length) c_11) hk_19 0 #[.slice A_10 ((xs ++ [(y.1, y.2.1, y.2.2.1, y.2.2.2)]).length) c_11] (fun w_20 hg_21 hk_22 hz_23 => ?_)
  have hk_24 := Blk.other hk_18 hg_21 hne
  have hr_25 := RX.Kd.R_past hr_13 hg_21 h2
  refine nl (XB_done (by kernel_rfl) ?_)
  refine ek [] (hR_ _ _ ?_)
  have hB_26 : Below W00.heap.size W00 w_20 := (bg (bgo (bt hB hb_3) hg_15 hl_16 hWb) hg_21 hW)
  have hF : cmpF nulls (none, some y) = some ((y.1, y.2.1, y.2.2.1, y.2.2.2)) := by first | (simp_all [cmpF, btwF, trnF, isNull]; done) | (simp_all [cmpF, btwF, trnF, isNull]; rfl)
  rw [hF]; (try simp only [Option.toList_none, Option.toList_some, List.append_nil])
  exact ⟨rfl, hk_24, ⟨_, _, hk_22, hr_25, (Nat.le_trans hle (Nat.le_trans (Nat.le_trans hb_3.size hg_15.size) hg_21.size))⟩, hB_26⟩
 rw [show (nulls : Bool) = false from by simpa using c_1]
 refine xr 3 [(15, .load (.agg #[.string y.1, .int .i64 y.2.1, .int .i64 y.2.2.1, .string y.2.2.2]))] [(12, .bool false), (15, .agg #[.string y.1, .int .i64 y.2.1, .int .i64 y.2.2.1, .string y.2.2.2])] [] [LoadsAs Tryd.prog 71 ay (.agg #[.string y.1, .int .i64 y.2.1, .int .i64 y.2.2.1, .string y.2.2.2]) w] ⟨loadsE rfl rfl hay 0 ⟨by kernel_rfl, by kernel_rfl⟩, trivial⟩ ?_
 refine xc 99 ent99 [.agg #[.string y.1, .int .i64 y.2.1, .int .i64 y.2.2.1, .string y.2.2.2]] (null_any y _) ?_
 rintro e w_27 ⟨rfl, hb_28⟩; refine ⟨_, rfl, ?_⟩
 by_cases c_29 : decide (y.2.1 = 0) = true
 ·rw [show (decide (y.2.1 = 0) : Bool) = true from by simpa using c_29]
  refine xr0 2 [(18, .bool false)] [12, 15, 16] ?_
  refine nl (cf (sk (ek [] (hR_ _ _ ?_))))
  have hF : cmpF nulls (none, some y) = none := by first | (simp_all [cmpF, btwF, trnF, isNull]; done) | (simp_all [cmpF, btwF, trnF, isNull]; rfl)
  rw [hF]; (try simp only [Option.toList_none, Option.toList_some, List.append_nil])
  exact ⟨rfl, (Blk.below hb1 hb_28), ⟨_, _, (Blk.below hb2 hb_28), (Kd.R_below hr hb_28), (Nat.le_trans hle hb_28.size)⟩, (bt hB hb_28)⟩
 rw [show (decide (y.2.1 = 0) : Bool) = false from by simpa using c_29]
 refine xr0 2 [(18, .bool true)] [12, 15, 16] ?_
 refine nl (ct (X_grow [5, 6] 7 #[false, false, false, false, false, false, false] (by kernel_rfl) (by kernel_rfl) (by kernel_rfl) (fun wd_30 hb_31 hh_32 => ?_)))
 refine XB_run (fuel' := 3) (Below.refl _ _) [0, 1, 2, 3] [(19, .load (.slice A xs.length c)), (22, .load (.agg #[.string y.1, .int .i64 y.2.1, .int .i64 y.2.2.1, .string y.2.2.2]))] [.slice A xs.length c, .pointer (some ay), .pointer (some ay), .agg #[.string y.1, .int .i64 y.2.1, .int .i64 y.2.2.1, .string y.2.2.2]] #[true, true, true, true, false, false, false] [(4, .pointer (some ⟨g2, 0, none⟩)), (19, .slice A xs.length c), (22, .agg #[.string y.1, .int .i64 y.2.1, .int .i64 y.2.2.1, .string y.2.2.2])] (fun w_ => [LoadsAs Tryd.prog 45 (⟨g2, 0, none⟩) (.slice A xs.length c) w_, LoadsAs Tryd.prog 71 ay (.agg #[.string y.1, .int .i64 y.2.1, .int .i64 y.2.2.1, .string y.2.2.2]) w_]) (fun _ _ _ _ h => h) (fun w_ => by kernel_rfl) rfl (fun w_ hC_ => ⟨loads1 rfl (Blk.cell (Blk.below hb2 (bt (bt hb_28 hb_31) hC_)) 0 _ rfl), loadsE rfl rfl (cells_below hay (bt (bt hb_28 hb_31) hC_)) 0 ⟨by kernel_rfl, by kernel_rfl⟩, trivial⟩) ?_
 refine XB_mid (fuel' := 2) 4 #[true, true, true, true, true, false, false] _ rfl (by kernel_rfl) (by kernel_rfl) rfl ?_
 refine xw 1 [] [(23, .slice (some ⟨wd_30.heap.size, 0, none⟩) 1 1)] [22] (wd_30.alloc (.cells #[.string y.1, .int .i64 y.2.1, .int .i64 y.2.2.1, .string y.2.2.2] 71)) [] trivial ?_
 obtain ⟨w_33, hw_37, hb_34, hk_35, hz_36⟩ := new_world wd_30 #[.string y.1, .int .i64 y.2.1, .int .i64 y.2.2.1, .string y.2.2.2] 71
 rw [hw_37]
 refine nl ?_
 refine ⟨hb_34, ?_⟩
 refine XB_act (fuel' := 1) 5 #[true, true, true, true, true, true, false] _ rfl (by kernel_rfl) rfl (by kernel_rfl) rfl ?_
 rw [← hw_37]
 refine XL_append kAttr rfl rfl rfl Wb.heap.size 71 (.agg #[.string ByteArray.empty, .int .i64 0, .int .i64 0, .string ByteArray.empty]) 48 Tryd.underlying45 info71 rfl (by decide) (by omega) xs (y.1, y.2.1, y.2.2.1, y.2.2.2) [.string y.1, .int .i64 y.2.1, .int .i64 y.2.2.1, .string y.2.2.2] (fun _ => False) (by kernel_rfl) (kAttr_M _ _ _ _) (fun _ h => h.elim) (Kd.R_below hr (bt hb_28 hb_31)) (Nat.le_trans hle (Nat.le_trans hb_28.size hb_31.size)) (by first | omega | (simp; omega)) ?_
 intro A_38 c_39 w_40 hr_41 hc_42 hg_43 hl_44 ha_45
 have hk_46 := Blk.own (Blk.below hb1 (bt hb_28 hb_31)) hg_43 hl_44 h1
 have hk_47 := Blk.own (Blk.below hb2 (bt hb_28 hb_31)) hg_43 hl_44 h2
 refine nl (XB_act (fuel' := 0) 6 #[true, true, true, true, true, true, true] _ rfl (by kernel_rfl) rfl (by kernel_rfl) rfl ?_)
 refine xst (.slice A_38 ((xs ++ [(y.1, y.2.1, y.2.2.1, y.2.2.2)]).length) c_39) hk_47 0 #[.slice A_38 ((xs ++ [(y.1, y.2.1, y.2.2.1, y.2.2.2)]).length) c_39] (fun w_48 hg_49 hk_50 hz_51 => ?_)
 have hk_52 := Blk.other hk_46 hg_49 hne
 have hr_53 := RX.Kd.R_past hr_41 hg_49 h2
 refine nl (XB_done (by kernel_rfl) ?_)
 refine ek [] (hR_ _ _ ?_)
 have hB_54 : Below W00.heap.size W00 w_48 := (bg (bgo (bt (bt hB hb_28) hb_31) hg_43 hl_44 hWb) hg_49 hW)
 have hF : cmpF nulls (none, some y) = some ((y.1, y.2.1, y.2.2.1, y.2.2.2)) := by first | (simp_all [cmpF, btwF, trnF, isNull]; done) | (simp_all [cmpF, btwF, trnF, isNull]; rfl)
 rw [hF]; (try simp only [Option.toList_none, Option.toList_some, List.append_nil])
 exact ⟨rfl, hk_52, ⟨_, _, hk_50, hr_53, (Nat.le_trans hle (Nat.le_trans (Nat.le_trans (Nat.le_trans hb_28.size hb_31.size) hg_43.size) hg_49.size))⟩, hB_54⟩
set_option maxHeartbeats 1000000 in
theorem cmp1_xy (w Wb W00 : World) (g2 : Nat) (h2 : g2 < Wb.heap.size) (hW : W00.heap.size ≤ g2) (hWb : W00.heap.size ≤ Wb.heap.size) (hB : Below W00.heap.size W00 w) (nulls : Bool) (g1 : Nat) (hne : g1 ≠ g2) (h1 : g1 < Wb.heap.size) (hb1 : Blk w g1 4 #[.bool nulls]) (x : At) (ax : Addr) (hax : CellsAt w ax (atV x)) (y : At) (ay : Addr) (hay : CellsAt w ay (atV y)) (A : Option Addr) (c : Nat) (xs : List At) (hb2 : Blk w g2 45 #[.slice A xs.length c])
  (hr : kAttr.R 71 w Wb.heap.size (OkFrom Wb.heap.size) (.slice A xs.length c) xs) (hle : Wb.heap.size ≤ w.heap.size) (hl : xs.length ≤ 1000000000) :
  Calls Tryd.prog 153 #[.string x.1, .pointer (some ax), .pointer (some ay), .pointer (some ⟨g1, 0, none⟩), .pointer (some ⟨g2, 0, none⟩)] w fun e w' => e = .returned (.tuple #[]) ∧ Blk w' g1 4 #[.bool nulls] ∧ OutSt Wb g2 (xs ++ (cmpF nulls (some x, some y)).toList) w' ∧ Below W00.heap.size W00 w' := by
 refine RX.enter Tryd.func153 rfl 25 rfl [(0, .string x.1), (1, .pointer (some ax)), (2, .pointer (some ay)), (3, .pointer (some ⟨g1, 0, none⟩)), (4, .pointer (some ⟨g2, 0, none⟩))] rfl (by kernel_rfl) (fun R_ hR_ => ?_)
 refine sq (sq (rg (xe0 2 [(1, .pointer (some ax)), (2, .pointer (some ay)), (3, pw g1 0), (4, pw g2 0), (9, .bool false)] ?_)))
 refine nl (cf (sk (sq (rg (xr 2 [(11, .load (.bool nulls))] [(12, .bool nulls)] [1, 3, 9] [LoadsAs Tryd.prog 4 (⟨g1, 0, none⟩) (.bool nulls) w] ⟨loads1 rfl (Blk.cell hb1 0 _ rfl), trivial⟩ ?_)))))
 by_cases c_1 : nulls = true
 ·rw [show (nulls : Bool) = true from by simpa using c_1]
  refine xr0 6 [(18, .bool true)] [12] ?_
  refine nl (ct (X_grow [5, 6] 7 #[false, false, false, false, false, false, false] (by kernel_rfl) (by kernel_rfl) (by kernel_rfl) (fun wd_2 hb_3 hh_4 => ?_)))
  refine XB_run (fuel' := 3) (Below.refl _ _) [0, 1, 2, 3] [(19, .load (.slice A xs.length c)), (22, .load (.agg #[.string y.1, .int .i64 y.2.1, .int .i64 y.2.2.1, .string y.2.2.2]))] [.slice A xs.length c, .pointer (some ay), .pointer (some ay), .agg #[.string y.1, .int .i64 y.2.1, .int .i64 y.2.2.1, .string y.2.2.2]] #[true, true, true, true, false, false, false] [(4, .pointer (some ⟨g2, 0, none⟩)), (19, .slice A xs.length c), (22, .agg #[.string y.1, .int .i64 y.2.1, .int .i64 y.2.2.1, .string y.2.2.2])] (fun w_ => [LoadsAs Tryd.prog 45 (⟨g2, 0, none⟩) (.slice A xs.length c) w_, LoadsAs Tryd.prog 71 ay (.agg #[.string y.1, .int .i64 y.2.1, .int .i64 y.2.2.1, .string y.2.2.2]) w_]) (fun _ _ _ _ h => h) (fun w_ => by kernel_rfl) rfl (fun w_ hC_ => ⟨loads1 rfl (Blk.cell (Blk.below hb2 (bt hb_3 hC_)) 0 _ rfl), loadsE rfl rfl (cells_below hay (bt hb_3 hC_)) 0 ⟨by kernel_rfl, by kernel_rfl⟩, trivial⟩) ?_
  refine XB_mid (fuel' := 2) 4 #[true, true, true, true, true, false, false] _ rfl (by kernel_rfl) (by kernel_rfl) rfl ?_
  refine xw 1 [] [(23, .slice (some ⟨wd_2.heap.size, 0, none⟩) 1 1)] [22] (wd_2.alloc (.cells #[.string y.1, .int .i64 y.2.1, .int .i64 y.2.2.1, .string y.2.2.2] 71)) [] trivial ?_
  obtain ⟨w_5, hw_9, hb_6, hk_7, hz_8⟩ := new_world wd_2 #[.string y.1, .int .i64 y.2.1, .int .i64 y.2.2.1, .string y.2.2.2] 71
  rw [hw_9]
  refine nl ?_
  refine ⟨hb_6, ?_⟩
  refine XB_act (fuel' := 1) 5 #[true, true, true, true, true, true, false] _ rfl (by kernel_rfl) rfl (by kernel_rfl) rfl ?_
  rw [← hw_9]
  refine XL_append kAttr rfl rfl rfl Wb.heap.size 71 (.agg #[.string ByteArray.empty, .int .i64 0, .int .i64 0, .string ByteArray.empty]) 48 Tryd.underlying45 info71 rfl (by decide) (by omega) xs (y.1, y.2.1, y.2.2.1, y.2.2.2) [.string y.1, .int .i64 y.2.1, .int .i64 y.2.2.1, .string y.2.2.2] (fun _ => False) (by kernel_rfl) (kAttr_M _ _ _ _) (fun _ h => h.elim) (Kd.R_below hr hb_3) (Nat.le_trans hle hb_3.size) (by first | omega | (simp; omega)) ?_
  intro A_10 c_11 w_12 hr_13 hc_14 hg_15 hl_16 ha_17
  have hk_18 := Blk.own (Blk.below hb1 hb_3) hg_15 hl_16 h1
  have hk_19 := Blk.own (Blk.below hb2 hb_3) hg_15 hl_16 h2
  refine nl (XB_act (fuel' := 0) 6 #[true, true, true, true, true, true, true] _ rfl (by kernel_rfl) rfl (by kernel_rfl) rfl ?_)
  refine xst (.slice A_10 ((xs ++ [(y.1, y.2.1, y.2.2.1, y.2.2.2)]).length) c_11) hk_19 0 #[.slice A_10 ((xs ++ [(y.1, y.2.1, y.2.2.1, y.2.2.2)]).length) c_11] (fun w_20 hg_21 hk_22 hz_23 => ?_)
  have hk_24 := Blk.other hk_18 hg_21 hne
  have hr_25 := RX.Kd.R_past hr_13 hg_21 h2
  refine nl (XB_done (by kernel_rfl) ?_)
  refine ek [] (hR_ _ _ ?_)
  have hB_26 : Below W00.heap.size W00 w_20 := (bg (bgo (bt hB hb_3) hg_15 hl_16 hWb) hg_21 hW)
  have hF : cmpF nulls (some x, some y) = some ((y.1, y.2.1, y.2.2.1, y.2.2.2)) := by first | (simp_all [cmpF, btwF, trnF, isNull]; done) | (simp_all [cmpF, btwF, trnF, isNull]; rfl)
  rw [hF]; (try simp only [Option.toList_none, Option.toList_some, List.append_nil])
  exact ⟨rfl, hk_24, ⟨_, _, hk_22, hr_25, (Nat.le_trans hle (Nat.le_trans (Nat.le_trans hb_3.size hg_15.size) hg_21.size))⟩, hB_26⟩
 rw [show (nulls : Bool) = false from by simpa using c_1]
 refine xr 3 [(15, .load (.agg #[.string y.1, .int .i64 y.2.1, .int .i64 y.2.2.1, .string y.2.2.2]))] [(12, .bool false), (15, .agg #[.string y.1, .int .i64 y.2.1, .int .i64 y.2.2.1, .string y.2.2.2])] [] [LoadsAs Tryd.prog 71 ay (.agg #[.string y.1, .int .i64 y.2.1, .int .i64 y.2.2.1, .string y.2.2.2]) w] ⟨loadsE rfl rfl hay 0 ⟨by kernel_rfl, by kernel_rfl⟩, trivial⟩ ?_
 refine xc 99 ent99 [.agg #[.string y.1, .int .i64 y.2.1, .int .i64 y.2.2.1, .string y.2.2.2]] (null_any y _) ?_
 rintro e w_27 ⟨rfl, hb_28⟩; refine ⟨_, rfl, ?_⟩
 by_cases c_29 : decide (y.2.1 = 0) = true
 ·rw [show (decide (y.2.1 = 0) : Bool) = true from by simpa using c_29]
  refine xr0 2 [(18, .bool false)] [12, 15, 16] ?_
  refine nl (cf (sk (ek [] (hR_ _ _ ?_))))
  have hF : cmpF nulls (some x, some y) = none := by first | (simp_all [cmpF, btwF, trnF, isNull]; done) | (simp_all [cmpF, btwF, trnF, isNull]; rfl)
  rw [hF]; (try simp only [Option.toList_none, Option.toList_some, List.append_nil])
  exact ⟨rfl, (Blk.below hb1 hb_28), ⟨_, _, (Blk.below hb2 hb_28), (Kd.R_below hr hb_28), (Nat.le_trans hle hb_28.size)⟩, (bt hB hb_28)⟩
 rw [show (decide (y.2.1 = 0) : Bool) = false from by simpa using c_29]
 refine xr0 2 [(18, .bool true)] [12, 15, 16] ?_
 refine nl (ct (X_grow [5, 6] 7 #[false, false, false, false, false, false, false] (by kernel_rfl) (by kernel_rfl) (by kernel_rfl) (fun wd_30 hb_31 hh_32 => ?_)))
 refine XB_run (fuel' := 3) (Below.refl _ _) [0, 1, 2, 3] [(19, .load (.slice A xs.length c)), (22, .load (.agg #[.string y.1, .int .i64 y.2.1, .int .i64 y.2.2.1, .string y.2.2.2]))] [.slice A xs.length c, .pointer (some ay), .pointer (some ay), .agg #[.string y.1, .int .i64 y.2.1, .int .i64 y.2.2.1, .string y.2.2.2]] #[true, true, true, true, false, false, false] [(4, .pointer (some ⟨g2, 0, none⟩)), (19, .slice A xs.length c), (22, .agg #[.string y.1, .int .i64 y.2.1, .int .i64 y.2.2.1, .string y.2.2.2])] (fun w_ => [LoadsAs Tryd.prog 45 (⟨g2, 0, none⟩) (.slice A xs.length c) w_, LoadsAs Tryd.prog 71 ay (.agg #[.string y.1, .int .i64 y.2.1, .int .i64 y.2.2.1, .string y.2.2.2]) w_]) (fun _ _ _ _ h => h) (fun w_ => by kernel_rfl) rfl (fun w_ hC_ => ⟨loads1 rfl (Blk.cell (Blk.below hb2 (bt (bt hb_28 hb_31) hC_)) 0 _ rfl), loadsE rfl rfl (cells_below hay (bt (bt hb_28 hb_31) hC_)) 0 ⟨by kernel_rfl, by kernel_rfl⟩, trivial⟩) ?_
 refine XB_mid (fuel' := 2) 4 #[true, true, true, true, true, false, false] _ rfl (by kernel_rfl) (by kernel_rfl) rfl ?_
 refine xw 1 [] [(23, .slice (some ⟨wd_30.heap.size, 0, none⟩) 1 1)] [22] (wd_30.alloc (.cells #[.string y.1, .int .i64 y.2.1, .int .i64 y.2.2.1, .string y.2.2.2] 71)) [] trivial ?_
 obtain ⟨w_33, hw_37, hb_34, hk_35, hz_36⟩ := new_world wd_30 #[.string y.1, .int .i64 y.2.1, .int .i64 y.2.2.1, .string y.2.2.2] 71
 rw [hw_37]
 refine nl ?_
 refine ⟨hb_34, ?_⟩
 refine XB_act (fuel' := 1) 5 #[true, true, true, true, true, true, false] _ rfl (by kernel_rfl) rfl (by kernel_rfl) rfl ?_
 rw [← hw_37]
 refine XL_append kAttr rfl rfl rfl Wb.heap.size 71 (.agg #[.string ByteArray.empty, .int .i64 0, .int .i64 0, .string ByteArray.empty]) 48 Tryd.underlying45 info71 rfl (by decide) (by omega) xs (y.1, y.2.1, y.2.2.1, y.2.2.2) [.string y.1, .int .i64 y.2.1, .int .i64 y.2.2.1, .string y.2.2.2] (fun _ => False) (by kernel_rfl) (kAttr_M _ _ _ _) (fun _ h => h.elim) (Kd.R_below hr (bt hb_28 hb_31)) (Nat.le_trans hle (Nat.le_trans hb_28.size hb_31.size)) (by first | omega | (simp; omega)) ?_
 intro A_38 c_39 w_40 hr_41 hc_42 hg_43 hl_44 ha_45
 have hk_46 := Blk.own (Blk.below hb1 (bt hb_28 hb_31)) hg_43 hl_44 h1
 have hk_47 := Blk.own (Blk.below hb2 (bt hb_28 hb_31)) hg_43 hl_44 h2
 refine nl (XB_act (fuel' := 0) 6 #[true, true, true, true, true, true, true] _ rfl (by kernel_rfl) rfl (by kernel_rfl) rfl ?_)
 refine xst (.slice A_38 ((xs ++ [(y.1, y.2.1, y.2.2.1, y.2.2.2)]).length) c_39) hk_47 0 #[.slice A_38 ((xs ++ [(y.1, y.2.1, y.2.2.1, y.2.2.2)]).length) c_39] (fun w_48 hg_49 hk_50 hz_51 => ?_)
 have hk_52 := Blk.other hk_46 hg_49 hne
 have hr_53 := RX.Kd.R_past hr_41 hg_49 h2
 refine nl (XB_done (by kernel_rfl) ?_)
 refine ek [] (hR_ _ _ ?_)
 have hB_54 : Below W00.heap.size W00 w_48 := (bg (bgo (bt (bt hB hb_28) hb_31) hg_43 hl_44 hWb) hg_49 hW)
 have hF : cmpF nulls (some x, some y) = some ((y.1, y.2.1, y.2.2.1, y.2.2.2)) := by first | (simp_all [cmpF, btwF, trnF, isNull]; done) | (simp_all [cmpF, btwF, trnF, isNull]; rfl)
 rw [hF]; (try simp only [Option.toList_none, Option.toList_some, List.append_nil])
 exact ⟨rfl, hk_52, ⟨_, _, hk_50, hr_53, (Nat.le_trans hle (Nat.le_trans (Nat.le_trans (Nat.le_trans hb_28.size hb_31.size) hg_43.size) hg_49.size))⟩, hB_54⟩
set_option maxHeartbeats 1000000 in
theorem trn1_x (w Wb W00 : World) (g2 : Nat) (h2 : g2 < Wb.heap.size) (hW : W00.heap.size ≤ g2) (hWb : W00.heap.size ≤ Wb.heap.size) (hB : Below W00.heap.size W00 w) (first : Bool) (g1 : Nat) (hne : g1 ≠ g2) (h1 : g1 < Wb.heap.size) (hb1 : Blk w g1 4 #[.bool first]) (x : At) (ax : Addr) (hax : CellsAt w ax (atV x)) (A : Option Addr) (c : Nat) (xs : List At) (hb2 : Blk w g2 45 #[.slice A xs.length c])
  (hr : kAttr.R 71 w Wb.heap.size (OkFrom Wb.heap.size) (.slice A xs.length c) xs) (hle : Wb.heap.size ≤ w.heap.size) (hl : xs.length ≤ 1000000000) :
  Calls Tryd.prog 110 #[.string x.1, .pointer (some ax), .pointer none, .pointer (some ⟨g1, 0, none⟩), .pointer (some ⟨g2, 0, none⟩)] w fun e w' => e = .returned (.tuple #[]) ∧ Blk w' g1 4 #[.bool first] ∧ OutSt Wb g2 (xs ++ (trnF first (some x, none)).toList) w' ∧ Below W00.heap.size W00 w' := by
 refine RX.enter Tryd.func110 rfl 24 rfl [(0, .string x.1), (1, .pointer (some ax)), (2, .pointer none), (3, .pointer (some ⟨g1, 0, none⟩)), (4, .pointer (some ⟨g2, 0, none⟩))] rfl (by kernel_rfl) (fun R_ hR_ => ?_)
 refine sq (rg (xe0 10 [(2, .pointer none), (4, pw g2 0), (17, .bool false)] ?_))
 refine nl (cf (sk (ek [] (hR_ _ _ ?_))))
 have hF : trnF first (some x, none) = none := by first | (simp_all [cmpF, btwF, trnF, isNull]; done) | (simp_all [cmpF, btwF, trnF, isNull]; rfl)
 rw [hF]; (try simp only [Option.toList_none, Option.toList_some, List.append_nil])
 exact ⟨rfl, hb1, ⟨_, _, hb2, hr, hle⟩, hB⟩
set_option maxHeartbeats 1000000 in
theorem trn1_y (w Wb W00 : World) (g2 : Nat) (h2 : g2 < Wb.heap.size) (hW : W00.heap.size ≤ g2) (hWb : W00.heap.size ≤ Wb.heap.size) (hB : Below W00.heap.size W00 w) (first : Bool) (g1 : Nat) (hne : g1 ≠ g2) (h1 : g1 < Wb.heap.size) (hb1 : Blk w g1 4 #[.bool first]) (y : At) (ay : Addr) (hay : CellsAt w ay (atV y)) (A : Option Addr) (c : Nat) (xs : List At) (hb2 : Blk w g2 45 #[.slice A xs.length c])
  (hr : kAttr.R 71 w Wb.heap.size (OkFrom Wb.heap.size) (.slice A xs.length c) xs) (hle : Wb.heap.size ≤ w.heap.size) (hl : xs.length ≤ 1000000000) :
  Calls Tryd.prog 110 #[.string y.1, .pointer none, .pointer (some ay), .pointer (some ⟨g1, 0, none⟩), .pointer (some ⟨g2, 0, none⟩)] w fun e w' => e = .returned (.tuple #[]) ∧ Blk w' g1 4 #[.bool first] ∧ OutSt Wb g2 (xs ++ (trnF first (none, some y)).toList) w' ∧ Below W00.heap.size W00 w' := by
 refine RX.enter Tryd.func110 rfl 24 rfl [(0, .string y.1), (1, .pointer none), (2, .pointer (some ay)), (3, .pointer (some ⟨g1, 0, none⟩)), (4, .pointer (some ⟨g2, 0, none⟩))] rfl (by kernel_rfl) (fun R_ hR_ => ?_)
 refine sq (rg (xe0 10 [(2, .pointer (some ay)), (4, pw g2 0), (17, .bool true)] ?_))
 refine nl (ct (X_grow [5, 6] 7 #[false, false, false, false, false, false, false] (by kernel_rfl) (by kernel_rfl) (by kernel_rfl) (fun wd_1 hb_2 hh_3 => ?_)))
 refine XB_run (fuel' := 3) (Below.refl _ _) [0, 1, 2, 3] [(18, .load (.slice A xs.length c)), (21, .load (.agg #[.string y.1, .int .i64 y.2.1, .int .i64 y.2.2.1, .string y.2.2.2]))] [.slice A xs.length c, .pointer (some ay), .pointer (some ay), .agg #[.string y.1, .int .i64 y.2.1, .int .i64 y.2.2.1, .string y.2.2.2]] #[true, true, true, true, false, false, false] [(4, .pointer (some ⟨g2, 0, none⟩)), (18, .slice A xs.length c), (21, .agg #[.string y.1, .int .i64 y.2.1, .int .i64 y.2.2.1, .string y.2.2.2])] (fun w_ => [LoadsAs Tryd.prog 45 (⟨g2, 0, none⟩) (.slice A xs.length c) w_, LoadsAs Tryd.prog 71 ay (.agg #[.string y.1, .int .i64 y.2.1, .int .i64 y.2.2.1, .string y.2.2.2]) w_]) (fun _ _ _ _ h => h) (fun w_ => by kernel_rfl) rfl (fun w_ hC_ => ⟨loads1 rfl (Blk.cell (Blk.below hb2 (bt hb_2 hC_)) 0 _ rfl), loadsE rfl rfl (cells_below hay (bt hb_2 hC_)) 0 ⟨by kernel_rfl, by kernel_rfl⟩, trivial⟩) ?_
 refine XB_mid (fuel' := 2) 4 #[true, true, true, true, true, false, false] _ rfl (by kernel_rfl) (by kernel_rfl) rfl ?_
 refine xw 1 [] [(22, .slice (some ⟨wd_1.heap.size, 0, none⟩) 1 1)] [21] (wd_1.alloc (.cells #[.string y.1, .int .i64 y.2.1, .int .i64 y.2.2.1, .string y.2.2.2] 71)) [] trivial ?_
 obtain ⟨w_4, hw_8, hb_5, hk_6, hz_7⟩ := new_world wd_1 #[.string y.1, .int .i64 y.2.1, .int .i64 y.2.2.1, .string y.2.2.2] 71
 rw [hw_8]
 refine nl ?_
 refine ⟨hb_5, ?_⟩
 refine XB_act (fuel' := 1) 5 #[true, true, true, true, true, true, false] _ rfl (by kernel_rfl) rfl (by kernel_rfl) rfl ?_
 rw [← hw_8]
 refine XL_append kAttr rfl rfl rfl Wb.heap.size 71 (.agg #[.string ByteArray.empty, .int .i64 0, .int .i64 0, .string ByteArray.empty]) 48 Tryd.underlying45 info71 rfl (by decide) (by omega) xs (y.1, y.2.1, y.2.2.1, y.2.2.2) [.string y.1, .int .i64 y.2.1, .int .i64 y.2.2.1, .string y.2.2.2] (fun _ => False) (by kernel_rfl) (kAttr_M _ _ _ _) (fun _ h => h.elim) (Kd.R_below hr hb_2) (Nat.le_trans hle hb_2.size) (by first | omega | (simp; omega)) ?_
 intro A_9 c_10 w_11 hr_12 hc_13 hg_14 hl_15 ha_16
 have hk_17 := Blk.own (Blk.below hb1 hb_2) hg_14 hl_15 h1
 have hk_18 := Blk.own (Blk.below hb2 hb_2) hg_14 hl_15 h2
 refine nl (XB_act (fuel' := 0) 6 #[true, true, true, true, true, true, true] _ rfl (by kernel_rfl) rfl (by kernel_rfl) rfl ?_)
 refine xst (.slice A_9 ((xs ++ [(y.1, y.2.1, y.2.2.1, y.2.2.2)]).length) c_10) hk_18 0 #[.slice A_9 ((xs ++ [(y.1, y.2.1, y.2.2.1, y.2.2.2)]).length) c_10] (fun w_19 hg_20 hk_21 hz_22 => ?_)
 have hk_23 := Blk.other hk_17 hg_20 hne
 have hr_24 := RX.Kd.R_past hr_12 hg_20 h2
 refine nl (XB_done (by kernel_rfl) ?_)
 refine ek [] (hR_ _ _ ?_)
 have hB_25 : Below W00.heap.size W00 w_19 := (bg (bgo (bt hB hb_2) hg_14 hl_15 hWb) hg_20 hW)
 have hF : trnF first (none, some y) = some ((y.1, y.2.1, y.2.2.1, y.2.2.2)) := by first | (simp_all [cmpF, btwF, trnF, isNull]; done) | (simp_all [cmpF, btwF, trnF, isNull]; rfl)
 rw [hF]; (try simp only [Option.toList_none, Option.toList_some, List.append_nil])
 exact ⟨rfl, hk_23, ⟨_, _, hk_21, hr_24, (Nat.le_trans hle (Nat.le_trans (Nat.le_trans hb_2.size hg_14.size) hg_20.size))⟩, hB_25⟩
set_option maxHeartbeats 1000000 in
theorem trn1_xy (w Wb W00 : World) (g2 : Nat) (h2 : g2 < Wb.heap.size) (hW : W00.heap.size ≤ g2) (hWb : W00.heap.size ≤ Wb.heap.size) (hB : Below W00.heap.size W00 w) (first : Bool) (g1 : Nat) (hne : g1 ≠ g2) (h1 : g1 < Wb.heap.size) (hb1 : Blk w g1 4 #[.bool first]) (x : At) (ax : Addr) (hax : CellsAt w ax (atV x)) (y : At) (ay : Addr) (hay : CellsAt w ay (atV y)) (A : Option Addr) (c : Nat) (xs : List At) (hb2 : Blk w g2 45 #[.slice A xs.length c])
  (hr : kAttr.R 71 w Wb.heap.size (OkFrom Wb.heap.size) (.slice A xs.length c) xs) (hle : Wb.heap.size ≤ w.heap.size) (hl : xs.length ≤ 1000000000) :
  Calls Tryd.prog 110 #[.string x.1, .pointer (some ax), .pointer (some ay), .pointer (some ⟨g1, 0, none⟩), .pointer (some ⟨g2, 0, none⟩)] w fun e w' => e = .returned (.tuple #[]) ∧ Blk w' g1 4 #[.bool first] ∧ OutSt Wb g2 (xs ++ (trnF first (some x, some y)).toList) w' ∧ Below W00.heap.size W00 w' := by
 refine RX.enter Tryd.func110 rfl 24 rfl [(0, .string x.1), (1, .pointer (some ax)), (2, .pointer (some ay)), (3, .pointer (some ⟨g1, 0, none⟩)), (4, .pointer (some ⟨g2, 0, none⟩))] rfl (by kernel_rfl) (fun R_ hR_ => ?_)
 refine sq (rg (xe 7 [(14, .load (.bool first))] [(2, .pointer (some ay)), (4, pw g2 0), (10, .bool true), (13, .bool false), (14, .bool first)] [LoadsAs Tryd.prog 4 (⟨g1, 0, none⟩) (.bool first) w] ⟨loads1 rfl (Blk.cell hb1 0 _ rfl), trivial⟩ ?_))
 by_cases c_1 : first = true
 ·rw [show (first : Bool) = true from by simpa using c_1]
  refine xr0 3 [(17, .bool false)] [10, 13, 14] ?_
  refine nl (cf (sk (ek [] (hR_ _ _ ?_))))
  have hF : trnF first (some x, some y) = none := by first | (simp_all [cmpF, btwF, trnF, isNull]; done) | (simp_all [cmpF, btwF, trnF, isNull]; rfl)
  rw [hF]; (try simp only [Option.toList_none, Option.toList_some, List.append_nil])
  exact ⟨rfl, hb1, ⟨_, _, hb2, hr, hle⟩, hB⟩
 rw [show (first : Bool) = false from by simpa using c_1]
 refine xr0 3 [(17, .bool true)] [10, 13, 14] ?_
 refine nl (ct (X_grow [5, 6] 7 #[false, false, false, false, false, false, false] (by kernel_rfl) (by kernel_rfl) (by kernel_rfl) (fun wd_2 hb_3 hh_4 => ?_)))
 refine XB_run (fuel' := 3) (Below.refl _ _) [0, 1, 2, 3] [(18, .load (.slice A xs.length c)), (21, .load (.agg #[.string y.1, .int .i64 y.2.1, .int .i64 y.2.2.1, .string y.2.2.2]))] [.slice A xs.length c, .pointer (some ay), .pointer (some ay), .agg #[.string y.1, .int .i64 y.2.1, .int .i64 y.2.2.1, .string y.2.2.2]] #[true, true, true, true, false, false, false] [(4, .pointer (some ⟨g2, 0, none⟩)), (18, .slice A xs.length c), (21, .agg #[.string y.1, .int .i64 y.2.1, .int .i64 y.2.2.1, .string y.2.2.2])] (fun w_ => [LoadsAs Tryd.prog 45 (⟨g2, 0, none⟩) (.slice A xs.length c) w_, LoadsAs Tryd.prog 71 ay (.agg #[.string y.1, .int .i64 y.2.1, .int .i64 y.2.2.1, .string y.2.2.2]) w_]) (fun _ _ _ _ h => h) (fun w_ => by kernel_rfl) rfl (fun w_ hC_ => ⟨loads1 rfl (Blk.cell (Blk.below hb2 (bt hb_3 hC_)) 0 _ rfl), loadsE rfl rfl (cells_below hay (bt hb_3 hC_)) 0 ⟨by kernel_rfl, by kernel_rfl⟩, trivial⟩) ?_
 refine XB_mid (fuel' := 2) 4 #[true, true, true, true, true, false, false] _ rfl (by kernel_rfl) (by kernel_rfl) rfl ?_
 refine xw 1 [] [(22, .slice (some ⟨wd_2.heap.size, 0, none⟩) 1 1)] [21] (wd_2.alloc (.cells #[.string y.1, .int .i64 y.2.1, .int .i64 y.2.2.1, .string y.2.2.2] 71)) [] trivial ?_
 obtain ⟨w_5, hw_9, hb_6, hk_7, hz_8⟩ := new_world wd_2 #[.string y.1, .int .i64 y.2.1, .int .i64 y.2.2.1, .string y.2.2.2] 71
 rw [hw_9]
 refine nl ?_
 refine ⟨hb_6, ?_⟩
 refine XB_act (fuel' := 1) 5 #[true, true, true, true, true, true, false] _ rfl (by kernel_rfl) rfl (by kernel_rfl) rfl ?_
 rw [← hw_9]
 refine XL_append kAttr rfl rfl rfl Wb.heap.size 71 (.agg #[.string ByteArray.empty, .int .i64 0, .int .i64 0, .string ByteArray.empty]) 48 Tryd.underlying45 info71 rfl (by decide) (by omega) xs (y.1, y.2.1, y.2.2.1, y.2.2.2) [.string y.1, .int .i64 y.2.1, .int .i64 y.2.2.1, .string y.2.2.2] (fun _ => False) (by kernel_rfl) (kAttr_M _ _ _ _) (fun _ h => h.elim) (Kd.R_below hr hb_3) (Nat.le_trans hle hb_3.size) (by first | omega | (simp; omega)) ?_
 intro A_10 c_11 w_12 hr_13 hc_14 hg_15 hl_16 ha_17
 have hk_18 := Blk.own (Blk.below hb1 hb_3) hg_15 hl_16 h1
 have hk_19 := Blk.own (Blk.below hb2 hb_3) hg_15 hl_16 h2
 refine nl (XB_act (fuel' := 0) 6 #[true, true, true, true, true, true, true] _ rfl (by kernel_rfl) rfl (by kernel_rfl) rfl ?_)
 refine xst (.slice A_10 ((xs ++ [(y.1, y.2.1, y.2.2.1, y.2.2.2)]).length) c_11) hk_19 0 #[.slice A_10 ((xs ++ [(y.1, y.2.1, y.2.2.1, y.2.2.2)]).length) c_11] (fun w_20 hg_21 hk_22 hz_23 => ?_)
 have hk_24 := Blk.other hk_18 hg_21 hne
 have hr_25 := RX.Kd.R_past hr_13 hg_21 h2
 refine nl (XB_done (by kernel_rfl) ?_)
 refine ek [] (hR_ _ _ ?_)
 have hB_26 : Below W00.heap.size W00 w_20 := (bg (bgo (bt hB hb_3) hg_15 hl_16 hWb) hg_21 hW)
 have hF : trnF first (some x, some y) = some ((y.1, y.2.1, y.2.2.1, y.2.2.2)) := by first | (simp_all [cmpF, btwF, trnF, isNull]; done) | (simp_all [cmpF, btwF, trnF, isNull]; rfl)
 rw [hF]; (try simp only [Option.toList_none, Option.toList_some, List.append_nil])
 exact ⟨rfl, hk_24, ⟨_, _, hk_22, hr_25, (Nat.le_trans hle (Nat.le_trans (Nat.le_trans hb_3.size hg_15.size) hg_21.size))⟩, hB_26⟩
end Go.Proofs.YtkehomiogkoomaaDoor
