import Derived.Test.YtgphmfnkeolbcaaDoorT60
import Derived.Test.YtgphmfnkeolbcaaDoorGl2
/- vellumref09.List. Conditions: sizes, texts of scalars. -/

set_option linter.unusedVariables false
set_option linter.unusedSimpArgs false
set_option maxRecDepth 100000
namespace Go.Proofs.YtgphmfnkeolbcaaDoor
open Go Go.RowKit Go.Proofs.YtgphmfnkeolbcaaDoorW.PrintWords RX
theorem ent10 : Ent Tryd.prog 10 := ent_of Tryd.func10 (by kernel_rfl) rfl
theorem list9_any (A : Option Addr) (c : Nat) (xs : List OpA) (w : World) (hx : kOp.C w A xs.length xs) (hn : xs.length ≤ 1100000) (hb : badE xs = 0) (hz : ∀ i, i < xs.length → opSz (xs.getD i op0)) (hu : ∀ i, i < xs.length → ¬ (xs.getD i op0).kind = 2 → U.utf (xs.getD i op0).text) (hL : (cellsAll xs).length ≤ 100000000) : Calls Tryd.prog 10 #[.slice A xs.length c] w fun e w' => ∃ A1 c1 zs, zs = (if isDoc xs = true then cellsAll xs else []) ∧ e = .returned (.tuple #[.slice A1 zs.length c1, .int .i64 (if isDoc xs = true then 0 else 9)]) ∧ kCell.C w' A1 zs.length zs ∧ zs.length ≤ c1 ∧ Below w.heap.size w w' := by
 have hpl : xs.length ≤ 9223372036854775807 := hx.2.1
 refine RX.enter Tryd.func10 rfl 9 rfl [(0, .slice A xs.length c)] rfl (by kernel_rfl) (fun R_ hR_ => ?_)
 refine sq (rg (xe0 2 [(0, .slice A xs.length c)] ?_))
 refine nl (sq (sq (rg (xr0 1 [(4, .slice A xs.length c)] [] ?_))))
 refine xc 28 ent28 [.slice A xs.length c] (doc6_any _ _ xs _ hx hn) ?_
 rintro e w_1 ⟨rfl, hb_2⟩; refine ⟨_, rfl, ?_⟩
 by_cases c_3 : isDoc xs = true
 ·rw [show (isDoc xs : Bool) = true from by simpa using c_3]
  refine xr0 1 [(6, .bool false)] [4, 5] ?_
  refine nl (cf (sk (sq (rg (xe0 1 [(7, .slice A xs.length c)] ?_)))))
  refine xc 29 ent29 [.slice A xs.length c] (cells9_any _ _ xs _ (Kd.C_below hx hb_2) hn hb hz hu hL) ?_
  rintro e w_9 ⟨A_4, c_5, zs_6, ez_7, rfl, hm_8, hb_10⟩; refine ⟨_, rfl, ?_⟩
  refine xe0 2 [(2, .slice A_4 zs_6.length c_5), (3, .int .i64 0)] ?_
  refine nl (X_ret (rk [.slice A_4 zs_6.length c_5, .int .i64 0] (hR_ _ _ ?_)))
  exact ⟨_, _, zs_6, by rw [if_pos c_3]; exact ez_7, by rw [if_pos c_3]; rfl, MixK.C hm_8 hb_10, (MixK.len hm_8).2, (bt hb_2 hb_10)⟩
 rw [show (isDoc xs : Bool) = false from by simpa using c_3]
 refine xr0 1 [(6, .bool true)] [4, 5] ?_
 refine nl (ct (sq (rg (xe0 2 [(2, .slice none 0 0), (3, .int .i64 9)] ?_))))
 refine nl (X_ret (rk [.slice none 0 0, .int .i64 9] (hR_ _ _ ?_)))
 have hnd_ := Bool.eq_false_iff.2 c_3
 exact ⟨none, 0, [], by rw [hnd_]; rfl, by rw [hnd_]; rfl, Kd.R_C (Kd.R_nil kCell 44 _ w.heap.size (OkFrom w.heap.size)), Nat.le_refl _, hb_2⟩
end Go.Proofs.YtgphmfnkeolbcaaDoor
/- cells.At: a cell of a document. Conditions: sizes, the tables of utf8, the errors' variables. -/

set_option linter.unusedVariables false
set_option linter.unusedSimpArgs false
set_option maxRecDepth 100000
namespace Go.Proofs.YtgphmfnkeolbcaaDoor
open Go Go.RowKit Go.Proofs.YtgphmfnkeolbcaaDoorW.PrintWords RX
theorem ent15 : Ent Tryd.prog 15 := ent_of Tryd.func15 (by kernel_rfl) rfl
theorem cat_any (d : Nat) (xs : List OpA) (i : Int) (w : World) (hd : DeltaC w d xs) (hb : badE xs = 0) (hn : xs.length ≤ 1100000) (hz : ∀ i, i < xs.length → opSz (xs.getD i op0)) (hr : isDoc xs = true → ∀ t, t < xs.length → refuseP (xs.getD t op0) = 0) (hL : (cellsAll xs).length ≤ 100000000) (hT : Tabs w) (es : List Addr) (hE : ErrsC w es) : Calls Tryd.prog 15 #[.pointer (some ⟨d, 0, none⟩), .int .i64 i] w fun e w' => ∃ A' c', e = .returned (.tuple #[.agg #[.int .i32 ((atP xs i).1.rune), .string ((atP xs i).1.kind), .int .i64 ((atP xs i).1.vk), .int .i64 ((atP xs i).1.vn), .string ((atP xs i).1.vt), .slice A' ((atP xs i).1.attrs.length) c'], errV es (atP xs i).2]) ∧ (atP xs i).1.attrs.length ≤ c' ∧ kAttr.R 93 w' w.heap.size (OkFrom w.heap.size) (.slice A' (atP xs i).1.attrs.length c') (atP xs i).1.attrs ∧ Below w.heap.size w w' := by
 refine RX.enter Tryd.func15 rfl 31 rfl [(0, .pointer (some ⟨d, 0, none⟩)), (1, .int .i64 i)] rfl (by kernel_rfl) (fun R_ hR_ => ?_)
 refine sq (rg (xwe 1 [] [(0, pw d 0), (1, .int .i64 i), (4, pw w.heap.size 0)] (w.alloc (.cells #[.int .i32 0, .string ByteArray.empty, .int .i64 0, .int .i64 0, .string ByteArray.empty, .slice none 0 0] 44)) [] trivial ?_))
 obtain ⟨w_1, hw_5, hb_2, hk_3, hz_4⟩ := new_world w #[.int .i32 0, .string ByteArray.empty, .int .i64 0, .int .i64 0, .string ByteArray.empty, .slice none 0 0] 44
 rw [hw_5]
 refine xr0 1 [] [] ?_
 refine nl (sq (rg (xr0 1 [(9, pw d 0)] [0] ?_)))
 refine xc 9 ent9 [.pointer (some ⟨d, 0, none⟩)] (clist_any d xs _ (hd.below hb_2) hb hn hz hr hL (hT.below hb_2) es (hE.below hb_2)) ?_
 rintro e w_12 ⟨A_6, c_7, zs_8, ez_9, rfl, hl_10, hr_11, hb_13⟩; refine ⟨_, rfl, ?_⟩
 refine xr0 5 [(6, .slice A_6 zs_8.length c_7), (7, errV es (if isDoc xs = true then 0 else 9))] [9, 10] ?_
 refine nl (sq (sq (rg (xr0 1 [(13, errV es (if isDoc xs = true then 0 else 9))] [] ?_))))
 by_cases c_14 : (if isDoc xs = true then 0 else 9) = 0
 ·rw [show errV es (if isDoc xs = true then 0 else 9) = .nilIface from by rw [c_14]; rfl]
  refine xr0 1 [(7, .nilIface), (14, .bool false)] [13] ?_
  refine nl (cf (sk (sq (sq (rg (xe0 1 [(1, .int .i64 i), (4, pw w.heap.size 0), (6, .slice A_6 zs_8.length c_7), (17, .int .i64 i)] ?_))))))
  by_cases c_15 : i < 0
  ·refine xr 7 [(18, .eq (.bool true))] [(24, .bool true)] [17] [Value.bool (decide (i < 0)) = Value.bool true] ⟨congrArg Value.bool (decide_eq_true (c_15)), trivial⟩ ?_
   refine nl (ct (sq (X_gen (S := fun w_ => w_.cell? (⟨0, 0, none⟩) = some (.iface 164 (.pointer (some (errAt es 12))))) [] 4 #[false, false, false, false] (by kernel_rfl) (by kernel_rfl) (by kernel_rfl) (fun wd_16 hb_17 hh_18 => ?_))))
   refine XG_run (fuel' := 2) (((bt (bt hb_2 hb_13) hb_17).cell (World.block_lt_of_cell? _ _ (hE.load 12 0 (by decide) (by decide) rfl))).trans (hE.load 12 0 (by decide) (by decide) rfl)) [0, 1] [(26, .load (.iface 164 (.pointer (some (errAt es 12)))))] [.agg #[.int .i32 0, .string ByteArray.empty, .int .i64 0, .int .i64 0, .string ByteArray.empty, .slice none 0 0], .iface 164 (.pointer (some (errAt es 12)))] #[true, true, false, false] [(4, .pointer (some ⟨w.heap.size, 0, none⟩)), (25, .agg #[.int .i32 0, .string ByteArray.empty, .int .i64 0, .int .i64 0, .string ByteArray.empty, .slice none 0 0]), (26, .iface 164 (.pointer (some (errAt es 12))))] (fun w_ => [LoadsAs Tryd.prog 30 (⟨0, 0, none⟩) (.iface 164 (.pointer (some (errAt es 12)))) w_]) (fun _ _ _ _ h => h) (fun w_ => by kernel_rfl) rfl (fun w_ hC_ => ⟨loads1 rfl hC_, trivial⟩) ?_
   refine XG_mid (fuel' := 1) 2 #[true, true, true, false] _ rfl (by kernel_rfl) (by kernel_rfl) rfl ?_
   refine xst (.agg #[.int .i32 0, .string ByteArray.empty, .int .i64 0, .int .i64 0, .string ByteArray.empty, .slice none 0 0]) (Blk.below hk_3 (bt hb_13 hb_17)) 0 #[.int .i32 0, .string ByteArray.empty, .int .i64 0, .int .i64 0, .string ByteArray.empty, .slice none 0 0] (fun w_19 hg_20 hk_21 hz_22 => ?_)
   have hr_23 := RX.Kd.R_past (Kd.R_below hr_11 hb_17) hg_20 (Nat.lt_of_lt_of_le (Blk.lt hk_3) (Nat.le_refl _))
   refine nl ?_
   have hB_24 : Below w.heap.size w w_19 := (bg (bt (bt hb_2 hb_13) hb_17) hg_20 (Nat.le_refl _))
   refine ⟨((hB_24.cell (World.block_lt_of_cell? _ _ (hE.load 12 0 (by decide) (by decide) rfl))).trans (hE.load 12 0 (by decide) (by decide) rfl)), ?_⟩
   refine XG_run (fuel' := 0) ((hB_24.cell (World.block_lt_of_cell? _ _ (hE.load 12 0 (by decide) (by decide) rfl))).trans (hE.load 12 0 (by decide) (by decide) rfl)) [3] [] [.iface 164 (.pointer (some (errAt es 12)))] #[true, true, true, true] [(4, .pointer (some ⟨w.heap.size, 0, none⟩)), (5, .iface 164 (.pointer (some (errAt es 12))))] (fun w_ => []) (fun _ _ _ _ h => h) (fun w_ => by kernel_rfl) rfl (fun w_ hC_ => trivial) ?_
   refine XG_done (by kernel_rfl) ?_
   refine X_ret (RX.ret_cellT (P := Tryd.prog) (fn := Tryd.f15) (N := 31) (R := R_) (c := 4) (t := 44) (p := ⟨w.heap.size, 0, none⟩) (v := .agg #[.int .i32 0, .string ByteArray.empty, .int .i64 0, .int .i64 0, .string ByteArray.empty, .slice none 0 0]) (b := 5) (u := .iface 164 (.pointer (some (errAt es 12)))) rfl rfl (loadsB rfl rfl hk_21 0 ⟨by kernel_rfl, by kernel_rfl⟩) rfl (hR_ _ _ ?_))
   have hnd_ : isDoc xs = true := Decidable.byContradiction fun h_ => by have h1_ := c_14; rw [if_neg h_] at h1_; cases h1_
   rw [if_pos hnd_] at ez_9
   have hlz_ := congrArg List.length ez_9
   have ha_ : atP xs i = (cell0, 12) := by unfold atP; rw [if_pos hnd_, if_pos (by omega)]
   rw [ha_]
   exact ⟨none, 0, rfl, Nat.le_refl _, Kd.R_nil _ _ _ _ _, hB_24⟩
  refine xr 5 [(18, .eq (.bool false))] [(19, .bool false), (20, .int .i64 i), (22, .int .i64 (zs_8.length : Int))] [17] [Value.bool (decide (i < 0)) = Value.bool false] ⟨congrArg Value.bool (decide_eq_false (c_15)), trivial⟩ ?_
  by_cases c_25 : i ≥ (zs_8.length : Int)
  ·refine xr 2 [(23, .eq (.bool true))] [(24, .bool true)] [19, 20, 22] [Value.bool (decide (i ≥ (zs_8.length : Int))) = Value.bool true] ⟨congrArg Value.bool (decide_eq_true (c_25)), trivial⟩ ?_
   refine nl (ct (sq (X_gen (S := fun w_ => w_.cell? (⟨0, 0, none⟩) = some (.iface 164 (.pointer (some (errAt es 12))))) [] 4 #[false, false, false, false] (by kernel_rfl) (by kernel_rfl) (by kernel_rfl) (fun wd_26 hb_27 hh_28 => ?_))))
   refine XG_run (fuel' := 2) (((bt (bt hb_2 hb_13) hb_27).cell (World.block_lt_of_cell? _ _ (hE.load 12 0 (by decide) (by decide) rfl))).trans (hE.load 12 0 (by decide) (by decide) rfl)) [0, 1] [(26, .load (.iface 164 (.pointer (some (errAt es 12)))))] [.agg #[.int .i32 0, .string ByteArray.empty, .int .i64 0, .int .i64 0, .string ByteArray.empty, .slice none 0 0], .iface 164 (.pointer (some (errAt es 12)))] #[true, true, false, false] [(4, .pointer (some ⟨w.heap.size, 0, none⟩)), (25, .agg #[.int .i32 0, .string ByteArray.empty, .int .i64 0, .int .i64 0, .string ByteArray.empty, .slice none 0 0]), (26, .iface 164 (.pointer (some (errAt es 12))))] (fun w_ => [LoadsAs Tryd.prog 30 (⟨0, 0, none⟩) (.iface 164 (.pointer (some (errAt es 12)))) w_]) (fun _ _ _ _ h => h) (fun w_ => by kernel_rfl) rfl (fun w_ hC_ => ⟨loads1 rfl hC_, trivial⟩) ?_
   refine XG_mid (fuel' := 1) 2 #[true, true, true, false] _ rfl (by kernel_rfl) (by kernel_rfl) rfl ?_
   refine xst (.agg #[.int .i32 0, .string ByteArray.empty, .int .i64 0, .int .i64 0, .string ByteArray.empty, .slice none 0 0]) (Blk.below hk_3 (bt hb_13 hb_27)) 0 #[.int .i32 0, .string ByteArray.empty, .int .i64 0, .int .i64 0, .string ByteArray.empty, .slice none 0 0] (fun w_29 hg_30 hk_31 hz_32 => ?_)
   have hr_33 := RX.Kd.R_past (Kd.R_below hr_11 hb_27) hg_30 (Nat.lt_of_lt_of_le (Blk.lt hk_3) (Nat.le_refl _))
   refine nl ?_
   have hB_34 : Below w.heap.size w w_29 := (bg (bt (bt hb_2 hb_13) hb_27) hg_30 (Nat.le_refl _))
   refine ⟨((hB_34.cell (World.block_lt_of_cell? _ _ (hE.load 12 0 (by decide) (by decide) rfl))).trans (hE.load 12 0 (by decide) (by decide) rfl)), ?_⟩
   refine XG_run (fuel' := 0) ((hB_34.cell (World.block_lt_of_cell? _ _ (hE.load 12 0 (by decide) (by decide) rfl))).trans (hE.load 12 0 (by decide) (by decide) rfl)) [3] [] [.iface 164 (.pointer (some (errAt es 12)))] #[true, true, true, true] [(4, .pointer (some ⟨w.heap.size, 0, none⟩)), (5, .iface 164 (.pointer (some (errAt es 12))))] (fun w_ => []) (fun _ _ _ _ h => h) (fun w_ => by kernel_rfl) rfl (fun w_ hC_ => trivial) ?_
   refine XG_done (by kernel_rfl) ?_
   refine X_ret (RX.ret_cellT (P := Tryd.prog) (fn := Tryd.f15) (N := 31) (R := R_) (c := 4) (t := 44) (p := ⟨w.heap.size, 0, none⟩) (v := .agg #[.int .i32 0, .string ByteArray.empty, .int .i64 0, .int .i64 0, .string ByteArray.empty, .slice none 0 0]) (b := 5) (u := .iface 164 (.pointer (some (errAt es 12)))) rfl rfl (loadsB rfl rfl hk_31 0 ⟨by kernel_rfl, by kernel_rfl⟩) rfl (hR_ _ _ ?_))
   have hnd_ : isDoc xs = true := Decidable.byContradiction fun h_ => by have h1_ := c_14; rw [if_neg h_] at h1_; cases h1_
   rw [if_pos hnd_] at ez_9
   have hlz_ := congrArg List.length ez_9
   have ha_ : atP xs i = (cell0, 12) := by unfold atP; rw [if_pos hnd_, if_pos (by omega)]
   rw [ha_]
   exact ⟨none, 0, rfl, Nat.le_refl _, Kd.R_nil _ _ _ _ _, hB_34⟩
  refine xr 2 [(23, .eq (.bool false))] [(24, .bool false)] [19, 20, 22] [Value.bool (decide (i ≥ (zs_8.length : Int))) = Value.bool false] ⟨congrArg Value.bool (decide_eq_false (c_25)), trivial⟩ ?_
  refine nl (cf (sk (sq (rg (xr0 2 [(27, .slice A_6 zs_8.length c_7), (28, .int .i64 i)] [1, 6, 24] ?_)))))
  obtain ⟨ad_35, cs_38, ha_36, hM_39, hc_37⟩ := Kd.R_at cell0 hr_11 (i := i) (by omega) (by omega)
  obtain ⟨B_40, c_41, rfl, hl_42, hR_43⟩ := kCell_M_slice hM_39
  replace hc_37 : CellsAt w_12 (ad_35.add (i.toNat * 6)) (c6L (zs_8.getD i.toNat cell0) (.slice B_40 ((zs_8.getD i.toNat cell0).attrs.length) c_41)) := hc_37
  replace hR_43 := Kd.R_mono hR_43 (fun _ h_ => h_.1)
  replace hl_42 : (zs_8.getD i.toNat cell0).attrs.length ≤ c_41 := hl_42
  replace hR_43 : kAttr.R 93 w_12 w_1.heap.size (OkFrom w_1.heap.size) (.slice B_40 (zs_8.getD i.toNat cell0).attrs.length c_41) (zs_8.getD i.toNat cell0).attrs := hR_43
  refine xr 2 [(29, .idx ad_35), (30, .load (.agg (c6A (zs_8.getD i.toNat cell0) (.slice B_40 ((zs_8.getD i.toNat cell0).attrs.length) c_41))))] [(30, .agg (c6A (zs_8.getD i.toNat cell0) (.slice B_40 ((zs_8.getD i.toNat cell0).attrs.length) c_41)))] [27, 28] [A_6 = some ad_35, (0 : Int) ≤ i, i < (zs_8.length : Int), LoadsAs Tryd.prog 44 (ad_35.add (i.toNat * 6)) (.agg (c6A (zs_8.getD i.toNat cell0) (.slice B_40 ((zs_8.getD i.toNat cell0).attrs.length) c_41))) w_12] ⟨ha_36, (by omega), (by omega), loadsE rfl rfl hc_37 0 ⟨by kernel_rfl, by kernel_rfl⟩, trivial⟩ ?_
  refine xst (.agg (c6A (zs_8.getD i.toNat cell0) (.slice B_40 ((zs_8.getD i.toNat cell0).attrs.length) c_41))) (Blk.below hk_3 hb_13) 0 (c6A (zs_8.getD i.toNat cell0) (.slice B_40 ((zs_8.getD i.toNat cell0).attrs.length) c_41)) (fun w_44 hg_45 hk_46 hz_47 => ?_)
  have hr_48 := Kd.R_off hR_43 (Blk.below hk_3 hb_13) (by decide) hg_45
  have hr_49 := RX.Kd.R_past hr_11 hg_45 (Nat.lt_of_lt_of_le (Blk.lt hk_3) (Nat.le_refl _))
  refine xr0 1 [(5, .nilIface)] [30] ?_
  refine nl (X_ret (RX.ret_cellT (P := Tryd.prog) (fn := Tryd.f15) (N := 31) (R := R_) (c := 4) (t := 44) (p := ⟨w.heap.size, 0, none⟩) (v := .agg (c6A (zs_8.getD i.toNat cell0) (.slice B_40 ((zs_8.getD i.toNat cell0).attrs.length) c_41))) (b := 5) (u := .nilIface) rfl rfl (loadsB rfl rfl hk_46 0 ⟨by kernel_rfl, by kernel_rfl⟩) rfl (hR_ _ _ ?_)))
  have hB_50 : Below w.heap.size w w_44 := (bg (bt hb_2 hb_13) hg_45 (Nat.le_refl _))
  have hnd_ : isDoc xs = true := Decidable.byContradiction fun h_ => by have h1_ := c_14; rw [if_neg h_] at h1_; cases h1_
  rw [if_pos hnd_] at ez_9
  have hlz_ := congrArg List.length ez_9
  have ha_ : atP xs i = (zs_8.getD i.toNat cell0, 0) := by unfold atP; rw [if_pos hnd_, if_neg (by omega), ez_9]
  rw [ha_]
  exact ⟨_, _, rfl, (RX.Kd.R_len hr_48).2, Kd.R_low hr_48 (hb_2).size, hB_50⟩
 rw [errV_pos es (if isDoc xs = true then 0 else 9) (Nat.pos_of_ne_zero c_14)]
 refine xr0 1 [(7, .iface 164 (.pointer (some (errAt es (if isDoc xs = true then 0 else 9))))), (14, .bool true)] [13] ?_
 refine nl (ct (sq (rg (xe0 2 [(4, pw w.heap.size 0), (15, .agg #[.int .i32 0, .string ByteArray.empty, .int .i64 0, .int .i64 0, .string ByteArray.empty, .slice none 0 0]), (16, .iface 164 (.pointer (some (errAt es (if isDoc xs = true then 0 else 9)))))] ?_))))
 refine xst (.agg #[.int .i32 0, .string ByteArray.empty, .int .i64 0, .int .i64 0, .string ByteArray.empty, .slice none 0 0]) (Blk.below hk_3 hb_13) 0 #[.int .i32 0, .string ByteArray.empty, .int .i64 0, .int .i64 0, .string ByteArray.empty, .slice none 0 0] (fun w_51 hg_52 hk_53 hz_54 => ?_)
 have hr_55 := RX.Kd.R_past hr_11 hg_52 (Nat.lt_of_lt_of_le (Blk.lt hk_3) (Nat.le_refl _))
 refine xr0 1 [(5, .iface 164 (.pointer (some (errAt es (if isDoc xs = true then 0 else 9)))))] [15, 16] ?_
 refine nl (X_ret (RX.ret_cellT (P := Tryd.prog) (fn := Tryd.f15) (N := 31) (R := R_) (c := 4) (t := 44) (p := ⟨w.heap.size, 0, none⟩) (v := .agg #[.int .i32 0, .string ByteArray.empty, .int .i64 0, .int .i64 0, .string ByteArray.empty, .slice none 0 0]) (b := 5) (u := .iface 164 (.pointer (some (errAt es (if isDoc xs = true then 0 else 9))))) rfl rfl (loadsB rfl rfl hk_53 0 ⟨by kernel_rfl, by kernel_rfl⟩) rfl (hR_ _ _ ?_)))
 have hB_56 : Below w.heap.size w w_51 := (bg (bt hb_2 hb_13) hg_52 (Nat.le_refl _))
 have hnd_ : ¬ isDoc xs = true := fun h_ => c_14 (by rw [if_pos h_])
 have ha_ : atP xs i = (cell0, 9) := if_neg hnd_
 rw [ha_, if_neg hnd_]
 exact ⟨none, 0, rfl, Nat.le_refl _, Kd.R_nil _ _ _ _ _, hB_56⟩
end Go.Proofs.YtgphmfnkeolbcaaDoor
