/- What builders gather. Conditions: sizes, the tables of utf8, the errors' variables. -/
import Derived.Test.YtgphmfnkeolbcaaGreatDoorT3
set_option linter.unusedVariables false
set_option linter.unusedSimpArgs false
set_option maxRecDepth 100000
namespace Go.Proofs.YtgphmfnkeolbcaaGreatDoor
open Go Go.RowKit Go.Proofs.YtgphmfnkeolbcaaGreatDoorW.PrintWords RX
theorem ent136 : Ent Tryz.prog 136 := ent_of Tryz.func136 (by kernel_rfl) rfl
theorem ent83 : Ent Tryz.prog 83 := ent_of Tryz.func83 (by kernel_rfl) rfl
set_option maxHeartbeats 1000000 in
theorem badd_ins (D : Option Addr) (n d : Nat) (t : ByteArray) (k : Int) (g : Nat) (b r : Int) (sl gn : Value) (w : World) (hk : RX.Blk w g 194 #[i6 b, i6 r, sl, gn]) (hb : 0 ≤ b ∧ b ≤ 1099511627776) (hr : 0 ≤ r ∧ r ≤ 1099511627776) (hkb : 0 ≤ k ∧ k ≤ 1099511627776) : Calls Tryz.prog 136 #[pw g 0, .iface 249 (.agg #[.slice D n d, sT t, i6 k])] w fun e w' =>
  Two g none w w' ∧ ((e = .returned bT ∧ b + 0 ≤ 1099511627776 ∧ r + k ≤ 1099511627776 ∧ RX.Blk w' g 194 #[i6 (b + 0), i6 (r + k), sl, gn]) ∨ (e = .returned bF ∧ (1099511627776 < b + 0 ∨ 1099511627776 < r + k) ∧ RX.Blk w' g 194 #[i6 b, i6 r, sl, gn])) := by
 refine en Tryz.func136 rfl 60 [(0, pw g 0), (1, .iface 249 (.agg #[.slice D n d, sT t, i6 k]))] (fun R_ hR_ => ?_)
 refine sg (xe0 1 [(0, pw g 0), (1, .iface 249 (.agg #[.slice D n d, sT t, i6 k]))] ?_)
 refine nl (sg (xr0 1 [(6, .iface 249 (.agg #[.slice D n d, sT t, i6 k]))] [] ?_))
 refine XL_inv 251 #[.agg #[.slice D n d, sT t, i6 k]] rfl rfl (by kernel_rfl) (by kernel_rfl) (insertLen_any _ _ _ _ _ _) ?_
 rintro e w_1 ⟨rfl, hb_2⟩; refine ⟨_, rfl, ?_⟩
 refine xr0 1 [(7, i6 k), (8, .iface 249 (.agg #[.slice D n d, sT t, i6 k]))] [6] ?_
 refine XL_inv 251 #[.agg #[.slice D n d, sT t, i6 k]] rfl rfl (by kernel_rfl) (by kernel_rfl) (insertLen_any _ _ _ _ _ _) ?_
 rintro e w_3 ⟨rfl, hb_4⟩; refine ⟨_, rfl, ?_⟩
 refine xw 2 [] [(5, pw w_3.heap.size 0), (10, .agg #[i6 k, i6 k])] [7, 8, 9] (w_3.alloc (.cells #[i6 0, i6 0] 192)) [] trivial ?_
 obtain ⟨w_5, hw_9, hb_6, hk_7, hz_8⟩ := new_world w_3 #[i6 0, i6 0] 192
 rw [hw_9]
 refine xst (.agg #[i6 k, i6 k]) hk_7 0 #[i6 k, i6 k] (fun w_10 hg_11 hk_12 hz_13 => ?_)
 have hne_14 : g ≠ w_3.heap.size := Blk.tne (Blk.below hk (bt (bt hb_2 hb_4) hb_6)) hk_7 rfl
 have hk_15 := Blk.other (Blk.below hk (bt (bt hb_2 hb_4) hb_6)) hg_11 hne_14
 refine nl (sq (sg (xr0 1 [(11, .iface 249 (.agg #[.slice D n d, sT t, i6 k]))] [1, 10] ?_)))
 refine nl (bk (sg (xr0 3 [(13, bF)] [] ?_)))
 refine nl (cf (sg (xe0 7 [(0, pw g 0), (5, pw w_3.heap.size 0), (22, bT)] ?_)))
 refine nl (ct (rg (xr0 1 [(23, pw w_3.heap.size 0)] [22] ?_)))
 refine xst (i6 0) hk_12 0 #[i6 0, i6 k] (fun w_16 hg_17 hk_18 hz_19 => ?_)
 have hk_20 := Blk.other hk_15 hg_17 hne_14
 refine nl (sq (sq (X_still (by kernel_rfl) (by kernel_rfl) (fun wd_21 hb_22 hh_23 => ?_))))
 refine xse 7 [(25, .load (i6 0)), (29, .load (i6 b)), (30, .eq (i6 (1099511627776 - b)))] [(0, pw g 0), (5, pw w_3.heap.size 0), (25, i6 0), (30, i6 (1099511627776 - b))] [_, _, _] ⟨lc 3 (Blk.below hk_18 hb_22) 0, lc 3 (Blk.below hk_20 hb_22) 0, w6 (1099511627776 - b), trivial⟩ ?_
 by_cases c_24 : (0 : Int) > 1099511627776 - b
 ·exfalso; omega
 refine xse 9 [(31, .eq bF), (34, .load (i6 k)), (38, .load (i6 r)), (39, .eq (i6 (1099511627776 - r)))] [(0, pw g 0), (5, pw w_3.heap.size 0), (32, bF), (34, i6 k), (39, i6 (1099511627776 - r))] [_, _, _, _] ⟨dF c_24, lc 3 (Blk.below hk_18 hb_22) 1, lc 3 (Blk.below hk_20 hb_22) 1, w6 (1099511627776 - r), trivial⟩ ?_
 by_cases c_25 : k > 1099511627776 - r
 ·refine xse 2 [(40, .eq bT)] [(0, pw g 0), (5, pw w_3.heap.size 0), (41, bT)] [_] ⟨dT c_25, trivial⟩ ?_
  refine XS_nil ?_
  refine ct (sg (xe0 1 [(4, bF)] ?_))
  refine nl (X_ret (rj [bF] hR_ ?_))
  exact ⟨(((((((Two.refl g none w).below hb_2).below hb_4).below hb_6).grown hg_11 (fun x_ e_ => .inr (.inr (by injection e_ with e_; have h_ := (Nat.le_trans hb_2.size hb_4.size); omega)))).grown hg_17 (fun x_ e_ => .inr (.inr (by injection e_ with e_; have h_ := (Nat.le_trans hb_2.size hb_4.size); omega)))).below hb_22), .inr ⟨rfl, by omega, (Blk.below hk_20 hb_22)⟩⟩
 refine xse 2 [(40, .eq bF)] [(0, pw g 0), (5, pw w_3.heap.size 0), (41, bF)] [_] ⟨dF c_25, trivial⟩ ?_
 refine XS_nil ?_
 refine cf (sk (sq (X_any [9] 10 (tf 0 10) (by kernel_rfl) (by kernel_rfl) (by kernel_rfl) (fun wd_26 hb_27 hh_28 => ?_))))
 refine XA_run (fuel' := 1) [0, 1, 2, 3, 4, 5, 6, 7, 8] [(45, .load (i6 b)), (47, .load (i6 0)), (48, .eq (i6 (b + 0)))] [pw g 0, pw g 0, pw g 0, i6 b, pw w_3.heap.size 0, i6 0, i6 (b + 0), pw g 0, pw g 0] (tf 9 1) [(0, pw g 0), (5, pw w_3.heap.size 0), (48, i6 (b + 0)), (50, pw g 0)] [la 3 (⟨g, 0, none⟩) (i6 b) wd_26, la 3 (⟨w_3.heap.size, 0, none⟩) (i6 0) wd_26, i6 (IntKind.i64.wrap (b + 0)) = i6 (b + 0)] ⟨loads1 rfl (Blk.cell (Blk.below hk_20 (bt hb_22 hb_27)) 0 _ rfl), loads1 rfl (Blk.cell (Blk.below hk_18 (bt hb_22 hb_27)) 0 _ rfl), wr_i64 (by omega) (by omega), trivial⟩ ?_
 refine XA_act (fuel' := 0) 9 (tf 10 0) _ rfl (by kernel_rfl) rfl (by kernel_rfl) rfl ?_
 refine xst (i6 (b + 0)) (Blk.below hk_20 (bt hb_22 hb_27)) 0 #[i6 (b + 0), i6 r, sl, gn] (fun w_29 hg_30 hk_31 hz_32 => ?_)
 have hne_33 : w_3.heap.size ≠ g := Blk.tne (Blk.below hk_18 (bt hb_22 hb_27)) (Blk.below hk_20 (bt hb_22 hb_27)) rfl
 have hk_34 := Blk.other (Blk.below hk_18 (bt hb_22 hb_27)) hg_30 hne_33
 refine nl (XA_done (by kernel_rfl) ?_)
 refine sq (X_any [9] 10 (tf 0 10) (by kernel_rfl) (by kernel_rfl) (by kernel_rfl) (fun wd_35 hb_36 hh_37 => ?_))
 refine XA_run (fuel' := 1) [0, 1, 2, 3, 4, 5, 6, 7, 8] [(54, .load (i6 r)), (56, .load (i6 k)), (57, .eq (i6 (r + k)))] [pw g 0, pw g 0, pw g 1, i6 r, pw w_3.heap.size 1, i6 k, i6 (r + k), pw g 0, pw g 1] (tf 9 1) [(57, i6 (r + k)), (59, pw g 1)] [la 3 (⟨g, 1, none⟩) (i6 r) wd_35, la 3 (⟨w_3.heap.size, 1, none⟩) (i6 k) wd_35, i6 (IntKind.i64.wrap (r + k)) = i6 (r + k)] ⟨loads1 rfl (Blk.cell (Blk.below hk_31 hb_36) 1 _ rfl), loads1 rfl (Blk.cell (Blk.below hk_34 hb_36) 1 _ rfl), wr_i64 (by omega) (by omega), trivial⟩ ?_
 refine XA_act (fuel' := 0) 9 (tf 10 0) _ rfl (by kernel_rfl) rfl (by kernel_rfl) rfl ?_
 refine xst (i6 (r + k)) (Blk.below hk_31 hb_36) 1 #[i6 (b + 0), i6 (r + k), sl, gn] (fun w_38 hg_39 hk_40 hz_41 => ?_)
 refine nl (XA_done (by kernel_rfl) ?_)
 refine sg (xe0 1 [(4, bT)] ?_)
 refine nl (X_ret (rj [bT] hR_ ?_))
 have hkz_ := hk_40
 exact ⟨(((((((((((Two.refl g none w).below hb_2).below hb_4).below hb_6).grown hg_11 (fun x_ e_ => .inr (.inr (by injection e_ with e_; have h_ := (Nat.le_trans hb_2.size hb_4.size); omega)))).grown hg_17 (fun x_ e_ => .inr (.inr (by injection e_ with e_; have h_ := (Nat.le_trans hb_2.size hb_4.size); omega)))).below hb_22).below hb_27).store hg_30).below hb_36).store hg_39), .inl ⟨rfl, by omega, by omega, hkz_⟩⟩
set_option maxHeartbeats 1000000 in
theorem badd_emb (D : Option Addr) (n d : Nat) (t : ByteArray) (v : Value) (g : Nat) (b r : Int) (sl gn : Value) (w : World) (hk : RX.Blk w g 194 #[i6 b, i6 r, sl, gn]) (hb : 0 ≤ b ∧ b ≤ 1099511627776) (hr : 0 ≤ r ∧ r ≤ 1099511627776) : Calls Tryz.prog 136 #[pw g 0, .iface 253 (.agg #[.slice D n d, sT t, v])] w fun e w' =>
  Two g none w w' ∧ ((e = .returned bT ∧ b + 0 ≤ 1099511627776 ∧ r + 1 ≤ 1099511627776 ∧ RX.Blk w' g 194 #[i6 (b + 0), i6 (r + 1), sl, gn]) ∨ (e = .returned bF ∧ (1099511627776 < b + 0 ∨ 1099511627776 < r + 1) ∧ RX.Blk w' g 194 #[i6 b, i6 r, sl, gn])) := by
 refine en Tryz.func136 rfl 60 [(0, pw g 0), (1, .iface 253 (.agg #[.slice D n d, sT t, v]))] (fun R_ hR_ => ?_)
 refine sg (xe0 1 [(0, pw g 0), (1, .iface 253 (.agg #[.slice D n d, sT t, v]))] ?_)
 refine nl (sg (xr0 1 [(6, .iface 253 (.agg #[.slice D n d, sT t, v]))] [] ?_))
 refine XL_inv 253 #[.agg #[.slice D n d, sT t, v]] rfl rfl (by kernel_rfl) (by kernel_rfl) (embedLen_any _ _ _ _ _ _) ?_
 rintro e w_1 ⟨rfl, hb_2⟩; refine ⟨_, rfl, ?_⟩
 refine xr0 1 [(7, i6 1), (8, .iface 253 (.agg #[.slice D n d, sT t, v]))] [6] ?_
 refine XL_inv 253 #[.agg #[.slice D n d, sT t, v]] rfl rfl (by kernel_rfl) (by kernel_rfl) (embedLen_any _ _ _ _ _ _) ?_
 rintro e w_3 ⟨rfl, hb_4⟩; refine ⟨_, rfl, ?_⟩
 refine xw 2 [] [(5, pw w_3.heap.size 0), (10, .agg #[i6 1, i6 1])] [7, 8, 9] (w_3.alloc (.cells #[i6 0, i6 0] 192)) [] trivial ?_
 obtain ⟨w_5, hw_9, hb_6, hk_7, hz_8⟩ := new_world w_3 #[i6 0, i6 0] 192
 rw [hw_9]
 refine xst (.agg #[i6 1, i6 1]) hk_7 0 #[i6 1, i6 1] (fun w_10 hg_11 hk_12 hz_13 => ?_)
 have hne_14 : g ≠ w_3.heap.size := Blk.tne (Blk.below hk (bt (bt hb_2 hb_4) hb_6)) hk_7 rfl
 have hk_15 := Blk.other (Blk.below hk (bt (bt hb_2 hb_4) hb_6)) hg_11 hne_14
 refine nl (sq (sg (xr0 1 [(11, .iface 253 (.agg #[.slice D n d, sT t, v]))] [1, 10] ?_)))
 refine nl (bk (sg (xr0 3 [(13, bF)] [] ?_)))
 refine nl (cf (sg (xe0 7 [(0, pw g 0), (5, pw w_3.heap.size 0), (22, bT)] ?_)))
 refine nl (ct (rg (xr0 1 [(23, pw w_3.heap.size 0)] [22] ?_)))
 refine xst (i6 0) hk_12 0 #[i6 0, i6 1] (fun w_16 hg_17 hk_18 hz_19 => ?_)
 have hk_20 := Blk.other hk_15 hg_17 hne_14
 refine nl (sq (sq (X_still (by kernel_rfl) (by kernel_rfl) (fun wd_21 hb_22 hh_23 => ?_))))
 refine xse 7 [(25, .load (i6 0)), (29, .load (i6 b)), (30, .eq (i6 (1099511627776 - b)))] [(0, pw g 0), (5, pw w_3.heap.size 0), (25, i6 0), (30, i6 (1099511627776 - b))] [_, _, _] ⟨lc 3 (Blk.below hk_18 hb_22) 0, lc 3 (Blk.below hk_20 hb_22) 0, w6 (1099511627776 - b), trivial⟩ ?_
 by_cases c_24 : (0 : Int) > 1099511627776 - b
 ·exfalso; omega
 refine xse 9 [(31, .eq bF), (34, .load (i6 1)), (38, .load (i6 r)), (39, .eq (i6 (1099511627776 - r)))] [(0, pw g 0), (5, pw w_3.heap.size 0), (32, bF), (34, i6 1), (39, i6 (1099511627776 - r))] [_, _, _, _] ⟨dF c_24, lc 3 (Blk.below hk_18 hb_22) 1, lc 3 (Blk.below hk_20 hb_22) 1, w6 (1099511627776 - r), trivial⟩ ?_
 by_cases c_25 : (1 : Int) > 1099511627776 - r
 ·refine xse 2 [(40, .eq bT)] [(0, pw g 0), (5, pw w_3.heap.size 0), (41, bT)] [_] ⟨dT c_25, trivial⟩ ?_
  refine XS_nil ?_
  refine ct (sg (xe0 1 [(4, bF)] ?_))
  refine nl (X_ret (rj [bF] hR_ ?_))
  exact ⟨(((((((Two.refl g none w).below hb_2).below hb_4).below hb_6).grown hg_11 (fun x_ e_ => .inr (.inr (by injection e_ with e_; have h_ := (Nat.le_trans hb_2.size hb_4.size); omega)))).grown hg_17 (fun x_ e_ => .inr (.inr (by injection e_ with e_; have h_ := (Nat.le_trans hb_2.size hb_4.size); omega)))).below hb_22), .inr ⟨rfl, by omega, (Blk.below hk_20 hb_22)⟩⟩
 refine xse 2 [(40, .eq bF)] [(0, pw g 0), (5, pw w_3.heap.size 0), (41, bF)] [_] ⟨dF c_25, trivial⟩ ?_
 refine XS_nil ?_
 refine cf (sk (sq (X_any [9] 10 (tf 0 10) (by kernel_rfl) (by kernel_rfl) (by kernel_rfl) (fun wd_26 hb_27 hh_28 => ?_))))
 refine XA_run (fuel' := 1) [0, 1, 2, 3, 4, 5, 6, 7, 8] [(45, .load (i6 b)), (47, .load (i6 0)), (48, .eq (i6 (b + 0)))] [pw g 0, pw g 0, pw g 0, i6 b, pw w_3.heap.size 0, i6 0, i6 (b + 0), pw g 0, pw g 0] (tf 9 1) [(0, pw g 0), (5, pw w_3.heap.size 0), (48, i6 (b + 0)), (50, pw g 0)] [la 3 (⟨g, 0, none⟩) (i6 b) wd_26, la 3 (⟨w_3.heap.size, 0, none⟩) (i6 0) wd_26, i6 (IntKind.i64.wrap (b + 0)) = i6 (b + 0)] ⟨loads1 rfl (Blk.cell (Blk.below hk_20 (bt hb_22 hb_27)) 0 _ rfl), loads1 rfl (Blk.cell (Blk.below hk_18 (bt hb_22 hb_27)) 0 _ rfl), wr_i64 (by omega) (by omega), trivial⟩ ?_
 refine XA_act (fuel' := 0) 9 (tf 10 0) _ rfl (by kernel_rfl) rfl (by kernel_rfl) rfl ?_
 refine xst (i6 (b + 0)) (Blk.below hk_20 (bt hb_22 hb_27)) 0 #[i6 (b + 0), i6 r, sl, gn] (fun w_29 hg_30 hk_31 hz_32 => ?_)
 have hne_33 : w_3.heap.size ≠ g := Blk.tne (Blk.below hk_18 (bt hb_22 hb_27)) (Blk.below hk_20 (bt hb_22 hb_27)) rfl
 have hk_34 := Blk.other (Blk.below hk_18 (bt hb_22 hb_27)) hg_30 hne_33
 refine nl (XA_done (by kernel_rfl) ?_)
 refine sq (X_any [9] 10 (tf 0 10) (by kernel_rfl) (by kernel_rfl) (by kernel_rfl) (fun wd_35 hb_36 hh_37 => ?_))
 refine XA_run (fuel' := 1) [0, 1, 2, 3, 4, 5, 6, 7, 8] [(54, .load (i6 r)), (56, .load (i6 1)), (57, .eq (i6 (r + 1)))] [pw g 0, pw g 0, pw g 1, i6 r, pw w_3.heap.size 1, i6 1, i6 (r + 1), pw g 0, pw g 1] (tf 9 1) [(57, i6 (r + 1)), (59, pw g 1)] [la 3 (⟨g, 1, none⟩) (i6 r) wd_35, la 3 (⟨w_3.heap.size, 1, none⟩) (i6 1) wd_35, i6 (IntKind.i64.wrap (r + 1)) = i6 (r + 1)] ⟨loads1 rfl (Blk.cell (Blk.below hk_31 hb_36) 1 _ rfl), loads1 rfl (Blk.cell (Blk.below hk_34 hb_36) 1 _ rfl), wr_i64 (by omega) (by omega), trivial⟩ ?_
 refine XA_act (fuel' := 0) 9 (tf 10 0) _ rfl (by kernel_rfl) rfl (by kernel_rfl) rfl ?_
 refine xst (i6 (r + 1)) (Blk.below hk_31 hb_36) 1 #[i6 (b + 0), i6 (r + 1), sl, gn] (fun w_38 hg_39 hk_40 hz_41 => ?_)
 refine nl (XA_done (by kernel_rfl) ?_)
 refine sg (xe0 1 [(4, bT)] ?_)
 refine nl (X_ret (rj [bT] hR_ ?_))
 have hkz_ := hk_40
 exact ⟨(((((((((((Two.refl g none w).below hb_2).below hb_4).below hb_6).grown hg_11 (fun x_ e_ => .inr (.inr (by injection e_ with e_; have h_ := (Nat.le_trans hb_2.size hb_4.size); omega)))).grown hg_17 (fun x_ e_ => .inr (.inr (by injection e_ with e_; have h_ := (Nat.le_trans hb_2.size hb_4.size); omega)))).below hb_22).below hb_27).store hg_30).below hb_36).store hg_39), .inl ⟨rfl, by omega, by omega, hkz_⟩⟩
set_option maxHeartbeats 1000000 in
theorem badd_ret (D : Option Addr) (n d : Nat) (k : Int) (g : Nat) (b r : Int) (sl gn : Value) (w : World) (hk : RX.Blk w g 194 #[i6 b, i6 r, sl, gn]) (hb : 0 ≤ b ∧ b ≤ 1099511627776) (hr : 0 ≤ r ∧ r ≤ 1099511627776) (hkb : 0 ≤ k ∧ k ≤ 1099511627776) : Calls Tryz.prog 136 #[pw g 0, .iface 128 (.agg #[.slice D n d, i6 k])] w fun e w' =>
  Two g none w w' ∧ ((e = .returned bT ∧ b + k ≤ 1099511627776 ∧ r + k ≤ 1099511627776 ∧ RX.Blk w' g 194 #[i6 (b + k), i6 (r + k), sl, gn]) ∨ (e = .returned bF ∧ (1099511627776 < b + k ∨ 1099511627776 < r + k) ∧ RX.Blk w' g 194 #[i6 b, i6 r, sl, gn])) := by
 refine en Tryz.func136 rfl 60 [(0, pw g 0), (1, .iface 128 (.agg #[.slice D n d, i6 k]))] (fun R_ hR_ => ?_)
 refine sg (xe0 1 [(0, pw g 0), (1, .iface 128 (.agg #[.slice D n d, i6 k]))] ?_)
 refine nl (sg (xr0 1 [(6, .iface 128 (.agg #[.slice D n d, i6 k]))] [] ?_))
 refine XL_inv 247 #[.agg #[.slice D n d, i6 k]] rfl rfl (by kernel_rfl) (by kernel_rfl) (retainLen_any _ _ _ _ _) ?_
 rintro e w_1 ⟨rfl, hb_2⟩; refine ⟨_, rfl, ?_⟩
 refine xr0 1 [(7, i6 k), (8, .iface 128 (.agg #[.slice D n d, i6 k]))] [6] ?_
 refine XL_inv 247 #[.agg #[.slice D n d, i6 k]] rfl rfl (by kernel_rfl) (by kernel_rfl) (retainLen_any _ _ _ _ _) ?_
 rintro e w_3 ⟨rfl, hb_4⟩; refine ⟨_, rfl, ?_⟩
 refine xw 2 [] [(5, pw w_3.heap.size 0), (10, .agg #[i6 k, i6 k])] [7, 8, 9] (w_3.alloc (.cells #[i6 0, i6 0] 192)) [] trivial ?_
 obtain ⟨w_5, hw_9, hb_6, hk_7, hz_8⟩ := new_world w_3 #[i6 0, i6 0] 192
 rw [hw_9]
 refine xst (.agg #[i6 k, i6 k]) hk_7 0 #[i6 k, i6 k] (fun w_10 hg_11 hk_12 hz_13 => ?_)
 have hne_14 : g ≠ w_3.heap.size := Blk.tne (Blk.below hk (bt (bt hb_2 hb_4) hb_6)) hk_7 rfl
 have hk_15 := Blk.other (Blk.below hk (bt (bt hb_2 hb_4) hb_6)) hg_11 hne_14
 refine nl (sq (sg (xr0 1 [(11, .iface 128 (.agg #[.slice D n d, i6 k]))] [1, 10] ?_)))
 refine nl (bk (sg (xr0 3 [(13, bF)] [] ?_)))
 refine nl (cf (sg (xe0 7 [(0, pw g 0), (5, pw w_3.heap.size 0), (22, bF)] ?_)))
 refine nl (cf (sk (sq (sq (X_still (by kernel_rfl) (by kernel_rfl) (fun wd_16 hb_17 hh_18 => ?_))))))
 refine xse 7 [(25, .load (i6 k)), (29, .load (i6 b)), (30, .eq (i6 (1099511627776 - b)))] [(0, pw g 0), (5, pw w_3.heap.size 0), (25, i6 k), (30, i6 (1099511627776 - b))] [_, _, _] ⟨lc 3 (Blk.below hk_12 hb_17) 0, lc 3 (Blk.below hk_15 hb_17) 0, w6 (1099511627776 - b), trivial⟩ ?_
 by_cases c_19 : k > 1099511627776 - b
 ·refine xse 11 [(31, .eq bT)] [(0, pw g 0), (5, pw w_3.heap.size 0), (41, bT)] [_] ⟨dT c_19, trivial⟩ ?_
  refine XS_nil ?_
  refine ct (sg (xe0 1 [(4, bF)] ?_))
  refine nl (X_ret (rj [bF] hR_ ?_))
  exact ⟨((((((Two.refl g none w).below hb_2).below hb_4).below hb_6).grown hg_11 (fun x_ e_ => .inr (.inr (by injection e_ with e_; have h_ := (Nat.le_trans hb_2.size hb_4.size); omega)))).below hb_17), .inr ⟨rfl, by omega, (Blk.below hk_15 hb_17)⟩⟩
 refine xse 9 [(31, .eq bF), (34, .load (i6 k)), (38, .load (i6 r)), (39, .eq (i6 (1099511627776 - r)))] [(0, pw g 0), (5, pw w_3.heap.size 0), (32, bF), (34, i6 k), (39, i6 (1099511627776 - r))] [_, _, _, _] ⟨dF c_19, lc 3 (Blk.below hk_12 hb_17) 1, lc 3 (Blk.below hk_15 hb_17) 1, w6 (1099511627776 - r), trivial⟩ ?_
 by_cases c_20 : k > 1099511627776 - r
 ·refine xse 2 [(40, .eq bT)] [(0, pw g 0), (5, pw w_3.heap.size 0), (41, bT)] [_] ⟨dT c_20, trivial⟩ ?_
  refine XS_nil ?_
  refine ct (sg (xe0 1 [(4, bF)] ?_))
  refine nl (X_ret (rj [bF] hR_ ?_))
  exact ⟨((((((Two.refl g none w).below hb_2).below hb_4).below hb_6).grown hg_11 (fun x_ e_ => .inr (.inr (by injection e_ with e_; have h_ := (Nat.le_trans hb_2.size hb_4.size); omega)))).below hb_17), .inr ⟨rfl, by omega, (Blk.below hk_15 hb_17)⟩⟩
 refine xse 2 [(40, .eq bF)] [(0, pw g 0), (5, pw w_3.heap.size 0), (41, bF)] [_] ⟨dF c_20, trivial⟩ ?_
 refine XS_nil ?_
 refine cf (sk (sq (X_any [9] 10 (tf 0 10) (by kernel_rfl) (by kernel_rfl) (by kernel_rfl) (fun wd_21 hb_22 hh_23 => ?_))))
 refine XA_run (fuel' := 1) [0, 1, 2, 3, 4, 5, 6, 7, 8] [(45, .load (i6 b)), (47, .load (i6 k)), (48, .eq (i6 (b + k)))] [pw g 0, pw g 0, pw g 0, i6 b, pw w_3.heap.size 0, i6 k, i6 (b + k), pw g 0, pw g 0] (tf 9 1) [(0, pw g 0), (5, pw w_3.heap.size 0), (48, i6 (b + k)), (50, pw g 0)] [la 3 (⟨g, 0, none⟩) (i6 b) wd_21, la 3 (⟨w_3.heap.size, 0, none⟩) (i6 k) wd_21, i6 (IntKind.i64.wrap (b + k)) = i6 (b + k)] ⟨loads1 rfl (Blk.cell (Blk.below hk_15 (bt hb_17 hb_22)) 0 _ rfl), loads1 rfl (Blk.cell (Blk.below hk_12 (bt hb_17 hb_22)) 0 _ rfl), wr_i64 (by omega) (by omega), trivial⟩ ?_
 refine XA_act (fuel' := 0) 9 (tf 10 0) _ rfl (by kernel_rfl) rfl (by kernel_rfl) rfl ?_
 refine xst (i6 (b + k)) (Blk.below hk_15 (bt hb_17 hb_22)) 0 #[i6 (b + k), i6 r, sl, gn] (fun w_24 hg_25 hk_26 hz_27 => ?_)
 have hne_28 : w_3.heap.size ≠ g := Blk.tne (Blk.below hk_12 (bt hb_17 hb_22)) (Blk.below hk_15 (bt hb_17 hb_22)) rfl
 have hk_29 := Blk.other (Blk.below hk_12 (bt hb_17 hb_22)) hg_25 hne_28
 refine nl (XA_done (by kernel_rfl) ?_)
 refine sq (X_any [9] 10 (tf 0 10) (by kernel_rfl) (by kernel_rfl) (by kernel_rfl) (fun wd_30 hb_31 hh_32 => ?_))
 refine XA_run (fuel' := 1) [0, 1, 2, 3, 4, 5, 6, 7, 8] [(54, .load (i6 r)), (56, .load (i6 k)), (57, .eq (i6 (r + k)))] [pw g 0, pw g 0, pw g 1, i6 r, pw w_3.heap.size 1, i6 k, i6 (r + k), pw g 0, pw g 1] (tf 9 1) [(57, i6 (r + k)), (59, pw g 1)] [la 3 (⟨g, 1, none⟩) (i6 r) wd_30, la 3 (⟨w_3.heap.size, 1, none⟩) (i6 k) wd_30, i6 (IntKind.i64.wrap (r + k)) = i6 (r + k)] ⟨loads1 rfl (Blk.cell (Blk.below hk_26 hb_31) 1 _ rfl), loads1 rfl (Blk.cell (Blk.below hk_29 hb_31) 1 _ rfl), wr_i64 (by omega) (by omega), trivial⟩ ?_
 refine XA_act (fuel' := 0) 9 (tf 10 0) _ rfl (by kernel_rfl) rfl (by kernel_rfl) rfl ?_
 refine xst (i6 (r + k)) (Blk.below hk_26 hb_31) 1 #[i6 (b + k), i6 (r + k), sl, gn] (fun w_33 hg_34 hk_35 hz_36 => ?_)
 refine nl (XA_done (by kernel_rfl) ?_)
 refine sg (xe0 1 [(4, bT)] ?_)
 refine nl (X_ret (rj [bT] hR_ ?_))
 have hkz_ := hk_35
 exact ⟨((((((((((Two.refl g none w).below hb_2).below hb_4).below hb_6).grown hg_11 (fun x_ e_ => .inr (.inr (by injection e_ with e_; have h_ := (Nat.le_trans hb_2.size hb_4.size); omega)))).below hb_17).below hb_22).store hg_25).below hb_31).store hg_34), .inl ⟨rfl, by omega, by omega, hkz_⟩⟩
set_option maxHeartbeats 1000000 in
theorem badd_del (k : Int) (g : Nat) (b r : Int) (sl gn : Value) (w : World) (hk : RX.Blk w g 194 #[i6 b, i6 r, sl, gn]) (hb : 0 ≤ b ∧ b ≤ 1099511627776) (hr : 0 ≤ r ∧ r ≤ 1099511627776) (hkb : 0 ≤ k ∧ k ≤ 1099511627776) : Calls Tryz.prog 136 #[pw g 0, .iface 133 (.agg #[i6 k])] w fun e w' =>
  Two g none w w' ∧ ((e = .returned bT ∧ b + k ≤ 1099511627776 ∧ r + 0 ≤ 1099511627776 ∧ RX.Blk w' g 194 #[i6 (b + k), i6 (r + 0), sl, gn]) ∨ (e = .returned bF ∧ (1099511627776 < b + k ∨ 1099511627776 < r + 0) ∧ RX.Blk w' g 194 #[i6 b, i6 r, sl, gn])) := by
 refine en Tryz.func136 rfl 60 [(0, pw g 0), (1, .iface 133 (.agg #[i6 k]))] (fun R_ hR_ => ?_)
 refine sg (xe0 1 [(0, pw g 0), (1, .iface 133 (.agg #[i6 k]))] ?_)
 refine nl (sg (xr0 1 [(6, .iface 133 (.agg #[i6 k]))] [] ?_))
 refine XL_inv 249 #[.agg #[i6 k]] rfl rfl (by kernel_rfl) (by kernel_rfl) (deleteLen_any _ _) ?_
 rintro e w_1 ⟨rfl, hb_2⟩; refine ⟨_, rfl, ?_⟩
 refine xr0 1 [(7, i6 k), (8, .iface 133 (.agg #[i6 k]))] [6] ?_
 refine XL_inv 249 #[.agg #[i6 k]] rfl rfl (by kernel_rfl) (by kernel_rfl) (deleteLen_any _ _) ?_
 rintro e w_3 ⟨rfl, hb_4⟩; refine ⟨_, rfl, ?_⟩
 refine xw 2 [] [(5, pw w_3.heap.size 0), (10, .agg #[i6 k, i6 k])] [7, 8, 9] (w_3.alloc (.cells #[i6 0, i6 0] 192)) [] trivial ?_
 obtain ⟨w_5, hw_9, hb_6, hk_7, hz_8⟩ := new_world w_3 #[i6 0, i6 0] 192
 rw [hw_9]
 refine xst (.agg #[i6 k, i6 k]) hk_7 0 #[i6 k, i6 k] (fun w_10 hg_11 hk_12 hz_13 => ?_)
 have hne_14 : g ≠ w_3.heap.size := Blk.tne (Blk.below hk (bt (bt hb_2 hb_4) hb_6)) hk_7 rfl
 have hk_15 := Blk.other (Blk.below hk (bt (bt hb_2 hb_4) hb_6)) hg_11 hne_14
 refine nl (sq (sg (xr0 1 [(11, .iface 133 (.agg #[i6 k]))] [1, 10] ?_)))
 refine nl (bk (sg (xr0 3 [(13, bT)] [] ?_)))
 refine nl (ct (rg (xe0 1 [(0, pw g 0), (5, pw w_3.heap.size 0), (15, pw w_3.heap.size 1)] ?_)))
 refine xst (i6 0) hk_12 1 #[i6 k, i6 0] (fun w_16 hg_17 hk_18 hz_19 => ?_)
 have hk_20 := Blk.other hk_15 hg_17 hne_14
 refine nl (sq (sq (X_still (by kernel_rfl) (by kernel_rfl) (fun wd_21 hb_22 hh_23 => ?_))))
 refine xse 7 [(25, .load (i6 k)), (29, .load (i6 b)), (30, .eq (i6 (1099511627776 - b)))] [(0, pw g 0), (5, pw w_3.heap.size 0), (25, i6 k), (30, i6 (1099511627776 - b))] [_, _, _] ⟨lc 3 (Blk.below hk_18 hb_22) 0, lc 3 (Blk.below hk_20 hb_22) 0, w6 (1099511627776 - b), trivial⟩ ?_
 by_cases c_24 : k > 1099511627776 - b
 ·refine xse 11 [(31, .eq bT)] [(0, pw g 0), (5, pw w_3.heap.size 0), (41, bT)] [_] ⟨dT c_24, trivial⟩ ?_
  refine XS_nil ?_
  refine ct (sg (xe0 1 [(4, bF)] ?_))
  refine nl (X_ret (rj [bF] hR_ ?_))
  exact ⟨(((((((Two.refl g none w).below hb_2).below hb_4).below hb_6).grown hg_11 (fun x_ e_ => .inr (.inr (by injection e_ with e_; have h_ := (Nat.le_trans hb_2.size hb_4.size); omega)))).grown hg_17 (fun x_ e_ => .inr (.inr (by injection e_ with e_; have h_ := (Nat.le_trans hb_2.size hb_4.size); omega)))).below hb_22), .inr ⟨rfl, by omega, (Blk.below hk_20 hb_22)⟩⟩
 refine xse 9 [(31, .eq bF), (34, .load (i6 0)), (38, .load (i6 r)), (39, .eq (i6 (1099511627776 - r)))] [(0, pw g 0), (5, pw w_3.heap.size 0), (32, bF), (34, i6 0), (39, i6 (1099511627776 - r))] [_, _, _, _] ⟨dF c_24, lc 3 (Blk.below hk_18 hb_22) 1, lc 3 (Blk.below hk_20 hb_22) 1, w6 (1099511627776 - r), trivial⟩ ?_
 by_cases c_25 : (0 : Int) > 1099511627776 - r
 ·exfalso; omega
 refine xse 2 [(40, .eq bF)] [(0, pw g 0), (5, pw w_3.heap.size 0), (41, bF)] [_] ⟨dF c_25, trivial⟩ ?_
 refine XS_nil ?_
 refine cf (sk (sq (X_any [9] 10 (tf 0 10) (by kernel_rfl) (by kernel_rfl) (by kernel_rfl) (fun wd_26 hb_27 hh_28 => ?_))))
 refine XA_run (fuel' := 1) [0, 1, 2, 3, 4, 5, 6, 7, 8] [(45, .load (i6 b)), (47, .load (i6 k)), (48, .eq (i6 (b + k)))] [pw g 0, pw g 0, pw g 0, i6 b, pw w_3.heap.size 0, i6 k, i6 (b + k), pw g 0, pw g 0] (tf 9 1) [(0, pw g 0), (5, pw w_3.heap.size 0), (48, i6 (b + k)), (50, pw g 0)] [la 3 (⟨g, 0, none⟩) (i6 b) wd_26, la 3 (⟨w_3.heap.size, 0, none⟩) (i6 k) wd_26, i6 (IntKind.i64.wrap (b + k)) = i6 (b + k)] ⟨loads1 rfl (Blk.cell (Blk.below hk_20 (bt hb_22 hb_27)) 0 _ rfl), loads1 rfl (Blk.cell (Blk.below hk_18 (bt hb_22 hb_27)) 0 _ rfl), wr_i64 (by omega) (by omega), trivial⟩ ?_
 refine XA_act (fuel' := 0) 9 (tf 10 0) _ rfl (by kernel_rfl) rfl (by kernel_rfl) rfl ?_
 refine xst (i6 (b + k)) (Blk.below hk_20 (bt hb_22 hb_27)) 0 #[i6 (b + k), i6 r, sl, gn] (fun w_29 hg_30 hk_31 hz_32 => ?_)
 have hne_33 : w_3.heap.size ≠ g := Blk.tne (Blk.below hk_18 (bt hb_22 hb_27)) (Blk.below hk_20 (bt hb_22 hb_27)) rfl
 have hk_34 := Blk.other (Blk.below hk_18 (bt hb_22 hb_27)) hg_30 hne_33
 refine nl (XA_done (by kernel_rfl) ?_)
 refine sq (X_any [9] 10 (tf 0 10) (by kernel_rfl) (by kernel_rfl) (by kernel_rfl) (fun wd_35 hb_36 hh_37 => ?_))
 refine XA_run (fuel' := 1) [0, 1, 2, 3, 4, 5, 6, 7, 8] [(54, .load (i6 r)), (56, .load (i6 0)), (57, .eq (i6 (r + 0)))] [pw g 0, pw g 0, pw g 1, i6 r, pw w_3.heap.size 1, i6 0, i6 (r + 0), pw g 0, pw g 1] (tf 9 1) [(57, i6 (r + 0)), (59, pw g 1)] [la 3 (⟨g, 1, none⟩) (i6 r) wd_35, la 3 (⟨w_3.heap.size, 1, none⟩) (i6 0) wd_35, i6 (IntKind.i64.wrap (r + 0)) = i6 (r + 0)] ⟨loads1 rfl (Blk.cell (Blk.below hk_31 hb_36) 1 _ rfl), loads1 rfl (Blk.cell (Blk.below hk_34 hb_36) 1 _ rfl), wr_i64 (by omega) (by omega), trivial⟩ ?_
 refine XA_act (fuel' := 0) 9 (tf 10 0) _ rfl (by kernel_rfl) rfl (by kernel_rfl) rfl ?_
 refine xst (i6 (r + 0)) (Blk.below hk_31 hb_36) 1 #[i6 (b + k), i6 (r + 0), sl, gn] (fun w_38 hg_39 hk_40 hz_41 => ?_)
 refine nl (XA_done (by kernel_rfl) ?_)
 refine sg (xe0 1 [(4, bT)] ?_)
 refine nl (X_ret (rj [bT] hR_ ?_))
 have hkz_ := hk_40
 exact ⟨(((((((((((Two.refl g none w).below hb_2).below hb_4).below hb_6).grown hg_11 (fun x_ e_ => .inr (.inr (by injection e_ with e_; have h_ := (Nat.le_trans hb_2.size hb_4.size); omega)))).grown hg_17 (fun x_ e_ => .inr (.inr (by injection e_ with e_; have h_ := (Nat.le_trans hb_2.size hb_4.size); omega)))).below hb_22).below hb_27).store hg_30).below hb_36).store hg_39), .inl ⟨rfl, by omega, by omega, hkz_⟩⟩
noncomputable def pushE (b r : Int) (o : OpA) : Nat := if pErr o ≠ 0 then pErr o else if 1099511627776 < b + opB o ∨ 1099511627776 < r + opR o then 11 else 0
theorem pushE_bad {b r : Int} {o : OpA} (h : pErr o ≠ 0) : pushE b r o = pErr o := if_pos h
theorem pushE_long {b r : Int} {o : OpA} (h : pErr o = 0) (h2 : 1099511627776 < b + opB o ∨ 1099511627776 < r + opR o) : pushE b r o = 11 := by unfold pushE; rw [if_neg (by omega), if_pos h2]
theorem pushE_ok {b r : Int} {o : OpA} (h : pErr o = 0) (h2 : b + opB o ≤ 1099511627776) (h3 : r + opR o ≤ 1099511627776) : pushE b r o = 0 := by unfold pushE; rw [if_neg (by omega), if_neg (by omega)]
theorem step_del {s : B.St} {o : OpA} (h : o.kind = 4) : B.step s o = (s.1, s.2 + o.count) := if_pos h
theorem step_ret {s : B.St} {o : OpA} (h : o.kind = 3) : B.step s o = (B.push (B.dels s.1 s.2) o, 0) := by unfold B.step; rw [if_neg (by omega), if_pos h]
theorem step_ins {s : B.St} {o : OpA} (h : o.kind = 1 ∨ o.kind = 2) : B.step s o = (B.push s.1 o, s.2) := by unfold B.step; rw [if_neg (by omega), if_neg (by omega)]
theorem of_one {o : OpA} (h : pErr o = 0) : ofP [o] = [pOf o] ∧ badI [o] = 0 ∧ badE [o] = 0 := by
 have hb : badE [o] = 0 := by unfold badE badE; rw [if_neg (by omega)]
 exact ⟨ofP_ok hb, badI_none hb, hb⟩
theorem attr_C_one {w : World} {A : Option Addr} {c : Nat} {o : OpA} (hl : o.attrs.length ≤ c) (hC : kAttr.C w A o.attrs.length o.attrs) : kOp.K w o (o7L o (.slice A o.attrs.length c)) := kOp_K_of hl hC
theorem dels_len (ps : List OpA) (n : Int) : (B.dels ps n).length ≤ ps.length + 1 := by unfold B.dels; split <;> simp <;> omega
theorem dels_ok2 {ps : List OpA} {n : Int} (hb : badE ps = 0) (h0 : 0 ≤ n) (h1 : n ≤ 1099511627776) : badE (B.dels ps n) = 0 := by
 unfold B.dels
 split
 ·exact hb
 exact B.bad_snoc.2 ⟨hb, B.ok_gone (by omega) h1⟩
theorem dels_txt {ps : List OpA} {n : Int} {K : Nat} (h : (B.lst ps).text.size ≤ K) : (B.lst (B.dels ps n)).text.size ≤ K := by
 unfold B.dels
 split
 ·exact h
 rw [B.lst_snoc]; exact Nat.zero_le _
def PushR (es : List Addr) (wB : World) (g : Nat) (b r : Int) (s : B.St) (A : Option Addr) (c : Nat) (w : World) (o : OpA) (e : Ending) (w' : World) : Prop :=
 Two g (A.map (·.block)) w w' ∧ ((pushE b r o = 0 ∧ e = .returned .nilIface ∧ ∃ A' c', RX.Blk w' g 194 #[i6 (b + opB o), i6 (r + opR o), .slice A' (List.map pOf ((B.step s o).1)).length c', i6 ((B.step s o).2)] ∧ kPiece.R 124 w' wB.heap.size (OkFrom wB.heap.size) (aL A' (List.map pOf ((B.step s o).1)) c') (List.map pOf ((B.step s o).1)) ∧ (A'.map (·.block) = A.map (·.block) ∨ ∃ b, A'.map (·.block) = some b ∧ w.heap.size ≤ b)) ∨ (pushE b r o ≠ 0 ∧ e = .returned (errV es (pushE b r o)) ∧ RX.Blk w' g 194 #[i6 b, i6 r, .slice A (List.map pOf s.1).length c, i6 s.2] ∧ kPiece.R 124 w' wB.heap.size (OkFrom wB.heap.size) (aL A (List.map pOf s.1) c) (List.map pOf s.1)))
set_option maxHeartbeats 4000000 in
theorem push_any (o : OpA) (Ao : Option Addr) (co : Nat) (wB : World) (g : Nat) (b r : Int) (s : B.St) (A : Option Addr) (c : Nat) (w : World) (hB0 : Below wB.heap.size wB w) (hgB : wB.heap.size ≤ g) (hk : RX.Blk w g 194 #[i6 b, i6 r, .slice A (List.map pOf s.1).length c, i6 s.2]) (hR : kPiece.R 124 w wB.heap.size (OkFrom wB.heap.size) (.slice A (List.map pOf s.1).length c) (List.map pOf s.1)) (hb : 0 ≤ b ∧ b ≤ 1099511627776) (hr : 0 ≤ r ∧ r ≤ 1099511627776) (hs2 : 0 ≤ s.2 ∧ s.2 ≤ 1099511627776) (hbd : badE s.1 = 0) (hl : s.1.length ≤ 100000000) (hlt : (B.lst s.1).text.size ≤ 1000000000) (hAo : kAttr.C w Ao o.attrs.length o.attrs) (hco : o.attrs.length ≤ co) (hz : opSz o) (hT : Tabs wB) (es : List Addr) (hE : ErrsO wB es) :
  Calls Tryz.prog 83 #[pw g 0, .agg (o7A o (aL Ao o.attrs co))] w fun e w' => PushR es wB g b r s A c w o e w' := by
 have hls := dels_len s.1 s.2
 have hscl := U.sc_le o.text
 have hz1 := hz.1
 refine en Tryz.func83 rfl 84 [(0, pw g 0), (1, .agg (o7A o (aL Ao o.attrs co)))] (fun R_ hR_ => ?_)
 refine sg (xwe 1 [] [(0, pw g 0), (3, pw w.heap.size 0)] (w.alloc (.cells (o7A o (aL Ao o.attrs co)) 102)) [] trivial ?_)
 obtain ⟨w_1, hw_5, hb_2, hk_3, hz_4⟩ := new_world w (o7A o (aL Ao o.attrs co)) 102
 rw [hw_5]
 refine xr0 1 [] [] ?_
 refine nl (sq (sg (xr 1 [(14, .load (.agg (o7A o (aL Ao o.attrs co))))] [(14, .agg (o7A o (aL Ao o.attrs co)))] [] [la 102 (⟨w.heap.size, 0, none⟩) (.agg (o7A o (aL Ao o.attrs co))) w_1] ⟨loadsB rfl rfl hk_3 0 ⟨by kernel_rfl, by kernel_rfl⟩, trivial⟩ ?_)))
 refine xc 134 ent134 [.agg (o7A o (aL Ao o.attrs co))] (ocheck_any o _ _ _ (Kd.C_below hAo hb_2) hz (hT.below (bt hB0 hb_2)) es (hE.below (bt hB0 hb_2))) ?_
 rintro e w_6 ⟨rfl, hb_7⟩; refine ⟨_, rfl, ?_⟩
 refine xr0 1 [(5, errV es (pErr o))] [14, 15] ?_
 refine nl (sg (xr0 1 [(16, errV es (pErr o))] [] ?_))
 by_cases c_8 : (pErr o) = 0
 ·rw [show errV es (pErr o) = .nilIface from by rw [c_8]; rfl]
  refine xr0 1 [(5, .nilIface), (17, bF)] [16] ?_
  refine nl (cf (sk (sg (xwe 2 [(20, .load (.agg (o7A o (aL Ao o.attrs co))))] [(0, pw g 0), (21, .slice (some ⟨w_6.heap.size, 0, none⟩) 1 1)] (w_6.alloc (.cells (o7A o (aL Ao o.attrs co)) 102)) [la 102 (⟨w.heap.size, 0, none⟩) (.agg (o7A o (aL Ao o.attrs co))) w_6] ⟨loadsB rfl rfl (Blk.below hk_3 hb_7) 0 ⟨by kernel_rfl, by kernel_rfl⟩, trivial⟩ ?_))))
  obtain ⟨w_9, hw_13, hb_10, hk_11, hz_12⟩ := new_world w_6 (o7A o (aL Ao o.attrs co)) 102
  rw [hw_13]
  have hR_14 := Kd.R_litB (kRaw 7) (W := w_6) (e := 102) (cs := (o7A o (aL Ao o.attrs co))) [(o7L o (aL Ao o.attrs co))] hk_11 (reps_raw [(o7L o (aL Ao o.attrs co))] (by kernel_rfl)) (Nat.le_of_ble_eq_true (by kernel_rfl))
  have hC_15 : kOp.C w_9 (some ⟨w_6.heap.size, 0, none⟩) 1 [o] := C_lit1 (Kd.R_C hR_14) (attr_C_one hco (Kd.C_below hAo (bt (bt hb_2 hb_7) hb_10)))
  obtain ⟨hof1, hof2, hof3⟩ := of_one c_8
  refine xc 135 ent135 [.slice (some ⟨w_6.heap.size, 0, none⟩) 1 1] (of_any _ _ [o] _ hC_15 (Nat.le_of_ble_eq_true rfl) (fun i_ hi_ => by obtain rfl : i_ = 0 := (by simp only [List.length_cons, List.length_nil] at hi_; omega); exact hz) (hT.below (bt (bt (bt hB0 hb_2) hb_7) hb_10)) es (hE.below (bt (bt (bt hB0 hb_2) hb_7) hb_10))) ?_
  rintro e w_19 ⟨A_16, c_17, rfl, hr_18, hb_20⟩; refine ⟨_, rfl, ?_⟩
  rw [hof1] at hr_18 ⊢; rw [hof2, hof3]
  replace hr_18 : kPiece.R 124 w_19 w_9.heap.size (OkFrom w_9.heap.size) (.slice A_16 1 c_17) [pOf o] := hr_18
  rw [errV_zero]
  refine xr0 7 [(6, .slice A_16 1 c_17), (8, .nilIface)] [21, 22] ?_
  refine nl (sq (sg (xr0 2 [(27, bF)] [] ?_)))
  refine nl (cf (sk (sg (xr0 1 [(29, .slice A_16 1 c_17)] [6, 8, 27] ?_))))
  obtain ⟨ad_22, cs_25, ha_23, hM_26, hc_24⟩ := Kd.R_at piece0 hr_18 (i := (0 : Int)) (by decide) (by decide)
  obtain ⟨v_27, rfl⟩ := kPiece_one hM_26
  replace hc_24 : CellsAt w_19 (ad_22.add ((0 : Int).toNat * 1)) [v_27] := hc_24
  refine xr 1 [(30, .idx ad_22)] [(30, .pointer (some (ad_22.add ((0 : Int).toNat * 1))))] [29] [A_16 = some ad_22, (0 : Int) ≤ 0, 0 < (1 : Int)] ⟨ha_23, (by decide), (by decide), trivial⟩ ?_
  replace hM_26 : kPiece.M w_19 w_9.heap.size (fun k => OkFrom w_9.heap.size k ∧ some k ≠ A_16.map (·.block)) (pOf o) [v_27] := hM_26
  have hcn := fun hk_ => count_of_ok c_8 hk_
  rcases kind_of_ok c_8 with hk1 | hk1 | hk1 | hk1
  ·rw [pOf_ins hk1] at hM_26
   obtain ⟨A_29, c_30, e_31, hl_32, hR_33⟩ := kPiece_insM hM_26
   obtain rfl := (List.cons.inj e_31).1
   replace hR_33 := Kd.R_mono hR_33 (fun _ h_ => h_.1)
   have hob : opB o = 0 := B.opB_ins (.inl hk1)
   have hor : opR o = ((U.sc o.text).length : Int) := B.opR_txt hk1
   refine xr 2 [(31, .load (.iface 249 (.agg #[.slice A_29 o.attrs.length c_30, sT o.text, i6 ((U.sc o.text).length : Int)])))] [(9, .iface 249 (.agg #[.slice A_29 o.attrs.length c_30, sT o.text, i6 ((U.sc o.text).length : Int)]))] [30] [la 124 (ad_22.add ((0 : Int).toNat * 1)) (.iface 249 (.agg #[.slice A_29 o.attrs.length c_30, sT o.text, i6 ((U.sc o.text).length : Int)])) w_19] ⟨loads1 rfl (elem_cell hc_24 0 _ rfl), trivial⟩ ?_
   refine nl (sq (sg (xe0 4 [(0, pw g 0), (9, .iface 249 (.agg #[.slice A_29 o.attrs.length c_30, sT o.text, i6 ((U.sc o.text).length : Int)])), (34, pw g 0), (35, .iface 249 (.agg #[.slice A_29 o.attrs.length c_30, sT o.text, i6 ((U.sc o.text).length : Int)]))] ?_)))
   refine xc 136 ent136 [pw g 0, .iface 249 (.agg #[.slice A_29 o.attrs.length c_30, sT o.text, i6 ((U.sc o.text).length : Int)])] (badd_ins _ _ _ _ _ g b r _ _ _ (Blk.below hk (bt (bt (bt hb_2 hb_7) hb_10) hb_20)) hb hr (by omega)) ?_
   rintro e w_34 ⟨ht_36, ⟨rfl, h1_37, h2_38, hk_35⟩ | ⟨rfl, h1_37, hk_35⟩⟩
   ·refine ⟨_, rfl, ?_⟩
    have hg_39 := Two.toGrown ht_36
    have hr_40 := Kd.R_off hR_33 (Blk.below hk (bt (bt (bt hb_2 hb_7) hb_10) hb_20)) (by decide) hg_39
    have hr_42 := Kd.R_off (Kd.R_below hR (bt (bt (bt hb_2 hb_7) hb_10) hb_20)) (Blk.below hk (bt (bt (bt hb_2 hb_7) hb_10) hb_20)) (by decide) hg_39
    have hk_43 : RX.Blk w_34 g 194 #[i6 (b + opB o), i6 (r + opR o), .slice A ((List.map pOf s.1).length) c, i6 s.2] := by rw [hob, hor]; exact hk_35
    have hpe0 := pushE_ok (b := b) (r := r) c_8 (by omega) (by omega)
    refine xr0 1 [(37, bF)] [34, 35, 36] ?_
    refine nl (cf (sk (sq (sg (xw 6 [] [(10, pw w_34.heap.size 0), (42, .agg #[i6 0]), (43, bF)] [37] (w_34.alloc (.cells #[i6 0] 133)) [] trivial ?_)))))
    obtain ⟨w_44, hw_48, hb_45, hk_46, hz_47⟩ := new_world w_34 #[i6 0] 133
    rw [hw_48]
    refine xst (.agg #[i6 0]) hk_46 0 #[i6 0] (fun w_49 hg_50 hk_51 hz_52 => ?_)
    have hne_53 : g ≠ w_34.heap.size := Blk.tne (Blk.below hk_43 hb_45) hk_46 rfl
    have hk_54 := Blk.other (Blk.below hk_43 hb_45) hg_50 hne_53
    have hr_55 := Kd.R_off (Kd.R_below hr_40 hb_45) hk_46 (by decide) hg_50
    have hr_57 := Kd.R_off (Kd.R_below hr_42 hb_45) hk_46 (by decide) hg_50
    refine xr0 1 [(11, bF)] [10, 42, 43] ?_
    refine nl (sg (xr0 1 [(44, bF)] [11] ?_))
    refine nl (cf (sk (sq (sg (xw 6 [] [(12, pw w_49.heap.size 0), (57, .agg #[.slice none 0 0, i6 0]), (58, bF)] [44] (w_49.alloc (.cells #[.slice none 0 0, i6 0] 128)) [] trivial ?_)))))
    obtain ⟨w_58, hw_62, hb_59, hk_60, hz_61⟩ := new_world w_49 #[.slice none 0 0, i6 0] 128
    rw [hw_62]
    refine xst (.agg #[.slice none 0 0, i6 0]) hk_60 0 #[.slice none 0 0, i6 0] (fun w_63 hg_64 hk_65 hz_66 => ?_)
    have hne_67 : g ≠ w_49.heap.size := Blk.tne (Blk.below hk_54 hb_59) hk_60 rfl
    have hk_68 := Blk.other (Blk.below hk_54 hb_59) hg_64 hne_67
    have hr_71 := Kd.R_off (Kd.R_below hr_55 hb_59) hk_60 (by decide) hg_64
    have hr_73 := Kd.R_off (Kd.R_below hr_57 hb_59) hk_60 (by decide) hg_64
    refine xe0 1 [(0, pw g 0), (9, .iface 249 (.agg #[.slice A_29 o.attrs.length c_30, sT o.text, i6 ((U.sc o.text).length : Int)])), (13, bF)] ?_
    refine nl (sg (xr0 1 [(59, bF)] [13] ?_))
    refine nl (cf (sk (sg (xe1 6 [(79, .load (aL A (List.map pOf s.1) c))] [(75, pw g 0), (79, aL A (List.map pOf s.1) c), (80, .iface 249 (.agg #[.slice A_29 o.attrs.length c_30, sT o.text, i6 ((U.sc o.text).length : Int)]))] (lc 160 hk_68 2) ?_))))
    have hB_82 : Below wB.heap.size wB w_34 := (bg (bt (bt (bt (bt hB0 hb_2) hb_7) hb_10) hb_20) hg_39 hgB)
    have hB_83 : Below wB.heap.size wB w_63 := (bg (bt (bg (bt (bg (bt (bt (bt (bt hB0 hb_2) hb_7) hb_10) hb_20) hg_39 hgB) hb_45) hg_50 (hB_82).size) hb_59) hg_64 ((bg (bt hB_82 hb_45) hg_50 (hB_82).size)).size)
    refine xc 138 ent138 [.slice A ((List.map pOf s.1).length) c, .iface 249 (.agg #[.slice A_29 o.attrs.length c_30, sT o.text, i6 ((U.sc o.text).length : Int)])] (bjoined_ins _ _ s.1 o _ _ wB _ (hB_83).size hk1 c_8 hbd hr_73 (by omega) (Kd.R_C hr_71) (pm_eq (pOf_ins hk1) (kPiece_Mins ⟨_, rfl, (Kd.R_down hr_71 ((bt (bt (bt hB0 hb_2) hb_7) hb_10)).size)⟩)) (by omega) hlt) ?_
    rintro e w_76 ⟨A_74, c_75, rfl, hr_77, hg_78, hat_79⟩; refine ⟨_, rfl, ?_⟩
    have hl_80 := Kd.R_ge hr_73
    have hne_81 := Kd.R_blk_ne hr_73 hk_68 rfl
    have hat_84 := atc_new (Nat.le_trans (Nat.le_trans (Nat.le_trans (Nat.le_trans (Nat.le_trans (Nat.le_trans (Nat.le_trans (Nat.le_trans hb_2.size hb_7.size) hb_10.size) hb_20.size) hg_39.size) hb_45.size) hg_50.size) hb_59.size) hg_64.size) (.inl rfl) hat_79
    have hk_86 := Blk.ne hk_68 hg_78 hne_81
    refine xe0 2 [(81, aL A_74 (List.map pOf (B.push s.1 o)) c_75), (83, pw g 2)] ?_
    refine xst (aL A_74 (List.map pOf (B.push s.1 o)) c_75) hk_86 2 #[i6 (b + opB o), i6 (r + opR o), .slice A_74 ((List.map pOf (B.push s.1 o)).length) c_75, i6 s.2] (fun w_91 hg_92 hk_93 hz_94 => ?_)
    have hr_100 := Kd.R_off hr_77 hk_86 (by decide) hg_92
    refine nl (sg (xe0 1 [(4, .nilIface)] ?_))
    refine nl (X_ret (rj [.nilIface] hR_ ?_))
    unfold PushR
    rw [step_ins (.inl hk1)]
    exact ⟨((((((((((((Two.refl g (A.map (·.block)) w).below hb_2).below hb_7).below hb_10).below hb_20).store hg_39).below hb_45).grown hg_50 (fun x_ e_ => .inr (.inr (by injection e_ with e_; have h_ := (Nat.le_trans (Nat.le_trans (Nat.le_trans (Nat.le_trans hb_2.size hb_7.size) hb_10.size) hb_20.size) hg_39.size); omega)))).below hb_59).grown hg_64 (fun x_ e_ => .inr (.inr (by injection e_ with e_; have h_ := (Nat.le_trans (Nat.le_trans (Nat.le_trans (Nat.le_trans (Nat.le_trans (Nat.le_trans hb_2.size hb_7.size) hb_10.size) hb_20.size) hg_39.size) hb_45.size) hg_50.size); omega)))).row hg_78 (.inl rfl)).store hg_92), .inl ⟨hpe0, rfl, A_74, c_75, hk_93, hr_100, hat_84⟩⟩
   refine ⟨_, rfl, ?_⟩
   have hg_101 := Two.toGrown ht_36
   have hr_104 := Kd.R_off (Kd.R_below hR (bt (bt (bt hb_2 hb_7) hb_10) hb_20)) (Blk.below hk (bt (bt (bt hb_2 hb_7) hb_10) hb_20)) (by decide) hg_101
   have hpe0 := pushE_long (b := b) (r := r) c_8 (by omega)
   refine xr0 1 [(37, bT)] [34, 35, 36] ?_
   refine nl (ct (sq (X_region ?_)))
   have hB_105 : Below wB.heap.size wB w_34 := (bg (bt (bt (bt (bt hB0 hb_2) hb_7) hb_10) hb_20) hg_101 hgB)
   refine xe 2 [(38, .load (ev es 11))] [(4, ev es 11)] [la 35 (⟨3, 0, none⟩) (ev es 11) w_34] ⟨loads1 rfl ((hB_105.cell (World.block_lt_of_cell? _ _ (hE.load 11 3 (by decide) (by decide) rfl))).trans (hE.load 11 3 (by decide) (by decide) rfl)), trivial⟩ ?_
   refine nl (X_ret (rj [ev es 11] hR_ ?_))
   exact ⟨((((((Two.refl g (A.map (·.block)) w).below hb_2).below hb_7).below hb_10).below hb_20).store hg_101), .inr ⟨by rw [hpe0]; decide, by rw [hpe0]; rfl, hk_35, hr_104⟩⟩
  ·rw [pOf_emb hk1] at hM_26
   obtain ⟨A_106, c_107, e_108, hl_109, hR_110⟩ := kPiece_embM hM_26
   obtain rfl := (List.cons.inj e_108).1
   replace hR_110 := Kd.R_mono hR_110 (fun _ h_ => h_.1)
   have hval : o.val = (o.vk, o.vn, o.vt) := rfl
   rw [hval] at hc_24
   have hob : opB o = 0 := B.opB_ins (.inr hk1)
   have hor : opR o = 1 := B.opR_emb hk1
   refine xr 2 [(31, .load (.iface 253 (.agg #[.slice A_106 o.attrs.length c_107, sT o.text, valV (o.vk, o.vn, o.vt)])))] [(9, .iface 253 (.agg #[.slice A_106 o.attrs.length c_107, sT o.text, valV (o.vk, o.vn, o.vt)]))] [30] [la 124 (ad_22.add ((0 : Int).toNat * 1)) (.iface 253 (.agg #[.slice A_106 o.attrs.length c_107, sT o.text, valV (o.vk, o.vn, o.vt)])) w_19] ⟨loads1 rfl (elem_cell hc_24 0 _ rfl), trivial⟩ ?_
   refine nl (sq (sg (xe0 4 [(0, pw g 0), (9, .iface 253 (.agg #[.slice A_106 o.attrs.length c_107, sT o.text, valV (o.vk, o.vn, o.vt)])), (34, pw g 0), (35, .iface 253 (.agg #[.slice A_106 o.attrs.length c_107, sT o.text, valV (o.vk, o.vn, o.vt)]))] ?_)))
   refine xc 136 ent136 [pw g 0, .iface 253 (.agg #[.slice A_106 o.attrs.length c_107, sT o.text, valV (o.vk, o.vn, o.vt)])] (badd_emb _ _ _ _ _ g b r _ _ _ (Blk.below hk (bt (bt (bt hb_2 hb_7) hb_10) hb_20)) hb hr) ?_
   rintro e w_111 ⟨ht_113, ⟨rfl, h1_114, h2_115, hk_112⟩ | ⟨rfl, h1_114, hk_112⟩⟩
   ·refine ⟨_, rfl, ?_⟩
    have hg_116 := Two.toGrown ht_113
    have hr_117 := Kd.R_off hR_110 (Blk.below hk (bt (bt (bt hb_2 hb_7) hb_10) hb_20)) (by decide) hg_116
    have hr_119 := Kd.R_off (Kd.R_below hR (bt (bt (bt hb_2 hb_7) hb_10) hb_20)) (Blk.below hk (bt (bt (bt hb_2 hb_7) hb_10) hb_20)) (by decide) hg_116
    have hk_120 : RX.Blk w_111 g 194 #[i6 (b + opB o), i6 (r + opR o), .slice A ((List.map pOf s.1).length) c, i6 s.2] := by rw [hob, hor]; exact hk_112
    have hpe0 := pushE_ok (b := b) (r := r) c_8 (by omega) (by omega)
    refine xr0 1 [(37, bF)] [34, 35, 36] ?_
    refine nl (cf (sk (sq (sg (xw 6 [] [(10, pw w_111.heap.size 0), (42, .agg #[i6 0]), (43, bF)] [37] (w_111.alloc (.cells #[i6 0] 133)) [] trivial ?_)))))
    obtain ⟨w_121, hw_125, hb_122, hk_123, hz_124⟩ := new_world w_111 #[i6 0] 133
    rw [hw_125]
    refine xst (.agg #[i6 0]) hk_123 0 #[i6 0] (fun w_126 hg_127 hk_128 hz_129 => ?_)
    have hne_130 : g ≠ w_111.heap.size := Blk.tne (Blk.below hk_120 hb_122) hk_123 rfl
    have hk_131 := Blk.other (Blk.below hk_120 hb_122) hg_127 hne_130
    have hr_132 := Kd.R_off (Kd.R_below hr_117 hb_122) hk_123 (by decide) hg_127
    have hr_134 := Kd.R_off (Kd.R_below hr_119 hb_122) hk_123 (by decide) hg_127
    refine xr0 1 [(11, bF)] [10, 42, 43] ?_
    refine nl (sg (xr0 1 [(44, bF)] [11] ?_))
    refine nl (cf (sk (sq (sg (xw 6 [] [(12, pw w_126.heap.size 0), (57, .agg #[.slice none 0 0, i6 0]), (58, bF)] [44] (w_126.alloc (.cells #[.slice none 0 0, i6 0] 128)) [] trivial ?_)))))
    obtain ⟨w_135, hw_139, hb_136, hk_137, hz_138⟩ := new_world w_126 #[.slice none 0 0, i6 0] 128
    rw [hw_139]
    refine xst (.agg #[.slice none 0 0, i6 0]) hk_137 0 #[.slice none 0 0, i6 0] (fun w_140 hg_141 hk_142 hz_143 => ?_)
    have hne_144 : g ≠ w_126.heap.size := Blk.tne (Blk.below hk_131 hb_136) hk_137 rfl
    have hk_145 := Blk.other (Blk.below hk_131 hb_136) hg_141 hne_144
    have hr_148 := Kd.R_off (Kd.R_below hr_132 hb_136) hk_137 (by decide) hg_141
    have hr_150 := Kd.R_off (Kd.R_below hr_134 hb_136) hk_137 (by decide) hg_141
    refine xe0 1 [(0, pw g 0), (9, .iface 253 (.agg #[.slice A_106 o.attrs.length c_107, sT o.text, valV (o.vk, o.vn, o.vt)])), (13, bF)] ?_
    refine nl (sg (xr0 1 [(59, bF)] [13] ?_))
    refine nl (cf (sk (sg (xe1 6 [(79, .load (aL A (List.map pOf s.1) c))] [(75, pw g 0), (79, aL A (List.map pOf s.1) c), (80, .iface 253 (.agg #[.slice A_106 o.attrs.length c_107, sT o.text, valV (o.vk, o.vn, o.vt)]))] (lc 160 hk_145 2) ?_))))
    have hB_159 : Below wB.heap.size wB w_111 := (bg (bt (bt (bt (bt hB0 hb_2) hb_7) hb_10) hb_20) hg_116 hgB)
    have hB_160 : Below wB.heap.size wB w_126 := (bg (bt hB_159 hb_122) hg_127 (hB_159).size)
    have hB_161 : Below wB.heap.size wB w_140 := (bg (bt (bg (bt (bg (bt (bt (bt (bt hB0 hb_2) hb_7) hb_10) hb_20) hg_116 hgB) hb_122) hg_127 (hB_159).size) hb_136) hg_141 (hB_160).size)
    refine xc 138 ent138 [.slice A ((List.map pOf s.1).length) c, .iface 253 (.agg #[.slice A_106 o.attrs.length c_107, sT o.text, valV (o.vk, o.vn, o.vt)])] (bjoined_emb _ _ s.1 o _ _ wB _ (hB_161).size hk1 c_8 hbd hr_150 (by omega) (Kd.R_C hr_148) (pm_eq (pOf_emb hk1) (kPiece_Memb ⟨_, rfl, (Kd.R_down hr_148 ((bt (bt (bt hB0 hb_2) hb_7) hb_10)).size)⟩)) (by omega) hlt) ?_
    rintro e w_153 ⟨A_151, c_152, rfl, hr_154, hg_155, hat_156⟩; refine ⟨_, rfl, ?_⟩
    have hl_157 := Kd.R_ge hr_150
    have hne_158 := Kd.R_blk_ne hr_150 hk_145 rfl
    have hat_162 := atc_new (Nat.le_trans (Nat.le_trans (Nat.le_trans (Nat.le_trans (Nat.le_trans (Nat.le_trans (Nat.le_trans (Nat.le_trans hb_2.size hb_7.size) hb_10.size) hb_20.size) hg_116.size) hb_122.size) hg_127.size) hb_136.size) hg_141.size) (.inl rfl) hat_156
    have hk_164 := Blk.ne hk_145 hg_155 hne_158
    refine xe0 2 [(81, aL A_151 (List.map pOf (B.push s.1 o)) c_152), (83, pw g 2)] ?_
    refine xst (aL A_151 (List.map pOf (B.push s.1 o)) c_152) hk_164 2 #[i6 (b + opB o), i6 (r + opR o), .slice A_151 ((List.map pOf (B.push s.1 o)).length) c_152, i6 s.2] (fun w_169 hg_170 hk_171 hz_172 => ?_)
    have hr_178 := Kd.R_off hr_154 hk_164 (by decide) hg_170
    refine nl (sg (xe0 1 [(4, .nilIface)] ?_))
    refine nl (X_ret (rj [.nilIface] hR_ ?_))
    unfold PushR
    rw [step_ins (.inr hk1)]
    exact ⟨((((((((((((Two.refl g (A.map (·.block)) w).below hb_2).below hb_7).below hb_10).below hb_20).store hg_116).below hb_122).grown hg_127 (fun x_ e_ => .inr (.inr (by injection e_ with e_; have h_ := (Nat.le_trans (Nat.le_trans (Nat.le_trans (Nat.le_trans hb_2.size hb_7.size) hb_10.size) hb_20.size) hg_116.size); omega)))).below hb_136).grown hg_141 (fun x_ e_ => .inr (.inr (by injection e_ with e_; have h_ := (Nat.le_trans (Nat.le_trans (Nat.le_trans (Nat.le_trans (Nat.le_trans (Nat.le_trans hb_2.size hb_7.size) hb_10.size) hb_20.size) hg_116.size) hb_122.size) hg_127.size); omega)))).row hg_155 (.inl rfl)).store hg_170), .inl ⟨hpe0, rfl, A_151, c_152, hk_171, hr_178, hat_162⟩⟩
   refine ⟨_, rfl, ?_⟩
   have hg_179 := Two.toGrown ht_113
   have hr_182 := Kd.R_off (Kd.R_below hR (bt (bt (bt hb_2 hb_7) hb_10) hb_20)) (Blk.below hk (bt (bt (bt hb_2 hb_7) hb_10) hb_20)) (by decide) hg_179
   have hpe0 := pushE_long (b := b) (r := r) c_8 (by omega)
   refine xr0 1 [(37, bT)] [34, 35, 36] ?_
   refine nl (ct (sq (X_region ?_)))
   have hB_183 : Below wB.heap.size wB w_111 := (bg (bt (bt (bt (bt hB0 hb_2) hb_7) hb_10) hb_20) hg_179 hgB)
   refine xe 2 [(38, .load (ev es 11))] [(4, ev es 11)] [la 35 (⟨3, 0, none⟩) (ev es 11) w_111] ⟨loads1 rfl ((hB_183.cell (World.block_lt_of_cell? _ _ (hE.load 11 3 (by decide) (by decide) rfl))).trans (hE.load 11 3 (by decide) (by decide) rfl)), trivial⟩ ?_
   refine nl (X_ret (rj [ev es 11] hR_ ?_))
   exact ⟨((((((Two.refl g (A.map (·.block)) w).below hb_2).below hb_7).below hb_10).below hb_20).store hg_179), .inr ⟨by rw [hpe0]; decide, by rw [hpe0]; rfl, hk_112, hr_182⟩⟩
  ·rw [pOf_ret hk1] at hM_26
   obtain ⟨A_184, c_185, e_186, hl_187, hR_188⟩ := kPiece_retM hM_26
   obtain rfl := (List.cons.inj e_186).1
   replace hR_188 := Kd.R_mono hR_188 (fun _ h_ => h_.1)
   have hcc := hcn (by omega)
   have hob : opB o = o.count := B.opB_cnt (.inl hk1)
   have hor : opR o = o.count := B.opR_ret hk1
   refine xr 2 [(31, .load (.iface 128 (.agg #[.slice A_184 o.attrs.length c_185, i6 o.count])))] [(9, .iface 128 (.agg #[.slice A_184 o.attrs.length c_185, i6 o.count]))] [30] [la 124 (ad_22.add ((0 : Int).toNat * 1)) (.iface 128 (.agg #[.slice A_184 o.attrs.length c_185, i6 o.count])) w_19] ⟨loads1 rfl (elem_cell hc_24 0 _ rfl), trivial⟩ ?_
   refine nl (sq (sg (xe0 4 [(0, pw g 0), (9, .iface 128 (.agg #[.slice A_184 o.attrs.length c_185, i6 o.count])), (34, pw g 0), (35, .iface 128 (.agg #[.slice A_184 o.attrs.length c_185, i6 o.count]))] ?_)))
   refine xc 136 ent136 [pw g 0, .iface 128 (.agg #[.slice A_184 o.attrs.length c_185, i6 o.count])] (badd_ret _ _ _ _ g b r _ _ _ (Blk.below hk (bt (bt (bt hb_2 hb_7) hb_10) hb_20)) hb hr (by omega)) ?_
   rintro e w_189 ⟨ht_191, ⟨rfl, h1_192, h2_193, hk_190⟩ | ⟨rfl, h1_192, hk_190⟩⟩
   ·refine ⟨_, rfl, ?_⟩
    have hg_194 := Two.toGrown ht_191
    have hr_195 := Kd.R_off hR_188 (Blk.below hk (bt (bt (bt hb_2 hb_7) hb_10) hb_20)) (by decide) hg_194
    have hr_197 := Kd.R_off (Kd.R_below hR (bt (bt (bt hb_2 hb_7) hb_10) hb_20)) (Blk.below hk (bt (bt (bt hb_2 hb_7) hb_10) hb_20)) (by decide) hg_194
    have hk_198 : RX.Blk w_189 g 194 #[i6 (b + opB o), i6 (r + opR o), .slice A ((List.map pOf s.1).length) c, i6 s.2] := by rw [hob, hor]; exact hk_190
    have hpe0 := pushE_ok (b := b) (r := r) c_8 (by omega) (by omega)
    refine xr0 1 [(37, bF)] [34, 35, 36] ?_
    refine nl (cf (sk (sq (sg (xw 6 [] [(10, pw w_189.heap.size 0), (42, .agg #[i6 0]), (43, bF)] [37] (w_189.alloc (.cells #[i6 0] 133)) [] trivial ?_)))))
    obtain ⟨w_199, hw_203, hb_200, hk_201, hz_202⟩ := new_world w_189 #[i6 0] 133
    rw [hw_203]
    refine xst (.agg #[i6 0]) hk_201 0 #[i6 0] (fun w_204 hg_205 hk_206 hz_207 => ?_)
    have hne_208 : g ≠ w_189.heap.size := Blk.tne (Blk.below hk_198 hb_200) hk_201 rfl
    have hk_209 := Blk.other (Blk.below hk_198 hb_200) hg_205 hne_208
    have hr_210 := Kd.R_off (Kd.R_below hr_195 hb_200) hk_201 (by decide) hg_205
    have hr_212 := Kd.R_off (Kd.R_below hr_197 hb_200) hk_201 (by decide) hg_205
    refine xr0 1 [(11, bF)] [10, 42, 43] ?_
    refine nl (sg (xr0 1 [(44, bF)] [11] ?_))
    refine nl (cf (sk (sq (sg (xw 6 [] [(12, pw w_204.heap.size 0), (57, .agg #[.slice A_184 o.attrs.length c_185, i6 o.count]), (58, bT)] [44] (w_204.alloc (.cells #[.slice none 0 0, i6 0] 128)) [] trivial ?_)))))
    obtain ⟨w_213, hw_217, hb_214, hk_215, hz_216⟩ := new_world w_204 #[.slice none 0 0, i6 0] 128
    rw [hw_217]
    refine xst (.agg #[.slice A_184 o.attrs.length c_185, i6 o.count]) hk_215 0 #[.slice A_184 o.attrs.length c_185, i6 o.count] (fun w_218 hg_219 hk_220 hz_221 => ?_)
    have hne_222 : g ≠ w_204.heap.size := Blk.tne (Blk.below hk_209 hb_214) hk_215 rfl
    have hk_223 := Blk.other (Blk.below hk_209 hb_214) hg_219 hne_222
    have hr_226 := Kd.R_off (Kd.R_below hr_210 hb_214) hk_215 (by decide) hg_219
    have hr_228 := Kd.R_off (Kd.R_below hr_212 hb_214) hk_215 (by decide) hg_219
    refine xe0 1 [(0, pw g 0), (9, .iface 128 (.agg #[.slice A_184 o.attrs.length c_185, i6 o.count])), (13, bT)] ?_
    refine nl (sg (xr0 1 [(59, bT)] [13] ?_))
    refine nl (ct (sq (X_any [9, 12] 13 (tf 0 13) (by kernel_rfl) (by kernel_rfl) (by kernel_rfl) (fun wd_229 hb_230 hh_231 => ?_))))
    refine XA_run (fuel' := 5) [1, 2, 3, 4, 5, 6, 7, 8] [(64, .load (aL A (List.map pOf s.1) c)), (68, .load (i6 s.2))] [pw g 0, pw g 0, pw g 2, .slice A ((List.map pOf s.1).length) c, pw g 0, pw g 0, pw g 3, i6 s.2] #[false, true, true, true, true, true, true, true, true, false, false, false, false] [(0, pw g 0), (9, .iface 128 (.agg #[.slice A_184 o.attrs.length c_185, i6 o.count])), (64, aL A (List.map pOf s.1) c), (68, i6 s.2)] [la 160 (⟨g, 2, none⟩) (aL A (List.map pOf s.1) c) wd_229, la 3 (⟨g, 3, none⟩) (i6 s.2) wd_229] ⟨loads1 rfl (Blk.cell (Blk.below hk_223 hb_230) 2 _ rfl), loads1 rfl (Blk.cell (Blk.below hk_223 hb_230) 3 _ rfl), trivial⟩ ?_
    refine XA_pure (fuel' := 4) [0] [] [pw g 0] (tf 9 4) [(0, pw g 0), (9, .iface 128 (.agg #[.slice A_184 o.attrs.length c_185, i6 o.count])), (60, pw g 0), (64, aL A (List.map pOf s.1) c), (68, i6 s.2)] (fun w_ => []) (fun w_ => trivial) ?_
    refine XA_act (fuel' := 3) 9 (tf 10 3) _ rfl (by kernel_rfl) rfl (by kernel_rfl) rfl ?_
    have hB_240 : Below wB.heap.size wB w_189 := (bg (bt (bt (bt (bt hB0 hb_2) hb_7) hb_10) hb_20) hg_194 hgB)
    have hB_241 : Below wB.heap.size wB w_204 := (bg (bt hB_240 hb_200) hg_205 (hB_240).size)
    have hB_242 : Below wB.heap.size wB wd_229 := (bt (bg (bt (bg (bt (bg (bt (bt (bt (bt hB0 hb_2) hb_7) hb_10) hb_20) hg_194 hgB) hb_200) hg_205 (hB_240).size) hb_214) hg_219 (hB_241).size) hb_230)
    refine xc 137 ent137 [.slice A ((List.map pOf s.1).length) c, i6 s.2] (bdeleted_any _ _ s.1 _ wB _ (hB_242).size (Kd.R_below hr_228 hb_230) (by omega)) ?_
    rintro e w_234 ⟨A_232, c_233, rfl, hr_235, hg_236, hat_237⟩; refine ⟨_, rfl, ?_⟩
    have hl_238 := Kd.R_ge (Kd.R_below hr_228 hb_230)
    have hne_239 := Kd.R_blk_ne (Kd.R_below hr_228 hb_230) (Blk.below hk_223 hb_230) rfl
    have hat_243 := atc_new (Nat.le_trans (Nat.le_trans (Nat.le_trans (Nat.le_trans (Nat.le_trans (Nat.le_trans (Nat.le_trans (Nat.le_trans (Nat.le_trans hb_2.size hb_7.size) hb_10.size) hb_20.size) hg_194.size) hb_200.size) hg_205.size) hb_214.size) hg_219.size) hb_230.size) (.inl rfl) hat_237
    have hr_244 := Kd.R_apart (Kd.R_below hr_226 hb_230) (Kd.R_below hr_228 hb_230) (by decide) hg_236
    have hk_245 := Blk.ne (Blk.below hk_223 hb_230) hg_236 hne_239
    refine nl (XA_pure (fuel' := 1) [10, 11] [] [pw g 0, pw g 2] (tf 12 1) [(0, pw g 0), (9, .iface 128 (.agg #[.slice A_184 o.attrs.length c_185, i6 o.count])), (69, aL A_232 (List.map pOf (B.dels s.1 s.2)) c_233), (71, pw g 2)] (fun w_ => []) (fun w_ => trivial) ?_)
    refine XA_act (fuel' := 0) 12 (tf 13 0) _ rfl (by kernel_rfl) rfl (by kernel_rfl) rfl ?_
    refine xst (aL A_232 (List.map pOf (B.dels s.1 s.2)) c_233) hk_245 2 #[i6 (b + opB o), i6 (r + opR o), .slice A_232 ((List.map pOf (B.dels s.1 s.2)).length) c_233, i6 s.2] (fun w_250 hg_251 hk_252 hz_253 => ?_)
    have hr_258 := Kd.R_off hr_244 hk_245 (by decide) hg_251
    have hr_259 := Kd.R_off hr_235 hk_245 (by decide) hg_251
    refine nl (XA_done (by kernel_rfl) ?_)
    refine rg (xr0 3 [(74, pw g 3)] [69, 71] ?_)
    refine xst (i6 0) hk_252 3 #[i6 (b + opB o), i6 (r + opR o), .slice A_232 ((List.map pOf (B.dels s.1 s.2)).length) c_233, i6 0] (fun w_260 hg_261 hk_262 hz_263 => ?_)
    have hr_266 := Kd.R_off hr_258 hk_252 (by decide) hg_261
    have hr_267 := Kd.R_off hr_259 hk_252 (by decide) hg_261
    refine nl (sg (xe1 6 [(79, .load (aL A_232 (List.map pOf (B.dels s.1 s.2)) c_233))] [(75, pw g 0), (79, aL A_232 (List.map pOf (B.dels s.1 s.2)) c_233), (80, .iface 128 (.agg #[.slice A_184 o.attrs.length c_185, i6 o.count]))] (lc 160 hk_262 2) ?_))
    have hB_276 : Below wB.heap.size wB w_260 := (bg (bg (bgo hB_242 hg_236 hl_238 (Nat.le_refl _)) hg_251 hgB) hg_261 hgB)
    refine xc 138 ent138 [.slice A_232 ((List.map pOf (B.dels s.1 s.2)).length) c_233, .iface 128 (.agg #[.slice A_184 o.attrs.length c_185, i6 o.count])] (bjoined_ret _ _ (B.dels s.1 s.2) o _ _ wB _ (hB_276).size hk1 c_8 (dels_ok2 hbd hs2.1 (by omega)) hr_267 (by omega) (Kd.R_C hr_266) (pm_eq (pOf_ret hk1) (kPiece_Mret ⟨_, rfl, (Kd.R_down hr_266 ((bt (bt (bt hB0 hb_2) hb_7) hb_10)).size)⟩)) (by omega) (dels_txt hlt)) ?_
    rintro e w_270 ⟨A_268, c_269, rfl, hr_271, hg_272, hat_273⟩; refine ⟨_, rfl, ?_⟩
    have hl_274 := Kd.R_ge hr_267
    have hne_275 := Kd.R_blk_ne hr_267 hk_262 rfl
    have hat_277 := atc_new (Nat.le_trans (Nat.le_trans (Nat.le_trans (Nat.le_trans (Nat.le_trans (Nat.le_trans (Nat.le_trans (Nat.le_trans (Nat.le_trans (Nat.le_trans (Nat.le_trans (Nat.le_trans hb_2.size hb_7.size) hb_10.size) hb_20.size) hg_194.size) hb_200.size) hg_205.size) hb_214.size) hg_219.size) hb_230.size) hg_236.size) hg_251.size) hg_261.size) hat_243 hat_273
    have hk_279 := Blk.ne hk_262 hg_272 hne_275
    refine xe0 2 [(81, aL A_268 (List.map pOf (B.push (B.dels s.1 s.2) o)) c_269), (83, pw g 2)] ?_
    refine xst (aL A_268 (List.map pOf (B.push (B.dels s.1 s.2) o)) c_269) hk_279 2 #[i6 (b + opB o), i6 (r + opR o), .slice A_268 ((List.map pOf (B.push (B.dels s.1 s.2) o)).length) c_269, i6 0] (fun w_284 hg_285 hk_286 hz_287 => ?_)
    have hr_291 := Kd.R_off hr_271 hk_279 (by decide) hg_285
    refine nl (sg (xe0 1 [(4, .nilIface)] ?_))
    refine nl (X_ret (rj [.nilIface] hR_ ?_))
    unfold PushR
    rw [step_ret hk1]
    exact ⟨((((((((((((((((Two.refl g (A.map (·.block)) w).below hb_2).below hb_7).below hb_10).below hb_20).store hg_194).below hb_200).grown hg_205 (fun x_ e_ => .inr (.inr (by injection e_ with e_; have h_ := (Nat.le_trans (Nat.le_trans (Nat.le_trans (Nat.le_trans hb_2.size hb_7.size) hb_10.size) hb_20.size) hg_194.size); omega)))).below hb_214).grown hg_219 (fun x_ e_ => .inr (.inr (by injection e_ with e_; have h_ := (Nat.le_trans (Nat.le_trans (Nat.le_trans (Nat.le_trans (Nat.le_trans (Nat.le_trans hb_2.size hb_7.size) hb_10.size) hb_20.size) hg_194.size) hb_200.size) hg_205.size); omega)))).below hb_230).row hg_236 (.inl rfl)).store hg_251).store hg_261).row hg_272 hat_243).store hg_285), .inl ⟨hpe0, rfl, A_268, c_269, hk_286, hr_291, hat_277⟩⟩
   refine ⟨_, rfl, ?_⟩
   have hg_292 := Two.toGrown ht_191
   have hr_295 := Kd.R_off (Kd.R_below hR (bt (bt (bt hb_2 hb_7) hb_10) hb_20)) (Blk.below hk (bt (bt (bt hb_2 hb_7) hb_10) hb_20)) (by decide) hg_292
   have hpe0 := pushE_long (b := b) (r := r) c_8 (by omega)
   refine xr0 1 [(37, bT)] [34, 35, 36] ?_
   refine nl (ct (sq (X_region ?_)))
   have hB_296 : Below wB.heap.size wB w_189 := (bg (bt (bt (bt (bt hB0 hb_2) hb_7) hb_10) hb_20) hg_292 hgB)
   refine xe 2 [(38, .load (ev es 11))] [(4, ev es 11)] [la 35 (⟨3, 0, none⟩) (ev es 11) w_189] ⟨loads1 rfl ((hB_296.cell (World.block_lt_of_cell? _ _ (hE.load 11 3 (by decide) (by decide) rfl))).trans (hE.load 11 3 (by decide) (by decide) rfl)), trivial⟩ ?_
   refine nl (X_ret (rj [ev es 11] hR_ ?_))
   exact ⟨((((((Two.refl g (A.map (·.block)) w).below hb_2).below hb_7).below hb_10).below hb_20).store hg_292), .inr ⟨by rw [hpe0]; decide, by rw [hpe0]; rfl, hk_190, hr_295⟩⟩
  rw [pOf_del hk1] at hM_26
  have e_299 := kPiece_del (kPiece.K_of_M hM_26)
  obtain rfl := (List.cons.inj e_299).1
  have hcc := hcn (by omega)
  have hob : opB o = o.count := B.opB_cnt (.inr hk1)
  have hor : opR o = 0 := B.opR_del hk1
  refine xr 2 [(31, .load (.iface 133 (.agg #[i6 o.count])))] [(9, .iface 133 (.agg #[i6 o.count]))] [30] [la 124 (ad_22.add ((0 : Int).toNat * 1)) (.iface 133 (.agg #[i6 o.count])) w_19] ⟨loads1 rfl (elem_cell hc_24 0 _ rfl), trivial⟩ ?_
  refine nl (sq (sg (xe0 4 [(0, pw g 0), (9, .iface 133 (.agg #[i6 o.count])), (34, pw g 0), (35, .iface 133 (.agg #[i6 o.count]))] ?_)))
  refine xc 136 ent136 [pw g 0, .iface 133 (.agg #[i6 o.count])] (badd_del _ g b r _ _ _ (Blk.below hk (bt (bt (bt hb_2 hb_7) hb_10) hb_20)) hb hr (by omega)) ?_
  rintro e w_302 ⟨ht_304, ⟨rfl, h1_305, h2_306, hk_303⟩ | ⟨rfl, h1_305, hk_303⟩⟩
  ·refine ⟨_, rfl, ?_⟩
   have hg_307 := Two.toGrown ht_304
   have hr_309 := Kd.R_off (Kd.R_below hR (bt (bt (bt hb_2 hb_7) hb_10) hb_20)) (Blk.below hk (bt (bt (bt hb_2 hb_7) hb_10) hb_20)) (by decide) hg_307
   have hk_310 : RX.Blk w_302 g 194 #[i6 (b + opB o), i6 (r + opR o), .slice A ((List.map pOf s.1).length) c, i6 s.2] := by rw [hob, hor]; exact hk_303
   have hpe0 := pushE_ok (b := b) (r := r) c_8 (by omega) (by omega)
   refine xr0 1 [(37, bF)] [34, 35, 36] ?_
   refine nl (cf (sk (sq (sg (xw 6 [] [(10, pw w_302.heap.size 0), (42, .agg #[i6 o.count]), (43, bT)] [37] (w_302.alloc (.cells #[i6 0] 133)) [] trivial ?_)))))
   obtain ⟨w_311, hw_315, hb_312, hk_313, hz_314⟩ := new_world w_302 #[i6 0] 133
   rw [hw_315]
   refine xst (.agg #[i6 o.count]) hk_313 0 #[i6 o.count] (fun w_316 hg_317 hk_318 hz_319 => ?_)
   have hne_320 : g ≠ w_302.heap.size := Blk.tne (Blk.below hk_310 hb_312) hk_313 rfl
   have hk_321 := Blk.other (Blk.below hk_310 hb_312) hg_317 hne_320
   have hr_323 := Kd.R_off (Kd.R_below hr_309 hb_312) hk_313 (by decide) hg_317
   refine xr0 1 [(11, bT)] [10, 42, 43] ?_
   refine nl (sg (xr0 1 [(44, bT)] [11] ?_))
   refine nl (ct (sq (X_grow [9] 10 (tf 0 10) (by kernel_rfl) (by kernel_rfl) (by kernel_rfl) (fun wd_324 hb_325 hh_326 => ?_))))
   refine XB_run (fuel' := 5) (Below.refl _ _) [0, 1, 2, 3, 4] [(48, .load (i6 s.2))] [pw g 0, pw g 0, pw g 3, i6 s.2, .iface 133 (.agg #[i6 o.count])] (tf 5 5) [(45, pw g 0), (48, i6 s.2), (49, .iface 133 (.agg #[i6 o.count]))] (fun w_ => [la 3 (⟨g, 3, none⟩) (i6 s.2) w_]) (fun w_ hC_ => ⟨loads1 rfl (Blk.cell (Blk.below hk_321 (bt hb_325 hC_)) 3 _ rfl), trivial⟩) ?_
   refine XB_mid (fuel' := 4) 5 (tf 6 4) _ rfl (by kernel_rfl) (by kernel_rfl) rfl ?_
   refine XL_inv 249 #[.agg #[i6 o.count]] rfl rfl (by kernel_rfl) (by kernel_rfl) (deleteLen_any _ _) ?_
   rintro e w_327 ⟨rfl, hb_328⟩; refine ⟨_, rfl, ?_⟩
   refine nl ?_
   refine ⟨hb_328, ?_⟩
   refine XB_run (fuel' := 1) hb_328 [6, 7, 8] [(51, .eq (i6 (s.2 + o.count)))] [i6 (s.2 + o.count), pw g 0, pw g 3] (tf 9 1) [(51, i6 (s.2 + o.count)), (53, pw g 3)] (fun w_ => [i6 (IntKind.i64.wrap (s.2 + o.count)) = i6 (s.2 + o.count)]) (fun w_ hC_ => ⟨wr_i64 (by omega) (by omega), trivial⟩) ?_
   refine XB_act (fuel' := 0) 9 (tf 10 0) _ rfl (by kernel_rfl) rfl (by kernel_rfl) rfl ?_
   refine xst (i6 (s.2 + o.count)) (Blk.below hk_321 (bt hb_325 hb_328)) 3 #[i6 (b + opB o), i6 (r + opR o), .slice A ((List.map pOf s.1).length) c, i6 (s.2 + o.count)] (fun w_329 hg_330 hk_331 hz_332 => ?_)
   have hr_336 := Kd.R_off (Kd.R_below hr_323 (bt hb_325 hb_328)) (Blk.below hk_321 (bt hb_325 hb_328)) (by decide) hg_330
   refine nl (XB_done (by kernel_rfl) ?_)
   refine sg (xe0 1 [(4, .nilIface)] ?_)
   refine nl (X_ret (rj [.nilIface] hR_ ?_))
   unfold PushR
   rw [step_del hk1]
   exact ⟨(((((((((((Two.refl g (A.map (·.block)) w).below hb_2).below hb_7).below hb_10).below hb_20).store hg_307).below hb_312).grown hg_317 (fun x_ e_ => .inr (.inr (by injection e_ with e_; have h_ := (Nat.le_trans (Nat.le_trans (Nat.le_trans (Nat.le_trans hb_2.size hb_7.size) hb_10.size) hb_20.size) hg_307.size); omega)))).below hb_325).below hb_328).store hg_330), .inl ⟨hpe0, rfl, A, c, hk_331, hr_336, (.inl rfl)⟩⟩
  refine ⟨_, rfl, ?_⟩
  have hg_337 := Two.toGrown ht_304
  have hr_339 := Kd.R_off (Kd.R_below hR (bt (bt (bt hb_2 hb_7) hb_10) hb_20)) (Blk.below hk (bt (bt (bt hb_2 hb_7) hb_10) hb_20)) (by decide) hg_337
  have hpe0 := pushE_long (b := b) (r := r) c_8 (by omega)
  refine xr0 1 [(37, bT)] [34, 35, 36] ?_
  refine nl (ct (sq (X_region ?_)))
  have hB_340 : Below wB.heap.size wB w_302 := (bg (bt (bt (bt (bt hB0 hb_2) hb_7) hb_10) hb_20) hg_337 hgB)
  refine xe 2 [(38, .load (ev es 11))] [(4, ev es 11)] [la 35 (⟨3, 0, none⟩) (ev es 11) w_302] ⟨loads1 rfl ((hB_340.cell (World.block_lt_of_cell? _ _ (hE.load 11 3 (by decide) (by decide) rfl))).trans (hE.load 11 3 (by decide) (by decide) rfl)), trivial⟩ ?_
  refine nl (X_ret (rj [ev es 11] hR_ ?_))
  exact ⟨((((((Two.refl g (A.map (·.block)) w).below hb_2).below hb_7).below hb_10).below hb_20).store hg_337), .inr ⟨by rw [hpe0]; decide, by rw [hpe0]; rfl, hk_303, hr_339⟩⟩
 rw [errV_pos es (pErr o) (Nat.pos_of_ne_zero c_8)]
 refine xr0 1 [(5, .iface 301 (.pointer (some (errAt es (pErr o))))), (17, bT)] [16] ?_
 refine nl (ct (sg (xe0 2 [(4, .iface 301 (.pointer (some (errAt es (pErr o)))))] ?_)))
 refine nl (X_ret (rj [.iface 301 (.pointer (some (errAt es (pErr o))))] hR_ ?_))
 have hpe0 := pushE_bad (b := b) (r := r) c_8
 exact ⟨(((Two.refl g (A.map (·.block)) w).below hb_2).below hb_7), .inr ⟨by rw [hpe0]; exact c_8, by rw [hpe0, errV_pos es _ (Nat.pos_of_ne_zero c_8)]; rfl, (Blk.below hk (bt hb_2 hb_7)), (Kd.R_below hR (bt hb_2 hb_7))⟩⟩
end Go.Proofs.YtgphmfnkeolbcaaGreatDoor
