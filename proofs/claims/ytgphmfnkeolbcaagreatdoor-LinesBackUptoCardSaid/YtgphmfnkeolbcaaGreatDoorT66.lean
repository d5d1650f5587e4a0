import Derived.Test.YtgphmfnkeolbcaaGreatDoorT50
import Derived.Test.YtgphmfnkeolbcaaGreatDoorClp
import Derived.Test.YtgphmfnkeolbcaaGreatDoorT51
import Derived.Test.YtgphmfnkeolbcaaGreatDoorIn
/- lines.split: a document's lines. Conditions: sizes, the tables of utf8, the errors' variables. -/
set_option linter.unusedVariables false
set_option linter.unusedSimpArgs false
set_option maxRecDepth 100000
namespace Go.Proofs.YtgphmfnkeolbcaaGreatDoor
open Go Go.RowKit Go.Proofs.YtgphmfnkeolbcaaGreatDoorW.PrintWords RX
theorem ent106 : Ent Tryz.prog 106 := ent_of Tryz.func106 (by kernel_rfl) rfl
theorem ent103 : Ent Tryz.prog 103 := ent_of Tryz.func103 (by kernel_rfl) rfl
theorem info78 : (Tryz.prog.info? 78).map (fun i => (i.zero, i.size, i.bytes)) = some (some (.agg #[i6 0, i6 0, .slice none 0 0, s0]), 4, 56) := by kernel_rfl
theorem letter_any (c : CellA) (A : Option Addr) (k : Nat) (w : World) : Calls Tryz.prog 106 #[.agg (c6A c (.slice A c.attrs.length k))] w fun e w' => e = .returned (.int .i32 (letL c)) ∧ Below w.heap.size w w' := by
 refine en Tryz.func106 rfl 8 [(0, .agg (c6A c (aL A c.attrs k)))] (fun R_ hR_ => ?_)
 refine sg (xwe 1 [] [(1, pw w.heap.size 0)] (w.alloc (.cells (c6A c (aL A c.attrs k)) 51)) [] trivial ?_)
 obtain ⟨w_1, hw_5, hb_2, hk_3, hz_4⟩ := new_world w (c6A c (aL A c.attrs k)) 51
 rw [hw_5]
 refine xr0 1 [] [] ?_
 refine nl (sq (sg (xr1 2 [(4, .load (.int .i32 c.rune))] [(4, .int .i32 c.rune)] [] (lc 21 hk_3 0) ?_)))
 by_cases c_6 : c.rune < 0
 ·refine xr1 1 [(5, .eq bT)] [(5, bT)] [4] (dT c_6) ?_
  refine nl (ct (sg (xe0 1 [(2, .int .i32 65532)] ?_)))
  refine nl (X_ret (rj [.int .i32 65532] hR_ ?_))
  rw [show letL c = 65532 from if_pos c_6]
  exact ⟨rfl, hb_2⟩
 refine xr1 1 [(5, .eq bF)] [(5, bF)] [4] (dF c_6) ?_
 refine nl (cf (sk (sg (xe1 3 [(7, .load (.int .i32 c.rune))] [(2, .int .i32 c.rune)] (lc 21 hk_3 0) ?_))))
 refine nl (X_ret (rj [.int .i32 c.rune] hR_ ?_))
 rw [show letL c = c.rune from if_neg c_6]
 exact ⟨rfl, hb_2⟩
def SplI (w : World) (g4 g5 g6 hi : Nat) (pre : List ElA) (M : Nat → Prop) (W : World) : Prop :=
 ∃ (ls : List LineA) (tx : List Int) (fr : Int) (A4 : Option Addr) (c4 : Nat) (A5 : Option Addr) (c5 : Nat), lnRunE pre = (ls, tx, fr) ∧ RX.Blk W g4 66 #[aL A4 ls c4] ∧ RX.Blk W g5 150 #[aL A5 tx c5] ∧ RX.Blk W g6 3 #[i6 fr] ∧ kLine.R 78 W w.heap.size (OkFrom w.heap.size) (aL A4 ls c4) ls ∧ (Kd.int .i32).R 21 W w.heap.size (OkFrom w.heap.size) (aL A5 tx c5) tx ∧ M = (fun k => k = g4 ∨ k = g5 ∨ k = g6 ∨ A4.map (·.block) = some k ∨ A5.map (·.block) = some k) ∧ (∀ k, A4.map (·.block) = some k → hi ≤ k) ∧ (∀ k, A5.map (·.block) = some k → hi ≤ k) ∧ Below w.heap.size w W
theorem SplI.own {w : World} {g4 g5 g6 hi B : Nat} (h : w.heap.size ≤ B) (M : Nat → Prop) : OwnFrom B (fun s W => SplI w g4 g5 g6 hi s M W) := by
 rintro s W W' row ⟨ls, tx, fr, A4, c4, A5, c5, h0, h1, h2, h3, h4, h5, h6, h7, h8, h9⟩ hg hr
 exact ⟨ls, tx, fr, A4, c4, A5, c5, h0, RX.ownFrom_blk (β := Unit) (B := B) (fun _ => g4) _ (fun _ => _) () W W' row h1 hg hr, RX.ownFrom_blk (β := Unit) (B := B) (fun _ => g5) _ (fun _ => _) () W W' row h2 hg hr, RX.ownFrom_blk (β := Unit) (B := B) (fun _ => g6) _ (fun _ => _) () W W' row h3 hg hr, RX.ownFrom_R (β := Unit) (B := B) kLine _ w.heap.size (fun _ => _) (fun _ => ls) () W W' row h4 hg hr, RX.ownFrom_R (β := Unit) (B := B) (Kd.int .i32) _ w.heap.size (fun _ => _) (fun _ => tx) () W W' row h5 hg hr, h6, h7, h8, RX.ownFrom_below' (β := Unit) w h () W W' row h9 hg hr⟩
theorem SplI.im {w : World} {g4 g5 g6 lo hi : Nat} {pre : List ElA} {M : Nat → Prop} {W : World} (h : SplI w g4 g5 g6 hi pre M W) (h4 : w.heap.size ≤ g4 ∧ g4 < lo) (h5 : w.heap.size ≤ g5 ∧ g5 < lo) (h6 : w.heap.size ≤ g6 ∧ g6 < lo) (hwh : w.heap.size ≤ hi) : ∀ k, M k → ¬ DI w.heap.size lo hi k ∧ k < W.heap.size := by
 obtain ⟨ls, tx, fr, A4, c4, A5, c5, e0, e1, e2, e3, e4, e5, rfl, e7, e8, e9⟩ := h
 rintro k (rfl | rfl | rfl | hk | hk)
 ·exact ⟨fun h => by rcases h with h | h <;> omega, e1.lt⟩
 ·exact ⟨fun h => by rcases h with h | h <;> omega, e2.lt⟩
 ·exact ⟨fun h => by rcases h with h | h <;> omega, e3.lt⟩
 ·have := e7 k hk
  exact ⟨fun h => by rcases h with h | h <;> omega, Kd.R_lt e4 k hk⟩
 have := e8 k hk
 exact ⟨fun h => by rcases h with h | h <;> omega, Kd.R_lt e5 k hk⟩
set_option maxHeartbeats 2000000 in
theorem split_any (d : Nat) (xs : List OpA) (w : World) (hd : DeltaC w d xs) (hb : badE xs = 0) (hn : xs.length ≤ 1100000) (hz : ∀ i, i < xs.length → opSz (xs.getD i op0)) (hdoc : isDoc xs = true) (hL : (cellsAll xs).length ≤ 100000000) (hT : Tabs w) (es : List Addr) (hE : ErrsC w es) : Calls Tryz.prog 103 #[pw d 0] w fun e w' => ∃ A' c' ls, ls = (lnRun (cellsAll xs)).1 ∧ e = .returned (.tuple #[.slice A' ls.length c', .bool (lnEnds (cellsAll xs))]) ∧ ls.length ≤ c' ∧ kLine.R 78 w' w.heap.size (OkFrom w.heap.size) (.slice A' ls.length c') ls ∧ Below w.heap.size w w' := by
 have hr := doc_ref hb hdoc
 refine RX.enterM Tryz.func103 rfl 44 rfl [(0, pw d 0)] rfl (by kernel_rfl) (fun R_ hR_ => ?_)
 refine RX.X_mark0 rfl ?_
 refine sg (xq 2 [] [(0, pw d 0), (1000000, encD [])] w [] trivial ?_)
 refine nl (sg (xq 1 [] [(0, pw d 0), (4, pw w.heap.size 0), (1000000, encD [])] (w.alloc (.cells #[.slice none 0 0] 66)) [] trivial ?_))
 obtain ⟨w_1, hw_5, hb_2, hk_3, hz_4⟩ := new_world w #[.slice none 0 0] 66
 rw [hw_5]
 refine nl (sg (xq 1 [] [(0, pw d 0), (4, pw w.heap.size 0), (5, pw w_1.heap.size 0), (1000000, encD [])] (w_1.alloc (.cells #[.slice none 0 0] 150)) [] trivial ?_))
 obtain ⟨w_6, hw_10, hb_7, hk_8, hz_9⟩ := new_world w_1 #[.slice none 0 0] 150
 rw [hw_10]
 refine nl (sg (xq 1 [] [(0, pw d 0), (4, pw w.heap.size 0), (5, pw w_1.heap.size 0), (6, pw w_6.heap.size 0), (1000000, encD [])] (w_6.alloc (.cells #[i6 0] 3)) [] trivial ?_))
 obtain ⟨w_11, hw_15, hb_12, hk_13, hz_14⟩ := new_world w_6 #[i6 0] 3
 rw [hw_15]
 refine xst (i6 0) hk_13 0 #[i6 0] (fun w_16 hg_17 hk_18 hz_19 => ?_)
 have hne_20 : w.heap.size ≠ w_6.heap.size := Blk.tne (Blk.below hk_3 (bt hb_7 hb_12)) hk_13 rfl
 have hk_21 := Blk.other (Blk.below hk_3 (bt hb_7 hb_12)) hg_17 hne_20
 have hne_22 : w_1.heap.size ≠ w_6.heap.size := Blk.tne (Blk.below hk_8 hb_12) hk_13 rfl
 have hk_23 := Blk.other (Blk.below hk_8 hb_12) hg_17 hne_22
 refine nl (sq (sg (xq 1 [] [(4, pw w.heap.size 0), (5, pw w_1.heap.size 0), (6, pw w_6.heap.size 0), (9, pw d 0), (1000000, encD [])] w_16 [] trivial ?_)))
 have hB_32 : Below w.heap.size w w_16 := (bg (bt (bt hb_2 hb_7) hb_12) hg_17 ((bt hb_2 hb_7)).size)
 refine xc 97 ent97 [pw d 0] (ceach_any d xs _ (hd.below hB_32) hb hn hz) ?_
 rintro e w_33 ⟨g_24, A_25, c_26, zs_27, ez_28, rfl, hge_29, hk_30, hr_31, hb_34⟩; refine ⟨_, rfl, ?_⟩
 rw [if_pos hdoc] at ez_28; rw [ez_28] at hk_30 hr_31
 have hr9_ : kOp.R 102 w_33 w_16.heap.size (fun k_ => w_16.heap.size ≤ k_ ∧ k_ < w_33.heap.size) (aL A_25 xs c_26) xs := Kd.R_mono (Kd.R_bound hr_31) (fun k_ hk_ => ⟨hk_.2.1, hk_.2.2.1⟩)
 have hgl_ := hk_30.lt
 refine nl (X_block ?_)
 have hc4_ : w.heap.size ≤ w.heap.size ∧ w.heap.size < w_16.heap.size := ⟨(Nat.le_refl _), Nat.lt_of_lt_of_le (Blk.lt hk_3) ((bg (bt hb_7 hb_12) hg_17 (hb_7).size)).size⟩
 have hc5_ : w.heap.size ≤ w_1.heap.size ∧ w_1.heap.size < w_16.heap.size := ⟨(hb_2).size, Nat.lt_of_lt_of_le (Blk.lt hk_8) ((bg hb_12 hg_17 (Nat.le_refl _))).size⟩
 have hc6_ : w.heap.size ≤ w_6.heap.size ∧ w_6.heap.size < w_16.heap.size := ⟨((bt hb_2 hb_7)).size, Nat.lt_of_lt_of_le (Blk.lt hk_13) hg_17.size⟩
 have hlh_ : w_16.heap.size ≤ w_33.heap.size := (hb_34).size
 have hwh_ : w.heap.size ≤ w_33.heap.size := ((bt hB_32 hb_34)).size
 have hDt_ : ∀ k_, (DI w.heap.size w_16.heap.size w_33.heap.size) k_ → k_ < w_33.heap.size := fun k_ h_ => by rcases h_ with h_ | h_ <;> omega
 refine X_rangeM (α := ElA) (ι := Nat) rfl ent159 (encs := elV) (ceach_seq (DI w.heap.size w_16.heap.size w_33.heap.size) (fun k_ => w_16.heap.size ≤ k_ ∧ k_ < w_33.heap.size) w_16.heap.size g_24 A_25 c_26 xs w w_33 hr9_ (fun k_ h_ => .inr h_) (fun k_ h_ => .inl h_) hDt_ (bt hB_32 hb_34) (by omega) hr hz hT es hE hk_30 (by omega)) (Below.refl _ _) hDt_ (fun _ => rfl) (by kernel_rfl) (fun pre_ M_ W_ => SplI w w.heap.size w_1.heap.size w_6.heap.size w_33.heap.size pre_ M_ W_) (fun c_ pre_ W_ => False) (fun M_ => SplI.own ((bt hB_32 hb_34)).size M_) (fun _ => RX.ownFrom_pure _) (fun _ _ _ h_ => SplI.im h_ hc4_ hc5_ hc6_ hwh_) (fun k_ => k_ = w.heap.size ∨ k_ = w_1.heap.size ∨ k_ = w_6.heap.size ∨ (none : Option Addr).map (·.block) = some k_ ∨ (none : Option Addr).map (·.block) = some k_) ⟨[], [], 0, none, 0, none, 0, rfl, (Blk.below hk_21 hb_34), (Blk.below hk_23 hb_34), (Blk.below hk_18 hb_34), Kd.R_nil _ _ _ _ _, Kd.R_nil _ _ _ _ _, rfl, (fun k_ h_ => by cases h_), (fun k_ h_ => by cases h_), (bt hB_32 hb_34)⟩ (fun x_ i_ W_ => RX.Blk W_ i_ 51 #[.int .i32 x_.2.1.rune, sT x_.2.1.kind, i6 x_.2.1.vk, i6 x_.2.1.vn, sT x_.2.1.vt, aL x_.2.2.1 x_.2.1.attrs x_.2.2.2] ∧ ElPx w_33.heap.size x_ W_) (fun i_ => OwnFrom.and (ownFrom_blk (fun _ => i_) 51 (fun (x_ : ElA) => #[.int .i32 x_.2.1.rune, sT x_.2.1.kind, i6 x_.2.1.vk, i6 x_.2.1.vn, sT x_.2.1.vt, aL x_.2.2.1 x_.2.1.attrs x_.2.2.2])) ownFrom_px) (fun x_ i_ => [(4, pw w.heap.size 0), (5, pw w_1.heap.size 0), (6, pw w_6.heap.size 0), (7, i6 x_.1), (8, pw i_ 0)]) ?_ ?_ ?_ ?_
 ·rintro lp_ pre_ M_ x_ W_ hlp_ hws_ ⟨ls_, tx_, fr_, A4_, c4_, A5_, c5_, hrun_, hk4_, hk5_, hk6_, hr4_, hr5_, hM_, hA4_, hA5_, hBw_⟩ hpx_ hlen_
  have hg4l_ := hk4_.lt
  have hg5l_ := hk5_.lt
  have hg6l_ := hk6_.lt
  have hlen2_ := lnRunE_len pre_
  rw [hrun_] at hlen2_
  replace hlen2_ : ls_.length ≤ pre_.length ∧ tx_.length ≤ pre_.length := hlen2_
  refine XI_keep [4, 5, 6, 9, 10, 11, 12] [(4, pw w.heap.size 0), (5, pw w_1.heap.size 0), (6, pw w_6.heap.size 0), (9, pw d 0), (10, .func (.func 159) #[] #[pw g_24 0]), (11, i6 x_.1), (12, .agg #[.int .i32 x_.2.1.rune, sT x_.2.1.kind, i6 x_.2.1.vk, i6 x_.2.1.vn, sT x_.2.1.vt, aL x_.2.2.1 x_.2.1.attrs x_.2.2.2])] (by kernel_rfl) ?_
  refine XI_seq ?_
  refine XI_region (by kernel_rfl) (fun _ _ h_ => h_) ?_
  refine xq 1 [] [(4, pw w.heap.size 0), (5, pw w_1.heap.size 0), (6, pw w_6.heap.size 0), (7, i6 x_.1), (12, .agg #[.int .i32 x_.2.1.rune, sT x_.2.1.kind, i6 x_.2.1.vk, i6 x_.2.1.vn, sT x_.2.1.vt, aL x_.2.2.1 x_.2.1.attrs x_.2.2.2])] W_ [] trivial ?_
  refine nl (XI_region (by kernel_rfl) (fun _ _ h_ => h_) ?_)
  refine xq 1 [] [(4, pw w.heap.size 0), (5, pw w_1.heap.size 0), (6, pw w_6.heap.size 0), (7, i6 x_.1), (8, pw W_.heap.size 0), (12, .agg #[.int .i32 x_.2.1.rune, sT x_.2.1.kind, i6 x_.2.1.vk, i6 x_.2.1.vn, sT x_.2.1.vt, aL x_.2.2.1 x_.2.1.attrs x_.2.2.2])] (W_.alloc (.cells #[.int .i32 0, s0, i6 0, i6 0, s0, .slice none 0 0] 51)) [] trivial ?_
  obtain ⟨w_35, hw_39, hb_36, hk_37, hz_38⟩ := new_world W_ #[.int .i32 0, s0, i6 0, i6 0, s0, .slice none 0 0] 51
  rw [hw_39]
  refine xst (.agg #[.int .i32 x_.2.1.rune, sT x_.2.1.kind, i6 x_.2.1.vk, i6 x_.2.1.vn, sT x_.2.1.vt, aL x_.2.2.1 x_.2.1.attrs x_.2.2.2]) hk_37 0 #[.int .i32 x_.2.1.rune, sT x_.2.1.kind, i6 x_.2.1.vk, i6 x_.2.1.vn, sT x_.2.1.vt, aL x_.2.2.1 x_.2.1.attrs x_.2.2.2] (fun w_40 hg_41 hk_42 hz_43 => ?_)
  have hne_44 : w.heap.size ≠ W_.heap.size := Blk.tne (Blk.below hk4_ hb_36) hk_37 rfl
  have hk_45 := Blk.other (Blk.below hk4_ hb_36) hg_41 hne_44
  have hne_46 : w_1.heap.size ≠ W_.heap.size := Blk.tne (Blk.below hk5_ hb_36) hk_37 rfl
  have hk_47 := Blk.other (Blk.below hk5_ hb_36) hg_41 hne_46
  have hne_48 : w_6.heap.size ≠ W_.heap.size := Blk.tne (Blk.below hk6_ hb_36) hk_37 rfl
  have hk_49 := Blk.other (Blk.below hk6_ hb_36) hg_41 hne_48
  have hr_50 := Kd.R_off (Kd.R_below hr5_ hb_36) hk_37 (by decide) hg_41
  have hr_51 := Kd.R_off (Kd.R_below hr4_ hb_36) hk_37 (by decide) hg_41
  refine nl ?_
  have hDw_ : ∀ k_, (DI w.heap.size w_16.heap.size w_33.heap.size) k_ → k_ < W_.heap.size := fun k_ h_ => by have := hDt_ k_ h_; omega
  exact ⟨W_.heap.size, by kernel_rfl, (KeepsFrom.trans (keeps_below hb_36) (keeps_store hk_37 hg_41)), KpM.below hDw_ ((bg hb_36 hg_41 (Nat.le_refl _)) : Below W_.heap.size W_ w_40), ⟨ls_, tx_, fr_, A4_, c4_, A5_, c5_, hrun_, hk_45, hk_47, hk_49, hr_51, hr_50, hM_, hA4_, hA5_, (bg (bt hBw_ hb_36) hg_41 (hBw_).size)⟩, hk_42, ElPx.below ((bg hb_36 hg_41 (Nat.le_refl _)) : Below W_.heap.size W_ w_40) hpx_⟩
 ·rintro lp_ pre_ M_ x_ i_ W_ hlp_ hws_ ⟨ls_, tx_, fr_, A4_, c4_, A5_, c5_, hrun_, hk4_, hk5_, hk6_, hr4_, hr5_, hM_, hA4_, hA5_, hBw_⟩ ⟨hki_, hpx_⟩ hlen_
  have hg4l_ := hk4_.lt
  have hg5l_ := hk5_.lt
  have hg6l_ := hk6_.lt
  have hlen2_ := lnRunE_len pre_
  rw [hrun_] at hlen2_
  replace hlen2_ : ls_.length ≤ pre_.length ∧ tx_.length ≤ pre_.length := hlen2_
  obtain ⟨hx0_, hxl_, wb_, hwb_, hlk_, hra_⟩ := hpx_
  refine XI_block ?_
  refine XI_seq ?_
  refine XI_seq ?_
  refine XI_region (by kernel_rfl) (fun _ _ h_ => h_) ?_
  refine xq 2 [(14, .load (.int .i32 x_.2.1.rune))] [(4, pw w.heap.size 0), (5, pw w_1.heap.size 0), (6, pw w_6.heap.size 0), (7, i6 x_.1), (8, pw i_ 0), (14, .int .i32 x_.2.1.rune)] W_ [la 21 (⟨i_, 0, none⟩) (.int .i32 x_.2.1.rune) W_] ⟨loads1 rfl (Blk.cell hki_ 0 _ rfl), trivial⟩ ?_
  by_cases c_52 : x_.2.1.rune = 10
  ·refine xq 1 [(15, .eq bF)] [(4, pw w.heap.size 0), (5, pw w_1.heap.size 0), (6, pw w_6.heap.size 0), (7, i6 x_.1), (8, pw i_ 0), (15, bF)] W_ [Value.bool (x_.2.1.rune != 10) = bF] ⟨congrArg Value.bool (bneF (c_52)), trivial⟩ ?_
   refine nl (XI_cond false rfl ?_)
   refine XI_skip ?_
   refine XI_seq ?_
   refine XI_grow (by kernel_rfl) (fun _ _ h_ => h_) [11, 12] 13 (tf 0 13) (by kernel_rfl) (by kernel_rfl) (by kernel_rfl) (fun wd_53 hb_54 hh_55 => ?_)
   refine XB_run (fuel' := 5) (Below.refl _ _) [0, 1, 2, 3, 4, 5, 7, 8] [(21, .load (aL A4_ ls_ c4_)), (22, .load (i6 fr_)), (23, .load (aL A5_ tx_ c5_)), (26, .load (aL x_.2.2.1 x_.2.1.attrs x_.2.2.2)), (28, .load (aL A5_ tx_ c5_)), (29, .as (sT (runesBytes tx_)))] [.slice A4_ ls_.length c4_, i6 fr_, .slice A5_ tx_.length c5_, i6 (tx_.length : Int), pw i_ 5, .slice x_.2.2.1 x_.2.1.attrs.length x_.2.2.2, .slice A5_ tx_.length c5_, sT (runesBytes tx_)] #[true, true, true, true, true, true, false, true, true, false, false, false, false] [(4, pw w.heap.size 0), (5, pw w_1.heap.size 0), (6, pw w_6.heap.size 0), (7, i6 x_.1), (21, aL A4_ ls_ c4_), (22, i6 fr_), (24, i6 (tx_.length : Int)), (26, aL x_.2.2.1 x_.2.1.attrs x_.2.2.2), (29, sT (runesBytes tx_))] (fun w_ => [la 66 (⟨w.heap.size, 0, none⟩) (aL A4_ ls_ c4_) w_, la 3 (⟨w_6.heap.size, 0, none⟩) (i6 fr_) w_, la 150 (⟨w_1.heap.size, 0, none⟩) (aL A5_ tx_ c5_) w_, la 49 (⟨i_, 5, none⟩) (aL x_.2.2.1 x_.2.1.attrs x_.2.2.2) w_, la 150 (⟨w_1.heap.size, 0, none⟩) (aL A5_ tx_ c5_) w_, RunsAs Tryz.prog [(28, aL A5_ tx_ c5_)] (Go.Op.convert 150 9 (Go.Operand.tmp 28)) 9 (sT (runesBytes tx_)) w_]) (fun w_ hC_ => ⟨loads1 rfl (Blk.cell (Blk.below hk4_ (bt hb_54 hC_)) 0 _ rfl), loads1 rfl (Blk.cell (Blk.below hk6_ (bt hb_54 hC_)) 0 _ rfl), loads1 rfl (Blk.cell (Blk.below hk5_ (bt hb_54 hC_)) 0 _ rfl), loads1 rfl (Blk.cell (Blk.below hki_ (bt hb_54 hC_)) 5 _ rfl), loads1 rfl (Blk.cell (Blk.below hk5_ (bt hb_54 hC_)) 0 _ rfl), runs_conv rfl (conv_runesC tx_ Tryz.underlying150 Tryz.underlying21 Tryz.underlying9 (Kd.R_C (Kd.R_below hr5_ (bt hb_54 hC_)))), trivial⟩) ?_
   refine XB_mid (fuel' := 4) 6 (tf 9 4) _ rfl (by kernel_rfl) (by kernel_rfl) rfl ?_
   refine xc 110 ent110 [aL x_.2.2.1 x_.2.1.attrs x_.2.2.2] (clone_any _ _ x_.2.1.attrs _ (Kd.R_C (Kd.R_below hra_ hb_54)) hxl_) ?_
   rintro e w_60 ⟨A_56, c_57, rfl, hl_58, hr_59, hb_61⟩; refine ⟨_, rfl, ?_⟩
   refine nl ?_
   refine ⟨hb_61, ?_⟩
   refine XB_run (fuel' := 3) hb_61 [9] [] [.agg #[i6 fr_, i6 (tx_.length : Int), .slice A_56 x_.2.1.attrs.length c_57, sT (runesBytes tx_)]] (tf 10 3) [(4, pw w.heap.size 0), (5, pw w_1.heap.size 0), (6, pw w_6.heap.size 0), (7, i6 x_.1), (21, aL A4_ ls_ c4_), (30, .agg #[i6 fr_, i6 (tx_.length : Int), .slice A_56 x_.2.1.attrs.length c_57, sT (runesBytes tx_)])] (fun w_ => []) (fun w_ hC_ => trivial) ?_
   refine XB_mid (fuel' := 2) 10 (tf 11 2) _ rfl (by kernel_rfl) (by kernel_rfl) rfl ?_
   refine xq 1 [] [(4, pw w.heap.size 0), (5, pw w_1.heap.size 0), (6, pw w_6.heap.size 0), (7, i6 x_.1), (21, aL A4_ ls_ c4_), (31, .slice (some ⟨w_60.heap.size, 0, none⟩) 1 1)] (w_60.alloc (.cells #[i6 fr_, i6 (tx_.length : Int), .slice A_56 x_.2.1.attrs.length c_57, sT (runesBytes tx_)] 78)) [] trivial ?_
   obtain ⟨w_62, hw_66, hb_63, hk_64, hz_65⟩ := new_world w_60 #[i6 fr_, i6 (tx_.length : Int), .slice A_56 x_.2.1.attrs.length c_57, sT (runesBytes tx_)] 78
   rw [hw_66]
   refine nl ?_
   refine ⟨(bt hb_61 hb_63), ?_⟩
   refine XB_act (fuel' := 1) 11 (tf 12 1) _ rfl (by kernel_rfl) rfl (by kernel_rfl) rfl ?_
   obtain ⟨okp_67, hM_68, hok_69⟩ := Kd.M_rowApart hr_59 ((bt hBw_ hb_54)).size (Kd.R_below hr4_ (bt hb_54 hb_61)) (by decide)
   rw [← hw_66]
   refine XL_append kLine rfl rfl rfl w.heap.size 78 (.agg #[i6 0, i6 0, .slice none 0 0, s0]) 56 Tryz.underlying66 info78 rfl (by decide) (by omega) ls_ (⟨fr_, (tx_.length : Int), x_.2.1.attrs, (runesBytes tx_)⟩ : LineA) [i6 fr_, i6 (tx_.length : Int), .slice A_56 x_.2.1.attrs.length c_57, sT (runesBytes tx_)] okp_67 (by kernel_rfl) (kLine_M (x := (⟨fr_, (tx_.length : Int), x_.2.1.attrs, (runesBytes tx_)⟩ : LineA)) hM_68) hok_69 (Kd.R_below hr4_ (bt hb_54 hb_61)) ((bt (bt hBw_ hb_54) hb_61)).size (by first | omega | (simp; omega)) ?_
   intro A_70 c_71 w_72 hr_73 hc_74 hg_75 hl_76 ha_77
   have hne_81 := RX.Kd.R_blk_ne (Kd.R_below hr4_ (bt hb_54 hb_61)) (Blk.below hk4_ (bt hb_54 hb_61)) rfl
   have hk_82 := Blk.ne (Blk.below hk4_ (bt hb_54 hb_61)) hg_75 hne_81
   have hne_83 := RX.Kd.R_blk_ne (Kd.R_below hr4_ (bt hb_54 hb_61)) (Blk.below hk5_ (bt hb_54 hb_61)) rfl
   have hk_84 := Blk.ne (Blk.below hk5_ (bt hb_54 hb_61)) hg_75 hne_83
   have hne_85 := RX.Kd.R_blk_ne (Kd.R_below hr4_ (bt hb_54 hb_61)) (Blk.below hk6_ (bt hb_54 hb_61)) rfl
   have hk_86 := Blk.ne (Blk.below hk6_ (bt hb_54 hb_61)) hg_75 hne_85
   refine nl (XB_act (fuel' := 0) 12 (tf 13 0) _ rfl (by kernel_rfl) rfl (by kernel_rfl) rfl ?_)
   refine xst (aL A_70 (ls_ ++ [(⟨fr_, (tx_.length : Int), x_.2.1.attrs, (runesBytes tx_)⟩ : LineA)]) c_71) hk_82 0 #[aL A_70 (ls_ ++ [(⟨fr_, (tx_.length : Int), x_.2.1.attrs, (runesBytes tx_)⟩ : LineA)]) c_71] (fun w_89 hg_90 hk_91 hz_92 => ?_)
   have hne_93 : w_1.heap.size ≠ w.heap.size := Nat.ne_of_gt (Nat.lt_of_lt_of_le (Blk.lt hk_3) (Nat.le_refl _))
   have hk_94 := Blk.other hk_84 hg_90 hne_93
   have hne_95 : w_6.heap.size ≠ w.heap.size := Nat.ne_of_gt (Nat.lt_of_lt_of_le (Blk.lt hk_3) (hb_7).size)
   have hk_96 := Blk.other hk_86 hg_90 hne_95
   have hr_102 := Kd.R_off hr_73 hk_82 (by decide) hg_90
   refine nl (XB_done (by kernel_rfl) ?_)
   refine XI_region (by kernel_rfl) (fun _ _ h_ => h_) ?_
   refine xq 2 [] [(4, pw w.heap.size 0), (5, pw w_1.heap.size 0), (6, pw w_6.heap.size 0), (34, i6 (IntKind.i64.wrap (x_.1 + 1)))] w_89 [] trivial ?_
   refine xst (i6 (IntKind.i64.wrap (x_.1 + 1))) hk_96 0 #[i6 (IntKind.i64.wrap (x_.1 + 1))] (fun w_103 hg_104 hk_105 hz_106 => ?_)
   have hk_107 := Blk.other hk_91 hg_104 hne_20
   have hk_108 := Blk.other hk_94 hg_104 hne_22
   have hr_114 := Kd.R_off hr_102 hk_96 (by decide) hg_104
   refine xst (.slice none 0 0) hk_108 0 #[.slice none 0 0] (fun w_115 hg_116 hk_117 hz_118 => ?_)
   have hne_119 : w.heap.size ≠ w_1.heap.size := Nat.ne_of_lt (Nat.lt_of_lt_of_le (Blk.lt hk_3) (Nat.le_refl _))
   have hk_120 := Blk.other hk_107 hg_116 hne_119
   have hne_121 : w_6.heap.size ≠ w_1.heap.size := Nat.ne_of_gt (Nat.lt_of_lt_of_le (Blk.lt hk_8) (Nat.le_refl _))
   have hk_122 := Blk.other hk_105 hg_116 hne_121
   have hr_128 := Kd.R_off hr_114 hk_108 (by decide) hg_116
   refine nl ?_
   have hDw_ : ∀ k_, (DI w.heap.size w_16.heap.size w_33.heap.size) k_ → k_ < W_.heap.size := fun k_ h_ => by have := hDt_ k_ h_; omega
   have hincl_ : ∀ k_, A_70.map (·.block) = some k_ → A4_.map (·.block) = some k_ ∨ W_.heap.size ≤ k_ := fun k_ e_ => by rcases ha_77 with h_ | ⟨b_, h_, h2_⟩; (· rw [h_] at e_; exact .inl e_); (· rw [h_] at e_; injection e_ with e_; subst e_; exact .inr (Nat.le_trans (Nat.le_trans hb_54.size hb_61.size) h2_))
   have hB_129 : Below w.heap.size w w_115 := (bg (bg (bg (bgo (bt (bt hBw_ hb_54) hb_61) hg_75 hl_76 (Nat.le_refl _)) hg_90 (Nat.le_refl _)) hg_104 ((bt hb_2 hb_7)).size) hg_116 (hb_2).size)
   exact ⟨(KeepsFrom.trans (KeepsFrom.trans (KeepsFrom.trans (KeepsFrom.trans (KeepsFrom.trans (keeps_below hb_54) (keeps_below hb_61)) (keeps_row (Kd.R_below hr4_ (bt hb_54 hb_61)) hg_75)) (keeps_store hk_82 hg_90)) (keeps_store hk_96 hg_104)) (keeps_store hk_108 hg_116)), (fun k_ => k_ = w.heap.size ∨ k_ = w_1.heap.size ∨ k_ = w_6.heap.size ∨ A_70.map (·.block) = some k_ ∨ (none : Option Addr).map (·.block) = some k_), (KpM.trans (KpM.trans (KpM.trans (KpM.trans (KpM.trans (KpM.below (fun k_ h_ => Nat.lt_of_lt_of_le (hDw_ k_ h_) (Nat.le_refl _)) hb_54) (KpM.below (fun k_ h_ => Nat.lt_of_lt_of_le (hDw_ k_ h_) hb_54.size) hb_61)) (KpM.grown hg_75 (fun k_ e_ => ⟨by rw [hM_]; first | exact .inr (.inr (.inr (.inl e_))) | exact .inr (.inr (.inr (.inr e_))), fun h_ => by first | (have h1_ := hA4_ k_ e_; rcases h_ with h_ | h_ <;> omega) | (have h1_ := hA5_ k_ e_; rcases h_ with h_ | h_ <;> omega)⟩) (fun k_ h_ => Nat.lt_of_lt_of_le (hDw_ k_ h_) (Nat.le_trans hb_54.size hb_61.size)))) (KpM.grown hg_90 (fun k_ e_ => by injection e_ with e_; subst e_; exact ⟨by rw [hM_]; first | exact .inl rfl | exact .inr (.inl rfl) | exact .inr (.inr (.inl rfl)), fun h_ => by rcases h_ with h_ | h_ <;> omega⟩) (fun k_ h_ => Nat.lt_of_lt_of_le (hDw_ k_ h_) (Nat.le_trans (Nat.le_trans hb_54.size hb_61.size) hg_75.size)))) (KpM.grown hg_104 (fun k_ e_ => by injection e_ with e_; subst e_; exact ⟨by rw [hM_]; first | exact .inl rfl | exact .inr (.inl rfl) | exact .inr (.inr (.inl rfl)), fun h_ => by rcases h_ with h_ | h_ <;> omega⟩) (fun k_ h_ => Nat.lt_of_lt_of_le (hDw_ k_ h_) (Nat.le_trans (Nat.le_trans (Nat.le_trans hb_54.size hb_61.size) hg_75.size) hg_90.size)))) (KpM.grown hg_116 (fun k_ e_ => by injection e_ with e_; subst e_; exact ⟨by rw [hM_]; first | exact .inl rfl | exact .inr (.inl rfl) | exact .inr (.inr (.inl rfl)), fun h_ => by rcases h_ with h_ | h_ <;> omega⟩) (fun k_ h_ => Nat.lt_of_lt_of_le (hDw_ k_ h_) (Nat.le_trans (Nat.le_trans (Nat.le_trans (Nat.le_trans hb_54.size hb_61.size) hg_75.size) hg_90.size) hg_104.size)))), (fun k_ h_ => by rw [hM_]; rcases h_ with h_ | h_ | h_ | h_ | h_; (· exact .inl (.inl h_)); (· exact .inl (.inr (.inl h_))); (· exact .inl (.inr (.inr (.inl h_)))); (· exact (hincl_ k_ h_).imp (fun h1_ => .inr (.inr (.inr (.inl h1_)))) id); (· cases h_)), ⟨_, [], _, A_70, c_71, none, 0, by rw [lnRunE_nl c_52, hrun_], hk_120, hk_117, hk_122, hr_128, (Kd.R_nil _ _ _ _ _), rfl, (fun k_ h_ => by rcases hincl_ k_ h_ with h1_ | h1_; (· exact hA4_ k_ h1_); (· omega)), (fun k_ h_ => by cases h_), hB_129⟩⟩
  refine xq 1 [(15, .eq bT)] [(4, pw w.heap.size 0), (5, pw w_1.heap.size 0), (6, pw w_6.heap.size 0), (7, i6 x_.1), (8, pw i_ 0), (15, bT)] W_ [Value.bool (x_.2.1.rune != 10) = bT] ⟨congrArg Value.bool (bneT (c_52)), trivial⟩ ?_
  refine nl (XI_cond true rfl ?_)
  refine XI_seq ?_
  refine XI_grow (by kernel_rfl) (fun _ _ h_ => h_) [4, 5] 6 (tf 0 6) (by kernel_rfl) (by kernel_rfl) (by kernel_rfl) (fun wd_130 hb_131 hh_132 => ?_)
  refine XB_run (fuel' := 4) (Below.refl _ _) [0, 1] [(16, .load (aL A5_ tx_ c5_)), (17, .load (.agg #[.int .i32 x_.2.1.rune, sT x_.2.1.kind, i6 x_.2.1.vk, i6 x_.2.1.vn, sT x_.2.1.vt, aL x_.2.2.1 x_.2.1.attrs x_.2.2.2]))] [.slice A5_ tx_.length c5_, .agg #[.int .i32 x_.2.1.rune, sT x_.2.1.kind, i6 x_.2.1.vk, i6 x_.2.1.vn, sT x_.2.1.vt, aL x_.2.2.1 x_.2.1.attrs x_.2.2.2]] (tf 2 4) [(4, pw w.heap.size 0), (5, pw w_1.heap.size 0), (16, aL A5_ tx_ c5_), (17, .agg #[.int .i32 x_.2.1.rune, sT x_.2.1.kind, i6 x_.2.1.vk, i6 x_.2.1.vn, sT x_.2.1.vt, aL x_.2.2.1 x_.2.1.attrs x_.2.2.2])] (fun w_ => [la 150 (⟨w_1.heap.size, 0, none⟩) (aL A5_ tx_ c5_) w_, la 51 (⟨i_, 0, none⟩) (.agg #[.int .i32 x_.2.1.rune, sT x_.2.1.kind, i6 x_.2.1.vk, i6 x_.2.1.vn, sT x_.2.1.vt, aL x_.2.2.1 x_.2.1.attrs x_.2.2.2]) w_]) (fun w_ hC_ => ⟨loads1 rfl (Blk.cell (Blk.below hk5_ (bt hb_131 hC_)) 0 _ rfl), loadsB rfl rfl (Blk.below hki_ (bt hb_131 hC_)) 0 ⟨by kernel_rfl, by kernel_rfl⟩, trivial⟩) ?_
  refine XB_mid (fuel' := 3) 2 (tf 3 3) _ rfl (by kernel_rfl) (by kernel_rfl) rfl ?_
  refine xc 106 ent106 [.agg #[.int .i32 x_.2.1.rune, sT x_.2.1.kind, i6 x_.2.1.vk, i6 x_.2.1.vn, sT x_.2.1.vt, aL x_.2.2.1 x_.2.1.attrs x_.2.2.2]] (letter_any x_.2.1 _ _ _) ?_
  rintro e w_133 ⟨rfl, hb_134⟩; refine ⟨_, rfl, ?_⟩
  refine nl ?_
  refine ⟨hb_134, ?_⟩
  refine XB_mid (fuel' := 2) 3 (tf 4 2) _ rfl (by kernel_rfl) (by kernel_rfl) rfl ?_
  refine xq 1 [] [(4, pw w.heap.size 0), (5, pw w_1.heap.size 0), (16, aL A5_ tx_ c5_), (19, .slice (some ⟨w_133.heap.size, 0, none⟩) 1 1)] (w_133.alloc (.cells #[.int .i32 (letL x_.2.1)] 21)) [] trivial ?_
  obtain ⟨w_135, hw_139, hb_136, hk_137, hz_138⟩ := new_world w_133 #[.int .i32 (letL x_.2.1)] 21
  rw [hw_139]
  refine nl ?_
  refine ⟨(bt hb_134 hb_136), ?_⟩
  refine XB_act (fuel' := 1) 4 (tf 5 1) _ rfl (by kernel_rfl) rfl (by kernel_rfl) rfl ?_
  rw [← hw_139]
  refine XL_append (Kd.int .i32) rfl rfl rfl w.heap.size 21 (.int .i32 0) 4 Tryz.underlying150 info21 rfl (by decide) (by omega) tx_ (letL x_.2.1) [.int .i32 (letL x_.2.1)] (fun _ => False) (by kernel_rfl) rfl (fun _ h => h.elim) (Kd.R_below hr5_ (bt hb_131 hb_134)) ((bt (bt hBw_ hb_131) hb_134)).size (by first | omega | (simp; omega)) ?_
  intro A_140 c_141 w_142 hr_143 hc_144 hg_145 hl_146 ha_147
  have hr_149 := Kd.R_apart (Kd.R_below hr4_ (bt hb_131 hb_134)) (Kd.R_below hr5_ (bt hb_131 hb_134)) (by decide) hg_145
  have hne_150 := RX.Kd.R_blk_ne (Kd.R_below hr5_ (bt hb_131 hb_134)) (Blk.below hk4_ (bt hb_131 hb_134)) rfl
  have hk_151 := Blk.ne (Blk.below hk4_ (bt hb_131 hb_134)) hg_145 hne_150
  have hne_152 := RX.Kd.R_blk_ne (Kd.R_below hr5_ (bt hb_131 hb_134)) (Blk.below hk5_ (bt hb_131 hb_134)) rfl
  have hk_153 := Blk.ne (Blk.below hk5_ (bt hb_131 hb_134)) hg_145 hne_152
  have hne_154 := RX.Kd.R_blk_ne (Kd.R_below hr5_ (bt hb_131 hb_134)) (Blk.below hk6_ (bt hb_131 hb_134)) rfl
  have hk_155 := Blk.ne (Blk.below hk6_ (bt hb_131 hb_134)) hg_145 hne_154
  refine nl (XB_act (fuel' := 0) 5 (tf 6 0) _ rfl (by kernel_rfl) rfl (by kernel_rfl) rfl ?_)
  refine xst (aL A_140 (tx_ ++ [letL x_.2.1]) c_141) hk_153 0 #[aL A_140 (tx_ ++ [letL x_.2.1]) c_141] (fun w_158 hg_159 hk_160 hz_161 => ?_)
  have hne_162 : w.heap.size ≠ w_1.heap.size := Nat.ne_of_lt (Nat.lt_of_lt_of_le (Blk.lt hk_3) (Nat.le_refl _))
  have hk_163 := Blk.other hk_151 hg_159 hne_162
  have hne_164 : w_6.heap.size ≠ w_1.heap.size := Nat.ne_of_gt (Nat.lt_of_lt_of_le (Blk.lt hk_8) (Nat.le_refl _))
  have hk_165 := Blk.other hk_155 hg_159 hne_164
  have hr_169 := Kd.R_off hr_143 hk_153 (by decide) hg_159
  have hr_170 := Kd.R_off hr_149 hk_153 (by decide) hg_159
  refine nl (XB_done (by kernel_rfl) ?_)
  refine XI_exit ?_
  have hDw_ : ∀ k_, (DI w.heap.size w_16.heap.size w_33.heap.size) k_ → k_ < W_.heap.size := fun k_ h_ => by have := hDt_ k_ h_; omega
  have hincl_ : ∀ k_, A_140.map (·.block) = some k_ → A5_.map (·.block) = some k_ ∨ W_.heap.size ≤ k_ := fun k_ e_ => by rcases ha_147 with h_ | ⟨b_, h_, h2_⟩; (· rw [h_] at e_; exact .inl e_); (· rw [h_] at e_; injection e_ with e_; subst e_; exact .inr (Nat.le_trans (Nat.le_trans hb_131.size hb_134.size) h2_))
  have hB_171 : Below w.heap.size w w_158 := (bg (bgo (bt (bt hBw_ hb_131) hb_134) hg_145 hl_146 (Nat.le_refl _)) hg_159 (hb_2).size)
  exact ⟨(KeepsFrom.trans (KeepsFrom.trans (KeepsFrom.trans (keeps_below hb_131) (keeps_below hb_134)) (keeps_row (Kd.R_below hr5_ (bt hb_131 hb_134)) hg_145)) (keeps_store hk_153 hg_159)), (fun k_ => k_ = w.heap.size ∨ k_ = w_1.heap.size ∨ k_ = w_6.heap.size ∨ A4_.map (·.block) = some k_ ∨ A_140.map (·.block) = some k_), (KpM.trans (KpM.trans (KpM.trans (KpM.below (fun k_ h_ => Nat.lt_of_lt_of_le (hDw_ k_ h_) (Nat.le_refl _)) hb_131) (KpM.below (fun k_ h_ => Nat.lt_of_lt_of_le (hDw_ k_ h_) hb_131.size) hb_134)) (KpM.grown hg_145 (fun k_ e_ => ⟨by rw [hM_]; first | exact .inr (.inr (.inr (.inl e_))) | exact .inr (.inr (.inr (.inr e_))), fun h_ => by first | (have h1_ := hA4_ k_ e_; rcases h_ with h_ | h_ <;> omega) | (have h1_ := hA5_ k_ e_; rcases h_ with h_ | h_ <;> omega)⟩) (fun k_ h_ => Nat.lt_of_lt_of_le (hDw_ k_ h_) (Nat.le_trans hb_131.size hb_134.size)))) (KpM.grown hg_159 (fun k_ e_ => by injection e_ with e_; subst e_; exact ⟨by rw [hM_]; first | exact .inl rfl | exact .inr (.inl rfl) | exact .inr (.inr (.inl rfl)), fun h_ => by rcases h_ with h_ | h_ <;> omega⟩) (fun k_ h_ => Nat.lt_of_lt_of_le (hDw_ k_ h_) (Nat.le_trans (Nat.le_trans hb_131.size hb_134.size) hg_145.size)))), (fun k_ h_ => by rw [hM_]; rcases h_ with h_ | h_ | h_ | h_ | h_; (· exact .inl (.inl h_)); (· exact .inl (.inr (.inl h_))); (· exact .inl (.inr (.inr (.inl h_)))); (· exact .inl (.inr (.inr (.inr (.inl h_))))); (· exact (hincl_ k_ h_).imp (fun h1_ => .inr (.inr (.inr (.inr h1_)))) id)), ⟨_, _, _, A4_, c4_, A_140, c_141, by rw [lnRunE_tx c_52, hrun_], hk_163, hk_160, hk_165, hr_170, hr_169, rfl, hA4_, (fun k_ h_ => by rcases hincl_ k_ h_ with h1_ | h1_; (· exact hA5_ k_ h1_); (· omega)), hB_171⟩⟩
 ·rintro D_173 pre_ M_ w_172 hD_174 hS_175 ⟨ls_, tx_, fr_, A4_, c4_, A5_, c5_, hrun_, hk4_, hk5_, hk6_, hr4_, hr5_, hM_, hA4_, hA5_, hBw_⟩ hK_176
  have hg4l_ := hk4_.lt
  have hg5l_ := hk5_.lt
  have hg6l_ := hk6_.lt
  have hlen2_ := lnRunE_len pre_
  rw [hrun_] at hlen2_
  replace hlen2_ : ls_.length ≤ pre_.length ∧ tx_.length ≤ pre_.length := hlen2_
  have hall_ := lnRunE_all (by omega) hS_175.1 hS_175.2
  rw [hrun_] at hall_
  have hlo_ : w_33.heap.size ≤ w_33.heap.size := Nat.le_refl _
  have hds_ : Defs (D_173 :: []) w_172 := Defs.cons hK_176 (fun _ h_ => by cases h_)
  have hdge_ : ∀ D_ ∈ D_173 :: [], w_33.heap.size ≤ D_ := fun D_ hm_ => (List.mem_cons.1 hm_).elim (fun e_ => by omega) (fun h_ => by cases h_)
  refine sq (X_still (by kernel_rfl) (by kernel_rfl) (fun wd_177 hb_178 hh_179 => ?_))
  refine xse 3 [(35, .load (aL A4_ ls_ c4_)), (36, .load (aL A4_ ls_ c4_))] [(5, pw w_1.heap.size 0), (35, aL A4_ ls_ c4_), (37, i6 (ls_.length : Int)), (1000000, encD (D_173 :: []))] [_, _] ⟨lc 66 (Blk.below hk4_ hb_178) 0, lc 66 (Blk.below hk4_ hb_178) 0, trivial⟩ ?_
  by_cases c_180 : (ls_.length : Int) > 0
  ·refine xse 4 [(38, .eq bT), (40, .load (aL A5_ tx_ c5_))] [(35, aL A4_ ls_ c4_), (39, bT), (41, i6 (tx_.length : Int)), (1000000, encD (D_173 :: []))] [_, _] ⟨dT c_180, lc 150 (Blk.below hk5_ hb_178) 0, trivial⟩ ?_
   by_cases c_181 : (tx_.length : Int) = 0
   ·refine xse 4 [(42, .eq bT)] [(2, aL A4_ ls_ c4_), (3, bT), (1000000, encD (D_173 :: []))] [_] ⟨bE c_181, trivial⟩ ?_
    refine XS_nil ?_
    refine X_ret (RX.retM_ok (P := Tryz.prog) (fn := Tryz.f103) (N := 44) (R := R_) (ds := (D_173 :: [])) (dsOf_enc (by kernel_rfl)) (List.nodup_cons.2 ⟨fun h_ => (by cases h_), List.nodup_nil⟩) (Defs.below hb_178 hds_) [.slice A4_ ls_.length c4_, bT] (by kernel_rfl) (fun w_ ho_ => hR_ _ _ ?_))
    have hrz_ := Off.row ho_ (Defs.below hb_178 hds_) (Kd.R_below hr4_ hb_178)
    have hen_ : lnEnds (cellsAll xs) = true := by unfold lnEnds; rw [← hall_.1, ← hall_.2]; show (decide (0 < ls_.length) && decide (tx_.length = 0)) = _; rw [decide_eq_true (p := 0 < ls_.length) (by omega), decide_eq_true (p := tx_.length = 0) (by omega)]; rfl
    rw [hen_]
    exact ⟨A4_, c4_, ls_, hall_.1, rfl, (RX.Kd.R_len hrz_).2, hrz_, Off.below ho_ (bt hBw_ hb_178) (fun D_ hm_ => Nat.le_trans ((bt hB_32 hb_34)).size (hdge_ D_ hm_))⟩
   refine xse 4 [(42, .eq bF)] [(2, aL A4_ ls_ c4_), (3, bF), (1000000, encD (D_173 :: []))] [_] ⟨bN c_181, trivial⟩ ?_
   refine XS_nil ?_
   refine X_ret (RX.retM_ok (P := Tryz.prog) (fn := Tryz.f103) (N := 44) (R := R_) (ds := (D_173 :: [])) (dsOf_enc (by kernel_rfl)) (List.nodup_cons.2 ⟨fun h_ => (by cases h_), List.nodup_nil⟩) (Defs.below hb_178 hds_) [.slice A4_ ls_.length c4_, bF] (by kernel_rfl) (fun w_ ho_ => hR_ _ _ ?_))
   have hrz_ := Off.row ho_ (Defs.below hb_178 hds_) (Kd.R_below hr4_ hb_178)
   have hen_ : lnEnds (cellsAll xs) = false := by unfold lnEnds; rw [← hall_.1, ← hall_.2]; show (decide (0 < ls_.length) && decide (tx_.length = 0)) = _; rw [decide_eq_false (p := tx_.length = 0) (by omega), Bool.and_false]
   rw [hen_]
   exact ⟨A4_, c4_, ls_, hall_.1, rfl, (RX.Kd.R_len hrz_).2, hrz_, Off.below ho_ (bt hBw_ hb_178) (fun D_ hm_ => Nat.le_trans ((bt hB_32 hb_34)).size (hdge_ D_ hm_))⟩
  refine xse 8 [(38, .eq bF)] [(2, aL A4_ ls_ c4_), (3, bF), (1000000, encD (D_173 :: []))] [_] ⟨dF c_180, trivial⟩ ?_
  refine XS_nil ?_
  refine X_ret (RX.retM_ok (P := Tryz.prog) (fn := Tryz.f103) (N := 44) (R := R_) (ds := (D_173 :: [])) (dsOf_enc (by kernel_rfl)) (List.nodup_cons.2 ⟨fun h_ => (by cases h_), List.nodup_nil⟩) (Defs.below hb_178 hds_) [.slice A4_ ls_.length c4_, bF] (by kernel_rfl) (fun w_ ho_ => hR_ _ _ ?_))
  have hrz_ := Off.row ho_ (Defs.below hb_178 hds_) (Kd.R_below hr4_ hb_178)
  have hen_ : lnEnds (cellsAll xs) = false := by unfold lnEnds; rw [← hall_.1, ← hall_.2]; show (decide (0 < ls_.length) && decide (tx_.length = 0)) = _; rw [decide_eq_false (p := 0 < ls_.length) (by omega)]; rfl
  rw [hen_]
  exact ⟨A4_, c4_, ls_, hall_.1, rfl, (RX.Kd.R_len hrz_).2, hrz_, Off.below ho_ (bt hBw_ hb_178) (fun D_ hm_ => Nat.le_trans ((bt hB_32 hb_34)).size (hdge_ D_ hm_))⟩
 rintro D_183 c_ pre_ w_182 hD_184 hS_185 hix_ hK_186
 exact hix_.elim
end Go.Proofs.YtgphmfnkeolbcaaGreatDoor
