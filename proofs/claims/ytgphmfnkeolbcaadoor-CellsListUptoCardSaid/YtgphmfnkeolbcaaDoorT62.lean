/- vellumlaw09.stops where just the cells are wanted. Conditions: sizes, the tables of utf8, the errors' variables. -/
import Derived.Test.YtgphmfnkeolbcaaDoorT57
import Derived.Test.YtgphmfnkeolbcaaDoorT33
set_option linter.unusedVariables false
set_option linter.unusedSimpArgs false
set_option maxRecDepth 100000
namespace Go.Proofs.YtgphmfnkeolbcaaDoor
open Go Go.RowKit Go.Proofs.YtgphmfnkeolbcaaDoorW.PrintWords RX
theorem ent17 : Ent Tryd.prog 17 := ent_of Tryd.func17 (by kernel_rfl) rfl
def StopI (w : World) (g8 g4 g5 g6 : Nat) (A : Option Addr) (n c : Nat) (stop : Int) (pre : List ElA) (M : Nat → Prop) (W : World) : Prop :=
 RX.Blk W g8 3 #[.int .i64 (pre.length : Int)] ∧ RX.Blk W g4 28 #[.slice A n c] ∧ RX.Blk W g5 3 #[.int .i64 stop] ∧ RX.Blk W g6 4 #[.bool false] ∧ M = (fun k => k = g8) ∧ Below w.heap.size w W
theorem StopI.own {w : World} {g8 g4 g5 g6 n c B : Nat} {A : Option Addr} {stop : Int} (h : w.heap.size ≤ B) (M : Nat → Prop) : OwnFrom B (fun s W => StopI w g8 g4 g5 g6 A n c stop s M W) := by
 rintro s W W' row ⟨h1, h2, h3, h4, h5, h6⟩ hg hr
 exact ⟨RX.ownFrom_blk (β := Unit) (B := B) (fun _ => g8) _ (fun _ => _) () W W' row h1 hg hr, RX.ownFrom_blk (β := Unit) (B := B) (fun _ => g4) _ (fun _ => _) () W W' row h2 hg hr, RX.ownFrom_blk (β := Unit) (B := B) (fun _ => g5) _ (fun _ => _) () W W' row h3 hg hr, RX.ownFrom_blk (β := Unit) (B := B) (fun _ => g6) _ (fun _ => _) () W W' row h4 hg hr, h5, RX.ownFrom_below' (β := Unit) w h () W W' row h6 hg hr⟩
theorem StopI.im {w : World} {g8 g4 g5 g6 n c lo hi : Nat} {A : Option Addr} {stop : Int} {pre : List ElA} {M : Nat → Prop} {W : World} (h : StopI w g8 g4 g5 g6 A n c stop pre M W) (h1 : w.heap.size ≤ g8) (h2 : hi ≤ g8) : ∀ k, M k → ¬ DI w.heap.size lo hi k ∧ k < W.heap.size := by
 obtain ⟨e1, _, _, _, rfl, _⟩ := h
 rintro k rfl
 exact ⟨fun h => by rcases h with h | h <;> omega, e1.lt⟩
def StopX (w : World) (g8 g4 g5 g6 : Nat) (A : Option Addr) (n c : Nat) (stop : Int) (L : List CellA) (cd : Code) (pre : List ElA) (W : World) : Prop :=
 (cd = .ret ∧ ¬ EOK L pre) ∨ (cd = .exit 0 ∧ (pre.length : Int) = stop ∧ ∃ M, StopI w g8 g4 g5 g6 A n c stop pre M W)
theorem StopX.own {w : World} {g8 g4 g5 g6 n c B : Nat} {A : Option Addr} {stop : Int} {L : List CellA} (h : w.heap.size ≤ B) (cd : Code) : OwnFrom B (StopX w g8 g4 g5 g6 A n c stop L cd) := by
 rintro s W W' row (⟨h1, h2⟩ | ⟨h1, h2, M, h3⟩) hg hr
 ·exact .inl ⟨h1, h2⟩
 exact .inr ⟨h1, h2, M, StopI.own h M s W W' row h3 hg hr⟩
set_option maxHeartbeats 1000000 in
theorem stops9_any (d : Nat) (A : Option Addr) (c : Nat) (zs : List CellA) (stop : Int) (xs ys : List OpA) (w : World) (hd : DeltaC w d xs) (hC : kCell.C w A zs.length zs) (hb : badE xs = 0) (hn : xs.length ≤ 1100000) (hz : ∀ i, i < xs.length → opSz (xs.getD i op0)) (hy : ys = (if isDoc xs = true then xs else [])) (hr : ∀ t, t < ys.length → refuseP (ys.getD t op0) = 0) (hzs : zs = cellsAll ys) (hL : zs.length ≤ 100000000) (hT : Tabs w) (es : List Addr) (hE : ErrsC w es) : Calls Tryd.prog 17 #[.pointer (some ⟨d, 0, none⟩), .slice A zs.length c, .int .i64 stop] w fun e w' => e = .returned (.bool true) ∧ Below w.heap.size w w' := by
 have hny : ys.length ≤ xs.length := by rw [hy]; split <;> simp
 have hLy : (cellsAll ys).length ≤ 100000000 := by rw [← hzs]; exact hL
 have hzl : zs.length = (cellsAll ys).length := by rw [hzs]
 have hzy : ∀ t, t < ys.length → opSz (ys.getD t op0) := by rw [hy]; split <;> intro t ht; (· exact hz t ht); (· simp at ht)
 refine RX.enterM Tryd.func17 rfl 45 rfl [(0, .pointer (some ⟨d, 0, none⟩)), (1, .slice A zs.length c), (2, .int .i64 stop)] rfl (by kernel_rfl) (fun R_ hR_ => ?_)
 refine RX.X_mark0 rfl ?_
 refine sq (rg (xq 1 [] [(0, .pointer (some ⟨d, 0, none⟩)), (2, .int .i64 stop), (4, .pointer (some ⟨w.heap.size, 0, none⟩)), (1000000, encD [])] (w.alloc (.cells #[.slice A zs.length c] 28)) [] trivial ?_))
 obtain ⟨w_1, hw_5, hb_2, hk_3, hz_4⟩ := new_world w #[.slice A zs.length c] 28
 rw [hw_5]
 refine xq 1 [] [(0, .pointer (some ⟨d, 0, none⟩)), (4, .pointer (some ⟨w.heap.size, 0, none⟩)), (5, .pointer (some ⟨w_1.heap.size, 0, none⟩)), (1000000, encD [])] (w_1.alloc (.cells #[.int .i64 stop] 3)) [] trivial ?_
 obtain ⟨w_6, hw_10, hb_7, hk_8, hz_9⟩ := new_world w_1 #[.int .i64 stop] 3
 rw [hw_10]
 refine xq 1 [] [(0, .pointer (some ⟨d, 0, none⟩)), (4, .pointer (some ⟨w.heap.size, 0, none⟩)), (5, .pointer (some ⟨w_1.heap.size, 0, none⟩)), (6, .pointer (some ⟨w_6.heap.size, 0, none⟩)), (1000000, encD [])] (w_6.alloc (.cells #[.bool false] 4)) [] trivial ?_
 obtain ⟨w_11, hw_15, hb_12, hk_13, hz_14⟩ := new_world w_6 #[.bool false] 4
 rw [hw_15]
 refine nl (sq (rg (xq 1 [] [(4, .pointer (some ⟨w.heap.size, 0, none⟩)), (5, .pointer (some ⟨w_1.heap.size, 0, none⟩)), (6, .pointer (some ⟨w_6.heap.size, 0, none⟩)), (11, .pointer (some ⟨d, 0, none⟩)), (1000000, encD [])] w_11 [] trivial ?_)))
 refine xc 27 ent27 [.pointer (some ⟨d, 0, none⟩)] (ceach_any d xs _ (hd.below (bt (bt hb_2 hb_7) hb_12)) hb hn hz) ?_
 rintro e w_24 ⟨g_16, A_17, c_18, zs_19, ez_20, rfl, hge_21, hk_22, hr_23, hb_25⟩; refine ⟨_, rfl, ?_⟩
 rw [← hy] at ez_20; rw [ez_20] at hk_22 hr_23
 have hr9_ : kOp.R 59 w_24 w_11.heap.size (fun k_ => w_11.heap.size ≤ k_ ∧ k_ < w_24.heap.size) (.slice A_17 ys.length c_18) ys := Kd.R_mono (Kd.R_bound hr_23) (fun k_ hk_ => ⟨hk_.2.1, hk_.2.2.1⟩)
 have hgl_ := hk_22.lt
 refine xq 1 [] [(4, .pointer (some ⟨w.heap.size, 0, none⟩)), (5, .pointer (some ⟨w_1.heap.size, 0, none⟩)), (6, .pointer (some ⟨w_6.heap.size, 0, none⟩)), (7, .func (.func 44) #[] #[.pointer (some ⟨g_16, 0, none⟩)]), (1000000, encD [])] w_24 [] trivial ?_
 refine nl (sq (sq (rg (xq 2 [] [(4, .pointer (some ⟨w.heap.size, 0, none⟩)), (5, .pointer (some ⟨w_1.heap.size, 0, none⟩)), (6, .pointer (some ⟨w_6.heap.size, 0, none⟩)), (7, .func (.func 44) #[] #[.pointer (some ⟨g_16, 0, none⟩)]), (14, .bool false), (1000000, encD [])] w_24 [] trivial ?_))))
 refine nl (cf (sk (sq (rg (xq 1 [] [(4, .pointer (some ⟨w.heap.size, 0, none⟩)), (5, .pointer (some ⟨w_1.heap.size, 0, none⟩)), (6, .pointer (some ⟨w_6.heap.size, 0, none⟩)), (7, .func (.func 44) #[] #[.pointer (some ⟨g_16, 0, none⟩)]), (8, .pointer (some ⟨w_24.heap.size, 0, none⟩)), (1000000, encD [])] (w_24.alloc (.cells #[.int .i64 0] 3)) [] trivial ?_)))))
 obtain ⟨w_26, hw_30, hb_27, hk_28, hz_29⟩ := new_world w_24 #[.int .i64 0] 3
 rw [hw_30]
 refine xst (.int .i64 0) hk_28 0 #[.int .i64 0] (fun w_31 hg_32 hk_33 hz_34 => ?_)
 have hne_35 : w.heap.size ≠ w_24.heap.size := Blk.tne (Blk.below hk_3 (bt (bt (bt hb_7 hb_12) hb_25) hb_27)) hk_28 rfl
 have hk_36 := Blk.other (Blk.below hk_3 (bt (bt (bt hb_7 hb_12) hb_25) hb_27)) hg_32 hne_35
 have hne_37 : w_6.heap.size ≠ w_24.heap.size := Blk.tne (Blk.below hk_13 (bt hb_25 hb_27)) hk_28 rfl
 have hk_38 := Blk.other (Blk.below hk_13 (bt hb_25 hb_27)) hg_32 hne_37
 have hne_39 : g_16 ≠ w_24.heap.size := Blk.tne (Blk.below hk_22 hb_27) hk_28 rfl
 have hk_40 := Blk.other (Blk.below hk_22 hb_27) hg_32 hne_39
 refine nl (sq (sq (rg (xq 1 [] [(4, .pointer (some ⟨w.heap.size, 0, none⟩)), (5, .pointer (some ⟨w_1.heap.size, 0, none⟩)), (6, .pointer (some ⟨w_6.heap.size, 0, none⟩)), (8, .pointer (some ⟨w_24.heap.size, 0, none⟩)), (15, .func (.func 44) #[] #[.pointer (some ⟨g_16, 0, none⟩)]), (1000000, encD [])] w_31 [] trivial ?_))))
 refine nl (X_block ?_)
 have hw8_ : w.heap.size ≤ w_24.heap.size := ((bt (bt (bt hb_2 hb_7) hb_12) hb_25)).size
 have hhi8_ : w_24.heap.size ≤ w_24.heap.size := (Nat.le_refl _)
 have hlh_ : w_11.heap.size ≤ w_24.heap.size := (hb_25).size
 have hB_41 : Below w.heap.size w w_31 := (bg (bt (bt (bt (bt hb_2 hb_7) hb_12) hb_25) hb_27) hg_32 ((bt (bt (bt hb_2 hb_7) hb_12) hb_25)).size)
 have hDt_ : ∀ k_, (DI w.heap.size w_11.heap.size w_24.heap.size) k_ → k_ < w_31.heap.size := fun k_ h_ => by have h1_ := ((bg hb_27 hg_32 (Nat.le_refl _))).size; have h2_ := (hB_41).size; rcases h_ with h_ | h_ <;> omega
 have hne_42 : w.heap.size ≠ w_24.heap.size := Nat.ne_of_lt (Nat.lt_of_lt_of_le (Blk.lt hk_3) ((bt (bt hb_7 hb_12) hb_25)).size)
 have hne_43 := Ne.symm hne_42
 have hne_44 : w_1.heap.size ≠ w_24.heap.size := Nat.ne_of_lt (Nat.lt_of_lt_of_le (Blk.lt hk_8) ((bt hb_12 hb_25)).size)
 have hne_45 := Ne.symm hne_44
 have hne_46 : w_6.heap.size ≠ w_24.heap.size := Nat.ne_of_lt (Nat.lt_of_lt_of_le (Blk.lt hk_13) (hb_25).size)
 have hne_47 := Ne.symm hne_46
 have hB_48 : Below w_6.heap.size w_6 w_31 := (bg (bt (bt hb_12 hb_25) hb_27) hg_32 ((bt hb_12 hb_25)).size)
 refine X_rangeM (α := ElA) (ι := Nat) rfl ent44 (encs := elV) (ceach_seq (DI w.heap.size w_11.heap.size w_24.heap.size) (fun k_ => w_11.heap.size ≤ k_ ∧ k_ < w_24.heap.size) w_11.heap.size g_16 A_17 c_18 ys w w_31 (Kd.R_below hr9_ (bg hb_27 hg_32 (Nat.le_refl _))) (fun k_ h_ => .inr h_) (fun k_ h_ => .inl h_) hDt_ hB_41 (by omega) hr hzy hT es hE hk_40 (by omega)) (Below.refl _ _) hDt_ (fun _ => rfl) (by kernel_rfl) (fun pre_ M_ W_ => StopI w w_24.heap.size w.heap.size w_1.heap.size w_6.heap.size A zs.length c stop pre_ M_ W_) (fun c_ pre_ W_ => StopX w w_24.heap.size w.heap.size w_1.heap.size w_6.heap.size A zs.length c stop (cellsAll ys) c_ pre_ W_) (fun M_ => StopI.own (hB_41).size M_) (fun c_ => StopX.own (hB_41).size c_) (fun _ _ _ h_ => StopI.im h_ hw8_ hhi8_) (fun k_ => k_ = w_24.heap.size) ⟨hk_33, hk_36, (Blk.below hk_8 hB_48), hk_38, rfl, hB_41⟩ (fun x_ i_ W_ => RX.Blk W_ i_ 44 #[.int .i32 x_.2.1.rune, .string x_.2.1.kind, .int .i64 x_.2.1.vk, .int .i64 x_.2.1.vn, .string x_.2.1.vt, .slice x_.2.2.1 x_.2.1.attrs.length x_.2.2.2] ∧ ElPx w_31.heap.size x_ W_) (fun i_ => OwnFrom.and (ownFrom_blk (fun _ => i_) 44 (fun (x_ : ElA) => #[.int .i32 x_.2.1.rune, .string x_.2.1.kind, .int .i64 x_.2.1.vk, .int .i64 x_.2.1.vn, .string x_.2.1.vt, .slice x_.2.2.1 x_.2.1.attrs.length x_.2.2.2])) ownFrom_px) (fun x_ i_ => [(4, .pointer (some ⟨w.heap.size, 0, none⟩)), (5, .pointer (some ⟨w_1.heap.size, 0, none⟩)), (6, .pointer (some ⟨w_6.heap.size, 0, none⟩)), (8, .pointer (some ⟨w_24.heap.size, 0, none⟩)), (9, .int .i64 x_.1), (10, .pointer (some ⟨i_, 0, none⟩))]) ?_ ?_ ?_ ?_
 ·rintro lp_ pre_ M_ x_ W_ hlp_ hws_ ⟨hk8_, hk4_, hk5_, hk6_, hM_, hBw_⟩ hpx_ hlen_
  have hg8l_ := hk8_.lt
  refine XI_keep [4, 5, 6, 8, 15, 16, 17] [(4, .pointer (some ⟨w.heap.size, 0, none⟩)), (5, .pointer (some ⟨w_1.heap.size, 0, none⟩)), (6, .pointer (some ⟨w_6.heap.size, 0, none⟩)), (8, .pointer (some ⟨w_24.heap.size, 0, none⟩)), (15, .func (.func 44) #[] #[.pointer (some ⟨g_16, 0, none⟩)]), (16, .int .i64 x_.1), (17, .agg #[.int .i32 x_.2.1.rune, .string x_.2.1.kind, .int .i64 x_.2.1.vk, .int .i64 x_.2.1.vn, .string x_.2.1.vt, .slice x_.2.2.1 x_.2.1.attrs.length x_.2.2.2])] (by kernel_rfl) ?_
  refine XI_seq ?_
  refine XI_region (by kernel_rfl) (fun _ _ h_ => h_) ?_
  refine xq 1 [] [(4, .pointer (some ⟨w.heap.size, 0, none⟩)), (5, .pointer (some ⟨w_1.heap.size, 0, none⟩)), (6, .pointer (some ⟨w_6.heap.size, 0, none⟩)), (8, .pointer (some ⟨w_24.heap.size, 0, none⟩)), (9, .int .i64 x_.1), (17, .agg #[.int .i32 x_.2.1.rune, .string x_.2.1.kind, .int .i64 x_.2.1.vk, .int .i64 x_.2.1.vn, .string x_.2.1.vt, .slice x_.2.2.1 x_.2.1.attrs.length x_.2.2.2])] W_ [] trivial ?_
  refine nl (XI_region (by kernel_rfl) (fun _ _ h_ => h_) ?_)
  refine xq 1 [] [(4, .pointer (some ⟨w.heap.size, 0, none⟩)), (5, .pointer (some ⟨w_1.heap.size, 0, none⟩)), (6, .pointer (some ⟨w_6.heap.size, 0, none⟩)), (8, .pointer (some ⟨w_24.heap.size, 0, none⟩)), (9, .int .i64 x_.1), (10, .pointer (some ⟨W_.heap.size, 0, none⟩)), (17, .agg #[.int .i32 x_.2.1.rune, .string x_.2.1.kind, .int .i64 x_.2.1.vk, .int .i64 x_.2.1.vn, .string x_.2.1.vt, .slice x_.2.2.1 x_.2.1.attrs.length x_.2.2.2])] (W_.alloc (.cells #[.int .i32 0, .string ByteArray.empty, .int .i64 0, .int .i64 0, .string ByteArray.empty, .slice none 0 0] 44)) [] trivial ?_
  obtain ⟨w_49, hw_53, hb_50, hk_51, hz_52⟩ := new_world W_ #[.int .i32 0, .string ByteArray.empty, .int .i64 0, .int .i64 0, .string ByteArray.empty, .slice none 0 0] 44
  rw [hw_53]
  refine xst (.agg #[.int .i32 x_.2.1.rune, .string x_.2.1.kind, .int .i64 x_.2.1.vk, .int .i64 x_.2.1.vn, .string x_.2.1.vt, .slice x_.2.2.1 x_.2.1.attrs.length x_.2.2.2]) hk_51 0 #[.int .i32 x_.2.1.rune, .string x_.2.1.kind, .int .i64 x_.2.1.vk, .int .i64 x_.2.1.vn, .string x_.2.1.vt, .slice x_.2.2.1 x_.2.1.attrs.length x_.2.2.2] (fun w_54 hg_55 hk_56 hz_57 => ?_)
  have hne_58 : w_24.heap.size ≠ W_.heap.size := Blk.tne (Blk.below hk8_ hb_50) hk_51 rfl
  have hk_59 := Blk.other (Blk.below hk8_ hb_50) hg_55 hne_58
  have hne_60 : w.heap.size ≠ W_.heap.size := Blk.tne (Blk.below hk4_ hb_50) hk_51 rfl
  have hk_61 := Blk.other (Blk.below hk4_ hb_50) hg_55 hne_60
  have hne_62 : w_1.heap.size ≠ W_.heap.size := Blk.tne (Blk.below hk5_ hb_50) hk_51 rfl
  have hk_63 := Blk.other (Blk.below hk5_ hb_50) hg_55 hne_62
  have hne_64 : w_6.heap.size ≠ W_.heap.size := Blk.tne (Blk.below hk6_ hb_50) hk_51 rfl
  have hk_65 := Blk.other (Blk.below hk6_ hb_50) hg_55 hne_64
  refine nl ?_
  have hDw_ : ∀ k_, (DI w.heap.size w_11.heap.size w_24.heap.size) k_ → k_ < W_.heap.size := fun k_ h_ => by have := hDt_ k_ h_; omega
  exact ⟨W_.heap.size, by kernel_rfl, (KeepsFrom.trans (keeps_below hb_50) (keeps_store hk_51 hg_55)), KpM.below hDw_ ((bg hb_50 hg_55 (Nat.le_refl _)) : Below W_.heap.size W_ w_54), ⟨hk_59, hk_61, hk_63, hk_65, hM_, (bg (bt hBw_ hb_50) hg_55 (hBw_).size)⟩, hk_56, ElPx.below ((bg hb_50 hg_55 (Nat.le_refl _)) : Below W_.heap.size W_ w_54) hpx_⟩
 ·rintro lp_ pre_ M_ x_ i_ W_ hlp_ hws_ ⟨hk8_, hk4_, hk5_, hk6_, hM_, hBw_⟩ ⟨hki_, hpx_⟩ hlen_
  have hg8l_ := hk8_.lt
  obtain ⟨hx0_, wb_, hwb_, hlk_, hra_⟩ := hpx_
  refine XI_block ?_
  refine XI_seq ?_
  refine XI_seq ?_
  refine XI_any (by kernel_rfl) (fun _ _ h_ => h_) [10] 13 #[false, false, false, false, false, false, false, false, false, false, false, false, false] (by kernel_rfl) (by kernel_rfl) (by kernel_rfl) (fun wd_66 hb_67 hh_68 => ?_)
  refine XA_run (fuel' := 10) [0, 1, 2] [(19, .load (.slice A zs.length c))] [.int .i64 x_.1, .slice A zs.length c, .int .i64 (zs.length : Int)] #[true, true, true, false, false, false, false, false, false, false, false, false, false] [(4, .pointer (some ⟨w.heap.size, 0, none⟩)), (5, .pointer (some ⟨w_1.heap.size, 0, none⟩)), (6, .pointer (some ⟨w_6.heap.size, 0, none⟩)), (8, .pointer (some ⟨w_24.heap.size, 0, none⟩)), (9, .int .i64 x_.1), (10, .pointer (some ⟨i_, 0, none⟩)), (18, .int .i64 x_.1), (20, .int .i64 (zs.length : Int))] [LoadsAs Tryd.prog 28 (⟨w.heap.size, 0, none⟩) (.slice A zs.length c) wd_66] (fun _ _ _ _ h => h) (by kernel_rfl) rfl ⟨loads1 rfl (Blk.cell (Blk.below hk4_ hb_67) 0 _ rfl), trivial⟩ ?_
  by_cases c_69 : x_.1 ≥ (zs.length : Int)
  ·refine XA_run (fuel' := 3) [3, 4, 5, 6, 7, 8, 9] [(21, .eq (.bool true))] [.bool true, .bool true, undef, undef, undef, undef, undef] #[true, true, true, true, true, true, true, true, true, true, false, false, false] [(4, .pointer (some ⟨w.heap.size, 0, none⟩)), (5, .pointer (some ⟨w_1.heap.size, 0, none⟩)), (6, .pointer (some ⟨w_6.heap.size, 0, none⟩)), (8, .pointer (some ⟨w_24.heap.size, 0, none⟩)), (22, .bool true), (23, undef), (27, undef)] [Value.bool (decide (x_.1 ≥ (zs.length : Int))) = Value.bool true] (fun _ _ _ _ h => h) (by kernel_rfl) rfl ⟨congrArg Value.bool (decide_eq_true (c_69)), trivial⟩ ?_
   refine XA_pure (fuel' := 2) [10] [] [undef] #[true, true, true, true, true, true, true, true, true, true, true, false, false] [(4, .pointer (some ⟨w.heap.size, 0, none⟩)), (5, .pointer (some ⟨w_1.heap.size, 0, none⟩)), (6, .pointer (some ⟨w_6.heap.size, 0, none⟩)), (8, .pointer (some ⟨w_24.heap.size, 0, none⟩)), (22, .bool true), (28, undef)] (fun w_ => []) (fun _ _ _ _ h => h) (fun w_ => by kernel_rfl) rfl (fun w_ => trivial) ?_
   refine XA_pure (fuel' := 0) [11, 12] [] [undef, .bool true] #[true, true, true, true, true, true, true, true, true, true, true, true, true] [(4, .pointer (some ⟨w.heap.size, 0, none⟩)), (5, .pointer (some ⟨w_1.heap.size, 0, none⟩)), (6, .pointer (some ⟨w_6.heap.size, 0, none⟩)), (8, .pointer (some ⟨w_24.heap.size, 0, none⟩)), (30, .bool true)] (fun w_ => []) (fun _ _ _ _ h => h) (fun w_ => by kernel_rfl) rfl (fun w_ => trivial) ?_
   refine XA_done (by kernel_rfl) ?_
   refine XI_cond true rfl ?_
   refine XI_seq ?_
   refine XI_region (by kernel_rfl) (fun _ _ h_ => h_) ?_
   refine xst (.bool false) (Blk.below hk6_ hb_67) 0 #[.bool false] (fun w_70 hg_71 hk_72 hz_73 => ?_)
   have hk_74 := Blk.other (Blk.below hk8_ hb_67) hg_71 hne_47
   have hne_75 : w.heap.size ≠ w_6.heap.size := Nat.ne_of_lt (Nat.lt_of_lt_of_le (Blk.lt hk_3) (hb_7).size)
   have hk_76 := Blk.other (Blk.below hk4_ hb_67) hg_71 hne_75
   have hne_77 : w_1.heap.size ≠ w_6.heap.size := Nat.ne_of_lt (Nat.lt_of_lt_of_le (Blk.lt hk_8) (Nat.le_refl _))
   have hk_78 := Blk.other (Blk.below hk5_ hb_67) hg_71 hne_77
   have hne_79 : i_ ≠ w_6.heap.size := Blk.tne (Blk.below hki_ hb_67) (Blk.below hk6_ hb_67) rfl
   have hk_80 := Blk.other (Blk.below hki_ hb_67) hg_71 hne_79
   have hr_81 := Kd.R_off (Kd.R_below hra_ hb_67) (Blk.below hk6_ hb_67) (by decide) hg_71
   refine nl (XI_ret ?_)
   exact ⟨(KeepsFrom.trans (keeps_below hb_67) (keeps_store (Blk.below hk6_ hb_67) hg_71)), .inl ⟨rfl, fun h_ => by have h1_ := (EOK.last h_).1; have h2_ := (EOK.last h_).2.1; omega⟩⟩
  refine XA_run (fuel' := 5) [3, 4, 5, 6, 7] [(21, .eq (.bool false)), (23, .load (.agg #[.int .i32 x_.2.1.rune, .string x_.2.1.kind, .int .i64 x_.2.1.vk, .int .i64 x_.2.1.vn, .string x_.2.1.vt, .slice x_.2.2.1 x_.2.1.attrs.length x_.2.2.2])), (24, .load (.slice A zs.length c))] [.bool false, .bool false, .agg #[.int .i32 x_.2.1.rune, .string x_.2.1.kind, .int .i64 x_.2.1.vk, .int .i64 x_.2.1.vn, .string x_.2.1.vt, .slice x_.2.2.1 x_.2.1.attrs.length x_.2.2.2], .slice A zs.length c, .int .i64 x_.1] #[true, true, true, true, true, true, true, true, false, false, false, false, false] [(4, .pointer (some ⟨w.heap.size, 0, none⟩)), (5, .pointer (some ⟨w_1.heap.size, 0, none⟩)), (6, .pointer (some ⟨w_6.heap.size, 0, none⟩)), (8, .pointer (some ⟨w_24.heap.size, 0, none⟩)), (22, .bool false), (23, .agg #[.int .i32 x_.2.1.rune, .string x_.2.1.kind, .int .i64 x_.2.1.vk, .int .i64 x_.2.1.vn, .string x_.2.1.vt, .slice x_.2.2.1 x_.2.1.attrs.length x_.2.2.2]), (24, .slice A zs.length c), (25, .int .i64 x_.1)] [Value.bool (decide (x_.1 ≥ (zs.length : Int))) = Value.bool false, LoadsAs Tryd.prog 44 (⟨i_, 0, none⟩) (.agg #[.int .i32 x_.2.1.rune, .string x_.2.1.kind, .int .i64 x_.2.1.vk, .int .i64 x_.2.1.vn, .string x_.2.1.vt, .slice x_.2.2.1 x_.2.1.attrs.length x_.2.2.2]) wd_66, LoadsAs Tryd.prog 28 (⟨w.heap.size, 0, none⟩) (.slice A zs.length c) wd_66] (fun _ _ _ _ h => h) (by kernel_rfl) rfl ⟨congrArg Value.bool (decide_eq_false (c_69)), loadsB rfl rfl (Blk.below hki_ hb_67) 0 ⟨by kernel_rfl, by kernel_rfl⟩, loads1 rfl (Blk.cell (Blk.below hk4_ hb_67) 0 _ rfl), trivial⟩ ?_
  obtain ⟨ad_82, B_85, c_86, ha_83, hc_84, hl_87, hC_88⟩ := Kd.atCell (Kd.C_below hC (bt hBw_ hb_67)) (i := x_.1) (by omega) (by omega)
  replace hc_84 : CellsAt wd_66 (ad_82.add (x_.1.toNat * 6)) (c6L (zs.getD x_.1.toNat cell0) (.slice B_85 ((zs.getD x_.1.toNat cell0).attrs.length) c_86)) := hc_84
  replace hl_87 : (zs.getD x_.1.toNat cell0).attrs.length ≤ c_86 := hl_87
  replace hC_88 : kAttr.C wd_66 B_85 ((zs.getD x_.1.toNat cell0).attrs.length) (zs.getD x_.1.toNat cell0).attrs := hC_88
  refine XA_run (fuel' := 3) [8, 9] [(26, .idx ad_82), (27, .load (.agg (c6A (zs.getD x_.1.toNat cell0) (.slice B_85 ((zs.getD x_.1.toNat cell0).attrs.length) c_86))))] [.pointer (some (ad_82.add (x_.1.toNat * 6))), .agg (c6A (zs.getD x_.1.toNat cell0) (.slice B_85 ((zs.getD x_.1.toNat cell0).attrs.length) c_86))] #[true, true, true, true, true, true, true, true, true, true, false, false, false] [(4, .pointer (some ⟨w.heap.size, 0, none⟩)), (5, .pointer (some ⟨w_1.heap.size, 0, none⟩)), (6, .pointer (some ⟨w_6.heap.size, 0, none⟩)), (8, .pointer (some ⟨w_24.heap.size, 0, none⟩)), (22, .bool false), (23, .agg #[.int .i32 x_.2.1.rune, .string x_.2.1.kind, .int .i64 x_.2.1.vk, .int .i64 x_.2.1.vn, .string x_.2.1.vt, .slice x_.2.2.1 x_.2.1.attrs.length x_.2.2.2]), (27, .agg (c6A (zs.getD x_.1.toNat cell0) (.slice B_85 ((zs.getD x_.1.toNat cell0).attrs.length) c_86)))] [A = some ad_82, (0 : Int) ≤ x_.1, x_.1 < (zs.length : Int), LoadsAs Tryd.prog 44 (ad_82.add (x_.1.toNat * 6)) (.agg (c6A (zs.getD x_.1.toNat cell0) (.slice B_85 ((zs.getD x_.1.toNat cell0).attrs.length) c_86))) wd_66] (fun _ _ _ _ h => h) (by kernel_rfl) rfl ⟨ha_83, (by omega), (by omega), loadsE rfl rfl hc_84 0 ⟨by kernel_rfl, by kernel_rfl⟩, trivial⟩ ?_
  refine XA_act (fuel' := 2) 10 #[true, true, true, true, true, true, true, true, true, true, true, false, false] _ rfl (by kernel_rfl) rfl (by kernel_rfl) rfl ?_
  refine xc 16 ent16 [.agg #[.int .i32 x_.2.1.rune, .string x_.2.1.kind, .int .i64 x_.2.1.vk, .int .i64 x_.2.1.vn, .string x_.2.1.vt, .slice x_.2.2.1 x_.2.1.attrs.length x_.2.2.2], .agg (c6A (zs.getD x_.1.toNat cell0) (.slice B_85 ((zs.getD x_.1.toNat cell0).attrs.length) c_86))] (r9same_any x_.2.1 (zs.getD x_.1.toNat cell0) _ _ _ _ _ (Kd.R_C (Kd.R_below hra_ hb_67)) hC_88) ?_
  rintro e w_89 ⟨rfl, hb_90⟩; refine ⟨_, rfl, ?_⟩
  refine nl ?_
  by_cases c_91 : cEqP x_.2.1 (zs.getD x_.1.toNat cell0) = true
  ·rw [show (cEqP x_.2.1 (zs.getD x_.1.toNat cell0) : Bool) = true from by simpa using c_91]
   refine XA_pure (fuel' := 0) [11, 12] [] [.bool false, .bool false] #[true, true, true, true, true, true, true, true, true, true, true, true, true] [(4, .pointer (some ⟨w.heap.size, 0, none⟩)), (5, .pointer (some ⟨w_1.heap.size, 0, none⟩)), (6, .pointer (some ⟨w_6.heap.size, 0, none⟩)), (8, .pointer (some ⟨w_24.heap.size, 0, none⟩)), (30, .bool false)] (fun w_ => []) (fun _ _ _ _ h => h) (fun w_ => by kernel_rfl) rfl (fun w_ => trivial) ?_
   refine XA_done (by kernel_rfl) ?_
   refine XI_cond false rfl ?_
   refine XI_skip ?_
   refine XI_seq ?_
   refine XI_region (by kernel_rfl) (fun _ _ h_ => h_) ?_
   refine xq 2 [(31, .load (.int .i64 (pre_.length : Int))), (32, .eq (.int .i64 ((pre_.length : Int) + 1)))] [(4, .pointer (some ⟨w.heap.size, 0, none⟩)), (5, .pointer (some ⟨w_1.heap.size, 0, none⟩)), (6, .pointer (some ⟨w_6.heap.size, 0, none⟩)), (8, .pointer (some ⟨w_24.heap.size, 0, none⟩)), (32, .int .i64 ((pre_.length : Int) + 1))] w_89 [LoadsAs Tryd.prog 3 (⟨w_24.heap.size, 0, none⟩) (.int .i64 (pre_.length : Int)) w_89, Value.int .i64 (IntKind.i64.wrap ((pre_.length : Int) + 1)) = Value.int .i64 ((pre_.length : Int) + 1)] ⟨loads1 rfl (Blk.cell (Blk.below hk8_ (bt hb_67 hb_90)) 0 _ rfl), wr_i64 (by omega) (by omega), trivial⟩ ?_
   refine xst (.int .i64 ((pre_.length : Int) + 1)) (Blk.below hk8_ (bt hb_67 hb_90)) 0 #[.int .i64 ((pre_.length : Int) + 1)] (fun w_92 hg_93 hk_94 hz_95 => ?_)
   have hk_96 := Blk.other (Blk.below hk4_ (bt hb_67 hb_90)) hg_93 hne_42
   have hk_97 := Blk.other (Blk.below hk5_ (bt hb_67 hb_90)) hg_93 hne_44
   have hk_98 := Blk.other (Blk.below hk6_ (bt hb_67 hb_90)) hg_93 hne_46
   have hne_99 : i_ ≠ w_24.heap.size := Blk.tne (Blk.below hki_ (bt hb_67 hb_90)) (Blk.below hk8_ (bt hb_67 hb_90)) rfl
   have hk_100 := Blk.other (Blk.below hki_ (bt hb_67 hb_90)) hg_93 hne_99
   have hr_101 := Kd.R_off (Kd.R_below hra_ (bt hb_67 hb_90)) (Blk.below hk8_ (bt hb_67 hb_90)) (by decide) hg_93
   refine nl (XI_seq ?_)
   refine XI_region (by kernel_rfl) (fun _ _ h_ => h_) ?_
   refine xq 2 [(33, .load (.int .i64 ((pre_.length : Int) + 1))), (34, .load (.int .i64 stop))] [(4, .pointer (some ⟨w.heap.size, 0, none⟩)), (5, .pointer (some ⟨w_1.heap.size, 0, none⟩)), (6, .pointer (some ⟨w_6.heap.size, 0, none⟩)), (8, .pointer (some ⟨w_24.heap.size, 0, none⟩)), (33, .int .i64 ((pre_.length : Int) + 1)), (34, .int .i64 stop)] w_92 [LoadsAs Tryd.prog 3 (⟨w_24.heap.size, 0, none⟩) (.int .i64 ((pre_.length : Int) + 1)) w_92, LoadsAs Tryd.prog 3 (⟨w_1.heap.size, 0, none⟩) (.int .i64 stop) w_92] ⟨loads1 rfl (Blk.cell hk_94 0 _ rfl), loads1 rfl (Blk.cell hk_97 0 _ rfl), trivial⟩ ?_
   by_cases c_102 : (pre_.length : Int) + 1 = stop
   ·refine xq 1 [(35, .eq (.bool true))] [(4, .pointer (some ⟨w.heap.size, 0, none⟩)), (5, .pointer (some ⟨w_1.heap.size, 0, none⟩)), (6, .pointer (some ⟨w_6.heap.size, 0, none⟩)), (8, .pointer (some ⟨w_24.heap.size, 0, none⟩)), (35, .bool true)] w_92 [Value.bool ((pre_.length : Int) + 1 == stop) = Value.bool true] ⟨congrArg Value.bool (beq_iff_eq.2 (c_102)), trivial⟩ ?_
    refine nl (XI_cond true rfl ?_)
    refine XI_exit ?_
    have hB_103 : Below w.heap.size w w_92 := (bg (bt (bt hBw_ hb_67) hb_90) hg_93 ((bt (bt (bt hb_2 hb_7) hb_12) hb_25)).size)
    exact ⟨(KeepsFrom.trans (KeepsFrom.trans (keeps_below hb_67) (keeps_below hb_90)) (keeps_store (Blk.below hk8_ (bt hb_67 hb_90)) hg_93)), .inr ⟨rfl, by rw [List.length_append, List.length_singleton]; have h_ := c_102; omega, _, ⟨by rw [List.length_append, List.length_singleton]; exact hk_94, hk_96, hk_97, hk_98, rfl, hB_103⟩⟩⟩
   refine xq 1 [(35, .eq (.bool false))] [(4, .pointer (some ⟨w.heap.size, 0, none⟩)), (5, .pointer (some ⟨w_1.heap.size, 0, none⟩)), (6, .pointer (some ⟨w_6.heap.size, 0, none⟩)), (8, .pointer (some ⟨w_24.heap.size, 0, none⟩)), (35, .bool false)] w_92 [Value.bool ((pre_.length : Int) + 1 == stop) = Value.bool false] ⟨congrArg Value.bool (beq_eq_false_iff_ne.2 (c_102)), trivial⟩ ?_
   refine nl (XI_cond false rfl ?_)
   refine XI_skip ?_
   have hDw_ : ∀ k_, (DI w.heap.size w_11.heap.size w_24.heap.size) k_ → k_ < W_.heap.size := fun k_ h_ => by have := hDt_ k_ h_; omega
   have hB_104 : Below w.heap.size w w_92 := (bg (bt (bt hBw_ hb_67) hb_90) hg_93 ((bt (bt (bt hb_2 hb_7) hb_12) hb_25)).size)
   exact ⟨(KeepsFrom.trans (KeepsFrom.trans (keeps_below hb_67) (keeps_below hb_90)) (keeps_store (Blk.below hk8_ (bt hb_67 hb_90)) hg_93)), M_, (KpM.trans (KpM.trans (KpM.below (fun k_ h_ => Nat.lt_of_lt_of_le (hDw_ k_ h_) (Nat.le_refl _)) hb_67) (KpM.below (fun k_ h_ => Nat.lt_of_lt_of_le (hDw_ k_ h_) hb_67.size) hb_90)) (KpM.grown hg_93 (fun k_ e_ => by injection e_ with e_; subst e_; exact ⟨by rw [hM_], fun h_ => by rcases h_ with h_ | h_ <;> omega⟩) (fun k_ h_ => Nat.lt_of_lt_of_le (hDw_ k_ h_) (Nat.le_trans hb_67.size hb_90.size)))), (fun k_ h_ => .inl h_), ⟨by rw [List.length_append, List.length_singleton]; exact hk_94, hk_96, hk_97, hk_98, hM_, hB_104⟩⟩
  rw [show (cEqP x_.2.1 (zs.getD x_.1.toNat cell0) : Bool) = false from by simpa using c_91]
  refine XA_pure (fuel' := 0) [11, 12] [] [.bool true, .bool true] #[true, true, true, true, true, true, true, true, true, true, true, true, true] [(4, .pointer (some ⟨w.heap.size, 0, none⟩)), (5, .pointer (some ⟨w_1.heap.size, 0, none⟩)), (6, .pointer (some ⟨w_6.heap.size, 0, none⟩)), (8, .pointer (some ⟨w_24.heap.size, 0, none⟩)), (30, .bool true)] (fun w_ => []) (fun _ _ _ _ h => h) (fun w_ => by kernel_rfl) rfl (fun w_ => trivial) ?_
  refine XA_done (by kernel_rfl) ?_
  refine XI_cond true rfl ?_
  refine XI_seq ?_
  refine XI_region (by kernel_rfl) (fun _ _ h_ => h_) ?_
  refine xst (.bool false) (Blk.below hk6_ (bt hb_67 hb_90)) 0 #[.bool false] (fun w_105 hg_106 hk_107 hz_108 => ?_)
  have hk_109 := Blk.other (Blk.below hk8_ (bt hb_67 hb_90)) hg_106 hne_47
  have hne_110 : w.heap.size ≠ w_6.heap.size := Nat.ne_of_lt (Nat.lt_of_lt_of_le (Blk.lt hk_3) (hb_7).size)
  have hk_111 := Blk.other (Blk.below hk4_ (bt hb_67 hb_90)) hg_106 hne_110
  have hne_112 : w_1.heap.size ≠ w_6.heap.size := Nat.ne_of_lt (Nat.lt_of_lt_of_le (Blk.lt hk_8) (Nat.le_refl _))
  have hk_113 := Blk.other (Blk.below hk5_ (bt hb_67 hb_90)) hg_106 hne_112
  have hne_114 : i_ ≠ w_6.heap.size := Blk.tne (Blk.below hki_ (bt hb_67 hb_90)) (Blk.below hk6_ (bt hb_67 hb_90)) rfl
  have hk_115 := Blk.other (Blk.below hki_ (bt hb_67 hb_90)) hg_106 hne_114
  have hr_116 := Kd.R_off (Kd.R_below hra_ (bt hb_67 hb_90)) (Blk.below hk6_ (bt hb_67 hb_90)) (by decide) hg_106
  refine nl (XI_ret ?_)
  exact ⟨(KeepsFrom.trans (KeepsFrom.trans (keeps_below hb_67) (keeps_below hb_90)) (keeps_store (Blk.below hk6_ (bt hb_67 hb_90)) hg_106)), .inl ⟨rfl, fun h_ => c_91 (by have h1_ := EOK.last h_; rw [(cEqP_iff _ _).2 (show x_.2.1 = zs.getD x_.1.toNat cell0 from by rw [h1_.2.2, h1_.2.1, hzs]; rfl)])⟩⟩
 ·rintro D_118 pre_ M_ w_117 hD_119 hS_120 ⟨hk8_, hk4_, hk5_, hk6_, hM_, hBw_⟩ hK_121
  have hall_ := hS_120.2
  have hg8l_ := hk8_.lt
  have hlo_ : w_31.heap.size ≤ w_31.heap.size := Nat.le_refl _
  have hds_ : Defs (D_118 :: []) w_117 := Defs.cons hK_121 (fun _ h_ => by cases h_)
  have hdge_ : ∀ D_ ∈ D_118 :: [], w_31.heap.size ≤ D_ := fun D_ hm_ => (List.mem_cons.1 hm_).elim (fun e_ => by omega) (fun h_ => by cases h_)
  refine sq (rg (xq 3 [(36, .load (.int .i64 (pre_.length : Int))), (37, .load (.slice A zs.length c))] [(5, .pointer (some ⟨w_1.heap.size, 0, none⟩)), (6, .pointer (some ⟨w_6.heap.size, 0, none⟩)), (8, .pointer (some ⟨w_24.heap.size, 0, none⟩)), (36, .int .i64 (pre_.length : Int)), (38, .int .i64 (zs.length : Int)), (1000000, encD (D_118 :: []))] w_117 [LoadsAs Tryd.prog 3 (⟨w_24.heap.size, 0, none⟩) (.int .i64 (pre_.length : Int)) w_117, LoadsAs Tryd.prog 28 (⟨w.heap.size, 0, none⟩) (.slice A zs.length c) w_117] ⟨loads1 rfl (Blk.cell hk8_ 0 _ rfl), loads1 rfl (Blk.cell hk4_ 0 _ rfl), trivial⟩ ?_))
  by_cases c_122 : (pre_.length : Int) = (zs.length : Int)
  ·refine xq 6 [(39, .eq (.bool true))] [(6, .pointer (some ⟨w_6.heap.size, 0, none⟩)), (44, .bool true), (1000000, encD (D_118 :: []))] w_117 [Value.bool ((pre_.length : Int) == (zs.length : Int)) = Value.bool true] ⟨congrArg Value.bool (beq_iff_eq.2 (c_122)), trivial⟩ ?_
   refine xst (.bool true) hk6_ 0 #[.bool true] (fun w_123 hg_124 hk_125 hz_126 => ?_)
   have hk_127 := Blk.other hk8_ hg_124 hne_47
   have hne_128 : w.heap.size ≠ w_6.heap.size := Nat.ne_of_lt (Nat.lt_of_lt_of_le (Blk.lt hk_3) (hb_7).size)
   have hk_129 := Blk.other hk4_ hg_124 hne_128
   have hne_130 : w_1.heap.size ≠ w_6.heap.size := Nat.ne_of_lt (Nat.lt_of_lt_of_le (Blk.lt hk_8) (Nat.le_refl _))
   have hk_131 := Blk.other hk5_ hg_124 hne_130
   refine nl (X_ret (RX.retM_cell (P := Tryd.prog) (fn := Tryd.f17) (N := 45) (R := R_) (c := 6) (t := 4) (p := ⟨w_6.heap.size, 0, none⟩) (v := .bool true) (ds := (D_118 :: [])) (dsOf_enc (by kernel_rfl)) (List.nodup_cons.2 ⟨fun h_ => (by cases h_), List.nodup_nil⟩) (Defs.store hk6_ hg_124 hds_) rfl rfl hk_125 (fun w_ hb_ => loads1 rfl (Blk.cell hb_ 0 _ rfl)) (fun w_ ho_ => hR_ _ _ ?_)))
   exact ⟨rfl, Off.below ho_ (bg hBw_ hg_124 ((bt hb_2 hb_7)).size) (fun D_ hm_ => Nat.le_trans (hB_41).size (hdge_ D_ hm_))⟩
  refine xq 4 [(39, .eq (.bool false)), (41, .load (.int .i64 (pre_.length : Int))), (42, .load (.int .i64 stop))] [(6, .pointer (some ⟨w_6.heap.size, 0, none⟩)), (40, .bool false), (41, .int .i64 (pre_.length : Int)), (42, .int .i64 stop), (1000000, encD (D_118 :: []))] w_117 [Value.bool ((pre_.length : Int) == (zs.length : Int)) = Value.bool false, LoadsAs Tryd.prog 3 (⟨w_24.heap.size, 0, none⟩) (.int .i64 (pre_.length : Int)) w_117, LoadsAs Tryd.prog 3 (⟨w_1.heap.size, 0, none⟩) (.int .i64 stop) w_117] ⟨congrArg Value.bool (beq_eq_false_iff_ne.2 (c_122)), loads1 rfl (Blk.cell hk8_ 0 _ rfl), loads1 rfl (Blk.cell hk5_ 0 _ rfl), trivial⟩ ?_
  by_cases c_132 : (pre_.length : Int) = stop
  ·refine xq 2 [(43, .eq (.bool true))] [(6, .pointer (some ⟨w_6.heap.size, 0, none⟩)), (44, .bool true), (1000000, encD (D_118 :: []))] w_117 [Value.bool ((pre_.length : Int) == stop) = Value.bool true] ⟨congrArg Value.bool (beq_iff_eq.2 (c_132)), trivial⟩ ?_
   refine xst (.bool true) hk6_ 0 #[.bool true] (fun w_133 hg_134 hk_135 hz_136 => ?_)
   have hk_137 := Blk.other hk8_ hg_134 hne_47
   have hne_138 : w.heap.size ≠ w_6.heap.size := Nat.ne_of_lt (Nat.lt_of_lt_of_le (Blk.lt hk_3) (hb_7).size)
   have hk_139 := Blk.other hk4_ hg_134 hne_138
   have hne_140 : w_1.heap.size ≠ w_6.heap.size := Nat.ne_of_lt (Nat.lt_of_lt_of_le (Blk.lt hk_8) (Nat.le_refl _))
   have hk_141 := Blk.other hk5_ hg_134 hne_140
   refine nl (X_ret (RX.retM_cell (P := Tryd.prog) (fn := Tryd.f17) (N := 45) (R := R_) (c := 6) (t := 4) (p := ⟨w_6.heap.size, 0, none⟩) (v := .bool true) (ds := (D_118 :: [])) (dsOf_enc (by kernel_rfl)) (List.nodup_cons.2 ⟨fun h_ => (by cases h_), List.nodup_nil⟩) (Defs.store hk6_ hg_134 hds_) rfl rfl hk_135 (fun w_ hb_ => loads1 rfl (Blk.cell hb_ 0 _ rfl)) (fun w_ ho_ => hR_ _ _ ?_)))
   exact ⟨rfl, Off.below ho_ (bg hBw_ hg_134 ((bt hb_2 hb_7)).size) (fun D_ hm_ => Nat.le_trans (hB_41).size (hdge_ D_ hm_))⟩
  refine xq 2 [(43, .eq (.bool false))] [(6, .pointer (some ⟨w_6.heap.size, 0, none⟩)), (44, .bool false), (1000000, encD (D_118 :: []))] w_117 [Value.bool ((pre_.length : Int) == stop) = Value.bool false] ⟨congrArg Value.bool (beq_eq_false_iff_ne.2 (c_132)), trivial⟩ ?_
  refine xst (.bool false) hk6_ 0 #[.bool false] (fun w_142 hg_143 hk_144 hz_145 => ?_)
  have hk_146 := Blk.other hk8_ hg_143 hne_47
  have hne_147 : w.heap.size ≠ w_6.heap.size := Nat.ne_of_lt (Nat.lt_of_lt_of_le (Blk.lt hk_3) (hb_7).size)
  have hk_148 := Blk.other hk4_ hg_143 hne_147
  have hne_149 : w_1.heap.size ≠ w_6.heap.size := Nat.ne_of_lt (Nat.lt_of_lt_of_le (Blk.lt hk_8) (Nat.le_refl _))
  have hk_150 := Blk.other hk5_ hg_143 hne_149
  refine nl (X_ret (RX.retM_cell (P := Tryd.prog) (fn := Tryd.f17) (N := 45) (R := R_) (c := 6) (t := 4) (p := ⟨w_6.heap.size, 0, none⟩) (v := .bool false) (ds := (D_118 :: [])) (dsOf_enc (by kernel_rfl)) (List.nodup_cons.2 ⟨fun h_ => (by cases h_), List.nodup_nil⟩) (Defs.store hk6_ hg_143 hds_) rfl rfl hk_144 (fun w_ hb_ => loads1 rfl (Blk.cell hb_ 0 _ rfl)) (fun w_ ho_ => hR_ _ _ ?_)))
  exfalso; first | omega | (simp at *; omega)
 rintro D_152 c_ pre_ w_151 hD_153 hS_154 hix_ hK_155
 rcases hix_ with h1_ | ⟨rfl, hst_, M_, hk8_, hk4_, hk5_, hk6_, hM_, hBw_⟩
 ·exact absurd hS_154 h1_.2
 have htr_ := True.intro
 have hg8l_ := hk8_.lt
 have hlo_ : w_31.heap.size ≤ w_31.heap.size := Nat.le_refl _
 have hds_ : Defs (D_152 :: []) w_151 := Defs.cons hK_155 (fun _ h_ => by cases h_)
 have hdge_ : ∀ D_ ∈ D_152 :: [], w_31.heap.size ≤ D_ := fun D_ hm_ => (List.mem_cons.1 hm_).elim (fun e_ => by omega) (fun h_ => by cases h_)
 refine X_exit (sq (rg (xq 3 [(36, .load (.int .i64 (pre_.length : Int))), (37, .load (.slice A zs.length c))] [(5, .pointer (some ⟨w_1.heap.size, 0, none⟩)), (6, .pointer (some ⟨w_6.heap.size, 0, none⟩)), (8, .pointer (some ⟨w_24.heap.size, 0, none⟩)), (36, .int .i64 (pre_.length : Int)), (38, .int .i64 (zs.length : Int)), (1000000, encD (D_152 :: []))] w_151 [LoadsAs Tryd.prog 3 (⟨w_24.heap.size, 0, none⟩) (.int .i64 (pre_.length : Int)) w_151, LoadsAs Tryd.prog 28 (⟨w.heap.size, 0, none⟩) (.slice A zs.length c) w_151] ⟨loads1 rfl (Blk.cell hk8_ 0 _ rfl), loads1 rfl (Blk.cell hk4_ 0 _ rfl), trivial⟩ ?_)))
 by_cases c_156 : (pre_.length : Int) = (zs.length : Int)
 ·refine xq 6 [(39, .eq (.bool true))] [(6, .pointer (some ⟨w_6.heap.size, 0, none⟩)), (44, .bool true), (1000000, encD (D_152 :: []))] w_151 [Value.bool ((pre_.length : Int) == (zs.length : Int)) = Value.bool true] ⟨congrArg Value.bool (beq_iff_eq.2 (c_156)), trivial⟩ ?_
  refine xst (.bool true) hk6_ 0 #[.bool true] (fun w_157 hg_158 hk_159 hz_160 => ?_)
  have hk_161 := Blk.other hk8_ hg_158 hne_47
  have hne_162 : w.heap.size ≠ w_6.heap.size := Nat.ne_of_lt (Nat.lt_of_lt_of_le (Blk.lt hk_3) (hb_7).size)
  have hk_163 := Blk.other hk4_ hg_158 hne_162
  have hne_164 : w_1.heap.size ≠ w_6.heap.size := Nat.ne_of_lt (Nat.lt_of_lt_of_le (Blk.lt hk_8) (Nat.le_refl _))
  have hk_165 := Blk.other hk5_ hg_158 hne_164
  refine nl (X_ret (RX.retM_cell (P := Tryd.prog) (fn := Tryd.f17) (N := 45) (R := R_) (c := 6) (t := 4) (p := ⟨w_6.heap.size, 0, none⟩) (v := .bool true) (ds := (D_152 :: [])) (dsOf_enc (by kernel_rfl)) (List.nodup_cons.2 ⟨fun h_ => (by cases h_), List.nodup_nil⟩) (Defs.store hk6_ hg_158 hds_) rfl rfl hk_159 (fun w_ hb_ => loads1 rfl (Blk.cell hb_ 0 _ rfl)) (fun w_ ho_ => hR_ _ _ ?_)))
  exact ⟨rfl, Off.below ho_ (bg hBw_ hg_158 ((bt hb_2 hb_7)).size) (fun D_ hm_ => Nat.le_trans (hB_41).size (hdge_ D_ hm_))⟩
 refine xq 4 [(39, .eq (.bool false)), (41, .load (.int .i64 (pre_.length : Int))), (42, .load (.int .i64 stop))] [(6, .pointer (some ⟨w_6.heap.size, 0, none⟩)), (40, .bool false), (41, .int .i64 (pre_.length : Int)), (42, .int .i64 stop), (1000000, encD (D_152 :: []))] w_151 [Value.bool ((pre_.length : Int) == (zs.length : Int)) = Value.bool false, LoadsAs Tryd.prog 3 (⟨w_24.heap.size, 0, none⟩) (.int .i64 (pre_.length : Int)) w_151, LoadsAs Tryd.prog 3 (⟨w_1.heap.size, 0, none⟩) (.int .i64 stop) w_151] ⟨congrArg Value.bool (beq_eq_false_iff_ne.2 (c_156)), loads1 rfl (Blk.cell hk8_ 0 _ rfl), loads1 rfl (Blk.cell hk5_ 0 _ rfl), trivial⟩ ?_
 by_cases c_166 : (pre_.length : Int) = stop
 ·refine xq 2 [(43, .eq (.bool true))] [(6, .pointer (some ⟨w_6.heap.size, 0, none⟩)), (44, .bool true), (1000000, encD (D_152 :: []))] w_151 [Value.bool ((pre_.length : Int) == stop) = Value.bool true] ⟨congrArg Value.bool (beq_iff_eq.2 (c_166)), trivial⟩ ?_
  refine xst (.bool true) hk6_ 0 #[.bool true] (fun w_167 hg_168 hk_169 hz_170 => ?_)
  have hk_171 := Blk.other hk8_ hg_168 hne_47
  have hne_172 : w.heap.size ≠ w_6.heap.size := Nat.ne_of_lt (Nat.lt_of_lt_of_le (Blk.lt hk_3) (hb_7).size)
  have hk_173 := Blk.other hk4_ hg_168 hne_172
  have hne_174 : w_1.heap.size ≠ w_6.heap.size := Nat.ne_of_lt (Nat.lt_of_lt_of_le (Blk.lt hk_8) (Nat.le_refl _))
  have hk_175 := Blk.other hk5_ hg_168 hne_174
  refine nl (X_ret (RX.retM_cell (P := Tryd.prog) (fn := Tryd.f17) (N := 45) (R := R_) (c := 6) (t := 4) (p := ⟨w_6.heap.size, 0, none⟩) (v := .bool true) (ds := (D_152 :: [])) (dsOf_enc (by kernel_rfl)) (List.nodup_cons.2 ⟨fun h_ => (by cases h_), List.nodup_nil⟩) (Defs.store hk6_ hg_168 hds_) rfl rfl hk_169 (fun w_ hb_ => loads1 rfl (Blk.cell hb_ 0 _ rfl)) (fun w_ ho_ => hR_ _ _ ?_)))
  exact ⟨rfl, Off.below ho_ (bg hBw_ hg_168 ((bt hb_2 hb_7)).size) (fun D_ hm_ => Nat.le_trans (hB_41).size (hdge_ D_ hm_))⟩
 refine xq 2 [(43, .eq (.bool false))] [(6, .pointer (some ⟨w_6.heap.size, 0, none⟩)), (44, .bool false), (1000000, encD (D_152 :: []))] w_151 [Value.bool ((pre_.length : Int) == stop) = Value.bool false] ⟨congrArg Value.bool (beq_eq_false_iff_ne.2 (c_166)), trivial⟩ ?_
 refine xst (.bool false) hk6_ 0 #[.bool false] (fun w_176 hg_177 hk_178 hz_179 => ?_)
 have hk_180 := Blk.other hk8_ hg_177 hne_47
 have hne_181 : w.heap.size ≠ w_6.heap.size := Nat.ne_of_lt (Nat.lt_of_lt_of_le (Blk.lt hk_3) (hb_7).size)
 have hk_182 := Blk.other hk4_ hg_177 hne_181
 have hne_183 : w_1.heap.size ≠ w_6.heap.size := Nat.ne_of_lt (Nat.lt_of_lt_of_le (Blk.lt hk_8) (Nat.le_refl _))
 have hk_184 := Blk.other hk5_ hg_177 hne_183
 refine nl (X_ret (RX.retM_cell (P := Tryd.prog) (fn := Tryd.f17) (N := 45) (R := R_) (c := 6) (t := 4) (p := ⟨w_6.heap.size, 0, none⟩) (v := .bool false) (ds := (D_152 :: [])) (dsOf_enc (by kernel_rfl)) (List.nodup_cons.2 ⟨fun h_ => (by cases h_), List.nodup_nil⟩) (Defs.store hk6_ hg_177 hds_) rfl rfl hk_178 (fun w_ hb_ => loads1 rfl (Blk.cell hb_ 0 _ rfl)) (fun w_ ho_ => hR_ _ _ ?_)))
 exfalso; first | omega | (simp at *; omega)
end Go.Proofs.YtgphmfnkeolbcaaDoor
