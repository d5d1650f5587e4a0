import Derived.Test.YtgphmfnkeolbcaaDoorT50
import Derived.Test.YtgphmfnkeolbcaaDoorGl2
/- vellumlaw09.told where no more is told than asked. Conditions: sizes, the tables of utf8, the errors' variables. -/
set_option linter.unusedVariables false
set_option linter.unusedSimpArgs false
set_option maxRecDepth 100000
namespace Go.Proofs.YtgphmfnkeolbcaaDoor
open Go Go.RowKit Go.Proofs.YtgphmfnkeolbcaaDoorW.PrintWords RX
theorem ent14 : Ent Tryd.prog 14 := ent_of Tryd.func14 (by kernel_rfl) rfl
theorem R_empty {α : Type} (d : Kd α) {w : World} {g e base : Nat} {ok : Nat → Prop} (hb : RX.Blk w g e #[]) (hg : base ≤ g) (hok : ok g) : d.R e w base ok (.slice (some ⟨g, 0, none⟩) ([] : List α).length 0) [] :=
 ⟨fun k hk => by simp [Value.ownBlock] at hk; exact hk ▸ hok, [], ⟨by simp, .inr ⟨g, 0, #[], rfl, hg, hb, Nat.le_refl _, Nat.zero_le _, by simp, by simp⟩⟩, Reps.none _ _⟩
def RowJ (w : World) (g6 lo hi : Nat) (pre : List ElA) (M : Nat → Prop) (W : World) : Prop :=
 ∃ zs A6 c6, zs = pre.map (fun x : ElA => x.2.1) ∧ RX.Blk W g6 28 #[.slice A6 zs.length c6] ∧ kCell.R 44 W w.heap.size (OkFrom w.heap.size) (.slice A6 zs.length c6) zs ∧ M = (fun k => k = g6 ∨ A6.map (·.block) = some k) ∧ (∀ k, A6.map (·.block) = some k → (w.heap.size ≤ k ∧ k < lo) ∨ hi ≤ k) ∧ Below w.heap.size w W
theorem RowJ.own {w : World} {g6 lo hi B : Nat} (h : w.heap.size ≤ B) (M : Nat → Prop) : OwnFrom B (fun s W => RowJ w g6 lo hi s M W) := by
 rintro s W W' row ⟨zs, A6, c6, h1, h2, h3, h4, h5, h6⟩ hg hr
 exact ⟨zs, A6, c6, h1, RX.ownFrom_blk (β := Unit) (B := B) (fun _ => g6) _ (fun _ => _) () W W' row h2 hg hr, RX.ownFrom_R (β := Unit) (B := B) kCell _ w.heap.size (fun _ => _) (fun _ => zs) () W W' row h3 hg hr, h4, h5, RX.ownFrom_below' (β := Unit) w h () W W' row h6 hg hr⟩
theorem RowJ.im {w : World} {g6 lo hi : Nat} {pre : List ElA} {M : Nat → Prop} {W : World} (h : RowJ w g6 lo hi pre M W) (h1 : w.heap.size ≤ g6) (h2 : g6 < lo) (h3 : lo ≤ hi) : ∀ k, M k → ¬ DI w.heap.size lo hi k ∧ k < W.heap.size := by
 obtain ⟨zs, A6, c6, e1, e2, e3, rfl, e5, e6⟩ := h
 rintro k (rfl | hk)
 ·exact ⟨fun h => by rcases h with h | h <;> omega, e2.lt⟩
 have := e5 k hk
 exact ⟨fun h => by rcases h with h | h <;> omega, Kd.R_lt e3 k hk⟩
set_option maxHeartbeats 1000000 in
theorem told9l_any (d : Nat) (most : Int) (xs ys : List OpA) (w : World) (hd : DeltaC w d xs) (hb : badE xs = 0) (hn : xs.length ≤ 1100000) (hz : ∀ i, i < xs.length → opSz (xs.getD i op0)) (hy : ys = (if isDoc xs = true then xs else [])) (hr : ∀ t, t < ys.length → refuseP (ys.getD t op0) = 0) (hL : (cellsAll ys).length ≤ 100000000) (hmo : ((cellsAll ys).length : Int) ≤ most) (hT : Tabs w) (es : List Addr) (hE : ErrsC w es) : Calls Tryd.prog 14 #[.pointer (some ⟨d, 0, none⟩), .int .i64 most] w fun e w' => ∃ A' c' zs, zs = cellsAll ys ∧ e = .returned (.tuple #[.slice A' zs.length c', .bool true]) ∧ zs.length ≤ c' ∧ kCell.R 44 w' w.heap.size (OkFrom w.heap.size) (.slice A' zs.length c') zs ∧ Below w.heap.size w w' := by
 have hny : ys.length ≤ xs.length := by rw [hy]; split <;> simp
 have hzy : ∀ t, t < ys.length → opSz (ys.getD t op0) := by rw [hy]; split <;> intro t ht; (· exact hz t ht); (· simp at ht)
 refine RX.enterM Tryd.func14 rfl 35 rfl [(0, .pointer (some ⟨d, 0, none⟩)), (1, .int .i64 most)] rfl (by kernel_rfl) (fun R_ hR_ => ?_)
 refine RX.X_mark0 rfl ?_
 refine sq (rg (xq 1 [] [(0, .pointer (some ⟨d, 0, none⟩)), (3, .pointer (some ⟨w.heap.size, 0, none⟩)), (1000000, encD [])] (w.alloc (.cells #[.int .i64 most] 3)) [] trivial ?_))
 obtain ⟨w_1, hw_5, hb_2, hk_3, hz_4⟩ := new_world w #[.int .i64 most] 3
 rw [hw_5]
 refine xq 1 [] [(0, .pointer (some ⟨d, 0, none⟩)), (3, .pointer (some ⟨w.heap.size, 0, none⟩)), (4, .pointer (some ⟨w_1.heap.size, 0, none⟩)), (1000000, encD [])] (w_1.alloc (.cells #[.slice none 0 0] 28)) [] trivial ?_
 obtain ⟨w_6, hw_10, hb_7, hk_8, hz_9⟩ := new_world w_1 #[.slice none 0 0] 28
 rw [hw_10]
 refine xq 1 [] [(0, .pointer (some ⟨d, 0, none⟩)), (3, .pointer (some ⟨w.heap.size, 0, none⟩)), (4, .pointer (some ⟨w_1.heap.size, 0, none⟩)), (5, .pointer (some ⟨w_6.heap.size, 0, none⟩)), (1000000, encD [])] (w_6.alloc (.cells #[.bool false] 4)) [] trivial ?_
 obtain ⟨w_11, hw_15, hb_12, hk_13, hz_14⟩ := new_world w_6 #[.bool false] 4
 rw [hw_15]
 refine nl (sq (rg (xq 1 [] [(0, .pointer (some ⟨d, 0, none⟩)), (3, .pointer (some ⟨w.heap.size, 0, none⟩)), (4, .pointer (some ⟨w_1.heap.size, 0, none⟩)), (5, .pointer (some ⟨w_6.heap.size, 0, none⟩)), (10, .slice (some ⟨w_11.heap.size, 0, none⟩) 0 0), (1000000, encD [])] (w_11.alloc (.cells #[] 44)) [] trivial ?_)))
 obtain ⟨w_16, hw_20, hb_17, hk_18, hz_19⟩ := new_world w_11 #[] 44
 rw [hw_20]
 refine xq 1 [] [(0, .pointer (some ⟨d, 0, none⟩)), (3, .pointer (some ⟨w.heap.size, 0, none⟩)), (4, .pointer (some ⟨w_1.heap.size, 0, none⟩)), (5, .pointer (some ⟨w_6.heap.size, 0, none⟩)), (6, .pointer (some ⟨w_16.heap.size, 0, none⟩)), (10, .slice (some ⟨w_11.heap.size, 0, none⟩) 0 0), (1000000, encD [])] (w_16.alloc (.cells #[.slice none 0 0] 28)) [] trivial ?_
 obtain ⟨w_21, hw_25, hb_22, hk_23, hz_24⟩ := new_world w_16 #[.slice none 0 0] 28
 rw [hw_25]
 refine xst (.slice (some ⟨w_11.heap.size, 0, none⟩) 0 0) hk_23 0 #[.slice (some ⟨w_11.heap.size, 0, none⟩) 0 0] (fun w_26 hg_27 hk_28 hz_29 => ?_)
 have hne_30 : w.heap.size ≠ w_16.heap.size := Blk.tne (Blk.below hk_3 (bt (bt (bt hb_7 hb_12) hb_17) hb_22)) hk_23 rfl
 have hk_31 := Blk.other (Blk.below hk_3 (bt (bt (bt hb_7 hb_12) hb_17) hb_22)) hg_27 hne_30
 have hne_32 : w_6.heap.size ≠ w_16.heap.size := Blk.tne (Blk.below hk_13 (bt hb_17 hb_22)) hk_23 rfl
 have hk_33 := Blk.other (Blk.below hk_13 (bt hb_17 hb_22)) hg_27 hne_32
 have hne_34 : w_11.heap.size ≠ w_16.heap.size := Blk.tne (Blk.below hk_18 hb_22) hk_23 rfl
 have hk_35 := Blk.other (Blk.below hk_18 hb_22) hg_27 hne_34
 refine nl (sq (rg (xq 1 [] [(3, .pointer (some ⟨w.heap.size, 0, none⟩)), (4, .pointer (some ⟨w_1.heap.size, 0, none⟩)), (5, .pointer (some ⟨w_6.heap.size, 0, none⟩)), (6, .pointer (some ⟨w_16.heap.size, 0, none⟩)), (11, .pointer (some ⟨d, 0, none⟩)), (1000000, encD [])] w_26 [] trivial ?_)))
 have hB_44 : Below w.heap.size w w_26 := (bg (bt (bt (bt (bt hb_2 hb_7) hb_12) hb_17) hb_22) hg_27 ((bt (bt (bt hb_2 hb_7) hb_12) hb_17)).size)
 refine xc 27 ent27 [.pointer (some ⟨d, 0, none⟩)] (ceach_any d xs _ (hd.below hB_44) hb hn hz) ?_
 rintro e w_45 ⟨g_36, A_37, c_38, zs_39, ez_40, rfl, hge_41, hk_42, hr_43, hb_46⟩; refine ⟨_, rfl, ?_⟩
 rw [← hy] at ez_40; rw [ez_40] at hk_42 hr_43
 have hr9_ : kOp.R 59 w_45 w_26.heap.size (fun k_ => w_26.heap.size ≤ k_ ∧ k_ < w_45.heap.size) (.slice A_37 ys.length c_38) ys := Kd.R_mono (Kd.R_bound hr_43) (fun k_ hk_ => ⟨hk_.2.1, hk_.2.2.1⟩)
 have hgl_ := hk_42.lt
 refine xq 1 [] [(3, .pointer (some ⟨w.heap.size, 0, none⟩)), (4, .pointer (some ⟨w_1.heap.size, 0, none⟩)), (5, .pointer (some ⟨w_6.heap.size, 0, none⟩)), (6, .pointer (some ⟨w_16.heap.size, 0, none⟩)), (7, .func (.func 44) #[] #[.pointer (some ⟨g_36, 0, none⟩)]), (1000000, encD [])] w_45 [] trivial ?_
 refine nl (sq (sq (rg (xq 2 [] [(3, .pointer (some ⟨w.heap.size, 0, none⟩)), (4, .pointer (some ⟨w_1.heap.size, 0, none⟩)), (5, .pointer (some ⟨w_6.heap.size, 0, none⟩)), (6, .pointer (some ⟨w_16.heap.size, 0, none⟩)), (7, .func (.func 44) #[] #[.pointer (some ⟨g_36, 0, none⟩)]), (14, .bool false), (1000000, encD [])] w_45 [] trivial ?_))))
 refine nl (cf (sk (sq (sq (rg (xq 1 [] [(3, .pointer (some ⟨w.heap.size, 0, none⟩)), (4, .pointer (some ⟨w_1.heap.size, 0, none⟩)), (5, .pointer (some ⟨w_6.heap.size, 0, none⟩)), (6, .pointer (some ⟨w_16.heap.size, 0, none⟩)), (16, .func (.func 44) #[] #[.pointer (some ⟨g_36, 0, none⟩)]), (1000000, encD [])] w_45 [] trivial ?_))))))
 refine nl (X_block ?_)
 have hw6_ : w.heap.size ≤ w_16.heap.size := ((bt (bt (bt hb_2 hb_7) hb_12) hb_17)).size
 have h6lo_ : w_16.heap.size < w_26.heap.size := Nat.lt_of_lt_of_le (Blk.lt hk_23) hg_27.size
 have hlh_ : w_26.heap.size ≤ w_45.heap.size := (hb_46).size
 have hwl_ : w.heap.size ≤ w_26.heap.size := (hB_44).size
 have hDt_ : ∀ k_, (DI w.heap.size w_26.heap.size w_45.heap.size) k_ → k_ < w_45.heap.size := fun k_ h_ => by rcases h_ with h_ | h_ <;> omega
 have hB_47 : Below w_6.heap.size w_6 w_45 := (bt (bg (bt (bt hb_12 hb_17) hb_22) hg_27 ((bt hb_12 hb_17)).size) hb_46)
 have hB_48 : Below w_1.heap.size w_1 w_26 := (bg (bt (bt (bt hb_7 hb_12) hb_17) hb_22) hg_27 ((bt (bt hb_7 hb_12) hb_17)).size)
 have hq3_ : w.heap.size ≤ w.heap.size ∧ w.heap.size < w_26.heap.size := ⟨(Nat.le_refl _), Nat.lt_of_lt_of_le (Blk.lt hk_3) (hB_48).size⟩
 have hB_49 : Below w_6.heap.size w_6 w_26 := (bg (bt (bt hb_12 hb_17) hb_22) hg_27 ((bt hb_12 hb_17)).size)
 have hq4_ : w.heap.size ≤ w_1.heap.size ∧ w_1.heap.size < w_26.heap.size := ⟨(hb_2).size, Nat.lt_of_lt_of_le (Blk.lt hk_8) (hB_49).size⟩
 have hq5_ : w.heap.size ≤ w_6.heap.size ∧ w_6.heap.size < w_26.heap.size := ⟨((bt hb_2 hb_7)).size, Nat.lt_of_lt_of_le (Blk.lt hk_13) ((bg (bt hb_17 hb_22) hg_27 (hb_17).size)).size⟩
 have hqa_ : w.heap.size ≤ w_11.heap.size ∧ w_11.heap.size < w_26.heap.size := ⟨((bt (bt hb_2 hb_7) hb_12)).size, Nat.lt_of_lt_of_le (Blk.lt hk_18) ((bg hb_22 hg_27 (Nat.le_refl _))).size⟩
 refine X_rangeM (α := ElA) (ι := Nat) rfl ent44 (encs := elV) (ceach_seq (DI w.heap.size w_26.heap.size w_45.heap.size) (fun k_ => w_26.heap.size ≤ k_ ∧ k_ < w_45.heap.size) w_26.heap.size g_36 A_37 c_38 ys w w_45 hr9_ (fun k_ h_ => .inr h_) (fun k_ h_ => .inl h_) hDt_ (bt hB_44 hb_46) (by omega) hr hzy hT es hE hk_42 (by omega)) (Below.refl _ _) hDt_ (fun _ => rfl) (by kernel_rfl) (fun pre_ M_ W_ => RowJ w w_16.heap.size w_26.heap.size w_45.heap.size pre_ M_ W_ ∧ RX.Blk W_ w.heap.size 3 #[.int .i64 most] ∧ RX.Blk W_ w_1.heap.size 28 #[.slice none 0 0] ∧ RX.Blk W_ w_6.heap.size 4 #[.bool false]) (fun c_ pre_ W_ => ∃ p_ y_, pre_ = p_ ++ [y_] ∧ (y_ : ElA).1 ≠ (p_.length : Int)) (fun M_ => OwnFrom.and (RowJ.own ((bt hB_44 hb_46)).size M_) (OwnFrom.and (ownFrom_blk (fun _ => _) _ (fun _ => _)) (OwnFrom.and (ownFrom_blk (fun _ => _) _ (fun _ => _)) (ownFrom_blk (fun _ => _) _ (fun _ => _))))) (fun _ => RX.ownFrom_pure _) (fun _ _ _ h_ => RowJ.im h_.1 hw6_ h6lo_ hlh_) (fun k_ => k_ = w_16.heap.size ∨ ((some ⟨w_11.heap.size, 0, none⟩) : Option Addr).map (·.block) = some k_) ⟨⟨[], (some ⟨w_11.heap.size, 0, none⟩), 0, rfl, (Blk.below hk_28 hb_46), (R_empty kCell (Blk.below hk_35 hb_46) hqa_.1 hqa_.1), rfl, (fun k_ h_ => .inl (by injection h_ with h_; subst h_; exact hqa_)), (bt hB_44 hb_46)⟩, (Blk.below hk_31 hb_46), (Blk.below hk_8 hB_47), (Blk.below hk_33 hb_46)⟩ (fun x_ i_ W_ => RX.Blk W_ i_ 44 #[.int .i32 x_.2.1.rune, .string x_.2.1.kind, .int .i64 x_.2.1.vk, .int .i64 x_.2.1.vn, .string x_.2.1.vt, .slice x_.2.2.1 x_.2.1.attrs.length x_.2.2.2] ∧ ElPx w_45.heap.size x_ W_) (fun i_ => OwnFrom.and (ownFrom_blk (fun _ => i_) 44 (fun (x_ : ElA) => #[.int .i32 x_.2.1.rune, .string x_.2.1.kind, .int .i64 x_.2.1.vk, .int .i64 x_.2.1.vn, .string x_.2.1.vt, .slice x_.2.2.1 x_.2.1.attrs.length x_.2.2.2])) ownFrom_px) (fun x_ i_ => [(3, .pointer (some ⟨w.heap.size, 0, none⟩)), (4, .pointer (some ⟨w_1.heap.size, 0, none⟩)), (5, .pointer (some ⟨w_6.heap.size, 0, none⟩)), (6, .pointer (some ⟨w_16.heap.size, 0, none⟩)), (8, .int .i64 x_.1), (9, .pointer (some ⟨i_, 0, none⟩))]) ?_ ?_ ?_ ?_
 ·rintro lp_ pre_ M_ x_ W_ hlp_ hws_ ⟨⟨zs_, A6_, c6_, hz_, hk6_, hr6_, hM_, hA6_, hBw_⟩, hb3_, hb4_, hb5_⟩ hpx_ hlen_
  have hg6l_ := hk6_.lt
  have hzl_ : zs_.length = pre_.length := by rw [hz_, List.length_map]
  refine XI_keep [3, 4, 5, 6, 16, 17, 18] [(3, .pointer (some ⟨w.heap.size, 0, none⟩)), (4, .pointer (some ⟨w_1.heap.size, 0, none⟩)), (5, .pointer (some ⟨w_6.heap.size, 0, none⟩)), (6, .pointer (some ⟨w_16.heap.size, 0, none⟩)), (16, .func (.func 44) #[] #[.pointer (some ⟨g_36, 0, none⟩)]), (17, .int .i64 x_.1), (18, .agg #[.int .i32 x_.2.1.rune, .string x_.2.1.kind, .int .i64 x_.2.1.vk, .int .i64 x_.2.1.vn, .string x_.2.1.vt, .slice x_.2.2.1 x_.2.1.attrs.length x_.2.2.2])] (by kernel_rfl) ?_
  refine XI_seq ?_
  refine XI_region (by kernel_rfl) (fun _ _ h_ => h_) ?_
  refine xq 1 [] [(3, .pointer (some ⟨w.heap.size, 0, none⟩)), (4, .pointer (some ⟨w_1.heap.size, 0, none⟩)), (5, .pointer (some ⟨w_6.heap.size, 0, none⟩)), (6, .pointer (some ⟨w_16.heap.size, 0, none⟩)), (8, .int .i64 x_.1), (18, .agg #[.int .i32 x_.2.1.rune, .string x_.2.1.kind, .int .i64 x_.2.1.vk, .int .i64 x_.2.1.vn, .string x_.2.1.vt, .slice x_.2.2.1 x_.2.1.attrs.length x_.2.2.2])] W_ [] trivial ?_
  refine nl (XI_region (by kernel_rfl) (fun _ _ h_ => h_) ?_)
  refine xq 1 [] [(3, .pointer (some ⟨w.heap.size, 0, none⟩)), (4, .pointer (some ⟨w_1.heap.size, 0, none⟩)), (5, .pointer (some ⟨w_6.heap.size, 0, none⟩)), (6, .pointer (some ⟨w_16.heap.size, 0, none⟩)), (8, .int .i64 x_.1), (9, .pointer (some ⟨W_.heap.size, 0, none⟩)), (18, .agg #[.int .i32 x_.2.1.rune, .string x_.2.1.kind, .int .i64 x_.2.1.vk, .int .i64 x_.2.1.vn, .string x_.2.1.vt, .slice x_.2.2.1 x_.2.1.attrs.length x_.2.2.2])] (W_.alloc (.cells #[.int .i32 0, .string ByteArray.empty, .int .i64 0, .int .i64 0, .string ByteArray.empty, .slice none 0 0] 44)) [] trivial ?_
  obtain ⟨w_50, hw_54, hb_51, hk_52, hz_53⟩ := new_world W_ #[.int .i32 0, .string ByteArray.empty, .int .i64 0, .int .i64 0, .string ByteArray.empty, .slice none 0 0] 44
  rw [hw_54]
  refine xst (.agg #[.int .i32 x_.2.1.rune, .string x_.2.1.kind, .int .i64 x_.2.1.vk, .int .i64 x_.2.1.vn, .string x_.2.1.vt, .slice x_.2.2.1 x_.2.1.attrs.length x_.2.2.2]) hk_52 0 #[.int .i32 x_.2.1.rune, .string x_.2.1.kind, .int .i64 x_.2.1.vk, .int .i64 x_.2.1.vn, .string x_.2.1.vt, .slice x_.2.2.1 x_.2.1.attrs.length x_.2.2.2] (fun w_55 hg_56 hk_57 hz_58 => ?_)
  have hne_59 : w_16.heap.size ≠ W_.heap.size := Blk.tne (Blk.below hk6_ hb_51) hk_52 rfl
  have hk_60 := Blk.other (Blk.below hk6_ hb_51) hg_56 hne_59
  have hne_61 : w.heap.size ≠ W_.heap.size := Blk.tne (Blk.below hb3_ hb_51) hk_52 rfl
  have hk_62 := Blk.other (Blk.below hb3_ hb_51) hg_56 hne_61
  have hne_63 : w_1.heap.size ≠ W_.heap.size := Blk.tne (Blk.below hb4_ hb_51) hk_52 rfl
  have hk_64 := Blk.other (Blk.below hb4_ hb_51) hg_56 hne_63
  have hne_65 : w_6.heap.size ≠ W_.heap.size := Blk.tne (Blk.below hb5_ hb_51) hk_52 rfl
  have hk_66 := Blk.other (Blk.below hb5_ hb_51) hg_56 hne_65
  refine nl ?_
  have hDw_ : ∀ k_, (DI w.heap.size w_26.heap.size w_45.heap.size) k_ → k_ < W_.heap.size := fun k_ h_ => by have := hDt_ k_ h_; omega
  exact ⟨W_.heap.size, by kernel_rfl, (KeepsFrom.trans (keeps_below hb_51) (keeps_store hk_52 hg_56)), KpM.below hDw_ ((bg hb_51 hg_56 (Nat.le_refl _)) : Below W_.heap.size W_ w_55), ⟨⟨zs_, A6_, c6_, hz_, hk_60, (Kd.R_below hr6_ (bg hb_51 hg_56 (Nat.le_refl _))), hM_, hA6_, (bg (bt hBw_ hb_51) hg_56 (hBw_).size)⟩, hk_62, hk_64, hk_66⟩, hk_57, ElPx.below ((bg hb_51 hg_56 (Nat.le_refl _)) : Below W_.heap.size W_ w_55) hpx_⟩
 ·rintro lp_ pre_ M_ x_ i_ W_ hlp_ hws_ ⟨⟨zs_, A6_, c6_, hz_, hk6_, hr6_, hM_, hA6_, hBw_⟩, hb3_, hb4_, hb5_⟩ ⟨hk8_, hpx_⟩ hlen_
  have hg6l_ := hk6_.lt
  have hzl_ : zs_.length = pre_.length := by rw [hz_, List.length_map]
  obtain ⟨hx0_, wb_, hwb_, hlk_, hra_⟩ := hpx_
  refine XI_block ?_
  refine XI_seq ?_
  refine XI_seq ?_
  refine XI_region (by kernel_rfl) (fun _ _ h_ => h_) ?_
  refine xq 3 [(20, .load (.slice A6_ zs_.length c6_))] [(3, .pointer (some ⟨w.heap.size, 0, none⟩)), (4, .pointer (some ⟨w_1.heap.size, 0, none⟩)), (5, .pointer (some ⟨w_6.heap.size, 0, none⟩)), (6, .pointer (some ⟨w_16.heap.size, 0, none⟩)), (9, .pointer (some ⟨i_, 0, none⟩)), (19, .int .i64 x_.1), (21, .int .i64 (zs_.length : Int))] W_ [LoadsAs Tryd.prog 28 (⟨w_16.heap.size, 0, none⟩) (.slice A6_ zs_.length c6_) W_] ⟨loads1 rfl (Blk.cell hk6_ 0 _ rfl), trivial⟩ ?_
  by_cases c_67 : x_.1 = (zs_.length : Int)
  ·refine xq 5 [(22, .eq (.bool false)), (24, .load (.slice A6_ zs_.length c6_)), (26, .load (.int .i64 most))] [(4, .pointer (some ⟨w_1.heap.size, 0, none⟩)), (5, .pointer (some ⟨w_6.heap.size, 0, none⟩)), (6, .pointer (some ⟨w_16.heap.size, 0, none⟩)), (9, .pointer (some ⟨i_, 0, none⟩)), (23, .bool false), (25, .int .i64 (zs_.length : Int)), (26, .int .i64 most)] W_ [Value.bool (x_.1 != (zs_.length : Int)) = Value.bool false, LoadsAs Tryd.prog 28 (⟨w_16.heap.size, 0, none⟩) (.slice A6_ zs_.length c6_) W_, LoadsAs Tryd.prog 3 (⟨w.heap.size, 0, none⟩) (.int .i64 most) W_] ⟨congrArg Value.bool (bneF (c_67)), loads1 rfl (Blk.cell hk6_ 0 _ rfl), loads1 rfl (Blk.cell hb3_ 0 _ rfl), trivial⟩ ?_
   by_cases c_68 : (zs_.length : Int) > most
   ·exfalso; omega
   refine xq 2 [(27, .eq (.bool false))] [(4, .pointer (some ⟨w_1.heap.size, 0, none⟩)), (5, .pointer (some ⟨w_6.heap.size, 0, none⟩)), (6, .pointer (some ⟨w_16.heap.size, 0, none⟩)), (9, .pointer (some ⟨i_, 0, none⟩)), (28, .bool false)] W_ [Value.bool (decide ((zs_.length : Int) > most)) = Value.bool false] ⟨congrArg Value.bool (decide_eq_false (c_68)), trivial⟩ ?_
   refine nl (XI_cond false rfl ?_)
   refine XI_skip ?_
   refine XI_region (by kernel_rfl) (fun _ _ h_ => h_) ?_
   refine xq 3 [(30, .load (.slice A6_ zs_.length c6_)), (31, .load (.agg #[.int .i32 x_.2.1.rune, .string x_.2.1.kind, .int .i64 x_.2.1.vk, .int .i64 x_.2.1.vn, .string x_.2.1.vt, .slice x_.2.2.1 x_.2.1.attrs.length x_.2.2.2]))] [(4, .pointer (some ⟨w_1.heap.size, 0, none⟩)), (5, .pointer (some ⟨w_6.heap.size, 0, none⟩)), (6, .pointer (some ⟨w_16.heap.size, 0, none⟩)), (30, .slice A6_ zs_.length c6_), (32, .slice (some ⟨W_.heap.size, 0, none⟩) 1 1)] (W_.alloc (.cells #[.int .i32 x_.2.1.rune, .string x_.2.1.kind, .int .i64 x_.2.1.vk, .int .i64 x_.2.1.vn, .string x_.2.1.vt, .slice x_.2.2.1 x_.2.1.attrs.length x_.2.2.2] 44)) [LoadsAs Tryd.prog 28 (⟨w_16.heap.size, 0, none⟩) (.slice A6_ zs_.length c6_) W_, LoadsAs Tryd.prog 44 (⟨i_, 0, none⟩) (.agg #[.int .i32 x_.2.1.rune, .string x_.2.1.kind, .int .i64 x_.2.1.vk, .int .i64 x_.2.1.vn, .string x_.2.1.vt, .slice x_.2.2.1 x_.2.1.attrs.length x_.2.2.2]) W_] ⟨loads1 rfl (Blk.cell hk6_ 0 _ rfl), loadsB rfl rfl hk8_ 0 ⟨by kernel_rfl, by kernel_rfl⟩, trivial⟩ ?_
   obtain ⟨w_69, hw_73, hb_70, hk_71, hz_72⟩ := new_world W_ #[.int .i32 x_.2.1.rune, .string x_.2.1.kind, .int .i64 x_.2.1.vk, .int .i64 x_.2.1.vn, .string x_.2.1.vt, .slice x_.2.2.1 x_.2.1.attrs.length x_.2.2.2] 44
   rw [hw_73]
   obtain ⟨okp_74, hM_75, hok_76⟩ := Kd.M_rowApart hra_ (Nat.le_trans ((bt hB_44 hb_46)).size hwb_) hr6_ (by decide)
   rw [← hw_73]
   refine XL_append kCell rfl rfl rfl w.heap.size 44 (.agg #[.int .i32 0, .string ByteArray.empty, .int .i64 0, .int .i64 0, .string ByteArray.empty, .slice none 0 0]) 80 Tryd.underlying28 info44 rfl (by decide) (by omega) zs_ (⟨x_.2.1.rune, x_.2.1.kind, x_.2.1.vk, x_.2.1.vn, x_.2.1.vt, x_.2.1.attrs⟩ : CellA) [.int .i32 x_.2.1.rune, .string x_.2.1.kind, .int .i64 x_.2.1.vk, .int .i64 x_.2.1.vn, .string x_.2.1.vt, .slice x_.2.2.1 x_.2.1.attrs.length x_.2.2.2] okp_74 (by kernel_rfl) (kCell_M (x := (⟨x_.2.1.rune, x_.2.1.kind, x_.2.1.vk, x_.2.1.vn, x_.2.1.vt, x_.2.1.attrs⟩ : CellA)) hM_75) hok_76 hr6_ (hBw_).size (by first | omega | (simp; omega)) ?_
   intro A_77 c_78 w_79 hr_80 hc_81 hg_82 hl_83 ha_84
   have hr_85 := Kd.R_apart hra_ hr6_ (by decide) hg_82
   have hne_86 := RX.Kd.R_blk_ne hr6_ hk6_ rfl
   have hk_87 := Blk.ne hk6_ hg_82 hne_86
   have hne_88 := RX.Kd.R_blk_ne hr6_ hb3_ rfl
   have hk_89 := Blk.ne hb3_ hg_82 hne_88
   have hne_90 := RX.Kd.R_blk_ne hr6_ hb4_ rfl
   have hk_91 := Blk.ne hb4_ hg_82 hne_90
   have hne_92 := RX.Kd.R_blk_ne hr6_ hb5_ rfl
   have hk_93 := Blk.ne hb5_ hg_82 hne_92
   have he_94 : (zs_ ++ [(⟨x_.2.1.rune, x_.2.1.kind, x_.2.1.vk, x_.2.1.vn, x_.2.1.vt, x_.2.1.attrs⟩ : CellA)]) = (zs_ ++ [x_.2.1]) := rfl
   rw [he_94] at hr_80 ⊢
   refine xst (.slice A_77 ((zs_ ++ [x_.2.1]).length) c_78) hk_87 0 #[.slice A_77 ((zs_ ++ [x_.2.1]).length) c_78] (fun w_95 hg_96 hk_97 hz_98 => ?_)
   have hk_99 := Blk.other hk_89 hg_96 hne_30
   have hne_100 : w_1.heap.size ≠ w_16.heap.size := Nat.ne_of_lt (Nat.lt_of_lt_of_le (Blk.lt hk_8) ((bt hb_12 hb_17)).size)
   have hk_101 := Blk.other hk_91 hg_96 hne_100
   have hk_102 := Blk.other hk_93 hg_96 hne_32
   have hr_103 := Kd.R_off hr_85 hk_87 (by decide) hg_96
   have hr_104 := Kd.R_off hr_80 hk_87 (by decide) hg_96
   refine nl ?_
   have hDw_ : ∀ k_, (DI w.heap.size w_26.heap.size w_45.heap.size) k_ → k_ < W_.heap.size := fun k_ h_ => by have := hDt_ k_ h_; omega
   have hincl_ : ∀ k_, A_77.map (·.block) = some k_ → A6_.map (·.block) = some k_ ∨ W_.heap.size ≤ k_ := fun k_ e_ => by rcases ha_84 with h_ | ⟨b_, h_, h2_⟩; (· rw [h_] at e_; exact .inl e_); (· rw [h_] at e_; injection e_ with e_; subst e_; exact .inr (Nat.le_trans (Nat.le_refl _) h2_))
   have hB_105 : Below w.heap.size w w_95 := (bg (bgo hBw_ hg_82 hl_83 (Nat.le_refl _)) hg_96 ((bt (bt (bt hb_2 hb_7) hb_12) hb_17)).size)
   exact ⟨(KeepsFrom.trans (keeps_row hr6_ hg_82) (keeps_store hk_87 hg_96)), fun k_ => k_ = w_16.heap.size ∨ A_77.map (·.block) = some k_, (KpM.trans (KpM.grown hg_82 (fun k_ e_ => ⟨by rw [hM_]; exact .inr e_, fun h_ => by have h1_ := hA6_ k_ e_; rcases h_ with h_ | h_ <;> omega⟩) (fun k_ h_ => Nat.lt_of_lt_of_le (hDw_ k_ h_) (Nat.le_refl _))) (KpM.grown hg_96 (fun k_ e_ => by injection e_ with e_; subst e_; exact ⟨by rw [hM_]; exact .inl rfl, fun h_ => by rcases h_ with h_ | h_ <;> omega⟩) (fun k_ h_ => Nat.lt_of_lt_of_le (hDw_ k_ h_) hg_82.size))), (fun k_ h_ => by rcases h_ with h_ | h_; (· exact .inl (by rw [hM_]; exact .inl h_)); (· exact (hincl_ k_ h_).imp (fun h1_ => by rw [hM_]; exact .inr h1_) id)), ⟨⟨_, A_77, c_78, by rw [hz_, List.map_append]; rfl, hk_97, hr_104, rfl, (fun k_ h_ => by rcases hincl_ k_ h_ with h1_ | h1_; (· exact hA6_ k_ h1_); (· omega)), hB_105⟩, hk_99, hk_101, hk_102⟩⟩
  refine xq 7 [(22, .eq (.bool true))] [(4, .pointer (some ⟨w_1.heap.size, 0, none⟩)), (5, .pointer (some ⟨w_6.heap.size, 0, none⟩)), (6, .pointer (some ⟨w_16.heap.size, 0, none⟩)), (9, .pointer (some ⟨i_, 0, none⟩)), (28, .bool true)] W_ [Value.bool (x_.1 != (zs_.length : Int)) = Value.bool true] ⟨congrArg Value.bool (bneT (c_67)), trivial⟩ ?_
  refine nl (XI_cond true rfl ?_)
  refine XI_seq ?_
  refine XI_region (by kernel_rfl) (fun _ _ h_ => h_) ?_
  refine xq 1 [(29, .load (.slice A6_ zs_.length c6_))] [(4, .pointer (some ⟨w_1.heap.size, 0, none⟩)), (5, .pointer (some ⟨w_6.heap.size, 0, none⟩)), (29, .slice A6_ zs_.length c6_)] W_ [LoadsAs Tryd.prog 28 (⟨w_16.heap.size, 0, none⟩) (.slice A6_ zs_.length c6_) W_] ⟨loads1 rfl (Blk.cell hk6_ 0 _ rfl), trivial⟩ ?_
  refine xst (.slice A6_ zs_.length c6_) hb4_ 0 #[.slice A6_ zs_.length c6_] (fun w_106 hg_107 hk_108 hz_109 => ?_)
  have hne_110 : w_16.heap.size ≠ w_1.heap.size := Nat.ne_of_gt (Nat.lt_of_lt_of_le (Blk.lt hk_8) ((bt hb_12 hb_17)).size)
  have hk_111 := Blk.other hk6_ hg_107 hne_110
  have hne_112 : w.heap.size ≠ w_1.heap.size := Nat.ne_of_lt (Nat.lt_of_lt_of_le (Blk.lt hk_3) (Nat.le_refl _))
  have hk_113 := Blk.other hb3_ hg_107 hne_112
  have hne_114 : w_6.heap.size ≠ w_1.heap.size := Nat.ne_of_gt (Nat.lt_of_lt_of_le (Blk.lt hk_8) (Nat.le_refl _))
  have hk_115 := Blk.other hb5_ hg_107 hne_114
  have hne_116 : i_ ≠ w_1.heap.size := Blk.tne hk8_ hb4_ rfl
  have hk_117 := Blk.other hk8_ hg_107 hne_116
  have hr_118 := Kd.R_off hra_ hb4_ (by decide) hg_107
  have hr_119 := Kd.R_off hr6_ hb4_ (by decide) hg_107
  refine xst (.bool false) hk_115 0 #[.bool false] (fun w_120 hg_121 hk_122 hz_123 => ?_)
  have hne_124 : w_16.heap.size ≠ w_6.heap.size := Nat.ne_of_gt (Nat.lt_of_lt_of_le (Blk.lt hk_13) (hb_17).size)
  have hk_125 := Blk.other hk_111 hg_121 hne_124
  have hne_126 : w.heap.size ≠ w_6.heap.size := Nat.ne_of_lt (Nat.lt_of_lt_of_le (Blk.lt hk_3) (hb_7).size)
  have hk_127 := Blk.other hk_113 hg_121 hne_126
  have hne_128 : w_1.heap.size ≠ w_6.heap.size := Nat.ne_of_lt (Nat.lt_of_lt_of_le (Blk.lt hk_8) (Nat.le_refl _))
  have hk_129 := Blk.other hk_108 hg_121 hne_128
  have hne_130 : i_ ≠ w_6.heap.size := Blk.tne hk_117 hk_115 rfl
  have hk_131 := Blk.other hk_117 hg_121 hne_130
  have hr_132 := Kd.R_off hr_118 hk_115 (by decide) hg_121
  have hr_133 := Kd.R_off hr_119 hk_115 (by decide) hg_121
  refine nl (XI_ret ?_)
  exact ⟨(KeepsFrom.trans (keeps_store hb4_ hg_107) (keeps_store hk_115 hg_121)), pre_, x_, rfl, by rw [← hzl_]; exact c_67⟩
 ·rintro D_135 pre_ M_ w_134 hD_136 hS_137 ⟨⟨zs_, A6_, c6_, hz_, hk6_, hr6_, hM_, hA6_, hBw_⟩, hb3_, hb4_, hb5_⟩ hK_138
  have hg6l_ := hk6_.lt
  have hzl_ : zs_.length = pre_.length := by rw [hz_, List.length_map]
  have hall_ := EOK.all hS_137.1 hS_137.2
  rw [← hz_] at hall_
  have hlo_ : w_45.heap.size ≤ w_45.heap.size := Nat.le_refl _
  have hds_ : Defs (D_135 :: []) w_134 := Defs.cons hK_138 (fun _ h_ => by cases h_)
  have hdge_ : ∀ D_ ∈ D_135 :: [], w_45.heap.size ≤ D_ := fun D_ hm_ => (List.mem_cons.1 hm_).elim (fun e_ => by omega) (fun h_ => by cases h_)
  refine sq (rg (xq 1 [(34, .load (.slice A6_ zs_.length c6_))] [(4, .pointer (some ⟨w_1.heap.size, 0, none⟩)), (5, .pointer (some ⟨w_6.heap.size, 0, none⟩)), (34, .slice A6_ zs_.length c6_), (1000000, encD (D_135 :: []))] w_134 [LoadsAs Tryd.prog 28 (⟨w_16.heap.size, 0, none⟩) (.slice A6_ zs_.length c6_) w_134] ⟨loads1 rfl (Blk.cell hk6_ 0 _ rfl), trivial⟩ ?_))
  refine xst (.slice A6_ zs_.length c6_) hb4_ 0 #[.slice A6_ zs_.length c6_] (fun w_139 hg_140 hk_141 hz_142 => ?_)
  have hne_143 : w_16.heap.size ≠ w_1.heap.size := Nat.ne_of_gt (Nat.lt_of_lt_of_le (Blk.lt hk_8) ((bt hb_12 hb_17)).size)
  have hk_144 := Blk.other hk6_ hg_140 hne_143
  have hne_145 : w.heap.size ≠ w_1.heap.size := Nat.ne_of_lt (Nat.lt_of_lt_of_le (Blk.lt hk_3) (Nat.le_refl _))
  have hk_146 := Blk.other hb3_ hg_140 hne_145
  have hne_147 : w_6.heap.size ≠ w_1.heap.size := Nat.ne_of_gt (Nat.lt_of_lt_of_le (Blk.lt hk_8) (Nat.le_refl _))
  have hk_148 := Blk.other hb5_ hg_140 hne_147
  have hr_149 := Kd.R_off hr6_ hb4_ (by decide) hg_140
  refine xst (.bool true) hk_148 0 #[.bool true] (fun w_150 hg_151 hk_152 hz_153 => ?_)
  have hne_154 : w_16.heap.size ≠ w_6.heap.size := Nat.ne_of_gt (Nat.lt_of_lt_of_le (Blk.lt hk_13) (hb_17).size)
  have hk_155 := Blk.other hk_144 hg_151 hne_154
  have hne_156 : w.heap.size ≠ w_6.heap.size := Nat.ne_of_lt (Nat.lt_of_lt_of_le (Blk.lt hk_3) (hb_7).size)
  have hk_157 := Blk.other hk_146 hg_151 hne_156
  have hne_158 : w_1.heap.size ≠ w_6.heap.size := Nat.ne_of_lt (Nat.lt_of_lt_of_le (Blk.lt hk_8) (Nat.le_refl _))
  have hk_159 := Blk.other hk_141 hg_151 hne_158
  have hr_160 := Kd.R_off hr_149 hk_148 (by decide) hg_151
  refine nl (X_ret (RX.retM_cell2 (P := Tryd.prog) (fn := Tryd.f14) (N := 35) (R := R_) (c := 4) (c2 := 5) (t := 28) (t2 := 4) (p := ⟨w_1.heap.size, 0, none⟩) (p2 := ⟨w_6.heap.size, 0, none⟩) (v := .slice A6_ zs_.length c6_) (v2 := .bool true) (ds := (D_135 :: [])) (dsOf_enc (by kernel_rfl)) (List.nodup_cons.2 ⟨fun h_ => (by cases h_), List.nodup_nil⟩) (Defs.store hk_148 hg_151 (Defs.store hb4_ hg_140 hds_)) rfl rfl rfl hk_159 hk_152 (fun w_ hb_ => loads1 rfl (Blk.cell hb_ 0 _ rfl)) (fun w_ hb_ => loads1 rfl (Blk.cell hb_ 0 _ rfl)) (fun w_ ho_ => hR_ _ _ ?_)))
  have hB_161 : Below w.heap.size w w_150 := (bg (bg hBw_ hg_140 (hb_2).size) hg_151 ((bt hb_2 hb_7)).size)
  have hrz_ := Off.row ho_ (Defs.store hk_148 hg_151 (Defs.store hb4_ hg_140 hds_)) hr_160
  exact ⟨A6_, c6_, zs_, hall_, rfl, (RX.Kd.R_len hrz_).2, hrz_, Off.below ho_ hB_161 (fun D_ hm_ => Nat.le_trans ((bt hB_44 hb_46)).size (hdge_ D_ hm_))⟩
 rintro D_163 c_ pre_ w_162 hD_164 hS_165 hix_ hK_166
 obtain ⟨p_, y_, rfl, hne_⟩ := hix_; exact absurd (EOK.last hS_165).2.1 hne_
end Go.Proofs.YtgphmfnkeolbcaaDoor
