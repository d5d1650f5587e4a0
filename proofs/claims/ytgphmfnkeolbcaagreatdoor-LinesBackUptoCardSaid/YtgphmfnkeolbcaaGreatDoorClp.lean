import Derived.Test.YtgphmfnkeolbcaaGreatDoorGl
import Derived.Test.YtgphmfnkeolbcaaGreatDoorAn3
import Derived.Test.YtgphmfnkeolbcaaGreatDoorUtf4
import Derived.Test.YtgphmfnkeolbcaaGreatDoorP1
import Derived.Test.YtgphmfnkeolbcaaGreatDoorPatch
/- measure.lengths and what stands on it. Conditions: sizes, the tables of utf8, the errors' variables. -/
set_option linter.unusedVariables false
set_option linter.unusedSimpArgs false
set_option maxRecDepth 100000
namespace Go.Proofs.YtgphmfnkeolbcaaGreatDoor
open Go Go.RowKit Go.Proofs.YtgphmfnkeolbcaaGreatDoorW.PrintWords RX
theorem ent78 : Ent Tryz.prog 78 := ent_of Tryz.func78 (by kernel_rfl) rfl
theorem ent69 : Ent Tryz.prog 69 := ent_of Tryz.func69 (by kernel_rfl) rfl
theorem ent15 : Ent Tryz.prog 15 := ent_of Tryz.func15 (by kernel_rfl) rfl
theorem ent68 : Ent Tryz.prog 68 := ent_of Tryz.func68 (by kernel_rfl) rfl
set_option maxHeartbeats 1000000 in
theorem mlen_any (d : Nat) (xs : List OpA) (w : World) (hd : DeltaC w d xs) (hb : badE xs = 0) (hn : xs.length ≤ 1100000) (hz : ∀ i, i < xs.length → opSz (xs.getD i op0)) (hT : Tabs w) (es : List Addr) (hE : ErrsO w es) : Calls Tryz.prog 78 #[pw d 0] w fun e w' => e = .returned (.tuple #[i6 (sumL (xs.map pelO)).1, i6 (sumL (xs.map pelO)).2.1, i6 (sumL (xs.map pelO)).2.2]) ∧ Below w.heap.size w w' := by
 refine RX.enterM Tryz.func78 rfl 37 rfl [(0, pw d 0)] rfl (by kernel_rfl) (fun R_ hR_ => ?_)
 refine RX.X_mark0 rfl ?_
 refine sg (xq 3 [] [(0, pw d 0), (1000000, encD [])] w [] trivial ?_)
 refine nl (sg (xq 1 [] [(0, pw d 0), (5, pw w.heap.size 0), (1000000, encD [])] (w.alloc (.cells #[i6 0] 3)) [] trivial ?_))
 obtain ⟨w_1, hw_5, hb_2, hk_3, hz_4⟩ := new_world w #[i6 0] 3
 rw [hw_5]
 refine xq 1 [] [(0, pw d 0), (5, pw w.heap.size 0), (6, pw w_1.heap.size 0), (1000000, encD [])] (w_1.alloc (.cells #[i6 0] 3)) [] trivial ?_
 obtain ⟨w_6, hw_10, hb_7, hk_8, hz_9⟩ := new_world w_1 #[i6 0] 3
 rw [hw_10]
 refine xq 1 [] [(0, pw d 0), (5, pw w.heap.size 0), (6, pw w_1.heap.size 0), (7, pw w_6.heap.size 0), (1000000, encD [])] (w_6.alloc (.cells #[i6 0] 3)) [] trivial ?_
 obtain ⟨w_11, hw_15, hb_12, hk_13, hz_14⟩ := new_world w_6 #[i6 0] 3
 rw [hw_15]
 refine xst (i6 0) (Blk.below hk_3 (bt hb_7 hb_12)) 0 #[i6 0] (fun w_16 hg_17 hk_18 hz_19 => ?_)
 have hne_20 : w_1.heap.size ≠ w.heap.size := Nat.ne_of_gt (Nat.lt_of_lt_of_le (Blk.lt hk_3) (Nat.le_refl _))
 have hk_21 := Blk.other (Blk.below hk_8 hb_12) hg_17 hne_20
 have hne_22 : w_6.heap.size ≠ w.heap.size := Nat.ne_of_gt (Nat.lt_of_lt_of_le (Blk.lt hk_3) (hb_7).size)
 have hk_23 := Blk.other hk_13 hg_17 hne_22
 refine xst (i6 0) hk_21 0 #[i6 0] (fun w_24 hg_25 hk_26 hz_27 => ?_)
 have hne_28 : w.heap.size ≠ w_1.heap.size := Nat.ne_of_lt (Nat.lt_of_lt_of_le (Blk.lt hk_3) (Nat.le_refl _))
 have hk_29 := Blk.other hk_18 hg_25 hne_28
 have hne_30 : w_6.heap.size ≠ w_1.heap.size := Nat.ne_of_gt (Nat.lt_of_lt_of_le (Blk.lt hk_8) (Nat.le_refl _))
 have hk_31 := Blk.other hk_23 hg_25 hne_30
 refine xst (i6 0) hk_31 0 #[i6 0] (fun w_32 hg_33 hk_34 hz_35 => ?_)
 have hne_36 : w.heap.size ≠ w_6.heap.size := Nat.ne_of_lt (Nat.lt_of_lt_of_le (Blk.lt hk_3) (hb_7).size)
 have hk_37 := Blk.other hk_29 hg_33 hne_36
 have hne_38 : w_1.heap.size ≠ w_6.heap.size := Nat.ne_of_lt (Nat.lt_of_lt_of_le (Blk.lt hk_8) (Nat.le_refl _))
 have hk_39 := Blk.other hk_26 hg_33 hne_38
 refine nl (sq (sg (xq 1 [] [(5, pw w.heap.size 0), (6, pw w_1.heap.size 0), (7, pw w_6.heap.size 0), (12, pw d 0), (1000000, encD [])] w_32 [] trivial ?_)))
 refine xc 85 ent85 [pw d 0] (weach_any d _) ?_
 rintro e w_43 ⟨g_40, rfl, hge_41, hk_42, hb_44⟩; refine ⟨_, rfl, ?_⟩
 have hgl_ := hk_42.lt
 refine nl (X_block ?_)
 have hc5_ : w.heap.size ≤ w.heap.size ∧ w.heap.size < w_32.heap.size := ⟨(Nat.le_refl _), Nat.lt_of_lt_of_le (Blk.lt hk_37) (Nat.le_refl _)⟩
 have hc6_ : w.heap.size ≤ w_1.heap.size ∧ w_1.heap.size < w_32.heap.size := ⟨(hb_2).size, Nat.lt_of_lt_of_le (Blk.lt hk_39) (Nat.le_refl _)⟩
 have hc7_ : w.heap.size ≤ w_6.heap.size ∧ w_6.heap.size < w_32.heap.size := ⟨((bt hb_2 hb_7)).size, Nat.lt_of_lt_of_le (Blk.lt hk_34) (Nat.le_refl _)⟩
 have hlh_ : w_32.heap.size ≤ w_43.heap.size := (hb_44).size
 have hDt_ : ∀ k_, (DI w.heap.size w_32.heap.size w_43.heap.size) k_ → k_ < w_43.heap.size := fun k_ h_ => by rcases h_ with h_ | h_ <;> omega
 have hne_45 : w.heap.size ≠ w_1.heap.size := (Nat.ne_of_lt (Nat.lt_of_lt_of_le (Blk.lt hk_3) (Nat.le_refl _)))
 have hne_46 : w.heap.size ≠ w_6.heap.size := (Nat.ne_of_lt (Nat.lt_of_lt_of_le (Blk.lt hk_3) (hb_7).size))
 have hne_47 : w_1.heap.size ≠ w.heap.size := (Ne.symm (Nat.ne_of_lt (Nat.lt_of_lt_of_le (Blk.lt hk_3) (Nat.le_refl _))))
 have hne_48 : w_1.heap.size ≠ w_6.heap.size := (Nat.ne_of_lt (Nat.lt_of_lt_of_le (Blk.lt hk_8) (Nat.le_refl _)))
 have hne_49 : w_6.heap.size ≠ w.heap.size := (Ne.symm (Nat.ne_of_lt (Nat.lt_of_lt_of_le (Blk.lt hk_3) (hb_7).size)))
 have hne_50 : w_6.heap.size ≠ w_1.heap.size := (Ne.symm (Nat.ne_of_lt (Nat.lt_of_lt_of_le (Blk.lt hk_8) (Nat.le_refl _))))
 have hB_51 : Below w.heap.size w w_43 := (bt (bg (bg (bg (bt (bt hb_2 hb_7) hb_12) hg_17 (Nat.le_refl _)) hg_25 (hb_2).size) hg_33 ((bt hb_2 hb_7)).size) hb_44)
 refine X_rangeM (α := PEl) (ι := Unit) rfl ent139 (encs := fun x_ : PEl => #[x_.val]) (weach_seq (DI w.heap.size w_32.heap.size w_43.heap.size) g_40 d xs w w_43 (hd.below hB_51) hb hn hz (fun k_ h_ => .inl h_) hDt_ hB_51 hT es hE hk_42) (Below.refl _ _) hDt_ (fun _ => rfl) (by kernel_rfl) (fun pre_ M_ W_ => LenI w w.heap.size w_1.heap.size w_6.heap.size pre_ M_ W_) (fun c_ pre_ W_ => False) (fun M_ => LenI.own (hB_51).size M_) (fun _ => RX.ownFrom_pure _) (fun _ _ _ h_ => LenI.im h_ hc5_ hc6_ hc7_) (fun k_ => k_ = w.heap.size ∨ k_ = w_1.heap.size ∨ k_ = w_6.heap.size) ⟨(Blk.below hk_37 hb_44), (Blk.below hk_39 hb_44), (Blk.below hk_34 hb_44), rfl, hB_51⟩ (fun x_ i_ W_ => True) (fun _ => RX.ownFrom_pure _) (fun x_ i_ => [(5, pw w.heap.size 0), (6, pw w_1.heap.size 0), (7, pw w_6.heap.size 0), (8, x_.val)]) ?_ ?_ ?_ ?_
 ·rintro lp_ pre_ M_ x_ W_ hlp_ hws_ ⟨hk5_, hk6_, hk7_, hM_, hBw_⟩ hpx_ hlen_
  refine XI_keep [5, 6, 7, 12, 13, 14] [(5, pw w.heap.size 0), (6, pw w_1.heap.size 0), (7, pw w_6.heap.size 0), (12, pw d 0), (13, .func (.func 139) #[] #[pw g_40 0]), (14, x_.val)] (by kernel_rfl) ?_
  refine XI_region (by kernel_rfl) (fun _ _ h_ => h_) ?_
  refine xq 1 [] [(5, pw w.heap.size 0), (6, pw w_1.heap.size 0), (7, pw w_6.heap.size 0), (8, x_.val)] W_ [] trivial ?_
  refine nl ?_
  exact ⟨(), by kernel_rfl, KeepsFrom.refl _ _, KpM.refl _ _ _, ⟨hk5_, hk6_, hk7_, hM_, hBw_⟩, trivial⟩
 ·rintro lp_ pre_ M_ x_ i_ W_ hlp_ hws_ ⟨hk5_, hk6_, hk7_, hM_, hBw_⟩ _ hlen_
  refine XI_block ?_
  refine XI_seq ?_
  refine XI_region (by kernel_rfl) (fun _ _ h_ => h_) ?_
  rcases x_ with ⟨A_, n_, c_, t_, k_⟩ | ⟨A_, n_, c_, t_, v_⟩ | ⟨A_, n_, c_, k_⟩ | ⟨k_⟩
  ·refine xq 1 [] [(5, pw w.heap.size 0), (6, pw w_1.heap.size 0), (7, pw w_6.heap.size 0), (8, .iface 249 (.agg #[.slice A_ n_ c_, sT t_, i6 k_])), (15, .iface 249 (.agg #[.slice A_ n_ c_, sT t_, i6 k_]))] W_ [] trivial ?_
   refine nl (XI_block ?_)
   refine XI_seq ?_
   refine XI_region (by kernel_rfl) (fun _ _ h_ => h_) ?_
   refine xq 3 [] [(5, pw w.heap.size 0), (6, pw w_1.heap.size 0), (7, pw w_6.heap.size 0), (8, .iface 249 (.agg #[.slice A_ n_ c_, sT t_, i6 k_])), (15, .iface 249 (.agg #[.slice A_ n_ c_, sT t_, i6 k_])), (21, bF), (22, .agg #[.slice none 0 0, i6 0])] W_ [] trivial ?_
   refine nl (XI_cond false rfl ?_)
   refine XI_seq ?_
   refine XI_region (by kernel_rfl) (fun _ _ h_ => h_) ?_
   refine xq 3 [] [(5, pw w.heap.size 0), (6, pw w_1.heap.size 0), (7, pw w_6.heap.size 0), (8, .iface 249 (.agg #[.slice A_ n_ c_, sT t_, i6 k_])), (15, .iface 249 (.agg #[.slice A_ n_ c_, sT t_, i6 k_])), (28, bF), (29, .agg #[i6 0])] W_ [] trivial ?_
   refine nl (XI_cond false rfl ?_)
   refine XI_seq ?_
   refine XI_region (by kernel_rfl) (fun _ _ h_ => h_) ?_
   refine xq 1 [] [(5, pw w.heap.size 0), (6, pw w_1.heap.size 0), (7, pw w_6.heap.size 0), (8, .iface 249 (.agg #[.slice A_ n_ c_, sT t_, i6 k_]))] W_ [] trivial ?_
   refine nl (XI_gen (by kernel_rfl) (fun _ _ h_ => h_) (S := fun w_ => RX.Blk w_ w.heap.size 3 #[i6 ((sumL (pre_.map PEl.op)).1)]) [4] 5 (tf 0 5) (by kernel_rfl) (by kernel_rfl) (by kernel_rfl) (fun wd_52 hb_53 hh_54 => ?_))
   refine XG_run (fuel' := 3) (Blk.below hk5_ hb_53) [0, 1] [(16, .load (i6 ((sumL (pre_.map PEl.op)).1)))] [i6 ((sumL (pre_.map PEl.op)).1), .iface 249 (.agg #[.slice A_ n_ c_, sT t_, i6 k_])] (tf 2 3) [(5, pw w.heap.size 0), (6, pw w_1.heap.size 0), (7, pw w_6.heap.size 0), (16, i6 ((sumL (pre_.map PEl.op)).1)), (17, .iface 249 (.agg #[.slice A_ n_ c_, sT t_, i6 k_]))] (fun w_ => [la 3 (⟨w.heap.size, 0, none⟩) (i6 ((sumL (pre_.map PEl.op)).1)) w_]) (fun w_ hC_ => ⟨loads1 rfl (Blk.cell hC_ 0 _ rfl), trivial⟩) ?_
   refine XG_mid (fuel' := 2) 2 (tf 3 2) _ rfl (by kernel_rfl) (by kernel_rfl) rfl ?_
   refine XL_inv 251 #[.agg #[.slice A_ n_ c_, sT t_, i6 k_]] rfl rfl (by kernel_rfl) (by kernel_rfl) (insertLen_any _ _ _ _ _ _) ?_
   rintro e w_55 ⟨rfl, hb_56⟩; refine ⟨_, rfl, ?_⟩
   refine nl ?_
   refine ⟨(Blk.below hk5_ (bt hb_53 hb_56)), ?_⟩
   refine XG_run (fuel' := 1) (Blk.below hk5_ (bt hb_53 hb_56)) [3] [] [i6 (IntKind.i64.wrap (((sumL (pre_.map PEl.op)).1) + k_))] (tf 4 1) [(5, pw w.heap.size 0), (6, pw w_1.heap.size 0), (7, pw w_6.heap.size 0), (19, i6 (IntKind.i64.wrap (((sumL (pre_.map PEl.op)).1) + k_)))] (fun w_ => []) (fun w_ hC_ => trivial) ?_
   refine XG_last (fuel' := 0) 4 (tf 5 0) _ rfl (by kernel_rfl) (by kernel_rfl) rfl (by decide) ?_
   refine xst (i6 (IntKind.i64.wrap (((sumL (pre_.map PEl.op)).1) + k_))) (Blk.below hk5_ (bt hb_53 hb_56)) 0 #[i6 (IntKind.i64.wrap (((sumL (pre_.map PEl.op)).1) + k_))] (fun w_57 hg_58 hk_59 hz_60 => ?_)
   have hk_61 := Blk.other (Blk.below hk6_ (bt hb_53 hb_56)) hg_58 hne_47
   have hk_62 := Blk.other (Blk.below hk7_ (bt hb_53 hb_56)) hg_58 hne_49
   refine nl (XG_done (by kernel_rfl) ?_)
   have hDw_ : ∀ k_, (DI w.heap.size w_32.heap.size w_43.heap.size) k_ → k_ < W_.heap.size := fun k_ h_ => by have := hDt_ k_ h_; omega
   have hsn_ := len_snoc pre_ (PEl.ins A_ n_ c_ t_ k_)
   have hB_63 : Below w.heap.size w w_57 := (bg (bt (bt hBw_ hb_53) hb_56) hg_58 (Nat.le_refl _))
   refine ⟨(KeepsFrom.trans (KeepsFrom.trans (keeps_below hb_53) (keeps_below hb_56)) (keeps_store (Blk.below hk5_ (bt hb_53 hb_56)) hg_58)), M_, (KpM.trans (KpM.trans (KpM.below (fun k_ h_ => Nat.lt_of_lt_of_le (hDw_ k_ h_) (Nat.le_refl _)) hb_53) (KpM.below (fun k_ h_ => Nat.lt_of_lt_of_le (hDw_ k_ h_) hb_53.size) hb_56)) (KpM.grown hg_58 (fun k_ e_ => by injection e_ with e_; subst e_; exact ⟨by rw [hM_]; first | exact .inl rfl | exact .inr (.inl rfl) | exact .inr (.inr rfl), fun h_ => by rcases h_ with h_ | h_ <;> omega⟩) (fun k_ h_ => Nat.lt_of_lt_of_le (hDw_ k_ h_) (Nat.le_trans hb_53.size hb_56.size)))), (fun k_ h_ => .inl h_), ⟨?_, ?_, ?_, hM_, hB_63⟩⟩ <;> rw [hsn_]
   ·exact hk_59
   ·exact hk_61
   exact hk_62
  ·refine xq 1 [] [(5, pw w.heap.size 0), (6, pw w_1.heap.size 0), (7, pw w_6.heap.size 0), (8, .iface 253 (.agg #[.slice A_ n_ c_, sT t_, v_])), (15, .iface 253 (.agg #[.slice A_ n_ c_, sT t_, v_]))] W_ [] trivial ?_
   refine nl (XI_block ?_)
   refine XI_seq ?_
   refine XI_region (by kernel_rfl) (fun _ _ h_ => h_) ?_
   refine xq 3 [] [(5, pw w.heap.size 0), (6, pw w_1.heap.size 0), (7, pw w_6.heap.size 0), (8, .iface 253 (.agg #[.slice A_ n_ c_, sT t_, v_])), (15, .iface 253 (.agg #[.slice A_ n_ c_, sT t_, v_])), (21, bF), (22, .agg #[.slice none 0 0, i6 0])] W_ [] trivial ?_
   refine nl (XI_cond false rfl ?_)
   refine XI_seq ?_
   refine XI_region (by kernel_rfl) (fun _ _ h_ => h_) ?_
   refine xq 3 [] [(5, pw w.heap.size 0), (6, pw w_1.heap.size 0), (7, pw w_6.heap.size 0), (8, .iface 253 (.agg #[.slice A_ n_ c_, sT t_, v_])), (15, .iface 253 (.agg #[.slice A_ n_ c_, sT t_, v_])), (28, bF), (29, .agg #[i6 0])] W_ [] trivial ?_
   refine nl (XI_cond false rfl ?_)
   refine XI_seq ?_
   refine XI_region (by kernel_rfl) (fun _ _ h_ => h_) ?_
   refine xq 1 [] [(5, pw w.heap.size 0), (6, pw w_1.heap.size 0), (7, pw w_6.heap.size 0), (8, .iface 253 (.agg #[.slice A_ n_ c_, sT t_, v_]))] W_ [] trivial ?_
   refine nl (XI_gen (by kernel_rfl) (fun _ _ h_ => h_) (S := fun w_ => RX.Blk w_ w.heap.size 3 #[i6 ((sumL (pre_.map PEl.op)).1)]) [4] 5 (tf 0 5) (by kernel_rfl) (by kernel_rfl) (by kernel_rfl) (fun wd_64 hb_65 hh_66 => ?_))
   refine XG_run (fuel' := 3) (Blk.below hk5_ hb_65) [0, 1] [(16, .load (i6 ((sumL (pre_.map PEl.op)).1)))] [i6 ((sumL (pre_.map PEl.op)).1), .iface 253 (.agg #[.slice A_ n_ c_, sT t_, v_])] (tf 2 3) [(5, pw w.heap.size 0), (6, pw w_1.heap.size 0), (7, pw w_6.heap.size 0), (16, i6 ((sumL (pre_.map PEl.op)).1)), (17, .iface 253 (.agg #[.slice A_ n_ c_, sT t_, v_]))] (fun w_ => [la 3 (⟨w.heap.size, 0, none⟩) (i6 ((sumL (pre_.map PEl.op)).1)) w_]) (fun w_ hC_ => ⟨loads1 rfl (Blk.cell hC_ 0 _ rfl), trivial⟩) ?_
   refine XG_mid (fuel' := 2) 2 (tf 3 2) _ rfl (by kernel_rfl) (by kernel_rfl) rfl ?_
   refine XL_inv 253 #[.agg #[.slice A_ n_ c_, sT t_, v_]] rfl rfl (by kernel_rfl) (by kernel_rfl) (embedLen_any _ _ _ _ _ _) ?_
   rintro e w_67 ⟨rfl, hb_68⟩; refine ⟨_, rfl, ?_⟩
   refine nl ?_
   refine ⟨(Blk.below hk5_ (bt hb_65 hb_68)), ?_⟩
   refine XG_run (fuel' := 1) (Blk.below hk5_ (bt hb_65 hb_68)) [3] [] [i6 (IntKind.i64.wrap (((sumL (pre_.map PEl.op)).1) + 1))] (tf 4 1) [(5, pw w.heap.size 0), (6, pw w_1.heap.size 0), (7, pw w_6.heap.size 0), (19, i6 (IntKind.i64.wrap (((sumL (pre_.map PEl.op)).1) + 1)))] (fun w_ => []) (fun w_ hC_ => trivial) ?_
   refine XG_last (fuel' := 0) 4 (tf 5 0) _ rfl (by kernel_rfl) (by kernel_rfl) rfl (by decide) ?_
   refine xst (i6 (IntKind.i64.wrap (((sumL (pre_.map PEl.op)).1) + 1))) (Blk.below hk5_ (bt hb_65 hb_68)) 0 #[i6 (IntKind.i64.wrap (((sumL (pre_.map PEl.op)).1) + 1))] (fun w_69 hg_70 hk_71 hz_72 => ?_)
   have hk_73 := Blk.other (Blk.below hk6_ (bt hb_65 hb_68)) hg_70 hne_47
   have hk_74 := Blk.other (Blk.below hk7_ (bt hb_65 hb_68)) hg_70 hne_49
   refine nl (XG_done (by kernel_rfl) ?_)
   have hDw_ : ∀ k_, (DI w.heap.size w_32.heap.size w_43.heap.size) k_ → k_ < W_.heap.size := fun k_ h_ => by have := hDt_ k_ h_; omega
   have hsn_ := len_snoc pre_ (PEl.emb A_ n_ c_ t_ v_)
   have hB_75 : Below w.heap.size w w_69 := (bg (bt (bt hBw_ hb_65) hb_68) hg_70 (Nat.le_refl _))
   refine ⟨(KeepsFrom.trans (KeepsFrom.trans (keeps_below hb_65) (keeps_below hb_68)) (keeps_store (Blk.below hk5_ (bt hb_65 hb_68)) hg_70)), M_, (KpM.trans (KpM.trans (KpM.below (fun k_ h_ => Nat.lt_of_lt_of_le (hDw_ k_ h_) (Nat.le_refl _)) hb_65) (KpM.below (fun k_ h_ => Nat.lt_of_lt_of_le (hDw_ k_ h_) hb_65.size) hb_68)) (KpM.grown hg_70 (fun k_ e_ => by injection e_ with e_; subst e_; exact ⟨by rw [hM_]; first | exact .inl rfl | exact .inr (.inl rfl) | exact .inr (.inr rfl), fun h_ => by rcases h_ with h_ | h_ <;> omega⟩) (fun k_ h_ => Nat.lt_of_lt_of_le (hDw_ k_ h_) (Nat.le_trans hb_65.size hb_68.size)))), (fun k_ h_ => .inl h_), ⟨?_, ?_, ?_, hM_, hB_75⟩⟩ <;> rw [hsn_]
   ·exact hk_71
   ·exact hk_73
   exact hk_74
  ·refine xq 1 [] [(5, pw w.heap.size 0), (6, pw w_1.heap.size 0), (7, pw w_6.heap.size 0), (8, .iface 128 (.agg #[.slice A_ n_ c_, i6 k_])), (15, .iface 128 (.agg #[.slice A_ n_ c_, i6 k_]))] W_ [] trivial ?_
   refine nl (XI_block ?_)
   refine XI_seq ?_
   refine XI_region (by kernel_rfl) (fun _ _ h_ => h_) ?_
   refine xq 3 [] [(5, pw w.heap.size 0), (6, pw w_1.heap.size 0), (7, pw w_6.heap.size 0), (8, .iface 128 (.agg #[.slice A_ n_ c_, i6 k_])), (15, .iface 128 (.agg #[.slice A_ n_ c_, i6 k_])), (21, bT), (22, .agg #[.slice A_ n_ c_, i6 k_])] W_ [] trivial ?_
   refine nl (XI_cond true rfl ?_)
   refine XI_seq ?_
   refine XI_region (by kernel_rfl) (fun _ _ h_ => h_) ?_
   refine xq 1 [] [(5, pw w.heap.size 0), (6, pw w_1.heap.size 0), (7, pw w_6.heap.size 0), (9, pw W_.heap.size 0), (22, .agg #[.slice A_ n_ c_, i6 k_])] (W_.alloc (.cells #[.slice none 0 0, i6 0] 128)) [] trivial ?_
   obtain ⟨w_76, hw_80, hb_77, hk_78, hz_79⟩ := new_world W_ #[.slice none 0 0, i6 0] 128
   rw [hw_80]
   refine xst (.agg #[.slice A_ n_ c_, i6 k_]) hk_78 0 #[.slice A_ n_ c_, i6 k_] (fun w_81 hg_82 hk_83 hz_84 => ?_)
   have hne_85 : w.heap.size ≠ W_.heap.size := Blk.tne (Blk.below hk5_ hb_77) hk_78 rfl
   have hk_86 := Blk.other (Blk.below hk5_ hb_77) hg_82 hne_85
   have hne_87 : w_1.heap.size ≠ W_.heap.size := Blk.tne (Blk.below hk6_ hb_77) hk_78 rfl
   have hk_88 := Blk.other (Blk.below hk6_ hb_77) hg_82 hne_87
   have hne_89 : w_6.heap.size ≠ W_.heap.size := Blk.tne (Blk.below hk7_ hb_77) hk_78 rfl
   have hk_90 := Blk.other (Blk.below hk7_ hb_77) hg_82 hne_89
   refine nl (XI_region (by kernel_rfl) (fun _ _ h_ => h_) ?_)
   refine xq 4 [(23, .load (i6 ((sumL (pre_.map PEl.op)).2.1))), (25, .load (i6 k_))] [(5, pw w.heap.size 0), (6, pw w_1.heap.size 0), (7, pw w_6.heap.size 0), (26, i6 (IntKind.i64.wrap (((sumL (pre_.map PEl.op)).2.1) + k_)))] w_81 [la 3 (⟨w_1.heap.size, 0, none⟩) (i6 ((sumL (pre_.map PEl.op)).2.1)) w_81, la 3 (⟨W_.heap.size, 1, none⟩) (i6 k_) w_81] ⟨loads1 rfl (Blk.cell hk_88 0 _ rfl), loads1 rfl (Blk.cell hk_83 1 _ rfl), trivial⟩ ?_
   refine xst (i6 (IntKind.i64.wrap (((sumL (pre_.map PEl.op)).2.1) + k_))) hk_88 0 #[i6 (IntKind.i64.wrap (((sumL (pre_.map PEl.op)).2.1) + k_))] (fun w_91 hg_92 hk_93 hz_94 => ?_)
   have hk_95 := Blk.other hk_86 hg_92 hne_45
   have hk_96 := Blk.other hk_90 hg_92 hne_50
   refine nl ?_
   have hDw_ : ∀ k_, (DI w.heap.size w_32.heap.size w_43.heap.size) k_ → k_ < W_.heap.size := fun k_ h_ => by have := hDt_ k_ h_; omega
   have hsn_ := len_snoc pre_ (PEl.ret A_ n_ c_ k_)
   have hB_99 : Below w.heap.size w w_91 := (bg (bg (bt hBw_ hb_77) hg_82 (hBw_).size) hg_92 (hb_2).size)
   refine ⟨(KeepsFrom.trans (KeepsFrom.trans (keeps_below hb_77) (keeps_store hk_78 hg_82)) (keeps_store hk_88 hg_92)), M_, (KpM.trans (KpM.below hDw_ (bg hb_77 hg_82 (Nat.le_refl _))) (KpM.grown hg_92 (fun k_ e_ => by injection e_ with e_; subst e_; exact ⟨by rw [hM_]; first | exact .inl rfl | exact .inr (.inl rfl) | exact .inr (.inr rfl), fun h_ => by rcases h_ with h_ | h_ <;> omega⟩) (fun k_ h_ => Nat.lt_of_lt_of_le (hDw_ k_ h_) (Nat.le_trans hb_77.size hg_82.size)))), (fun k_ h_ => .inl h_), ⟨?_, ?_, ?_, hM_, hB_99⟩⟩ <;> rw [hsn_]
   ·exact hk_95
   ·exact hk_93
   exact hk_96
  refine xq 1 [] [(5, pw w.heap.size 0), (6, pw w_1.heap.size 0), (7, pw w_6.heap.size 0), (8, .iface 133 (.agg #[i6 k_])), (15, .iface 133 (.agg #[i6 k_]))] W_ [] trivial ?_
  refine nl (XI_block ?_)
  refine XI_seq ?_
  refine XI_region (by kernel_rfl) (fun _ _ h_ => h_) ?_
  refine xq 3 [] [(5, pw w.heap.size 0), (6, pw w_1.heap.size 0), (7, pw w_6.heap.size 0), (8, .iface 133 (.agg #[i6 k_])), (15, .iface 133 (.agg #[i6 k_])), (21, bF), (22, .agg #[.slice none 0 0, i6 0])] W_ [] trivial ?_
  refine nl (XI_cond false rfl ?_)
  refine XI_seq ?_
  refine XI_region (by kernel_rfl) (fun _ _ h_ => h_) ?_
  refine xq 3 [] [(5, pw w.heap.size 0), (6, pw w_1.heap.size 0), (7, pw w_6.heap.size 0), (8, .iface 133 (.agg #[i6 k_])), (15, .iface 133 (.agg #[i6 k_])), (28, bT), (29, .agg #[i6 k_])] W_ [] trivial ?_
  refine nl (XI_cond true rfl ?_)
  refine XI_seq ?_
  refine XI_region (by kernel_rfl) (fun _ _ h_ => h_) ?_
  refine xq 1 [] [(5, pw w.heap.size 0), (6, pw w_1.heap.size 0), (7, pw w_6.heap.size 0), (10, pw W_.heap.size 0), (29, .agg #[i6 k_])] (W_.alloc (.cells #[i6 0] 133)) [] trivial ?_
  obtain ⟨w_100, hw_104, hb_101, hk_102, hz_103⟩ := new_world W_ #[i6 0] 133
  rw [hw_104]
  refine xst (.agg #[i6 k_]) hk_102 0 #[i6 k_] (fun w_105 hg_106 hk_107 hz_108 => ?_)
  have hne_109 : w.heap.size ≠ W_.heap.size := Blk.tne (Blk.below hk5_ hb_101) hk_102 rfl
  have hk_110 := Blk.other (Blk.below hk5_ hb_101) hg_106 hne_109
  have hne_111 : w_1.heap.size ≠ W_.heap.size := Blk.tne (Blk.below hk6_ hb_101) hk_102 rfl
  have hk_112 := Blk.other (Blk.below hk6_ hb_101) hg_106 hne_111
  have hne_113 : w_6.heap.size ≠ W_.heap.size := Blk.tne (Blk.below hk7_ hb_101) hk_102 rfl
  have hk_114 := Blk.other (Blk.below hk7_ hb_101) hg_106 hne_113
  refine nl (XI_region (by kernel_rfl) (fun _ _ h_ => h_) ?_)
  refine xq 4 [(30, .load (i6 ((sumL (pre_.map PEl.op)).2.2))), (32, .load (i6 k_))] [(5, pw w.heap.size 0), (6, pw w_1.heap.size 0), (7, pw w_6.heap.size 0), (33, i6 (IntKind.i64.wrap (((sumL (pre_.map PEl.op)).2.2) + k_)))] w_105 [la 3 (⟨w_6.heap.size, 0, none⟩) (i6 ((sumL (pre_.map PEl.op)).2.2)) w_105, la 3 (⟨W_.heap.size, 0, none⟩) (i6 k_) w_105] ⟨loads1 rfl (Blk.cell hk_114 0 _ rfl), loads1 rfl (Blk.cell hk_107 0 _ rfl), trivial⟩ ?_
  refine xst (i6 (IntKind.i64.wrap (((sumL (pre_.map PEl.op)).2.2) + k_))) hk_114 0 #[i6 (IntKind.i64.wrap (((sumL (pre_.map PEl.op)).2.2) + k_))] (fun w_115 hg_116 hk_117 hz_118 => ?_)
  have hk_119 := Blk.other hk_110 hg_116 hne_46
  have hk_120 := Blk.other hk_112 hg_116 hne_48
  refine nl ?_
  have hDw_ : ∀ k_, (DI w.heap.size w_32.heap.size w_43.heap.size) k_ → k_ < W_.heap.size := fun k_ h_ => by have := hDt_ k_ h_; omega
  have hsn_ := len_snoc pre_ (PEl.del k_)
  have hB_123 : Below w.heap.size w w_115 := (bg (bg (bt hBw_ hb_101) hg_106 (hBw_).size) hg_116 ((bt hb_2 hb_7)).size)
  refine ⟨(KeepsFrom.trans (KeepsFrom.trans (keeps_below hb_101) (keeps_store hk_102 hg_106)) (keeps_store hk_114 hg_116)), M_, (KpM.trans (KpM.below hDw_ (bg hb_101 hg_106 (Nat.le_refl _))) (KpM.grown hg_116 (fun k_ e_ => by injection e_ with e_; subst e_; exact ⟨by rw [hM_]; first | exact .inl rfl | exact .inr (.inl rfl) | exact .inr (.inr rfl), fun h_ => by rcases h_ with h_ | h_ <;> omega⟩) (fun k_ h_ => Nat.lt_of_lt_of_le (hDw_ k_ h_) (Nat.le_trans hb_101.size hg_106.size)))), (fun k_ h_ => .inl h_), ⟨?_, ?_, ?_, hM_, hB_123⟩⟩ <;> rw [hsn_]
  ·exact hk_119
  ·exact hk_120
  exact hk_117
 ·rintro D_125 pre_ M_ w_124 hD_126 hS_127 ⟨hk5_, hk6_, hk7_, hM_, hBw_⟩ hK_128
  have hall_ : pre_.map PEl.op = xs.map pelO := by have h_ : POK xs pre_ := hS_127.1; unfold POK at h_; rw [hS_127.2, List.take_length] at h_; exact h_
  rw [hall_] at hk5_ hk6_ hk7_
  have hds_ : Defs (D_125 :: []) w_124 := Defs.cons hK_128 (fun _ h_ => by cases h_)
  have hdge_ : ∀ D_ ∈ D_125 :: [], w_43.heap.size ≤ D_ := fun D_ hm_ => (List.mem_cons.1 hm_).elim (fun e_ => by omega) (fun h_ => by cases h_)
  refine sq (X_still (by kernel_rfl) (by kernel_rfl) (fun wd_129 hb_130 hh_131 => ?_))
  refine xse 6 [(34, .load (i6 ((sumL (xs.map pelO)).1))), (35, .load (i6 ((sumL (xs.map pelO)).2.1))), (36, .load (i6 ((sumL (xs.map pelO)).2.2)))] [(2, i6 ((sumL (xs.map pelO)).1)), (3, i6 ((sumL (xs.map pelO)).2.1)), (4, i6 ((sumL (xs.map pelO)).2.2)), (1000000, encD (D_125 :: []))] [_, _, _] ⟨lc 3 (Blk.below hk5_ hb_130) 0, lc 3 (Blk.below hk6_ hb_130) 0, lc 3 (Blk.below hk7_ hb_130) 0, trivial⟩ ?_
  refine XS_nil ?_
  refine X_ret (RX.retM_ok (P := Tryz.prog) (fn := Tryz.f78) (N := 37) (R := R_) (ds := (D_125 :: [])) (dsOf_enc (by kernel_rfl)) (List.nodup_cons.2 ⟨fun h_ => (by cases h_), List.nodup_nil⟩) (Defs.below hb_130 hds_) [i6 ((sumL (xs.map pelO)).1), i6 ((sumL (xs.map pelO)).2.1), i6 ((sumL (xs.map pelO)).2.2)] (by kernel_rfl) (fun w_ ho_ => hR_ _ _ ?_))
  exact ⟨rfl, Off.below ho_ (bt hBw_ hb_130) (fun D_ hm_ => Nat.le_trans (hB_51).size (hdge_ D_ hm_))⟩
 rintro D_133 c_ pre_ w_132 hD_134 hS_135 hix_ hK_136
 exact hix_.elim
noncomputable def mResO (xs : List OpA) : Int := IntKind.i64.wrap ((sumL (xs.map pelO)).1 + (sumL (xs.map pelO)).2.1)
noncomputable def mBaseO (xs : List OpA) : Int := IntKind.i64.wrap ((sumL (xs.map pelO)).2.1 + (sumL (xs.map pelO)).2.2)
theorem mres_any (d : Nat) (xs : List OpA) (w : World) (hd : DeltaC w d xs) (hb : badE xs = 0) (hn : xs.length ≤ 1100000) (hz : ∀ i, i < xs.length → opSz (xs.getD i op0)) (hT : Tabs w) (es : List Addr) (hE : ErrsO w es) : Calls Tryz.prog 69 #[pw d 0] w fun e w' => e = .returned (i6 (mResO xs)) ∧ Below w.heap.size w w' := by
 refine en Tryz.func69 rfl 15 [(0, pw d 0)] (fun R_ hR_ => ?_)
 refine sg (xe0 1 [(0, pw d 0)] ?_)
 refine nl (sg (xe0 1 [(7, pw d 0)] ?_))
 refine xc 78 ent78 [pw d 0] (mlen_any d xs _ hd hb hn hz hT es hE) ?_
 rintro e w_1 ⟨rfl, hb_2⟩; refine ⟨_, rfl, ?_⟩
 refine xe0 7 [(3, i6 ((sumL (xs.map pelO)).1)), (4, i6 ((sumL (xs.map pelO)).2.1))] ?_
 refine nl (sg (xe0 4 [(2, i6 (IntKind.i64.wrap (((sumL (xs.map pelO)).1) + ((sumL (xs.map pelO)).2.1))))] ?_))
 refine nl (X_ret (rj [i6 (IntKind.i64.wrap (((sumL (xs.map pelO)).1) + ((sumL (xs.map pelO)).2.1)))] hR_ ?_))
 exact ⟨rfl, hb_2⟩
theorem mbase_any (d : Nat) (xs : List OpA) (w : World) (hd : DeltaC w d xs) (hb : badE xs = 0) (hn : xs.length ≤ 1100000) (hz : ∀ i, i < xs.length → opSz (xs.getD i op0)) (hT : Tabs w) (es : List Addr) (hE : ErrsO w es) : Calls Tryz.prog 15 #[pw d 0] w fun e w' => e = .returned (i6 (mBaseO xs)) ∧ Below w.heap.size w w' := by
 refine en Tryz.func15 rfl 15 [(0, pw d 0)] (fun R_ hR_ => ?_)
 refine sg (xe0 1 [(0, pw d 0)] ?_)
 refine nl (sg (xe0 1 [(7, pw d 0)] ?_))
 refine xc 78 ent78 [pw d 0] (mlen_any d xs _ hd hb hn hz hT es hE) ?_
 rintro e w_1 ⟨rfl, hb_2⟩; refine ⟨_, rfl, ?_⟩
 refine xe0 7 [(4, i6 ((sumL (xs.map pelO)).2.1)), (5, i6 ((sumL (xs.map pelO)).2.2))] ?_
 refine nl (sg (xe0 4 [(2, i6 (IntKind.i64.wrap (((sumL (xs.map pelO)).2.1) + ((sumL (xs.map pelO)).2.2))))] ?_))
 refine nl (X_ret (rj [i6 (IntKind.i64.wrap (((sumL (xs.map pelO)).2.1) + ((sumL (xs.map pelO)).2.2)))] hR_ ?_))
 exact ⟨rfl, hb_2⟩
theorem mdoc_any (d : Nat) (xs : List OpA) (w : World) (hd : DeltaC w d xs) (hb : badE xs = 0) (hn : xs.length ≤ 1100000) (hz : ∀ i, i < xs.length → opSz (xs.getD i op0)) (hT : Tabs w) (es : List Addr) (hE : ErrsO w es) : Calls Tryz.prog 68 #[pw d 0] w fun e w' => e = .returned (.bool (decide (mBaseO xs = 0))) ∧ Below w.heap.size w w' := by
 refine en Tryz.func68 rfl 6 [(0, pw d 0)] (fun R_ hR_ => ?_)
 refine sg (xe0 1 [(0, pw d 0)] ?_)
 refine nl (sg (xe0 1 [(3, pw d 0)] ?_))
 refine xc 15 ent15 [pw d 0] (mbase_any d xs _ hd hb hn hz hT es hE) ?_
 rintro e w_1 ⟨rfl, hb_2⟩; refine ⟨_, rfl, ?_⟩
 by_cases c_3 : (mBaseO xs) = 0
 ·refine xe1 2 [(5, .eq bT)] [(2, bT)] (bE c_3) ?_
  refine nl (X_ret (rj [bT] hR_ ?_))
  exact ⟨by simp [*]; rfl, hb_2⟩
 refine xe1 2 [(5, .eq bF)] [(2, bF)] (bN c_3) ?_
 refine nl (X_ret (rj [bF] hR_ ?_))
 exact ⟨by simp [*]; rfl, hb_2⟩
namespace B
theorem can_tx {xs : List OpA} (h : ∀ o ∈ xs, fine o) : txS (can xs) ≤ txS xs := by
  obtain ⟨h1, h2⟩ := run_sz xs h
  obtain ⟨d1, d2⟩ := dels_sz (g := (run xs).2) h1
  unfold can fin
  split
  · have := txS_take (dels (run xs).1 (run xs).2) ((dels (run xs).1 (run xs).2).length - 1); omega
  · omega
end B
namespace B
theorem empty_app (s : ByteArray) : ByteArray.empty ++ s = s := U.bl_inj (by rw [bl_append]; rfl)
theorem rb_append (l m : List Int) : runesBytes (l ++ m) = runesBytes l ++ runesBytes m := by
  unfold runesBytes
  rw [List.foldl_append]
  have key : ∀ (m : List Int) (s : ByteArray), m.foldl (fun r n => r ++ Utf8.encode n) s = s ++ m.foldl (fun r n => r ++ Utf8.encode n) ByteArray.empty := by
    intro m
    induction m with
    | nil => intro s; exact (app_empty s).symm
    | cons a m ih =>
      intro s
      rw [List.foldl_cons, List.foldl_cons, ih (s ++ Utf8.encode a), ih (ByteArray.empty ++ Utf8.encode a), app_assoc, empty_app]
  exact key m _
theorem foldl_ins : ∀ (os : List OpA) (s : St), (∀ o ∈ os, o.kind = 1 ∨ o.kind = 2) → os.foldl step s = (os.foldl push s.1, s.2)
  | [], s, _ => rfl
  | o :: r, s, h => by
    have h1 := h o List.mem_cons_self
    rw [List.foldl_cons, List.foldl_cons, foldl_ins r _ fun x hx => h x (List.mem_cons_of_mem _ hx)]
    unfold step
    rw [if_neg (by omega), if_neg (by omega)]
theorem rb_size {l : List Int} (h : ∀ r ∈ l, U.vz r) : (runesBytes l).size ≤ 4 * l.length := by
  obtain ⟨rs, rfl, hv⟩ := U.vz_map h
  have h1 := congrArg List.length (U.runesBytes_flat rs)
  rw [U.bl_size] at h1
  rw [h1, List.length_map]
  clear h1 h hv
  induction rs with
  | nil => exact Nat.zero_le _
  | cons r rs ih =>
    have := (U.enc_len r).2
    rw [U.flat_cons, List.length_append, List.length_cons]; omega
end B
theorem ins_ref {o : OpA} (h : pErr o = 0) (hk : o.kind = 1 ∨ o.kind = 2) : refuseP o = 0 := by
  have h1 := B.has_ok h
  unfold pErr at h
  rwa [h1, if_neg (by simp), if_pos hk] at h
theorem doc_ref {xs : List OpA} (hb : badE xs = 0) (hd : isDoc xs = true) : ∀ t, t < xs.length → refuseP (xs.getD t op0) = 0 :=
  fun t ht => ins_ref (badE_getD hb ht) (isDoc_at hd ht)
theorem cellsP_len1 (o : OpA) : (cellsP o).length ≤ o.text.size + 1 := by
  unfold cellsP
  split
  · simp
  · rw [List.length_map]; have := U.sc_le o.text; omega
theorem cellsAll_few : ∀ xs : List OpA, (cellsAll xs).length ≤ B.txS xs + xs.length
  | [] => by simp [cellsAll]
  | o :: r => by
    have h1 := cellsAll_few r
    have h2 := cellsP_len1 o
    unfold cellsAll at h1 ⊢
    rw [List.flatMap_cons, List.length_append, List.length_cons]
    show _ ≤ (o.text.size + B.txS r) + _
    omega
theorem cellsAll_cons (o : OpA) (r : List OpA) : cellsAll (o :: r) = cellsP o ++ cellsAll r := by unfold cellsAll; rw [List.flatMap_cons]
theorem cellsAll_app (xs ys : List OpA) : cellsAll (xs ++ ys) = cellsAll xs ++ cellsAll ys := by unfold cellsAll; rw [List.flatMap_append]
theorem pelO_ins {o : OpA} (hk : o.kind = 1 ∨ o.kind = 2) : (pelO o).2 = ((cellsP o).length : Int) := by
  unfold pelO cellsP
  rcases hk with hk | hk
  · rw [if_pos hk, if_neg (by omega), List.length_map]
  · rw [if_neg (by omega), if_pos hk, if_pos hk]; rfl
theorem sumL_doc : ∀ xs : List OpA, (∀ o ∈ xs, o.kind = 1 ∨ o.kind = 2) → (cellsAll xs).length ≤ 9223372036854775807 → sumL (xs.map pelO) = (((cellsAll xs).length : Int), 0, 0) := by
  refine B.snoc_ind (fun _ _ => rfl) ?_
  intro xs a ih hd hl
  have hk := hd a (List.mem_append_right _ (List.mem_singleton_self a))
  rw [cellsAll_app, List.length_append] at hl
  have e1 : cellsAll [a] = cellsP a := by rw [cellsAll_cons]; exact List.append_nil _
  rw [e1] at hl
  rw [List.map_append, List.map_cons, List.map_nil, sumL_snoc, ih (fun o ho => hd o (List.mem_append_left _ ho)) (by omega), cellsAll_app, e1, List.length_append]
  unfold stepL
  rw [if_neg (by show ¬ a.kind = 3; omega), if_neg (by show ¬ a.kind = 4; omega), pelO_ins hk, IntWalk.i64_in _ ⟨by omega, by omega⟩]
  simp
theorem doc_mem {xs : List OpA} (hd : isDoc xs = true) : ∀ o ∈ xs, o.kind = 1 ∨ o.kind = 2 := fun o ho => by
  obtain ⟨i, hi, rfl⟩ := List.mem_iff_getElem.1 ho
  have := isDoc_at hd hi
  rwa [List.getD_eq_getElem?_getD, List.getElem?_eq_getElem hi] at this
theorem doc_of_mem {xs : List OpA} (h : ∀ o ∈ xs, o.kind = 1 ∨ o.kind = 2) : isDoc xs = true := isDoc_yes fun t ht => h _ (getD_mem op0 ht)
theorem doc_res {xs : List OpA} (hd : isDoc xs = true) (hl : (cellsAll xs).length ≤ 9223372036854775807) : mResO xs = ((cellsAll xs).length : Int) := by
  unfold mResO
  rw [sumL_doc xs (doc_mem hd) hl]
  show IntKind.i64.wrap (((cellsAll xs).length : Int) + 0) = _
  rw [Int.add_zero, IntWalk.i64_in _ ⟨by omega, by omega⟩]
theorem push_ins {P : List OpA} {o : OpA} (hP : ∀ x ∈ P, x.kind = 1 ∨ x.kind = 2) (ho : o.kind = 1 ∨ o.kind = 2) : ∀ x ∈ B.push P o, x.kind = 1 ∨ x.kind = 2 := by
  rcases B.snoc_cases P with rfl | ⟨ys, a, rfl⟩
  · rw [B.push_nil]; intro x hx; rw [List.mem_singleton.1 hx]; exact ho
  · rw [B.push_snoc]
    have ha := hP a (List.mem_append_right _ (List.mem_singleton_self a))
    split
    · intro x hx
      rcases List.mem_append.1 hx with hx | hx
      · exact hP x (List.mem_append_left _ hx)
      · rw [List.mem_singleton.1 hx]; exact ha
    · intro x hx
      rcases List.mem_append.1 hx with hx | hx
      · exact hP x hx
      · rw [List.mem_singleton.1 hx]; exact ho
theorem fold_ins : ∀ (os P : List OpA), (∀ x ∈ P, x.kind = 1 ∨ x.kind = 2) → (∀ x ∈ os, x.kind = 1 ∨ x.kind = 2) → ∀ x ∈ os.foldl B.push P, x.kind = 1 ∨ x.kind = 2
  | [], P, hP, _ => hP
  | o :: r, P, hP, h => fold_ins r _ (push_ins hP (h o List.mem_cons_self)) fun x hx => h x (List.mem_cons_of_mem _ hx)
theorem can_ins {xs : List OpA} (hd : ∀ o ∈ xs, o.kind = 1 ∨ o.kind = 2) : ∀ o ∈ B.can xs, o.kind = 1 ∨ o.kind = 2 := by
  have h : B.run xs = (xs.foldl B.push [], 0) := B.foldl_ins xs ([], 0) hd
  intro o ho
  unfold B.can at ho
  rw [h] at ho
  have h1 := B.fin_sub _ o ho
  rw [show B.dels (xs.foldl B.push []) 0 = xs.foldl B.push [] from if_pos rfl] at h1
  exact fold_ins xs [] (fun x hx => by cases hx) hd o h1
end Go.Proofs.YtgphmfnkeolbcaaGreatDoor
