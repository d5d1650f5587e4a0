/- cells.List: a document's cells, new memory. Conditions: sizes, the tables of utf8, the errors' variables. -/
import Derived.Test.YtgphmfnkeolbcaaDoorT51
set_option linter.unusedVariables false
set_option linter.unusedSimpArgs false
set_option maxRecDepth 100000
namespace Go.Proofs.YtgphmfnkeolbcaaDoor
open Go Go.RowKit Go.Proofs.YtgphmfnkeolbcaaDoorW.PrintWords RX
theorem ent9 : Ent Tryd.prog 9 := ent_of Tryd.func9 (by kernel_rfl) rfl
set_option maxHeartbeats 1000000 in
theorem clist_any (d : Nat) (xs : List OpA) (w : World) (hd : DeltaC w d xs) (hb : badE xs = 0) (hn : xs.length ≤ 1100000) (hz : ∀ i, i < xs.length → opSz (xs.getD i op0)) (hr : isDoc xs = true → ∀ t, t < xs.length → refuseP (xs.getD t op0) = 0) (hL : (cellsAll xs).length ≤ 100000000) (hT : Tabs w) (es : List Addr) (hE : ErrsC w es) : Calls Tryd.prog 9 #[.pointer (some ⟨d, 0, none⟩)] w fun e w' => ∃ A' c' zs, zs = (if isDoc xs = true then cellsAll xs else []) ∧ e = .returned (.tuple #[.slice A' zs.length c', errV es (if isDoc xs = true then 0 else 9)]) ∧ zs.length ≤ c' ∧ kCell.R 44 w' w.heap.size (OkFrom w.heap.size) (.slice A' zs.length c') zs ∧ Below w.heap.size w w' := by
 refine RX.enterM Tryd.func9 rfl 26 rfl [(0, .pointer (some ⟨d, 0, none⟩))] rfl (by kernel_rfl) (fun R_ hR_ => ?_)
 refine RX.X_mark0 rfl ?_
 refine sq (rg (xq 2 [] [(0, .pointer (some ⟨d, 0, none⟩)), (1000000, encD [])] w [] trivial ?_))
 refine nl (sq (sq (rg (xq 1 [] [(0, .pointer (some ⟨d, 0, none⟩)), (10, .pointer (some ⟨d, 0, none⟩)), (1000000, encD [])] w [] trivial ?_))))
 refine xc 26 ent26 [.pointer (some ⟨d, 0, none⟩)] (inserts_any d xs _ hd hb hn hz) ?_
 rintro e w_7 ⟨A_1, c_2, zs_3, ez_4, rfl, hl_5, hr_6, hb_8⟩; refine ⟨_, rfl, ?_⟩
 refine xq 5 [] [(0, .pointer (some ⟨d, 0, none⟩)), (5, .bool (isDoc xs)), (1000000, encD [])] w_7 [] trivial ?_
 refine nl (sq (rg (xq 1 [] [(0, .pointer (some ⟨d, 0, none⟩)), (14, .bool (isDoc xs)), (1000000, encD [])] w_7 [] trivial ?_)))
 by_cases c_9 : isDoc xs = true
 ·rw [show (isDoc xs : Bool) = true from by simpa using c_9]
  refine xq 1 [] [(0, .pointer (some ⟨d, 0, none⟩)), (15, .bool false), (1000000, encD [])] w_7 [] trivial ?_
  refine nl (cf (sk (sq (rg (xq 1 [] [(0, .pointer (some ⟨d, 0, none⟩)), (6, .pointer (some ⟨w_7.heap.size, 0, none⟩)), (1000000, encD [])] (w_7.alloc (.cells #[.slice none 0 0] 28)) [] trivial ?_)))))
  obtain ⟨w_10, hw_14, hb_11, hk_12, hz_13⟩ := new_world w_7 #[.slice none 0 0] 28
  rw [hw_14]
  refine nl (sq (sq (rg (xq 1 [] [(6, .pointer (some ⟨w_7.heap.size, 0, none⟩)), (17, .pointer (some ⟨d, 0, none⟩)), (1000000, encD [])] w_10 [] trivial ?_))))
  refine xc 27 ent27 [.pointer (some ⟨d, 0, none⟩)] (ceach_any d xs _ (hd.below (bt hb_8 hb_11)) hb hn hz) ?_
  rintro e w_23 ⟨g_15, A_16, c_17, zs_18, ez_19, rfl, hge_20, hk_21, hr_22, hb_24⟩; refine ⟨_, rfl, ?_⟩
  rw [if_pos c_9] at ez_19; rw [ez_19] at hk_21 hr_22
  have hr9_ : kOp.R 59 w_23 w_10.heap.size (fun k_ => w_10.heap.size ≤ k_ ∧ k_ < w_23.heap.size) (.slice A_16 xs.length c_17) xs := Kd.R_mono (Kd.R_bound hr_22) (fun k_ hk_ => ⟨hk_.2.1, hk_.2.2.1⟩)
  have hgl_ := hk_21.lt
  refine nl (X_block ?_)
  have hw6_ : w.heap.size ≤ w_7.heap.size := (hb_8).size
  have h6lo_ : w_7.heap.size < w_10.heap.size := Nat.lt_of_lt_of_le (Blk.lt hk_12) (Nat.le_refl _)
  have hlh_ : w_10.heap.size ≤ w_23.heap.size := (hb_24).size
  have hwl_ : w.heap.size ≤ w_10.heap.size := ((bt hb_8 hb_11)).size
  have hDt_ : ∀ k_, (DI w.heap.size w_10.heap.size w_23.heap.size) k_ → k_ < w_23.heap.size := fun k_ h_ => by rcases h_ with h_ | h_ <;> omega
  refine X_rangeM (α := ElA) (ι := Nat) rfl ent44 (encs := elV) (ceach_seq (DI w.heap.size w_10.heap.size w_23.heap.size) (fun k_ => w_10.heap.size ≤ k_ ∧ k_ < w_23.heap.size) w_10.heap.size g_15 A_16 c_17 xs w w_23 hr9_ (fun k_ h_ => .inr h_) (fun k_ h_ => .inl h_) hDt_ (bt (bt hb_8 hb_11) hb_24) (by omega) (hr c_9) hz hT es hE hk_21 (by omega)) (Below.refl _ _) hDt_ (fun _ => rfl) (by kernel_rfl) (fun pre_ M_ W_ => RowI w w_7.heap.size w_23.heap.size pre_ M_ W_) (fun c_ pre_ W_ => False) (fun M_ => RowI.own ((bt (bt hb_8 hb_11) hb_24)).size M_) (fun _ => RX.ownFrom_pure _) (fun _ _ _ h_ => RowI.im h_ hw6_ h6lo_ hlh_) (fun k_ => k_ = w_7.heap.size ∨ (none : Option Addr).map (·.block) = some k_) ⟨[], none, 0, rfl, (Blk.below hk_12 hb_24), Kd.R_nil _ _ _ _ _, rfl, (fun k_ h_ => by cases h_), (bt (bt hb_8 hb_11) hb_24)⟩ (fun x_ i_ W_ => RX.Blk W_ i_ 44 #[.int .i32 x_.2.1.rune, .string x_.2.1.kind, .int .i64 x_.2.1.vk, .int .i64 x_.2.1.vn, .string x_.2.1.vt, .slice x_.2.2.1 x_.2.1.attrs.length x_.2.2.2] ∧ ElPx w_23.heap.size x_ W_) (fun i_ => OwnFrom.and (ownFrom_blk (fun _ => i_) 44 (fun (x_ : ElA) => #[.int .i32 x_.2.1.rune, .string x_.2.1.kind, .int .i64 x_.2.1.vk, .int .i64 x_.2.1.vn, .string x_.2.1.vt, .slice x_.2.2.1 x_.2.1.attrs.length x_.2.2.2])) ownFrom_px) (fun x_ i_ => [(6, .pointer (some ⟨w_7.heap.size, 0, none⟩)), (8, .pointer (some ⟨i_, 0, none⟩))]) ?_ ?_ ?_ ?_
  ·rintro lp_ pre_ M_ x_ W_ hlp_ hws_ ⟨zs_, A6_, c6_, hz_, hk6_, hr6_, hM_, hA6_, hBw_⟩ hpx_ hlen_
   have hg6l_ := hk6_.lt
   have hzl_ : zs_.length = pre_.length := by rw [hz_, List.length_map]
   refine XI_keep [6, 17, 18, 19, 20] [(6, .pointer (some ⟨w_7.heap.size, 0, none⟩)), (17, .pointer (some ⟨d, 0, none⟩)), (18, .func (.func 44) #[] #[.pointer (some ⟨g_15, 0, none⟩)]), (19, .int .i64 x_.1), (20, .agg #[.int .i32 x_.2.1.rune, .string x_.2.1.kind, .int .i64 x_.2.1.vk, .int .i64 x_.2.1.vn, .string x_.2.1.vt, .slice x_.2.2.1 x_.2.1.attrs.length x_.2.2.2])] (by kernel_rfl) ?_
   refine XI_region (by kernel_rfl) (fun _ _ h_ => h_) ?_
   refine xq 1 [] [(6, .pointer (some ⟨w_7.heap.size, 0, none⟩)), (8, .pointer (some ⟨W_.heap.size, 0, none⟩)), (20, .agg #[.int .i32 x_.2.1.rune, .string x_.2.1.kind, .int .i64 x_.2.1.vk, .int .i64 x_.2.1.vn, .string x_.2.1.vt, .slice x_.2.2.1 x_.2.1.attrs.length x_.2.2.2])] (W_.alloc (.cells #[.int .i32 0, .string ByteArray.empty, .int .i64 0, .int .i64 0, .string ByteArray.empty, .slice none 0 0] 44)) [] trivial ?_
   obtain ⟨w_25, hw_29, hb_26, hk_27, hz_28⟩ := new_world W_ #[.int .i32 0, .string ByteArray.empty, .int .i64 0, .int .i64 0, .string ByteArray.empty, .slice none 0 0] 44
   rw [hw_29]
   refine xst (.agg #[.int .i32 x_.2.1.rune, .string x_.2.1.kind, .int .i64 x_.2.1.vk, .int .i64 x_.2.1.vn, .string x_.2.1.vt, .slice x_.2.2.1 x_.2.1.attrs.length x_.2.2.2]) hk_27 0 #[.int .i32 x_.2.1.rune, .string x_.2.1.kind, .int .i64 x_.2.1.vk, .int .i64 x_.2.1.vn, .string x_.2.1.vt, .slice x_.2.2.1 x_.2.1.attrs.length x_.2.2.2] (fun w_30 hg_31 hk_32 hz_33 => ?_)
   have hne_34 : w_7.heap.size ≠ W_.heap.size := Blk.tne (Blk.below hk6_ hb_26) hk_27 rfl
   have hk_35 := Blk.other (Blk.below hk6_ hb_26) hg_31 hne_34
   refine nl ?_
   have hDw_ : ∀ k_, (DI w.heap.size w_10.heap.size w_23.heap.size) k_ → k_ < W_.heap.size := fun k_ h_ => by have := hDt_ k_ h_; omega
   exact ⟨W_.heap.size, by kernel_rfl, (KeepsFrom.trans (keeps_below hb_26) (keeps_store hk_27 hg_31)), KpM.below hDw_ ((bg hb_26 hg_31 (Nat.le_refl _)) : Below W_.heap.size W_ w_30), ⟨zs_, A6_, c6_, hz_, hk_35, (Kd.R_below hr6_ (bg hb_26 hg_31 (Nat.le_refl _))), hM_, hA6_, (bg (bt hBw_ hb_26) hg_31 (hBw_).size)⟩, hk_32, ElPx.below ((bg hb_26 hg_31 (Nat.le_refl _)) : Below W_.heap.size W_ w_30) hpx_⟩
  ·rintro lp_ pre_ M_ x_ i_ W_ hlp_ hws_ ⟨zs_, A6_, c6_, hz_, hk6_, hr6_, hM_, hA6_, hBw_⟩ ⟨hk8_, hpx_⟩ hlen_
   have hg6l_ := hk6_.lt
   have hzl_ : zs_.length = pre_.length := by rw [hz_, List.length_map]
   obtain ⟨hx0_, wb_, hwb_, hlk_, hra_⟩ := hpx_
   refine XI_block ?_
   refine XI_region (by kernel_rfl) (fun _ _ h_ => h_) ?_
   refine xq 3 [(21, .load (.slice A6_ zs_.length c6_)), (22, .load (.agg #[.int .i32 x_.2.1.rune, .string x_.2.1.kind, .int .i64 x_.2.1.vk, .int .i64 x_.2.1.vn, .string x_.2.1.vt, .slice x_.2.2.1 x_.2.1.attrs.length x_.2.2.2]))] [(6, .pointer (some ⟨w_7.heap.size, 0, none⟩)), (21, .slice A6_ zs_.length c6_), (23, .slice (some ⟨W_.heap.size, 0, none⟩) 1 1)] (W_.alloc (.cells #[.int .i32 x_.2.1.rune, .string x_.2.1.kind, .int .i64 x_.2.1.vk, .int .i64 x_.2.1.vn, .string x_.2.1.vt, .slice x_.2.2.1 x_.2.1.attrs.length x_.2.2.2] 44)) [LoadsAs Tryd.prog 28 (⟨w_7.heap.size, 0, none⟩) (.slice A6_ zs_.length c6_) W_, LoadsAs Tryd.prog 44 (⟨i_, 0, none⟩) (.agg #[.int .i32 x_.2.1.rune, .string x_.2.1.kind, .int .i64 x_.2.1.vk, .int .i64 x_.2.1.vn, .string x_.2.1.vt, .slice x_.2.2.1 x_.2.1.attrs.length x_.2.2.2]) W_] ⟨loads1 rfl (Blk.cell hk6_ 0 _ rfl), loadsB rfl rfl hk8_ 0 ⟨by kernel_rfl, by kernel_rfl⟩, trivial⟩ ?_
   obtain ⟨w_36, hw_40, hb_37, hk_38, hz_39⟩ := new_world W_ #[.int .i32 x_.2.1.rune, .string x_.2.1.kind, .int .i64 x_.2.1.vk, .int .i64 x_.2.1.vn, .string x_.2.1.vt, .slice x_.2.2.1 x_.2.1.attrs.length x_.2.2.2] 44
   rw [hw_40]
   obtain ⟨okp_41, hM_42, hok_43⟩ := Kd.M_rowApart hra_ (Nat.le_trans ((bt (bt hb_8 hb_11) hb_24)).size hwb_) hr6_ (by decide)
   rw [← hw_40]
   refine XL_append kCell rfl rfl rfl w.heap.size 44 (.agg #[.int .i32 0, .string ByteArray.empty, .int .i64 0, .int .i64 0, .string ByteArray.empty, .slice none 0 0]) 80 Tryd.underlying28 info44 rfl (by decide) (by omega) zs_ (⟨x_.2.1.rune, x_.2.1.kind, x_.2.1.vk, x_.2.1.vn, x_.2.1.vt, x_.2.1.attrs⟩ : CellA) [.int .i32 x_.2.1.rune, .string x_.2.1.kind, .int .i64 x_.2.1.vk, .int .i64 x_.2.1.vn, .string x_.2.1.vt, .slice x_.2.2.1 x_.2.1.attrs.length x_.2.2.2] okp_41 (by kernel_rfl) (kCell_M (x := (⟨x_.2.1.rune, x_.2.1.kind, x_.2.1.vk, x_.2.1.vn, x_.2.1.vt, x_.2.1.attrs⟩ : CellA)) hM_42) hok_43 hr6_ (hBw_).size (by first | omega | (simp; omega)) ?_
   intro A_44 c_45 w_46 hr_47 hc_48 hg_49 hl_50 ha_51
   have hr_52 := Kd.R_apart hra_ hr6_ (by decide) hg_49
   have hne_53 := RX.Kd.R_blk_ne hr6_ hk6_ rfl
   have hk_54 := Blk.ne hk6_ hg_49 hne_53
   have he_55 : (zs_ ++ [(⟨x_.2.1.rune, x_.2.1.kind, x_.2.1.vk, x_.2.1.vn, x_.2.1.vt, x_.2.1.attrs⟩ : CellA)]) = (zs_ ++ [x_.2.1]) := rfl
   rw [he_55] at hr_47 ⊢
   refine xst (.slice A_44 ((zs_ ++ [x_.2.1]).length) c_45) hk_54 0 #[.slice A_44 ((zs_ ++ [x_.2.1]).length) c_45] (fun w_56 hg_57 hk_58 hz_59 => ?_)
   have hr_60 := Kd.R_off hr_52 hk_54 (by decide) hg_57
   have hr_61 := Kd.R_off hr_47 hk_54 (by decide) hg_57
   refine nl ?_
   have hDw_ : ∀ k_, (DI w.heap.size w_10.heap.size w_23.heap.size) k_ → k_ < W_.heap.size := fun k_ h_ => by have := hDt_ k_ h_; omega
   have hincl_ : ∀ k_, A_44.map (·.block) = some k_ → A6_.map (·.block) = some k_ ∨ W_.heap.size ≤ k_ := fun k_ e_ => by rcases ha_51 with h_ | ⟨b_, h_, h2_⟩; (· rw [h_] at e_; exact .inl e_); (· rw [h_] at e_; injection e_ with e_; subst e_; exact .inr (Nat.le_trans (Nat.le_refl _) h2_))
   have hB_62 : Below w.heap.size w w_56 := (bg (bgo hBw_ hg_49 hl_50 (Nat.le_refl _)) hg_57 (hb_8).size)
   exact ⟨(KeepsFrom.trans (keeps_row hr6_ hg_49) (keeps_store hk_54 hg_57)), fun k_ => k_ = w_7.heap.size ∨ A_44.map (·.block) = some k_, (KpM.trans (KpM.grown hg_49 (fun k_ e_ => ⟨by rw [hM_]; exact .inr e_, fun h_ => by have h1_ := hA6_ k_ e_; rcases h_ with h_ | h_ <;> omega⟩) (fun k_ h_ => Nat.lt_of_lt_of_le (hDw_ k_ h_) (Nat.le_refl _))) (KpM.grown hg_57 (fun k_ e_ => by injection e_ with e_; subst e_; exact ⟨by rw [hM_]; exact .inl rfl, fun h_ => by rcases h_ with h_ | h_ <;> omega⟩) (fun k_ h_ => Nat.lt_of_lt_of_le (hDw_ k_ h_) hg_49.size))), (fun k_ h_ => by rcases h_ with h_ | h_; (· exact .inl (by rw [hM_]; exact .inl h_)); (· exact (hincl_ k_ h_).imp (fun h1_ => by rw [hM_]; exact .inr h1_) id)), ⟨_, A_44, c_45, by rw [hz_, List.map_append]; rfl, hk_58, hr_61, rfl, (fun k_ h_ => by rcases hincl_ k_ h_ with h1_ | h1_; (· exact hA6_ k_ h1_); (· omega)), hB_62⟩⟩
  ·rintro D_64 pre_ M_ w_63 hD_65 hS_66 ⟨zs_, A6_, c6_, hz_, hk6_, hr6_, hM_, hA6_, hBw_⟩ hK_67
   have hg6l_ := hk6_.lt
   have hzl_ : zs_.length = pre_.length := by rw [hz_, List.length_map]
   have hall_ := EOK.all hS_66.1 hS_66.2
   rw [← hz_] at hall_
   have hlo_ : w_23.heap.size ≤ w_23.heap.size := Nat.le_refl _
   have hds_ : Defs (D_64 :: []) w_63 := Defs.cons hK_67 (fun _ h_ => by cases h_)
   have hdge_ : ∀ D_ ∈ D_64 :: [], w_23.heap.size ≤ D_ := fun D_ hm_ => (List.mem_cons.1 hm_).elim (fun e_ => by omega) (fun h_ => by cases h_)
   refine sq (rg (xq 3 [(25, .load (.slice A6_ zs_.length c6_))] [(2, .slice A6_ zs_.length c6_), (3, .nilIface), (1000000, encD (D_64 :: []))] w_63 [LoadsAs Tryd.prog 28 (⟨w_7.heap.size, 0, none⟩) (.slice A6_ zs_.length c6_) w_63] ⟨loads1 rfl (Blk.cell hk6_ 0 _ rfl), trivial⟩ ?_))
   refine nl (X_ret (RX.retM_ok (P := Tryd.prog) (fn := Tryd.f9) (N := 26) (R := R_) (ds := (D_64 :: [])) (dsOf_enc (by kernel_rfl)) (List.nodup_cons.2 ⟨fun h_ => (by cases h_), List.nodup_nil⟩) hds_ [.slice A6_ zs_.length c6_, .nilIface] (by kernel_rfl) (fun w_ ho_ => hR_ _ _ ?_)))
   have hrz_ := Off.row ho_ hds_ hr6_
   exact ⟨A6_, c6_, zs_, by rw [if_pos c_9]; exact hall_, by rw [if_pos c_9]; rfl, (RX.Kd.R_len hrz_).2, hrz_, Off.below ho_ hBw_ (fun D_ hm_ => Nat.le_trans ((bt (bt hb_8 hb_11) hb_24)).size (hdge_ D_ hm_))⟩
  rintro D_69 c_ pre_ w_68 hD_70 hS_71 hix_ hK_72
  exact hix_.elim
 rw [show (isDoc xs : Bool) = false from by simpa using c_9]
 refine xq 1 [] [(0, .pointer (some ⟨d, 0, none⟩)), (15, .bool true), (1000000, encD [])] w_7 [] trivial ?_
 refine nl (ct (sq (X_still (by kernel_rfl) (by kernel_rfl) (fun wd_73 hb_74 hh_75 => ?_))))
 refine xse 3 [(16, .load (.iface 164 (.pointer (some (errAt es 9)))))] [(2, .slice none 0 0), (3, .iface 164 (.pointer (some (errAt es 9)))), (1000000, encD [])] [LoadsAs Tryd.prog 30 (⟨1, 0, none⟩) (.iface 164 (.pointer (some (errAt es 9)))) wd_73] ⟨loads1 rfl (((bt hb_8 hb_74).cell (World.block_lt_of_cell? _ _ (hE.load 9 1 (by decide) (by decide) rfl))).trans (hE.load 9 1 (by decide) (by decide) rfl)), trivial⟩ ?_
 refine XS_nil ?_
 refine X_ret (RX.retM_ok (P := Tryd.prog) (fn := Tryd.f9) (N := 26) (R := R_) (ds := []) (dsOf_enc (by kernel_rfl)) List.nodup_nil (Defs.below hb_74 (Defs.below hb_8 (fun _ h_ => by cases h_))) [.slice none 0 0, .iface 164 (.pointer (some (errAt es 9)))] (by kernel_rfl) (fun w_ ho_ => hR_ _ _ ?_))
 have hnd_ := Bool.eq_false_iff.2 c_9
 refine ⟨none, 0, [], by rw [hnd_]; rfl, by rw [hnd_]; rfl, Nat.le_refl _, Kd.R_nil _ _ _ _ _, Off.below ho_ (bt hb_8 hb_74) (fun D_ hm_ => by cases hm_)⟩
end Go.Proofs.YtgphmfnkeolbcaaDoor
