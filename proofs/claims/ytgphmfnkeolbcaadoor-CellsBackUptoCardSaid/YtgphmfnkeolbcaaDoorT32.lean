/- cells.Of: the delta of cells. Conditions: sizes, the tables of utf8, the errors' variables. -/
import Derived.Test.YtgphmfnkeolbcaaDoorT31
set_option linter.unusedVariables false
set_option linter.unusedSimpArgs false
set_option maxRecDepth 100000
namespace Go.Proofs.YtgphmfnkeolbcaaDoor
open Go Go.RowKit Go.Proofs.YtgphmfnkeolbcaaDoorW.PrintWords RX
theorem ent36 : Ent Tryd.prog 36 := ent_of Tryd.func36 (by kernel_rfl) rfl
theorem ent19 : Ent Tryd.prog 19 := ent_of Tryd.func19 (by kernel_rfl) rfl

theorem map_snocR (ys : List CellA) (j : Nat) (h : j < ys.length) : (ys.take j).map (·.rune) ++ [(ys.getD j cell0).rune] = (ys.take (j + 1)).map (·.rune) := by rw [take_snocD cell0 ys j h, List.map_append]; rfl
theorem take_same {ys : List CellA} {j : Nat} {a : List At} (h : ∀ q, q < j → (ys.getD q cell0).rune ≠ -1 ∧ (ys.getD q cell0).attrs = a) : ∀ c ∈ ys.take j, c.rune ≠ -1 ∧ c.attrs = a := by
 intro c hc
 obtain ⟨q, hq, e⟩ := List.mem_iff_getElem.1 hc
 rw [List.length_take] at hq
 rw [List.getElem_take] at e
 have := h q (by omega)
 rwa [List.getD_eq_getElem?_getD, List.getElem?_eq_getElem (by omega), Option.getD_some, e] at this
theorem run_add (zs : List OpA) (i k : Nat) : ((zs.drop i).take k).foldl B.step (B.run (zs.take i)) = B.run (zs.take (i + k)) := by
 unfold B.run
 rw [List.take_add, List.foldl_append]
theorem drop_getD (cs : List CellA) (i q : Nat) : (cs.drop i).getD q cell0 = cs.getD (i + q) cell0 := by rw [List.getD_eq_getElem?_getD, List.getElem?_drop, ← List.getD_eq_getElem?_getD]
set_option maxHeartbeats 4000000 in
theorem grun_any (Lq : Option Addr) (n ck : Nat) (ys : List CellA) (wB : World) (g : Nat) (b r : Int) (s : B.St) (A : Option Addr) (c : Nat) (w : World) (hB0 : Below wB.heap.size wB w) (hgB : wB.heap.size ≤ g) (hk : RX.Blk w g 112 #[.int .i64 b, .int .i64 r, .slice A (List.map pOf s.1).length c, .int .i64 s.2]) (hR : kPiece.R 87 w wB.heap.size (OkFrom wB.heap.size) (.slice A (List.map pOf s.1).length c) (List.map pOf s.1)) (hb : 0 ≤ b ∧ b ≤ 1099511627776) (hr : 0 ≤ r ∧ r ≤ 1099511627776) (hs2 : 0 ≤ s.2 ∧ s.2 ≤ 1099511627776) (hbd : badE s.1 = 0) (hl : s.1.length ≤ 100000000) (hlt : (B.lst s.1).text.size ≤ 1000000000) (hn : ys.length = n) (h0 : 0 < n) (hy : kCell.C w Lq n ys) (hyc : n ≤ ck) (hg : ∀ c ∈ ys, B.cErr c = 0) (hz : ∀ i, i < ys.length → B.cellSz (ys.getD i cell0)) (hnl : n ≤ 1048576) (hbl : b ≤ 1099511627776) (hrl : r + n ≤ 1099511627776) (hT : Tabs wB) (es : List Addr) (hE : ErrsO wB es) :
  Calls Tryd.prog 36 #[.pointer (some ⟨g, 0, none⟩), .slice Lq n ck] w fun e w' => ∃ k : Nat, 0 < k ∧ k ≤ n ∧ e = .returned (.tuple #[.int .i64 (k : Int), .nilIface]) ∧ Two g (A.map (·.block)) w w' ∧ ∃ A' c', RX.Blk w' g 112 #[.int .i64 b, .int .i64 (r + (k : Int)), .slice A' (List.map pOf ((((ys.take k).map B.opC).foldl B.step s).1)).length c', .int .i64 ((((ys.take k).map B.opC).foldl B.step s).2)] ∧ kPiece.R 87 w' wB.heap.size (OkFrom wB.heap.size) (.slice A' (List.map pOf ((((ys.take k).map B.opC).foldl B.step s).1)).length c') (List.map pOf ((((ys.take k).map B.opC).foldl B.step s).1)) ∧ (A'.map (·.block) = A.map (·.block) ∨ ∃ b, A'.map (·.block) = some b ∧ w.heap.size ≤ b) := by
 have hpl : n ≤ 9223372036854775807 := hy.2.1
 have hz0 := hz 0 (by omega)
 have hg0 := hg _ (getD_mem cell0 (show 0 < ys.length by omega))
 have hEA : ErrsA wB es := hE.sub (by decide)
 refine RX.enter Tryd.func36 rfl 64 rfl [(0, .pointer (some ⟨g, 0, none⟩)), (1, .slice Lq n ck)] rfl (by kernel_rfl) (fun R_ hR_ => ?_)
 refine sq (rg (xe0 2 [(0, pw g 0), (1, .slice Lq n ck)] ?_))
 refine nl (sq (rg (xr0 1 [(12, .slice Lq n ck)] [] ?_)))
 obtain ⟨ad_1, B_4, c_5, ha_2, hc_3, hl_6, hC_7⟩ := Kd.atCell hy (i := (0 : Int)) (by omega) (by omega)
 replace hc_3 : CellsAt w (ad_1.add ((0 : Int).toNat * 6)) (c6L (ys.getD 0 cell0) (.slice B_4 ((ys.getD 0 cell0).attrs.length) c_5)) := hc_3
 replace hl_6 : (ys.getD 0 cell0).attrs.length ≤ c_5 := hl_6
 replace hC_7 : kAttr.C w B_4 ((ys.getD 0 cell0).attrs.length) (ys.getD 0 cell0).attrs := hC_7
 refine xw 3 [(13, .idx ad_1), (14, .load (.agg (c6A (ys.getD 0 cell0) (.slice B_4 ((ys.getD 0 cell0).attrs.length) c_5))))] [(6, pw w.heap.size 0), (14, .agg (c6A (ys.getD 0 cell0) (.slice B_4 ((ys.getD 0 cell0).attrs.length) c_5)))] [12] (w.alloc (.cells #[.int .i32 0, .string ByteArray.empty, .int .i64 0, .int .i64 0, .string ByteArray.empty, .slice none 0 0] 44)) [Lq = some ad_1, (0 : Int) ≤ 0, 0 < (n : Int), LoadsAs Tryd.prog 44 (ad_1.add ((0 : Int).toNat * 6)) (.agg (c6A (ys.getD 0 cell0) (.slice B_4 ((ys.getD 0 cell0).attrs.length) c_5))) w] ⟨ha_2, (by omega), (by omega), loadsE rfl rfl hc_3 0 ⟨by kernel_rfl, by kernel_rfl⟩, trivial⟩ ?_
 obtain ⟨w_8, hw_12, hb_9, hk_10, hz_11⟩ := new_world w #[.int .i32 0, .string ByteArray.empty, .int .i64 0, .int .i64 0, .string ByteArray.empty, .slice none 0 0] 44
 rw [hw_12]
 refine xst (.agg (c6A (ys.getD 0 cell0) (.slice B_4 ((ys.getD 0 cell0).attrs.length) c_5))) hk_10 0 (c6A (ys.getD 0 cell0) (.slice B_4 ((ys.getD 0 cell0).attrs.length) c_5)) (fun w_13 hg_14 hk_15 hz_16 => ?_)
 have hne_17 : g ≠ w.heap.size := Blk.tne (Blk.below hk hb_9) hk_10 rfl
 have hk_18 := Blk.other (Blk.below hk hb_9) hg_14 hne_17
 have hr_19 := Kd.R_off (Kd.R_below hR hb_9) hk_10 (by decide) hg_14
 refine nl (sq (sq (rg (xr 2 [(16, .load (.int .i32 ((ys.getD 0 cell0).rune)))] [(16, .int .i32 ((ys.getD 0 cell0).rune))] [14] [LoadsAs Tryd.prog 21 (⟨w.heap.size, 0, none⟩) (.int .i32 ((ys.getD 0 cell0).rune)) w_13] ⟨loads1 rfl (Blk.cell hk_15 0 _ rfl), trivial⟩ ?_))))
 by_cases c_20 : (ys.getD 0 cell0).rune = (-1)
 ·refine xr 1 [(17, .eq (.bool true))] [(17, .bool true)] [16] [Value.bool ((ys.getD 0 cell0).rune == (-1)) = Value.bool true] ⟨congrArg Value.bool (beq_iff_eq.2 (c_20)), trivial⟩ ?_
  refine nl (ct (sq (rg (xe 7 [(20, .load (.string ((ys.getD 0 cell0).kind))), (22, .load (.agg #[.int .i64 ((ys.getD 0 cell0).vk), .int .i64 ((ys.getD 0 cell0).vn), .string ((ys.getD 0 cell0).vt)])), (24, .load (.slice B_4 ((ys.getD 0 cell0).attrs.length) c_5))] [(18, pw g 0), (20, .string ((ys.getD 0 cell0).kind)), (22, .agg #[.int .i64 ((ys.getD 0 cell0).vk), .int .i64 ((ys.getD 0 cell0).vn), .string ((ys.getD 0 cell0).vt)]), (24, .slice B_4 ((ys.getD 0 cell0).attrs.length) c_5)] [LoadsAs Tryd.prog 9 (⟨w.heap.size, 1, none⟩) (.string ((ys.getD 0 cell0).kind)) w_13, LoadsAs Tryd.prog 41 (⟨w.heap.size, 2, none⟩) (.agg #[.int .i64 ((ys.getD 0 cell0).vk), .int .i64 ((ys.getD 0 cell0).vn), .string ((ys.getD 0 cell0).vt)]) w_13, LoadsAs Tryd.prog 42 (⟨w.heap.size, 5, none⟩) (.slice B_4 ((ys.getD 0 cell0).attrs.length) c_5) w_13] ⟨loads1 rfl (Blk.cell hk_15 1 _ rfl), loadsB rfl rfl hk_15 2 ⟨by kernel_rfl, by kernel_rfl⟩, loads1 rfl (Blk.cell hk_15 5 _ rfl), trivial⟩ ?_))))
  have hO : (⟨2, (ys.getD 0 cell0).kind, (ys.getD 0 cell0).vk, (ys.getD 0 cell0).vn, (ys.getD 0 cell0).vt, 0, (ys.getD 0 cell0).attrs⟩ : OpA) = B.opC (ys.getD 0 cell0) := (B.op_emb c_20).symm
  obtain ⟨g1, g2, g3⟩ := B.op_ok hg0
  have hzO : opSz (⟨2, (ys.getD 0 cell0).kind, (ys.getD 0 cell0).vk, (ys.getD 0 cell0).vn, (ys.getD 0 cell0).vt, 0, (ys.getD 0 cell0).attrs⟩ : OpA) := by rw [hO]; exact (B.op_sz hg0 hz0).1
  have hpo : pErr (⟨2, (ys.getD 0 cell0).kind, (ys.getD 0 cell0).vk, (ys.getD 0 cell0).vn, (ys.getD 0 cell0).vt, 0, (ys.getD 0 cell0).attrs⟩ : OpA) = 0 := by rw [hO]; exact g1
  have hob : opB (⟨2, (ys.getD 0 cell0).kind, (ys.getD 0 cell0).vk, (ys.getD 0 cell0).vn, (ys.getD 0 cell0).vt, 0, (ys.getD 0 cell0).attrs⟩ : OpA) = 0 := by rw [hO]; exact g2
  have hor : opR (⟨2, (ys.getD 0 cell0).kind, (ys.getD 0 cell0).vk, (ys.getD 0 cell0).vn, (ys.getD 0 cell0).vt, 0, (ys.getD 0 cell0).attrs⟩ : OpA) = ((1 : Nat) : Int) := by rw [hO]; exact g3
  have hX : B.step s (⟨2, (ys.getD 0 cell0).kind, (ys.getD 0 cell0).vk, (ys.getD 0 cell0).vn, (ys.getD 0 cell0).vt, 0, (ys.getD 0 cell0).attrs⟩ : OpA) = (((ys.take 1).map B.opC).foldl B.step s) := by rw [hO, take_snocD cell0 ys 0 (by omega)]; rfl
  refine xc 55 ent55 [.pointer (some ⟨g, 0, none⟩), .string ((ys.getD 0 cell0).kind), .agg #[.int .i64 ((ys.getD 0 cell0).vk), .int .i64 ((ys.getD 0 cell0).vn), .string ((ys.getD 0 cell0).vt)], .slice B_4 ((ys.getD 0 cell0).attrs.length) c_5] (bembed_any ((ys.getD 0 cell0).kind) ((ys.getD 0 cell0).vk) ((ys.getD 0 cell0).vn) ((ys.getD 0 cell0).vt) (ys.getD 0 cell0).attrs _ _ wB g b r s A c _ (bg (bt hB0 hb_9) hg_14 hB0.size) hgB hk_18 hr_19 hb hr hs2 hbd hl hlt (Kd.C_below hC_7 (bg hb_9 hg_14 (Nat.le_refl _))) hl_6 hzO hT es hE) ?_
  intro e w_21 ht_220
  obtain ⟨ht_22, ⟨h1_23, rfl, A_24, c_25, hk_26, hr_27, hat_28⟩ | ⟨h1_23, _⟩⟩ := PushR.pre (bg hb_9 hg_14 (Nat.le_refl _)) ht_220
  ·refine ⟨_, rfl, ?_⟩
   rw [hX, hob, hor, Int.add_zero] at hk_26
   rw [hX] at hr_27
   refine xe0 2 [(4, .int .i64 1), (5, .nilIface)] ?_
   refine nl (X_ret (rk [.int .i64 1, .nilIface] (hR_ _ _ ?_)))
   exact ⟨1, Nat.one_pos, h0, rfl, ht_22, A_24, c_25, hk_26, hr_27, hat_28⟩
  exact absurd (pushE_ok hpo (by rw [hob]; omega) (by rw [hor]; omega)) h1_23
 refine xr 1 [(17, .eq (.bool false))] [(17, .bool false)] [16] [Value.bool ((ys.getD 0 cell0).rune == (-1)) = Value.bool false] ⟨congrArg Value.bool (beq_eq_false_iff_ne.2 (c_20)), trivial⟩ ?_
 refine nl (cf (sk (sq (rg (xr0 1 [(7, .slice none 0 0)] [17] ?_)))))
 refine nl (sq (sq (rg (xe0 3 [(0, pw g 0), (6, pw w.heap.size 0), (7, .slice none 0 0), (26, .slice Lq n ck), (27, nv n), (28, .int .i64 0)] ?_))))
 refine nl (bk (X_loop (ι := Nat × Option Addr × Nat × List Int) (fun ⟨j, A7, c7, zs7⟩ => [(0, .pointer (some ⟨g, 0, none⟩)), (6, .pointer (some ⟨w.heap.size, 0, none⟩)), (7, .slice A7 zs7.length c7), (26, .slice Lq n ck), (27, .int .i64 (n : Int)), (28, .int .i64 (j : Int))]) (fun ⟨j, A7, c7, zs7⟩ wl => j ≤ n ∧ (∀ q, q < j → (ys.getD q cell0).rune ≠ -1 ∧ (ys.getD q cell0).attrs = (ys.getD 0 cell0).attrs) ∧ zs7 = (ys.take j).map (·.rune) ∧ (Kd.int .i32).R 21 wl w_13.heap.size (OkFrom w_13.heap.size) (.slice A7 zs7.length c7) zs7 ∧ Below w_13.heap.size w_13 wl) (fun ⟨j, A7, c7, zs7⟩ => n - j) (0, none, 0, []) ⟨Nat.zero_le _, fun _ h_ => absurd h_ (Nat.not_lt_zero _), rfl, Kd.R_nil _ _ _ _ _, Below.refl _ _⟩ (by kernel_rfl) ?_))
 rintro ⟨j, A7, c7, zs7⟩ wl ⟨hj, hq7, he7, hr7, HB⟩
 refine sq (X_region ?_)
 by_cases c_29 : (j : Int) < (n : Int)
 ·refine xr 1 [(29, .eq (.bool true))] [(29, .bool true)] [] [Value.bool (decide ((j : Int) < (n : Int))) = Value.bool true] ⟨congrArg Value.bool (decide_eq_true (c_29)), trivial⟩ ?_
  refine nl (sq (ct (sk (sq (bk (sq (X_region ?_)))))))
  obtain ⟨ad_30, B_33, c_34, ha_31, hc_32, hl_35, hC_36⟩ := Kd.atCell (Kd.C_below hy (bt (bg hb_9 hg_14 (Nat.le_refl _)) HB)) (i := (j : Int)) (by omega) (by omega)
  replace hc_32 : CellsAt wl (ad_30.add ((j : Int).toNat * 6)) (c6L (ys.getD j cell0) (.slice B_33 ((ys.getD j cell0).attrs.length) c_34)) := hc_32
  replace hl_35 : (ys.getD j cell0).attrs.length ≤ c_34 := hl_35
  replace hC_36 : kAttr.C wl B_33 ((ys.getD j cell0).attrs.length) (ys.getD j cell0).attrs := hC_36
  refine xw 3 [(30, .idx ad_30), (31, .load (.agg (c6A (ys.getD j cell0) (.slice B_33 ((ys.getD j cell0).attrs.length) c_34))))] [(9, pw wl.heap.size 0), (31, .agg (c6A (ys.getD j cell0) (.slice B_33 ((ys.getD j cell0).attrs.length) c_34)))] [29] (wl.alloc (.cells #[.int .i32 0, .string ByteArray.empty, .int .i64 0, .int .i64 0, .string ByteArray.empty, .slice none 0 0] 44)) [Lq = some ad_30, (0 : Int) ≤ (j : Int), (j : Int) < (n : Int), LoadsAs Tryd.prog 44 (ad_30.add ((j : Int).toNat * 6)) (.agg (c6A (ys.getD j cell0) (.slice B_33 ((ys.getD j cell0).attrs.length) c_34))) wl] ⟨ha_31, (by omega), (by omega), loadsE rfl rfl hc_32 0 ⟨by kernel_rfl, by kernel_rfl⟩, trivial⟩ ?_
  obtain ⟨w_37, hw_41, hb_38, hk_39, hz_40⟩ := new_world wl #[.int .i32 0, .string ByteArray.empty, .int .i64 0, .int .i64 0, .string ByteArray.empty, .slice none 0 0] 44
  rw [hw_41]
  refine xst (.agg (c6A (ys.getD j cell0) (.slice B_33 ((ys.getD j cell0).attrs.length) c_34))) hk_39 0 (c6A (ys.getD j cell0) (.slice B_33 ((ys.getD j cell0).attrs.length) c_34)) (fun w_42 hg_43 hk_44 hz_45 => ?_)
  have hne_46 : g ≠ wl.heap.size := Blk.tne (Blk.below hk_18 (bt HB hb_38)) hk_39 rfl
  have hk_47 := Blk.other (Blk.below hk_18 (bt HB hb_38)) hg_43 hne_46
  have hr_48 := Kd.R_off (Kd.R_below hr7 hb_38) hk_39 (by decide) hg_43
  have hr_49 := Kd.R_off (Kd.R_below hr_19 (bt HB hb_38)) hk_39 (by decide) hg_43
  refine nl (sq (sq (rg (xr 2 [(33, .load (.int .i32 ((ys.getD j cell0).rune)))] [(33, .int .i32 ((ys.getD j cell0).rune))] [31] [LoadsAs Tryd.prog 21 (⟨wl.heap.size, 0, none⟩) (.int .i32 ((ys.getD j cell0).rune)) w_42] ⟨loads1 rfl (Blk.cell hk_44 0 _ rfl), trivial⟩ ?_))))
  by_cases c_50 : (ys.getD j cell0).rune = (-1)
  ·refine xr 9 [(34, .eq (.bool true))] [(42, .bool true)] [33] [Value.bool ((ys.getD j cell0).rune == (-1)) = Value.bool true] ⟨congrArg Value.bool (beq_iff_eq.2 (c_50)), trivial⟩ ?_
   refine nl (ct (X_exit (sq (rg (xr0 1 [(50, .slice A7 zs7.length c7)] [9, 26, 27, 28, 42] ?_)))))
   have hj0 : 0 < j := by rcases Nat.eq_zero_or_pos j with h_ | h_; (· subst h_; exact absurd c_50 c_20); (· exact h_)
   have hsame := take_same hq7
   have hne7 : ys.take j ≠ [] := fun e_ => absurd (congrArg List.length e_) (by rw [List.length_take, List.length_nil]; omega)
   obtain ⟨g1, g2, g3, g4⟩ := B.grp_ok hne7 hsame (fun c_ h_ => hg c_ (List.mem_of_mem_take h_))
   have htp : U.textP zs7 = (runesBytes zs7, 0) := by rw [he7]; exact if_pos g4
   have hzl : zs7.length = j := by rw [he7, List.length_map, List.length_take]; omega
   have hB_51 : Below wB.heap.size wB wl := (bt (bg (bt hB0 hb_9) hg_14 hB0.size) HB)
   have hB_52 : Below wB.heap.size wB w_42 := (bg (bt (bt (bg (bt hB0 hb_9) hg_14 hB0.size) HB) hb_38) hg_43 (hB_51).size)
   refine xc 57 ent57 [.slice A7 zs7.length c7] (text_any _ _ zs7 _ (Kd.R_C hr_48) es (hEA.below hB_52)) ?_
   rintro e w_53 ⟨rfl, hb_54⟩; refine ⟨_, rfl, ?_⟩
   rw [htp]
   rw [errV_zero]
   refine xe0 5 [(0, pw g 0), (6, pw w.heap.size 0), (7, .slice A7 zs7.length c7), (10, .string (runesBytes zs7)), (11, .nilIface)] ?_
   refine nl (sq (sq (rg (xr0 2 [(55, .bool false)] [] ?_))))
   refine nl (cf (sk (sq (X_region ?_))))
   have hB_55 : Below w_13.heap.size w_13 w_53 := (bt (bg (bt HB hb_38) hg_43 (HB).size) hb_54)
   refine xe 6 [(62, .load (.slice B_4 ((ys.getD 0 cell0).attrs.length) c_5))] [(58, .int .i64 (zs7.length : Int)), (59, pw g 0), (60, .string (runesBytes zs7)), (62, .slice B_4 ((ys.getD 0 cell0).attrs.length) c_5)] [LoadsAs Tryd.prog 42 (⟨w.heap.size, 5, none⟩) (.slice B_4 ((ys.getD 0 cell0).attrs.length) c_5) w_53] ⟨loads1 rfl (Blk.cell (Blk.below hk_15 hB_55) 5 _ rfl), trivial⟩ ?_
   have hB_56 : Below w.heap.size w w_53 := (bt (bg (bt (bt (bg hb_9 hg_14 (Nat.le_refl _)) HB) hb_38) hg_43 ((bt (bg hb_9 hg_14 (Nat.le_refl _)) HB)).size) hb_54)
   have hO : (⟨1, (runesBytes zs7), 0, 0, ByteArray.empty, 0, (ys.getD 0 cell0).attrs⟩ : OpA) = B.grp (ys.take j) (ys.getD 0 cell0).attrs := by show (⟨1, runesBytes zs7, 0, 0, ByteArray.empty, 0, _⟩ : OpA) = ⟨1, runesBytes ((ys.take j).map (·.rune)), 0, 0, ByteArray.empty, 0, _⟩; rw [he7]
   have hzO : opSz (⟨1, (runesBytes zs7), 0, 0, ByteArray.empty, 0, (ys.getD 0 cell0).attrs⟩ : OpA) := ⟨by have h_ := B.rb_size g4; rw [List.length_map, List.length_take] at h_; rw [hO]; show (runesBytes ((ys.take j).map (·.rune))).size ≤ _; omega, Nat.zero_le _, hz0.2.2⟩
   have hpo : pErr (⟨1, (runesBytes zs7), 0, 0, ByteArray.empty, 0, (ys.getD 0 cell0).attrs⟩ : OpA) = 0 := by rw [hO]; exact g1
   have hob : opB (⟨1, (runesBytes zs7), 0, 0, ByteArray.empty, 0, (ys.getD 0 cell0).attrs⟩ : OpA) = 0 := by rw [hO]; exact g2
   have hor : opR (⟨1, (runesBytes zs7), 0, 0, ByteArray.empty, 0, (ys.getD 0 cell0).attrs⟩ : OpA) = (j : Int) := by rw [hO, g3, List.length_take]; omega
   have hX : B.step s (⟨1, (runesBytes zs7), 0, 0, ByteArray.empty, 0, (ys.getD 0 cell0).attrs⟩ : OpA) = (((ys.take j).map B.opC).foldl B.step s) := by rw [hO]; exact B.grp_step hne7 hsame s
   refine xc 58 ent58 [.pointer (some ⟨g, 0, none⟩), .string (runesBytes zs7), .slice B_4 ((ys.getD 0 cell0).attrs.length) c_5] (btext_any (runesBytes zs7) (ys.getD 0 cell0).attrs _ _ wB g b r s A c _ (bt hB_52 hb_54) hgB (Blk.below hk_47 hb_54) (Kd.R_below hr_49 hb_54) hb hr hs2 hbd hl hlt (Kd.C_below hC_7 hB_56) hl_6 hzO hT es hE) ?_
   intro e w_57 ht_580
   obtain ⟨ht_58, ⟨h1_59, rfl, A_60, c_61, hk_62, hr_63, hat_64⟩ | ⟨h1_59, _⟩⟩ := PushR.pre hB_56 ht_580
   ·refine ⟨_, rfl, ?_⟩
    rw [hX, hob, hor, Int.add_zero] at hk_62
    rw [hX] at hr_63
    refine xe0 2 [(4, .int .i64 (zs7.length : Int)), (5, .nilIface)] ?_
    refine nl (X_ret (rk [.int .i64 (zs7.length : Int), .nilIface] (hR_ _ _ ?_)))
    rw [hzl]
    exact ⟨j, hj0, hj, rfl, ht_58, A_60, c_61, hk_62, hr_63, hat_64⟩
   exact absurd (pushE_ok hpo (by rw [hob]; omega) (by rw [hor]; omega)) h1_59
  refine xr 6 [(34, .eq (.bool false)), (37, .load (.slice B_33 ((ys.getD j cell0).attrs.length) c_34)), (39, .load (.slice B_4 ((ys.getD 0 cell0).attrs.length) c_5))] [(35, .bool false), (37, .slice B_33 ((ys.getD j cell0).attrs.length) c_34), (39, .slice B_4 ((ys.getD 0 cell0).attrs.length) c_5)] [33] [Value.bool ((ys.getD j cell0).rune == (-1)) = Value.bool false, LoadsAs Tryd.prog 42 (⟨wl.heap.size, 5, none⟩) (.slice B_33 ((ys.getD j cell0).attrs.length) c_34) w_42, LoadsAs Tryd.prog 42 (⟨w.heap.size, 5, none⟩) (.slice B_4 ((ys.getD 0 cell0).attrs.length) c_5) w_42] ⟨congrArg Value.bool (beq_eq_false_iff_ne.2 (c_50)), loads1 rfl (Blk.cell hk_44 5 _ rfl), loads1 rfl (Blk.cell (Blk.below hk_15 (bg (bt HB hb_38) hg_43 (HB).size)) 5 _ rfl), trivial⟩ ?_
  have hB_65 : Below w.heap.size w w_42 := (bg (bt (bt (bg hb_9 hg_14 (Nat.le_refl _)) HB) hb_38) hg_43 ((bt (bg hb_9 hg_14 (Nat.le_refl _)) HB)).size)
  refine xc 56 ent56 [.slice B_33 ((ys.getD j cell0).attrs.length) c_34, .slice B_4 ((ys.getD 0 cell0).attrs.length) c_5] (asame_any _ _ _ _ ((ys.getD j cell0).attrs) ((ys.getD 0 cell0).attrs) _ (Kd.C_below hC_36 (bg hb_38 hg_43 (Nat.le_refl _))) (Kd.C_below hC_7 hB_65)) ?_
  rintro e w_66 ⟨rfl, hb_67⟩; refine ⟨_, rfl, ?_⟩
  by_cases c_68 : decide ((ys.getD j cell0).attrs = (ys.getD 0 cell0).attrs) = true
  ·rw [show (decide ((ys.getD j cell0).attrs = (ys.getD 0 cell0).attrs) : Bool) = true from by simpa using c_68]
   refine xr0 2 [(42, .bool false)] [35, 37, 39, 40] ?_
   refine nl (cf (sk (rg (xwe 4 [(45, .load (.int .i32 ((ys.getD j cell0).rune)))] [(0, pw g 0), (6, pw w.heap.size 0), (26, .slice Lq n ck), (27, nv n), (28, nv j), (43, .slice A7 zs7.length c7), (46, .slice (some ⟨w_66.heap.size, 0, none⟩) 1 1)] (w_66.alloc (.cells #[.int .i32 ((ys.getD j cell0).rune)] 21)) [LoadsAs Tryd.prog 21 (⟨wl.heap.size, 0, none⟩) (.int .i32 ((ys.getD j cell0).rune)) w_66] ⟨loads1 rfl (Blk.cell (Blk.below hk_44 hb_67) 0 _ rfl), trivial⟩ ?_))))
   obtain ⟨w_69, hw_73, hb_70, hk_71, hz_72⟩ := new_world w_66 #[.int .i32 ((ys.getD j cell0).rune)] 21
   rw [hw_73]
   rw [← hw_73]
   have hB_82 : Below w_13.heap.size w_13 w_66 := (bt (bg (bt HB hb_38) hg_43 (HB).size) hb_67)
   refine XL_append (Kd.int .i32) rfl rfl rfl w_13.heap.size 21 (.int .i32 0) 4 Tryd.underlying114 info21 rfl (by decide) (by omega) zs7 ((ys.getD j cell0).rune) [.int .i32 ((ys.getD j cell0).rune)] (fun _ => False) (by kernel_rfl) rfl (fun _ h => h.elim) (Kd.R_below hr_48 hb_67) (hB_82).size (by rw [he7, List.length_map, List.length_take]; omega) ?_
   intro A_74 c_75 w_76 hr_77 hc_78 hg_79 hl_80 ha_81
   have hr_83 := Kd.R_apart (Kd.R_below hr_49 hb_67) (Kd.R_below hr_48 hb_67) (by decide) hg_79
   have hne_84 := RX.Kd.R_blk_ne (Kd.R_below hr_48 hb_67) (Blk.below hk_47 hb_67) rfl
   have hk_85 := Blk.ne (Blk.below hk_47 hb_67) hg_79 hne_84
   have hne_86 := RX.Kd.R_blk_ne (Kd.R_below hr_48 hb_67) (Blk.below hk_15 hB_82) rfl
   have hk_87 := Blk.ne (Blk.below hk_15 hB_82) hg_79 hne_86
   have hne_88 := RX.Kd.R_blk_ne (Kd.R_below hr_48 hb_67) (Blk.below hk_44 hb_67) rfl
   have hk_89 := Blk.ne (Blk.below hk_44 hb_67) hg_79 hne_88
   have he_90 : (zs7 ++ [(ys.getD j cell0).rune]) = ((ys.take (j + 1)).map (·.rune)) := by rw [he7]; exact map_snocR ys j (by omega)
   rw [he_90] at hr_77 ⊢
   refine xr0 1 [(7, .slice A_74 (((ys.take (j + 1)).map (·.rune)).length) c_75)] [43, 46, 47] ?_
   refine nl (rg (xr 2 [(48, .eq (.int .i64 ((j : Int) + 1)))] [(28, .int .i64 ((j : Int) + 1))] [] [Value.int .i64 (IntKind.i64.wrap ((j : Int) + 1)) = Value.int .i64 ((j : Int) + 1)] ⟨wr_i64 (by omega) (by omega), trivial⟩ ?_))
   refine nl ?_
   refine ⟨(j + 1, A_74, c_75, ((ys.take (j + 1)).map (·.rune))), by kernel_rfl, ?_, ?_⟩
   ·refine ⟨by omega, fun q_ hq_ => ?_, rfl, hr_77, (bgo hB_82 hg_79 hl_80 (Nat.le_refl _))⟩
    by_cases e_ : q_ = j
    ·subst e_; exact ⟨c_50, of_decide_eq_true c_68⟩
    exact hq7 q_ (by omega)
   (try dsimp only); omega
  rw [show (decide ((ys.getD j cell0).attrs = (ys.getD 0 cell0).attrs) : Bool) = false from by simpa using c_68]
  refine xr0 2 [(42, .bool true)] [35, 37, 39, 40] ?_
  refine nl (ct (X_exit (sq (rg (xe0 1 [(0, pw g 0), (6, pw w.heap.size 0), (7, .slice A7 zs7.length c7), (50, .slice A7 zs7.length c7)] ?_)))))
  have hj0 : 0 < j := by rcases Nat.eq_zero_or_pos j with h_ | h_; (· subst h_; exact absurd (decide_eq_true rfl) c_68); (· exact h_)
  have hsame := take_same hq7
  have hne7 : ys.take j ≠ [] := fun e_ => absurd (congrArg List.length e_) (by rw [List.length_take, List.length_nil]; omega)
  obtain ⟨g1, g2, g3, g4⟩ := B.grp_ok hne7 hsame (fun c_ h_ => hg c_ (List.mem_of_mem_take h_))
  have htp : U.textP zs7 = (runesBytes zs7, 0) := by rw [he7]; exact if_pos g4
  have hzl : zs7.length = j := by rw [he7, List.length_map, List.length_take]; omega
  have hB_91 : Below wB.heap.size wB wl := (bt (bg (bt hB0 hb_9) hg_14 hB0.size) HB)
  have hB_92 : Below wB.heap.size wB w_66 := (bt (bg (bt (bt (bg (bt hB0 hb_9) hg_14 hB0.size) HB) hb_38) hg_43 (hB_91).size) hb_67)
  refine xc 57 ent57 [.slice A7 zs7.length c7] (text_any _ _ zs7 _ (Kd.R_C (Kd.R_below hr_48 hb_67)) es (hEA.below hB_92)) ?_
  rintro e w_93 ⟨rfl, hb_94⟩; refine ⟨_, rfl, ?_⟩
  rw [htp]
  rw [errV_zero]
  refine xr0 5 [(10, .string (runesBytes zs7)), (11, .nilIface)] [50, 51] ?_
  refine nl (sq (sq (rg (xr0 2 [(55, .bool false)] [] ?_))))
  refine nl (cf (sk (sq (X_region ?_))))
  have hB_95 : Below w_13.heap.size w_13 w_93 := (bt (bt (bg (bt HB hb_38) hg_43 (HB).size) hb_67) hb_94)
  refine xe 6 [(62, .load (.slice B_4 ((ys.getD 0 cell0).attrs.length) c_5))] [(58, .int .i64 (zs7.length : Int)), (59, pw g 0), (60, .string (runesBytes zs7)), (62, .slice B_4 ((ys.getD 0 cell0).attrs.length) c_5)] [LoadsAs Tryd.prog 42 (⟨w.heap.size, 5, none⟩) (.slice B_4 ((ys.getD 0 cell0).attrs.length) c_5) w_93] ⟨loads1 rfl (Blk.cell (Blk.below hk_15 hB_95) 5 _ rfl), trivial⟩ ?_
  have hO : (⟨1, (runesBytes zs7), 0, 0, ByteArray.empty, 0, (ys.getD 0 cell0).attrs⟩ : OpA) = B.grp (ys.take j) (ys.getD 0 cell0).attrs := by show (⟨1, runesBytes zs7, 0, 0, ByteArray.empty, 0, _⟩ : OpA) = ⟨1, runesBytes ((ys.take j).map (·.rune)), 0, 0, ByteArray.empty, 0, _⟩; rw [he7]
  have hzO : opSz (⟨1, (runesBytes zs7), 0, 0, ByteArray.empty, 0, (ys.getD 0 cell0).attrs⟩ : OpA) := ⟨by have h_ := B.rb_size g4; rw [List.length_map, List.length_take] at h_; rw [hO]; show (runesBytes ((ys.take j).map (·.rune))).size ≤ _; omega, Nat.zero_le _, hz0.2.2⟩
  have hpo : pErr (⟨1, (runesBytes zs7), 0, 0, ByteArray.empty, 0, (ys.getD 0 cell0).attrs⟩ : OpA) = 0 := by rw [hO]; exact g1
  have hob : opB (⟨1, (runesBytes zs7), 0, 0, ByteArray.empty, 0, (ys.getD 0 cell0).attrs⟩ : OpA) = 0 := by rw [hO]; exact g2
  have hor : opR (⟨1, (runesBytes zs7), 0, 0, ByteArray.empty, 0, (ys.getD 0 cell0).attrs⟩ : OpA) = (j : Int) := by rw [hO, g3, List.length_take]; omega
  have hX : B.step s (⟨1, (runesBytes zs7), 0, 0, ByteArray.empty, 0, (ys.getD 0 cell0).attrs⟩ : OpA) = (((ys.take j).map B.opC).foldl B.step s) := by rw [hO]; exact B.grp_step hne7 hsame s
  refine xc 58 ent58 [.pointer (some ⟨g, 0, none⟩), .string (runesBytes zs7), .slice B_4 ((ys.getD 0 cell0).attrs.length) c_5] (btext_any (runesBytes zs7) (ys.getD 0 cell0).attrs _ _ wB g b r s A c _ (bt hB_92 hb_94) hgB (Blk.below hk_47 (bt hb_67 hb_94)) (Kd.R_below hr_49 (bt hb_67 hb_94)) hb hr hs2 hbd hl hlt (Kd.C_below hC_7 (bt (bt hB_65 hb_67) hb_94)) hl_6 hzO hT es hE) ?_
  intro e w_96 ht_970
  obtain ⟨ht_97, ⟨h1_98, rfl, A_99, c_100, hk_101, hr_102, hat_103⟩ | ⟨h1_98, _⟩⟩ := PushR.pre (bt (bt hB_65 hb_67) hb_94) ht_970
  ·refine ⟨_, rfl, ?_⟩
   rw [hX, hob, hor, Int.add_zero] at hk_101
   rw [hX] at hr_102
   refine xe0 2 [(4, .int .i64 (zs7.length : Int)), (5, .nilIface)] ?_
   refine nl (X_ret (rk [.int .i64 (zs7.length : Int), .nilIface] (hR_ _ _ ?_)))
   rw [hzl]
   exact ⟨j, hj0, hj, rfl, ht_97, A_99, c_100, hk_101, hr_102, hat_103⟩
  exact absurd (pushE_ok hpo (by rw [hob]; omega) (by rw [hor]; omega)) h1_98
 refine xr 1 [(29, .eq (.bool false))] [(29, .bool false)] [] [Value.bool (decide ((j : Int) < (n : Int))) = Value.bool false] ⟨congrArg Value.bool (decide_eq_false (c_29)), trivial⟩ ?_
 refine nl (sq (cf (X_exit (sq (rg (xr0 1 [(50, .slice A7 zs7.length c7)] [26, 27, 28, 29] ?_))))))
 have hj0 : 0 < j := by omega
 have hsame := take_same hq7
 have hne7 : ys.take j ≠ [] := fun e_ => absurd (congrArg List.length e_) (by rw [List.length_take, List.length_nil]; omega)
 obtain ⟨g1, g2, g3, g4⟩ := B.grp_ok hne7 hsame (fun c_ h_ => hg c_ (List.mem_of_mem_take h_))
 have htp : U.textP zs7 = (runesBytes zs7, 0) := by rw [he7]; exact if_pos g4
 have hzl : zs7.length = j := by rw [he7, List.length_map, List.length_take]; omega
 have hB_104 : Below wB.heap.size wB wl := (bt (bg (bt hB0 hb_9) hg_14 hB0.size) HB)
 refine xc 57 ent57 [.slice A7 zs7.length c7] (text_any _ _ zs7 _ (Kd.R_C hr7) es (hEA.below hB_104)) ?_
 rintro e w_105 ⟨rfl, hb_106⟩; refine ⟨_, rfl, ?_⟩
 rw [htp]
 rw [errV_zero]
 refine xr0 5 [(10, .string (runesBytes zs7)), (11, .nilIface)] [50, 51] ?_
 refine nl (sq (sq (rg (xr0 2 [(55, .bool false)] [] ?_))))
 refine nl (cf (sk (sq (rg (xe 6 [(62, .load (.slice B_4 ((ys.getD 0 cell0).attrs.length) c_5))] [(58, .int .i64 (zs7.length : Int)), (59, pw g 0), (60, .string (runesBytes zs7)), (62, .slice B_4 ((ys.getD 0 cell0).attrs.length) c_5)] [LoadsAs Tryd.prog 42 (⟨w.heap.size, 5, none⟩) (.slice B_4 ((ys.getD 0 cell0).attrs.length) c_5) w_105] ⟨loads1 rfl (Blk.cell (Blk.below hk_15 (bt HB hb_106)) 5 _ rfl), trivial⟩ ?_)))))
 have hB_107 : Below w.heap.size w w_105 := (bt (bt (bg hb_9 hg_14 (Nat.le_refl _)) HB) hb_106)
 have hO : (⟨1, (runesBytes zs7), 0, 0, ByteArray.empty, 0, (ys.getD 0 cell0).attrs⟩ : OpA) = B.grp (ys.take j) (ys.getD 0 cell0).attrs := by show (⟨1, runesBytes zs7, 0, 0, ByteArray.empty, 0, _⟩ : OpA) = ⟨1, runesBytes ((ys.take j).map (·.rune)), 0, 0, ByteArray.empty, 0, _⟩; rw [he7]
 have hzO : opSz (⟨1, (runesBytes zs7), 0, 0, ByteArray.empty, 0, (ys.getD 0 cell0).attrs⟩ : OpA) := ⟨by have h_ := B.rb_size g4; rw [List.length_map, List.length_take] at h_; rw [hO]; show (runesBytes ((ys.take j).map (·.rune))).size ≤ _; omega, Nat.zero_le _, hz0.2.2⟩
 have hpo : pErr (⟨1, (runesBytes zs7), 0, 0, ByteArray.empty, 0, (ys.getD 0 cell0).attrs⟩ : OpA) = 0 := by rw [hO]; exact g1
 have hob : opB (⟨1, (runesBytes zs7), 0, 0, ByteArray.empty, 0, (ys.getD 0 cell0).attrs⟩ : OpA) = 0 := by rw [hO]; exact g2
 have hor : opR (⟨1, (runesBytes zs7), 0, 0, ByteArray.empty, 0, (ys.getD 0 cell0).attrs⟩ : OpA) = (j : Int) := by rw [hO, g3, List.length_take]; omega
 have hX : B.step s (⟨1, (runesBytes zs7), 0, 0, ByteArray.empty, 0, (ys.getD 0 cell0).attrs⟩ : OpA) = (((ys.take j).map B.opC).foldl B.step s) := by rw [hO]; exact B.grp_step hne7 hsame s
 refine xc 58 ent58 [.pointer (some ⟨g, 0, none⟩), .string (runesBytes zs7), .slice B_4 ((ys.getD 0 cell0).attrs.length) c_5] (btext_any (runesBytes zs7) (ys.getD 0 cell0).attrs _ _ wB g b r s A c _ (bt hB_104 hb_106) hgB (Blk.below hk_18 (bt HB hb_106)) (Kd.R_below hr_19 (bt HB hb_106)) hb hr hs2 hbd hl hlt (Kd.C_below hC_7 hB_107) hl_6 hzO hT es hE) ?_
 intro e w_108 ht_1090
 obtain ⟨ht_109, ⟨h1_110, rfl, A_111, c_112, hk_113, hr_114, hat_115⟩ | ⟨h1_110, _⟩⟩ := PushR.pre hB_107 ht_1090
 ·refine ⟨_, rfl, ?_⟩
  rw [hX, hob, hor, Int.add_zero] at hk_113
  rw [hX] at hr_114
  refine xe0 2 [(4, .int .i64 (zs7.length : Int)), (5, .nilIface)] ?_
  refine nl (X_ret (rk [.int .i64 (zs7.length : Int), .nilIface] (hR_ _ _ ?_)))
  rw [hzl]
  exact ⟨j, hj0, hj, rfl, ht_109, A_111, c_112, hk_113, hr_114, hat_115⟩
 exact absurd (pushE_ok hpo (by rw [hob]; omega) (by rw [hor]; omega)) h1_110
set_option maxHeartbeats 4000000 in
theorem c9of_any (A : Option Addr) (c : Nat) (cs : List CellA) (w : World) (hx : kCell.C w A cs.length cs) (hxc : cs.length ≤ c) (hn : cs.length ≤ 500000) (hz : ∀ i, i < cs.length → B.cellSz (cs.getD i cell0)) (hT : Tabs w) (es : List Addr) (hE : ErrsO w es) :
  Calls Tryd.prog 19 #[.slice A cs.length c] w fun e w' => Below w.heap.size w w' ∧ (((B.cOf cs).2 = 0 ∧ ∃ d A' c', e = .returned (.tuple #[.pointer (some ⟨d, 0, none⟩), .int .i64 0, .nilIface]) ∧ DeltaR w' w.heap.size d A' c' (B.can (cs.map B.opC))) ∨ ((B.cOf cs).2 ≠ 0 ∧ e = .returned (.tuple #[.pointer none, .int .i64 ((B.cOf cs).1 : Int), errV es (B.cOf cs).2]))) := by
 have hpl : cs.length ≤ 9223372036854775807 := hx.2.1
 obtain ⟨zs, hzs⟩ : ∃ z_, cs.map B.opC = z_ := ⟨_, rfl⟩
 have hzl : zs.length = cs.length := by rw [← hzs]; exact List.length_map ..
 rw [hzs]
 have hL_ : B.L = 1099511627776 := rfl
 refine RX.enter Tryd.func19 rfl 48 rfl [(0, .slice A cs.length c)] rfl (by kernel_rfl) (fun R_ hR_ => ?_)
 refine sq (rg (xe0 3 [(0, .slice A cs.length c)] ?_))
 refine nl (sq (sq (rg (xr0 3 [(12, .slice A cs.length c), (13, .int .i64 (cs.length : Int)), (14, .int .i64 0)] [] ?_))))
 refine nl (bk (X_loop (ι := Nat) (fun i => [(0, .slice A cs.length c), (12, .slice A cs.length c), (13, .int .i64 (cs.length : Int)), (14, .int .i64 (i : Int))]) (fun i wl => i ≤ cs.length ∧ (∀ j, j < i → B.cErr (cs.getD j cell0) = 0) ∧ Below w.heap.size w wl) (fun i => cs.length - i) 0 ⟨Nat.zero_le _, fun _ h_ => absurd h_ (Nat.not_lt_zero _), (Below.refl _ _)⟩ (by kernel_rfl) ?_))
 rintro i wl ⟨hi, hb0, HB⟩
 refine sq (X_region ?_)
 by_cases c_1 : (i : Int) < (cs.length : Int)
 ·refine xr 1 [(15, .eq (.bool true))] [(15, .bool true)] [] [Value.bool (decide ((i : Int) < (cs.length : Int))) = Value.bool true] ⟨congrArg Value.bool (decide_eq_true (c_1)), trivial⟩ ?_
  refine nl (sq (ct (sk (sq (bk (sq (rg (xr0 1 [(16, nv i)] [15] ?_))))))))
  obtain ⟨ad_2, B_5, c_6, ha_3, hc_4, hl_7, hC_8⟩ := Kd.atCell (Kd.C_below hx HB) (i := (i : Int)) (by omega) (by omega)
  replace hc_4 : CellsAt wl (ad_2.add ((i : Int).toNat * 6)) (c6L (cs.getD i cell0) (.slice B_5 ((cs.getD i cell0).attrs.length) c_6)) := hc_4
  replace hl_7 : (cs.getD i cell0).attrs.length ≤ c_6 := hl_7
  replace hC_8 : kAttr.C wl B_5 ((cs.getD i cell0).attrs.length) (cs.getD i cell0).attrs := hC_8
  refine xw 3 [(17, .idx ad_2), (18, .load (.agg (c6A (cs.getD i cell0) (.slice B_5 ((cs.getD i cell0).attrs.length) c_6))))] [(6, pw wl.heap.size 0), (18, .agg (c6A (cs.getD i cell0) (.slice B_5 ((cs.getD i cell0).attrs.length) c_6)))] [] (wl.alloc (.cells #[.int .i32 0, .string ByteArray.empty, .int .i64 0, .int .i64 0, .string ByteArray.empty, .slice none 0 0] 44)) [A = some ad_2, (0 : Int) ≤ (i : Int), (i : Int) < (cs.length : Int), LoadsAs Tryd.prog 44 (ad_2.add ((i : Int).toNat * 6)) (.agg (c6A (cs.getD i cell0) (.slice B_5 ((cs.getD i cell0).attrs.length) c_6))) wl] ⟨ha_3, (by omega), (by omega), loadsE rfl rfl hc_4 0 ⟨by kernel_rfl, by kernel_rfl⟩, trivial⟩ ?_
  obtain ⟨w_9, hw_13, hb_10, hk_11, hz_12⟩ := new_world wl #[.int .i32 0, .string ByteArray.empty, .int .i64 0, .int .i64 0, .string ByteArray.empty, .slice none 0 0] 44
  rw [hw_13]
  refine xr0 1 [(5, nv i)] [16] ?_
  refine xst (.agg (c6A (cs.getD i cell0) (.slice B_5 ((cs.getD i cell0).attrs.length) c_6))) hk_11 0 (c6A (cs.getD i cell0) (.slice B_5 ((cs.getD i cell0).attrs.length) c_6)) (fun w_14 hg_15 hk_16 hz_17 => ?_)
  refine nl (sq (rg (xr 1 [(19, .load (.agg (c6A (cs.getD i cell0) (.slice B_5 ((cs.getD i cell0).attrs.length) c_6))))] [(19, .agg (c6A (cs.getD i cell0) (.slice B_5 ((cs.getD i cell0).attrs.length) c_6)))] [6, 18] [LoadsAs Tryd.prog 44 (⟨wl.heap.size, 0, none⟩) (.agg (c6A (cs.getD i cell0) (.slice B_5 ((cs.getD i cell0).attrs.length) c_6))) w_14] ⟨loadsB rfl rfl hk_16 0 ⟨by kernel_rfl, by kernel_rfl⟩, trivial⟩ ?_)))
  refine xc 34 ent34 [.agg (c6A (cs.getD i cell0) (.slice B_5 ((cs.getD i cell0).attrs.length) c_6))] (ccheck9_any (cs.getD i cell0) _ _ _ (Kd.C_below hC_8 (bg hb_10 hg_15 (Nat.le_refl _))) (hz i (by omega)) (hT.below (bg (bt HB hb_10) hg_15 (HB).size)) es (hE.below (bg (bt HB hb_10) hg_15 (HB).size))) ?_
  rintro e w_18 ⟨rfl, hb_19⟩; refine ⟨_, rfl, ?_⟩
  refine xe0 1 [(0, .slice A cs.length c), (5, nv i), (7, errV es (B.cErr (cs.getD i cell0))), (12, .slice A cs.length c), (13, .int .i64 (cs.length : Int)), (14, nv i)] ?_
  refine nl (sq (rg (xr0 1 [(21, errV es (B.cErr (cs.getD i cell0)))] [] ?_)))
  by_cases c_20 : (B.cErr (cs.getD i cell0)) = 0
  ·rw [show errV es (B.cErr (cs.getD i cell0)) = .nilIface from by rw [c_20]; rfl]
   refine xr0 1 [(7, .nilIface), (22, .bool false)] [21] ?_
   refine nl (cf (sk (rg (xr 2 [(25, .eq (.int .i64 ((i : Int) + 1)))] [(14, .int .i64 ((i : Int) + 1))] [5, 7, 22] [Value.int .i64 (IntKind.i64.wrap ((i : Int) + 1)) = Value.int .i64 ((i : Int) + 1)] ⟨wr_i64 (by omega) (by omega), trivial⟩ ?_))))
   refine nl ?_
   have hB_21 : Below w.heap.size w w_18 := (bt (bg (bt HB hb_10) hg_15 (HB).size) hb_19)
   refine ⟨(i + 1), by kernel_rfl, ?_, ?_⟩
   ·exact ⟨by omega, fun j_ hj_ => (by by_cases h_ : j_ < i; (· exact hb0 j_ h_); (· obtain rfl : j_ = i := (by omega); exact c_20)), hB_21⟩
   (try dsimp only); omega
  rw [errV_pos es (B.cErr (cs.getD i cell0)) (Nat.pos_of_ne_zero c_20)]
  refine xr0 1 [(7, .iface 164 (.pointer (some (errAt es (B.cErr (cs.getD i cell0)))))), (22, .bool true)] [21] ?_
  refine nl (ct (sq (rg (xe0 5 [(2, .pointer none), (3, nv i), (4, .iface 164 (.pointer (some (errAt es (B.cErr (cs.getD i cell0))))))] ?_))))
  refine nl (X_ret (rk [.pointer none, .int .i64 (i : Int), .iface 164 (.pointer (some (errAt es (B.cErr (cs.getD i cell0)))))] (hR_ _ _ ?_)))
  have hB_22 : Below w.heap.size w w_18 := (bt (bg (bt HB hb_10) hg_15 (HB).size) hb_19)
  have hof : B.cOf cs = (i, B.cErr (cs.getD i cell0)) := B.first_at hb0 c_20 (show i < cs.length by omega)
  rw [hof]
  refine ⟨hB_22, .inr ⟨c_20, ?_⟩⟩
  rw [errV_pos es _ (Nat.pos_of_ne_zero c_20)]; rfl
 refine xr 1 [(15, .eq (.bool false))] [(15, .bool false)] [] [Value.bool (decide ((i : Int) < (cs.length : Int))) = Value.bool false] ⟨congrArg Value.bool (decide_eq_false (c_1)), trivial⟩ ?_
 refine nl (sq (cf (X_exit (sq (X_region ?_)))))
 have hof : B.cOf cs = (0, 0) := B.first_none fun j_ hj_ => hb0 j_ (by omega)
 have hgd := B.cOf_ok (cs := cs) (by rw [hof])
 obtain ⟨hd1, hd2, hd3⟩ := B.doc_ok cs hgd
 obtain ⟨hsz, htx⟩ := docSz hgd hz
 have hbf := B.doc_of hgd (by omega)
 rw [hzs] at hd1 hd2 hd3 hsz htx hbf
 have hfi : ∀ o ∈ zs, B.fine o := fun o_ ho_ => by obtain ⟨i_, hi_, rfl⟩ := List.getElem_of_mem ho_; have h_ := hsz i_ hi_; rw [List.getD_eq_getElem?_getD, List.getElem?_eq_getElem hi_] at h_; exact B.fine_of h_
 have hbE := B.first_zero (f := B.bE zs) (n := zs.length) (by show (B.bOf zs).2 = 0; rw [hbf])
 clear hb0 hi
 refine xc 35 ent35 [] (bnew_any _) ?_
 rintro e w_23 ⟨g, rfl, hg_24, hk_25, hb_26⟩; refine ⟨_, rfl, ?_⟩
 refine xr0 1 [(8, pw g 0)] [12, 13, 14, 15, 26] ?_
 refine nl (sq (sq (rg (xr0 1 [(9, .int .i64 0)] [] ?_))))
 refine nl (X_block ?_)
 have hgw := (Nat.le_trans (HB).size hg_24)
 refine X_loop (ι := Nat × Option Addr × Nat) (fun ⟨q, A5, c5⟩ => [(0, .slice A cs.length c), (8, .pointer (some ⟨g, 0, none⟩)), (9, .int .i64 (q : Int))]) (fun ⟨q, A5, c5⟩ wm => q ≤ cs.length ∧ RX.Blk wm g 112 #[.int .i64 0, .int .i64 (q : Int), .slice A5 (List.map pOf ((B.run (zs.take q)).1)).length c5, .int .i64 ((B.run (zs.take q)).2)] ∧ kPiece.R 87 wm w.heap.size (OkFrom w.heap.size) (.slice A5 (List.map pOf ((B.run (zs.take q)).1)).length c5) (List.map pOf ((B.run (zs.take q)).1)) ∧ Below w.heap.size w wm) (fun ⟨q, A5, c5⟩ => cs.length - q) (0, none, 0) ⟨Nat.zero_le _, hk_25, Kd.R_nil _ _ _ _ _, (bt HB hb_26)⟩ (by kernel_rfl) ?_
 rintro ⟨q, A5, c5⟩ wm ⟨hq, hkl, hrl, HB2⟩
 have hb1 : ∀ j, j < q → B.bE zs j = 0 := fun j_ h_ => hbE j_ (by omega)
 have hiv := B.inv_at (show q ≤ zs.length by omega) hb1
 have hup := B.bE_upto (show q ≤ zs.length by omega) hb1
 have hgn := B.inv_gone hiv hup.2.1
 have hln := B.run_len (zs.take q)
 rw [List.length_take] at hln
 have hszr := B.run_sz (zs.take q) (fun o_ ho_ => hfi o_ (List.mem_of_mem_take ho_))
 have htk := B.txS_take zs q
 refine sq (sq (rg (xr0 3 [(27, nv q), (29, .int .i64 (cs.length : Int))] [] ?_)))
 by_cases c_27 : (q : Int) < (cs.length : Int)
 ·refine xr 1 [(30, .eq (.bool true))] [(30, .bool true)] [27, 29] [Value.bool (decide ((q : Int) < (cs.length : Int))) = Value.bool true] ⟨congrArg Value.bool (decide_eq_true (c_27)), trivial⟩ ?_
  refine nl (ct (sk (bk (sq (X_region ?_)))))
  obtain ⟨A_28, hA_29⟩ : ∃ A_, (if c = q then A else A.map (·.add (q * 6))) = A_ := ⟨_, rfl⟩
  have hC_30 : kCell.C w A_28 (cs.length - q) (cs.drop q) := by have h := RX.Kd.C_drop hx (k := q) (cap := c) (by omega) (by omega); first | (rw [← hA_29]; exact h)
  refine xr 4 [(35, .as (.slice A_28 (cs.length - q) (c - q)))] [(32, pw g 0), (35, .slice A_28 (cs.length - q) (c - q))] [30] [RunsAs Tryd.prog [(33, .slice A cs.length c), (34, .int .i64 (q : Int))] (Go.Op.slice 28 (Go.Operand.tmp 33) (some (Go.Operand.tmp 34)) none none) 28 (.slice A_28 (cs.length - q) (c - q)) wm] ⟨(hA_29 ▸ runs_slice_l (h := (q : Int)) rfl rfl rfl rfl (by omega) (by omega) (by omega)), trivial⟩ ?_
  refine xc 36 ent36 [.pointer (some ⟨g, 0, none⟩), .slice A_28 (cs.length - q) (c - q)] (grun_any _ _ _ (cs.drop q) w g 0 (q : Int) (B.run (zs.take q)) _ _ _ HB2 hgw hkl hrl ⟨by omega, by omega⟩ ⟨by omega, by omega⟩ ⟨hiv.g0, hgn⟩ hiv.good (by omega) (B.lst_txt (by omega)) (List.length_drop ..) (by omega) (Kd.C_below hC_30 HB2) (by omega) (fun c_ h_ => hgd c_ (List.mem_of_mem_drop h_)) (fun i_ h_ => by rw [List.length_drop] at h_; rw [drop_getD]; exact hz _ (by omega)) (by omega) (by omega) (by omega) hT es hE) ?_
  rintro e w_31 ⟨k, hk0_38, hkn_39, rfl, ht_32, A_33, c_34, hk_35, hr_36, hat_37⟩; refine ⟨_, rfl, ?_⟩
  have hX_41 : (((cs.drop q).take k).map B.opC).foldl B.step (B.run (zs.take q)) = B.run (zs.take (q + k)) := by rw [List.map_take, List.map_drop, hzs]; exact run_add zs q k
  rw [hX_41, ← Int.natCast_add] at hk_35; rw [hX_41] at hr_36
  have hB_40 : Below w.heap.size w w_31 := HB2.trans (Two.belowB ht_32 hgw (Kd.R_ge hrl) (HB2).size)
  refine xr0 5 [(10, nv k), (11, .nilIface)] [32, 35, 36] ?_
  refine nl (sq (sq (rg (xr0 2 [(40, .bool false)] [] ?_))))
  refine nl (cf (sk (rg (xe 4 [(45, .eq (.int .i64 ((q : Int) + (k : Int))))] [(0, .slice A cs.length c), (8, pw g 0), (9, .int .i64 ((q : Int) + (k : Int)))] [Value.int .i64 (IntKind.i64.wrap ((q : Int) + (k : Int))) = Value.int .i64 ((q : Int) + (k : Int))] ⟨wr_i64 (by omega) (by omega), trivial⟩ ?_))))
  refine nl ?_
  refine ⟨(q + k, A_33, c_34), by kernel_rfl, ?_, ?_⟩
  ·exact ⟨by omega, hk_35, hr_36, hB_40⟩
  (try dsimp only); omega
 refine xr 1 [(30, .eq (.bool false))] [(30, .bool false)] [27, 29] [Value.bool (decide ((q : Int) < (cs.length : Int))) = Value.bool false] ⟨congrArg Value.bool (decide_eq_false (c_27)), trivial⟩ ?_
 refine nl (cf (X_exit (sq (rg (xe0 1 [(46, pw g 0)] ?_)))))
 refine xc 37 ent37 [.pointer (some ⟨g, 0, none⟩)] (bdelta_any w g _ _ (B.run (zs.take q)) _ _ _ (HB2).size hkl hrl ⟨hiv.g0, hgn⟩ hiv.good (by omega)) ?_
 rintro e w_44 ⟨d, A_42, c_43, rfl, hd_45, hk_46, hr_47, hsp_48, hb_49⟩; refine ⟨_, rfl, ?_⟩
 refine xe0 3 [(2, pw d 0), (3, .int .i64 0), (4, .nilIface)] ?_
 refine nl (X_ret (rk [.pointer (some ⟨d, 0, none⟩), .int .i64 0, .nilIface] (hR_ _ _ ?_)))
 have hxi : zs.take q = zs := List.take_of_length_le (by omega)
 rw [hxi] at hk_46 hr_47
 rw [hof]
 exact ⟨(bt HB2 hb_49), .inl ⟨rfl, d, A_42, c_43, rfl, (Nat.le_trans (HB2).size hd_45), hk_46, hr_47⟩⟩
end Go.Proofs.YtgphmfnkeolbcaaDoor
