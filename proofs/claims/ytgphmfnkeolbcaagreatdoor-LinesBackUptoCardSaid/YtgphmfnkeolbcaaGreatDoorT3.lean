/- What builders do with rows of pieces. Conditions: sizes. -/
import Derived.Test.YtgphmfnkeolbcaaGreatDoorT2
set_option linter.unusedVariables false
set_option linter.unusedSimpArgs false
set_option maxRecDepth 100000
namespace Go.Proofs.YtgphmfnkeolbcaaGreatDoor
open Go Go.RowKit Go.Proofs.YtgphmfnkeolbcaaGreatDoorW.PrintWords RX
theorem ent80 : Ent Tryz.prog 80 := ent_of Tryz.func80 (by kernel_rfl) rfl
theorem ent144 : Ent Tryz.prog 144 := ent_of Tryz.func144 (by kernel_rfl) rfl
theorem ent137 : Ent Tryz.prog 137 := ent_of Tryz.func137 (by kernel_rfl) rfl
theorem ent138 : Ent Tryz.prog 138 := ent_of Tryz.func138 (by kernel_rfl) rfl
theorem ent143 : Ent Tryz.prog 143 := ent_of Tryz.func143 (by kernel_rfl) rfl
theorem bnew_any (w : World) : Calls Tryz.prog 80 #[] w fun e w' => ∃ g, e = .returned (pw g 0) ∧ w.heap.size ≤ g ∧ RX.Blk w' g 194 #[i6 0, i6 0, .slice none 0 0, i6 0] ∧ Below w.heap.size w w' := by
 refine en Tryz.func80 rfl 3 [] (fun R_ hR_ => ?_)
 refine sg (xe0 1 [] ?_)
 refine nl (sg (xwe 2 [] [(2, pw w.heap.size 0)] (w.alloc (.cells #[i6 0, i6 0, .slice none 0 0, i6 0] 194)) [] trivial ?_))
 obtain ⟨w_1, hw_5, hb_2, hk_3, hz_4⟩ := new_world w #[i6 0, i6 0, .slice none 0 0, i6 0] 194
 rw [hw_5]
 refine xe0 1 [(0, pw w.heap.size 0)] ?_
 refine nl (X_ret (rj [pw w.heap.size 0] hR_ ?_))
 exact ⟨_, rfl, (Nat.le_refl _), hk_3, hb_2⟩
theorem bempty_any (w : World) : Calls Tryz.prog 144 #[] w fun e w' => ∃ g, e = .returned (pw g 0) ∧ w.heap.size ≤ g ∧ RX.Blk w' g 162 #[.slice none 0 0] ∧ Below w.heap.size w w' := by
 refine en Tryz.func144 rfl 3 [] (fun R_ hR_ => ?_)
 refine sg (xe0 1 [] ?_)
 refine nl (sg (xwe 2 [] [(2, pw w.heap.size 0)] (w.alloc (.cells #[.slice none 0 0] 162)) [] trivial ?_))
 obtain ⟨w_1, hw_5, hb_2, hk_3, hz_4⟩ := new_world w #[.slice none 0 0] 162
 rw [hw_5]
 refine xe0 1 [(0, pw w.heap.size 0)] ?_
 refine nl (X_ret (rj [pw w.heap.size 0] hR_ ?_))
 exact ⟨_, rfl, (Nat.le_refl _), hk_3, hb_2⟩
theorem map_gone (ps : List OpA) (n : Int) : List.map pOf ps ++ [PieceA.del n] = List.map pOf (ps ++ [B.gone n]) := by rw [List.map_append]; rfl
theorem bdeleted_any (A : Option Addr) (c : Nat) (ps : List OpA) (n : Int) (wB w : World) (hB : wB.heap.size ≤ w.heap.size) (hR : kPiece.R 124 w wB.heap.size (OkFrom wB.heap.size) (.slice A (List.map pOf ps).length c) (List.map pOf ps)) (hl : ps.length ≤ 1000000000) :
  Calls Tryz.prog 137 #[.slice A (List.map pOf ps).length c, i6 n] w fun e w' => ∃ A' c', e = .returned (.slice A' (List.map pOf (B.dels ps n)).length c') ∧ kPiece.R 124 w' wB.heap.size (OkFrom wB.heap.size) (.slice A' (List.map pOf (B.dels ps n)).length c') (List.map pOf (B.dels ps n)) ∧ w.grownBy w' (A.map (·.block)) ∧ (A'.map (·.block) = A.map (·.block) ∨ ∃ b, A'.map (·.block) = some b ∧ w.heap.size ≤ b) := by
 have hlm : (List.map pOf ps).length = ps.length := List.length_map ..
 refine en Tryz.func137 rfl 14 [(0, .slice A ((List.map pOf ps).length) c), (1, i6 n)] (fun R_ hR_ => ?_)
 refine sg (xe0 1 [(0, .slice A ((List.map pOf ps).length) c), (1, i6 n)] ?_)
 refine nl (sq (sg (xr0 1 [(5, i6 n)] [] ?_)))
 by_cases c_1 : n = 0
 ·refine xr1 1 [(6, .eq bT)] [(6, bT)] [5] (bE c_1) ?_
  refine nl (ct (sg (xe0 2 [(4, .slice A ((List.map pOf ps).length) c)] ?_)))
  refine nl (X_ret (rj [.slice A ((List.map pOf ps).length) c] hR_ ?_))
  rw [show B.dels ps n = ps from if_pos c_1]
  exact ⟨_, _, rfl, hR, World.grownBy.refl _ _, .inl rfl⟩
 refine xr1 1 [(6, .eq bF)] [(6, bF)] [5] (bN c_1) ?_
 refine nl (cf (sk (sg (xe0 4 [(8, .slice A ((List.map pOf ps).length) c), (11, .iface 133 (.agg #[i6 n]))] ?_))))
 refine xw 1 [] [(12, .slice (some ⟨w.heap.size, 0, none⟩) 1 1)] [11] (w.alloc (.cells #[.iface 133 (.agg #[i6 n])] 124)) [] trivial ?_
 obtain ⟨w_2, hw_6, hb_3, hk_4, hz_5⟩ := new_world w #[.iface 133 (.agg #[i6 n])] 124
 rw [hw_6]
 obtain ⟨okp_7, hM_8, hok_9⟩ := Kd.M_apart (kPiece_Mdel (w := w) (base := w.heap.size) (ok := OkFrom w.heap.size) (n := n)) hB hR (by decide)
 rw [← hw_6]
 refine XL_append kPiece rfl rfl rfl wB.heap.size 124 .nilIface 16 Tryz.underlying160 info124 rfl (by decide) (by omega) (List.map pOf ps) (PieceA.del n) [.iface 133 (.agg #[i6 n])] okp_7 (by kernel_rfl) hM_8 hok_9 hR hB (by first | omega | (simp; omega)) ?_
 intro A_10 c_11 w_12 hr_13 hc_14 hg_15 hl_16 ha_17
 have he_18 : ((List.map pOf ps) ++ [(PieceA.del n)]) = (List.map pOf (ps ++ [B.gone n])) := map_gone ps n
 rw [he_18] at hr_13 ⊢
 refine xe0 1 [(4, .slice A_10 ((List.map pOf (ps ++ [B.gone n])).length) c_11)] ?_
 refine nl (X_ret (rj [.slice A_10 ((List.map pOf (ps ++ [B.gone n])).length) c_11] hR_ ?_))
 rw [show B.dels ps n = ps ++ [B.gone n] from if_neg c_1]
 exact ⟨_, _, rfl, hr_13, hg_15, ha_17⟩
theorem last_get {ps : List OpA} (h : ps.length ≠ 0) : (List.map pOf ps).getD (((List.map pOf ps).length : Int) - 1).toNat piece0 = pOf (B.lst ps) := by
 have hl : (List.map pOf ps).length = ps.length := List.length_map ..
 rw [hl, show ((ps.length : Int) - 1).toNat = ps.length - 1 by omega]
 exact map_getD pOf op0 piece0 (by omega)
theorem push_set {ps : List OpA} {o : OpA} (h : ps.length ≠ 0) (hm : B.meets (B.lst ps) o) : (List.map pOf ps).set (((List.map pOf ps).length : Int) - 1).toNat (pOf (B.jo (B.lst ps) o)) = List.map pOf (B.push ps o) := by
 have hl : (List.map pOf ps).length = ps.length := List.length_map ..
 rw [hl, show ((ps.length : Int) - 1).toNat = ps.length - 1 by omega]
 unfold B.push
 rw [if_pos ⟨h, hm⟩, List.map_set]
theorem push_app {ps : List OpA} {o : OpA} (h : ps.length = 0 ∨ ¬ B.meets (B.lst ps) o) : List.map pOf ps ++ [pOf o] = List.map pOf (B.push ps o) := by
 rw [B.push_far h, List.map_append]; rfl
theorem lst_ok {ps : List OpA} (hb : badE ps = 0) (h : ps.length ≠ 0) : pErr (B.lst ps) = 0 := badE_getD hb (by omega)
theorem pOf_jins {a o : OpA} (ha : pErr a = 0) (ho : pErr o = 0) (k1 : a.kind = 1) (k2 : o.kind = 1) : pOf (B.jo a o) = .ins a.attrs (a.text ++ o.text) (((U.sc a.text).length : Int) + ((U.sc o.text).length : Int)) := by
 obtain ⟨_, _, _, _, _, u1, _⟩ := B.ok_ins ha k1
 obtain ⟨_, _, _, _, _, u2, _⟩ := B.ok_ins ho k2
 rw [pOf_ins (show (B.jo a o).kind = 1 from k1)]
 show PieceA.ins a.attrs (a.text ++ o.text) ((U.sc (a.text ++ o.text)).length : Int) = _
 rw [(B.utf_app u1 u2).2, List.length_append, Int.natCast_add]
theorem pOf_jret {a o : OpA} (k1 : a.kind = 3) : pOf (B.jo a o) = .ret a.attrs (a.count + o.count) := pOf_ret (show (B.jo a o).kind = 3 from k1)
theorem pm_eq {w : World} {base : Nat} {ok : Nat → Prop} {p q : PieceA} {v : Value} (e : p = q) (h : kPiece.M w base ok q [v]) : kPiece.M w base ok p [v] := by rw [e]; exact h
theorem kPiece_one {w : World} {base : Nat} {ok : Nat → Prop} {p : PieceA} {cs : List Value} (h : kPiece.M w base ok p cs) : ∃ v, cs = [v] := by
 have := kPiece.K_len (kPiece.K_of_M h)
 match cs, this with
 | [v], _ => exact ⟨v, rfl⟩
set_option maxHeartbeats 2000000 in
theorem bjoined_ins (A : Option Addr) (c : Nat) (ps : List OpA) (o : OpA) (D : Option Addr) (d : Nat) (wB w : World) (hB : wB.heap.size ≤ w.heap.size) (hk : o.kind = 1) (ho : pErr o = 0) (hb : badE ps = 0) (hR : kPiece.R 124 w wB.heap.size (OkFrom wB.heap.size) (.slice A (List.map pOf ps).length c) (List.map pOf ps)) (hl : ps.length ≤ 1000000000)
  (hD : kAttr.C w D o.attrs.length o.attrs) (hp : kPiece.M w wB.heap.size (OkFrom wB.heap.size) (pOf o) [.iface 249 (.agg #[.slice D o.attrs.length d, sT o.text, i6 ((U.sc o.text).length : Int)])]) (hot : o.text.size ≤ 1000000000) (hlt : (B.lst ps).text.size ≤ 1000000000) :
  Calls Tryz.prog 138 #[.slice A (List.map pOf ps).length c, .iface 249 (.agg #[.slice D o.attrs.length d, sT o.text, i6 ((U.sc o.text).length : Int)])] w fun e w' => ∃ A' c', e = .returned (.slice A' (List.map pOf (B.push ps o)).length c') ∧ kPiece.R 124 w' wB.heap.size (OkFrom wB.heap.size) (.slice A' (List.map pOf (B.push ps o)).length c') (List.map pOf (B.push ps o)) ∧ w.grownBy w' (A.map (·.block)) ∧ (A'.map (·.block) = A.map (·.block) ∨ ∃ b, A'.map (·.block) = some b ∧ w.heap.size ≤ b) := by
 have hlm : (List.map pOf ps).length = ps.length := List.length_map ..
 have hs1 := U.sc_le o.text
 have hs2 := U.sc_le (B.lst ps).text
 have hco := fun hk_ => count_of_ok ho hk_
 refine en Tryz.func138 rfl 96 [(0, .slice A ((List.map pOf ps).length) c), (1, .iface 249 (.agg #[.slice D o.attrs.length d, sT o.text, i6 ((U.sc o.text).length : Int)]))] (fun R_ hR_ => ?_)
 refine sg (xe0 1 [(0, .slice A ((List.map pOf ps).length) c), (1, .iface 249 (.agg #[.slice D o.attrs.length d, sT o.text, i6 ((U.sc o.text).length : Int)]))] ?_)
 refine nl (sg (xr1 4 [(14, .eq (i6 (((List.map pOf ps).length : Int) - 1)))] [(5, i6 (((List.map pOf ps).length : Int) - 1))] [] (w6 (((List.map pOf ps).length : Int) - 1)) ?_))
 refine nl (sq (sg (xr0 1 [(15, i6 (((List.map pOf ps).length : Int) - 1))] [] ?_)))
 by_cases c_1 : ((List.map pOf ps).length : Int) - 1 < 0
 ·refine xr1 1 [(16, .eq bT)] [(16, bT)] [15] (dT c_1) ?_
  refine nl (ct (sg (xwe 3 [] [(17, .slice A ((List.map pOf ps).length) c), (19, .slice (some ⟨w.heap.size, 0, none⟩) 1 1)] (w.alloc (.cells #[.iface 249 (.agg #[.slice D o.attrs.length d, sT o.text, i6 ((U.sc o.text).length : Int)])] 124)) [] trivial ?_)))
  obtain ⟨w_2, hw_6, hb_3, hk_4, hz_5⟩ := new_world w #[.iface 249 (.agg #[.slice D o.attrs.length d, sT o.text, i6 ((U.sc o.text).length : Int)])] 124
  rw [hw_6]
  obtain ⟨okp_7, hM_8, hok_9⟩ := Kd.M_apart hp (Nat.le_refl _) hR (by decide)
  rw [← hw_6]
  refine XL_append kPiece rfl rfl rfl wB.heap.size 124 .nilIface 16 Tryz.underlying160 info124 rfl (by decide) (by omega) (List.map pOf ps) (pOf o) [.iface 249 (.agg #[.slice D o.attrs.length d, sT o.text, i6 ((U.sc o.text).length : Int)])] okp_7 (by kernel_rfl) hM_8 hok_9 hR hB (by first | omega | (simp; omega)) ?_
  intro A_10 c_11 w_12 hr_13 hc_14 hg_15 hl_16 ha_17
  have he_18 : ((List.map pOf ps) ++ [(pOf o)]) = (List.map pOf (B.push ps o)) := push_app (.inl (by omega))
  rw [he_18] at hr_13 ⊢
  refine xe0 1 [(4, .slice A_10 ((List.map pOf (B.push ps o)).length) c_11)] ?_
  refine nl (X_ret (rj [.slice A_10 ((List.map pOf (B.push ps o)).length) c_11] hR_ ?_))
  exact ⟨_, _, rfl, hr_13, hg_15, ha_17⟩
 have hne : ps.length ≠ 0 := by omega
 refine xr1 1 [(16, .eq bF)] [(16, bF)] [15] (dF c_1) ?_
 refine nl (cf (sk (sq (sg (xr0 2 [(21, .slice A ((List.map pOf ps).length) c), (22, i6 (((List.map pOf ps).length : Int) - 1))] [16] ?_)))))
 obtain ⟨ad_19, cs_22, ha_20, hM_23, hc_21⟩ := Kd.R_at piece0 hR (i := ((List.map pOf ps).length : Int) - 1) (by omega) (by omega)
 obtain ⟨v_24, rfl⟩ := kPiece_one hM_23
 replace hc_21 : CellsAt w (ad_19.add ((((List.map pOf ps).length : Int) - 1).toNat * 1)) [v_24] := hc_21
 refine xr 1 [(23, .idx ad_19)] [(23, .pointer (some (ad_19.add ((((List.map pOf ps).length : Int) - 1).toNat * 1))))] [21, 22] [A = some ad_19, (0 : Int) ≤ ((List.map pOf ps).length : Int) - 1, ((List.map pOf ps).length : Int) - 1 < ((List.map pOf ps).length : Int)] ⟨ha_20, (by omega), (by omega), trivial⟩ ?_
 rw [last_get hne] at hM_23
 have hla := lst_ok hb hne
 have hcn := fun hk_ => count_of_ok hla hk_
 rcases kind_of_ok hla with hlk | hlk | hlk | hlk
 ·rw [pOf_ins hlk] at hM_23
  obtain ⟨A_26, c_27, e_28, hl_29, hR_30⟩ := kPiece_insM hM_23
  obtain rfl := (List.cons.inj e_28).1
  refine xe 1 [(24, .load (.iface 249 (.agg #[.slice A_26 ((B.lst ps).attrs.length) c_27, sT ((B.lst ps).text), i6 ((U.sc (B.lst ps).text).length : Int)])))] [(0, .slice A ((List.map pOf ps).length) c), (1, .iface 249 (.agg #[.slice D o.attrs.length d, sT o.text, i6 ((U.sc o.text).length : Int)])), (5, i6 (((List.map pOf ps).length : Int) - 1)), (24, .iface 249 (.agg #[.slice A_26 ((B.lst ps).attrs.length) c_27, sT ((B.lst ps).text), i6 ((U.sc (B.lst ps).text).length : Int)]))] [la 124 (ad_19.add ((((List.map pOf ps).length : Int) - 1).toNat * 1)) (.iface 249 (.agg #[.slice A_26 ((B.lst ps).attrs.length) c_27, sT ((B.lst ps).text), i6 ((U.sc (B.lst ps).text).length : Int)])) w] ⟨loads1 rfl (elem_cell hc_21 0 _ rfl), trivial⟩ ?_
  refine nl (bk (sg (xr0 3 [(26, bT), (27, .agg #[.slice A_26 ((B.lst ps).attrs.length) c_27, sT ((B.lst ps).text), i6 ((U.sc (B.lst ps).text).length : Int)])] [] ?_)))
  refine nl (ct (sg (xw 1 [] [(6, pw w.heap.size 0)] [24, 26] (w.alloc (.cells #[.slice none 0 0, s0, i6 0] 249)) [] trivial ?_)))
  obtain ⟨w_31, hw_35, hb_32, hk_33, hz_34⟩ := new_world w #[.slice none 0 0, s0, i6 0] 249
  rw [hw_35]
  refine xst (.agg #[.slice A_26 ((B.lst ps).attrs.length) c_27, sT ((B.lst ps).text), i6 ((U.sc (B.lst ps).text).length : Int)]) hk_33 0 #[.slice A_26 ((B.lst ps).attrs.length) c_27, sT ((B.lst ps).text), i6 ((U.sc (B.lst ps).text).length : Int)] (fun w_36 hg_37 hk_38 hz_39 => ?_)
  have hr_40 := Kd.R_off (Kd.R_below hR hb_32) hk_33 (by decide) hg_37
  refine nl (sg (xw 6 [] [(7, pw w_36.heap.size 0), (31, .agg #[.slice D o.attrs.length d, sT o.text, i6 ((U.sc o.text).length : Int)]), (32, bT)] [27] (w_36.alloc (.cells #[.slice none 0 0, s0, i6 0] 249)) [] trivial ?_))
  obtain ⟨w_41, hw_45, hb_42, hk_43, hz_44⟩ := new_world w_36 #[.slice none 0 0, s0, i6 0] 249
  rw [hw_45]
  refine xst (.agg #[.slice D o.attrs.length d, sT o.text, i6 ((U.sc o.text).length : Int)]) hk_43 0 #[.slice D o.attrs.length d, sT o.text, i6 ((U.sc o.text).length : Int)] (fun w_46 hg_47 hk_48 hz_49 => ?_)
  have hr_50 := Kd.R_off (Kd.R_below hr_40 hb_42) hk_43 (by decide) hg_47
  refine xr0 1 [(8, bT)] [31, 32] ?_
  refine nl (sg (xr 8 [(37, .load (.slice A_26 ((B.lst ps).attrs.length) c_27)), (40, .load (.slice D o.attrs.length d))] [(34, bT), (37, .slice A_26 ((B.lst ps).attrs.length) c_27), (40, .slice D o.attrs.length d)] [8] [_, _] ⟨lc 49 (Blk.below hk_38 (bg hb_42 hg_47 (Nat.le_refl _))) 0, lc 49 hk_48 0, trivial⟩ ?_))
  have hB_51 : Below w.heap.size w w_46 := (bg (bt (bg hb_32 hg_37 (Nat.le_refl _)) hb_42) hg_47 ((bg hb_32 hg_37 (Nat.le_refl _))).size)
  refine xc 151 ent151 [.slice A_26 ((B.lst ps).attrs.length) c_27, .slice D o.attrs.length d] (asame_any _ _ _ _ ((B.lst ps).attrs) o.attrs _ (Kd.C_below (Kd.R_C hR_30) hB_51) (Kd.C_below hD hB_51)) ?_
  rintro e w_52 ⟨rfl, hb_53⟩; refine ⟨_, rfl, ?_⟩
  refine xe0 1 [(0, .slice A ((List.map pOf ps).length) c), (1, .iface 249 (.agg #[.slice D o.attrs.length d, sT o.text, i6 ((U.sc o.text).length : Int)])), (5, i6 (((List.map pOf ps).length : Int) - 1)), (6, pw w.heap.size 0), (7, pw w_36.heap.size 0), (42, .bool (decide ((B.lst ps).attrs = o.attrs)))] ?_
  refine nl ?_
  by_cases c_54 : decide ((B.lst ps).attrs = o.attrs) = true
  ·rw [show (decide ((B.lst ps).attrs = o.attrs) : Bool) = true from by simpa using c_54]
   refine ct (sq (X_region ?_))
   have hB_55 : Below w_36.heap.size w_36 w_52 := (bt (bg hb_42 hg_47 (Nat.le_refl _)) hb_53)
   refine xr 16 [(46, .load (.agg #[.slice A_26 ((B.lst ps).attrs.length) c_27])), (48, .load (sT ((B.lst ps).text))), (50, .load (sT o.text)), (51, .as (sT (((B.lst ps).text) ++ o.text))), (53, .load (i6 ((U.sc (B.lst ps).text).length : Int))), (55, .load (i6 ((U.sc o.text).length : Int))), (56, .eq (i6 (((U.sc (B.lst ps).text).length : Int) + ((U.sc o.text).length : Int))))] [(43, .slice A ((List.map pOf ps).length) c), (44, i6 (((List.map pOf ps).length : Int) - 1)), (58, .iface 249 (.agg #[.slice A_26 ((B.lst ps).attrs.length) c_27, sT (((B.lst ps).text) ++ o.text), i6 (((U.sc (B.lst ps).text).length : Int) + ((U.sc o.text).length : Int))]))] [1, 5, 6, 7, 42] [la 126 (⟨w.heap.size, 0, none⟩) (.agg #[.slice A_26 ((B.lst ps).attrs.length) c_27]) w_52, _, _, RunsAs Tryz.prog [(48, sT ((B.lst ps).text)), (50, sT o.text)] (Go.Op.binOp Go.BinOp.add 9 (Go.Operand.tmp 48) (Go.Operand.tmp 50) 9) 9 (sT (((B.lst ps).text) ++ o.text)) w_52, _, _, _] ⟨loadsB rfl rfl (Blk.below hk_38 hB_55) 0 ⟨by kernel_rfl, by kernel_rfl⟩, lc 9 (Blk.below hk_38 hB_55) 1, lc 9 (Blk.below hk_48 hb_53) 1, runs_bin rfl rfl rfl (run_sadd (by omega)), lc 3 (Blk.below hk_38 hB_55) 2, lc 3 (Blk.below hk_48 hb_53) 2, w6 (((U.sc (B.lst ps).text).length : Int) + ((U.sc o.text).length : Int)), trivial⟩ ?_
   obtain ⟨ad_56, cs_59, ha_57, hM_60, hc_58⟩ := Kd.R_at piece0 (Kd.R_below hr_50 hb_53) (i := ((List.map pOf ps).length : Int) - 1) (by omega) (by omega)
   obtain ⟨v_61, rfl⟩ := kPiece_one hM_60
   replace hc_58 : CellsAt w_52 (ad_56.add ((((List.map pOf ps).length : Int) - 1).toNat * 1)) [v_61] := hc_58
   refine xr 1 [(59, .idx ad_56)] [(59, .pointer (some (ad_56.add ((((List.map pOf ps).length : Int) - 1).toNat * 1))))] [43, 44] [A = some ad_56, (0 : Int) ≤ ((List.map pOf ps).length : Int) - 1, ((List.map pOf ps).length : Int) - 1 < ((List.map pOf ps).length : Int)] ⟨ha_57, (by omega), (by omega), trivial⟩ ?_
   refine XL_rowsetM kPiece rfl rfl rfl wB.heap.size 124 (ad := ad_56) (i := ((List.map pOf ps).length : Int) - 1) (v := .iface 249 (.agg #[.slice A_26 ((B.lst ps).attrs.length) c_27, sT (((B.lst ps).text) ++ o.text), i6 (((U.sc (B.lst ps).text).length : Int) + ((U.sc o.text).length : Int))])) (List.map pOf ps) (pOf (B.jo (B.lst ps) o)) (by kernel_rfl) ha_57 (Kd.R_below hr_50 hb_53) (by omega) (by omega) [.iface 249 (.agg #[.slice A_26 ((B.lst ps).attrs.length) c_27, sT (((B.lst ps).text) ++ o.text), i6 (((U.sc (B.lst ps).text).length : Int) + ((U.sc o.text).length : Int))])] ⟨by kernel_rfl, by kernel_rfl⟩ (by kernel_rfl) (pm_eq (pOf_jins hla ho hlk hk) (kPiece_Mins ⟨_, rfl, (Kd.R_below hR_30 (bt hB_51 hb_53))⟩)) ?_
   intro w_63 hr_64 hg_65 hl_66
   rw [push_set hne ⟨hlk.trans hk.symm, by omega, of_decide_eq_true c_54⟩] at hr_64
   refine nl (sg (xe0 2 [(4, .slice A ((List.map pOf ps).length) c)] ?_))
   refine nl (X_ret (rj [.slice A ((List.map pOf ps).length) c] hR_ ?_))
   have hln : (List.map pOf ps).length = (List.map pOf (B.push ps o)).length := by rw [← push_set hne ⟨hlk.trans hk.symm, by omega, of_decide_eq_true c_54⟩, List.length_set]
   have hR_ := hr_64
   rw [hln] at hR_ ⊢
   exact ⟨_, _, rfl, hR_, (World.grownBy.trans (grown_of_below (bt hB_51 hb_53) (A.map (·.block))) hg_65), .inl rfl⟩
  rw [show (decide ((B.lst ps).attrs = o.attrs) : Bool) = false from by simpa using c_54]
  refine cf (sk (sg (xwe 3 [] [(92, .slice A ((List.map pOf ps).length) c), (94, .slice (some ⟨w_52.heap.size, 0, none⟩) 1 1)] (w_52.alloc (.cells #[.iface 249 (.agg #[.slice D o.attrs.length d, sT o.text, i6 ((U.sc o.text).length : Int)])] 124)) [] trivial ?_)))
  obtain ⟨w_72, hw_76, hb_73, hk_74, hz_75⟩ := new_world w_52 #[.iface 249 (.agg #[.slice D o.attrs.length d, sT o.text, i6 ((U.sc o.text).length : Int)])] 124
  rw [hw_76]
  obtain ⟨okp_77, hM_78, hok_79⟩ := Kd.M_apart (Kd.M_below hp (bt hB_51 hb_53)) (Nat.le_refl _) (Kd.R_below hr_50 hb_53) (by decide)
  rw [← hw_76]
  refine XL_append kPiece rfl rfl rfl wB.heap.size 124 .nilIface 16 Tryz.underlying160 info124 rfl (by decide) (by omega) (List.map pOf ps) (pOf o) [.iface 249 (.agg #[.slice D o.attrs.length d, sT o.text, i6 ((U.sc o.text).length : Int)])] okp_77 (by kernel_rfl) hM_78 hok_79 (Kd.R_below hr_50 hb_53) (Nat.le_trans hB (Nat.le_trans (Nat.le_trans (Nat.le_trans (Nat.le_trans hb_32.size hg_37.size) hb_42.size) hg_47.size) hb_53.size)) (by first | omega | (simp; omega)) ?_
  intro A_80 c_81 w_82 hr_83 hc_84 hg_85 hl_86 ha_87
  have he_93 : ((List.map pOf ps) ++ [(pOf o)]) = (List.map pOf (B.push ps o)) := push_app (.inr (fun h_ => c_54 (decide_eq_true h_.2.2)))
  rw [he_93] at hr_83 ⊢
  refine xe0 1 [(4, .slice A_80 ((List.map pOf (B.push ps o)).length) c_81)] ?_
  refine nl (X_ret (rj [.slice A_80 ((List.map pOf (B.push ps o)).length) c_81] hR_ ?_))
  exact ⟨_, _, rfl, hr_83, (World.grownBy.trans (grown_of_below (bt hB_51 hb_53) (A.map (·.block))) hg_85), (ha_87.imp id (fun ⟨b_, h1_, h2_⟩ => ⟨b_, h1_, Nat.le_trans ((bt hB_51 hb_53)).size h2_⟩))⟩
 ·rw [pOf_emb hlk] at hM_23
  obtain ⟨A_94, c_95, e_96, hl_97, hR_98⟩ := kPiece_embM hM_23
  obtain rfl := (List.cons.inj e_96).1
  have hval : (B.lst ps).val = ((B.lst ps).vk, (B.lst ps).vn, (B.lst ps).vt) := rfl
  rw [hval] at hc_21
  refine xe 1 [(24, .load (.iface 253 (.agg #[.slice A_94 ((B.lst ps).attrs.length) c_95, sT ((B.lst ps).text), valV ((B.lst ps).vk, (B.lst ps).vn, (B.lst ps).vt)])))] [(0, .slice A ((List.map pOf ps).length) c), (1, .iface 249 (.agg #[.slice D o.attrs.length d, sT o.text, i6 ((U.sc o.text).length : Int)])), (5, i6 (((List.map pOf ps).length : Int) - 1)), (24, .iface 253 (.agg #[.slice A_94 ((B.lst ps).attrs.length) c_95, sT ((B.lst ps).text), valV ((B.lst ps).vk, (B.lst ps).vn, (B.lst ps).vt)]))] [la 124 (ad_19.add ((((List.map pOf ps).length : Int) - 1).toNat * 1)) (.iface 253 (.agg #[.slice A_94 ((B.lst ps).attrs.length) c_95, sT ((B.lst ps).text), valV ((B.lst ps).vk, (B.lst ps).vn, (B.lst ps).vt)])) w] ⟨loads1 rfl (elem_cell hc_21 0 _ rfl), trivial⟩ ?_
  refine nl (bk (sg (xr0 3 [(26, bF), (27, .agg #[.slice none 0 0, s0, i6 0])] [] ?_)))
  refine nl (cf (sg (xr0 3 [(62, bF), (63, .agg #[.slice none 0 0, i6 0])] [24, 26, 27] ?_)))
  refine nl (cf (sk (sg (xwe 3 [] [(92, .slice A ((List.map pOf ps).length) c), (94, .slice (some ⟨w.heap.size, 0, none⟩) 1 1)] (w.alloc (.cells #[.iface 249 (.agg #[.slice D o.attrs.length d, sT o.text, i6 ((U.sc o.text).length : Int)])] 124)) [] trivial ?_))))
  obtain ⟨w_99, hw_103, hb_100, hk_101, hz_102⟩ := new_world w #[.iface 249 (.agg #[.slice D o.attrs.length d, sT o.text, i6 ((U.sc o.text).length : Int)])] 124
  rw [hw_103]
  obtain ⟨okp_104, hM_105, hok_106⟩ := Kd.M_apart hp (Nat.le_refl _) hR (by decide)
  rw [← hw_103]
  refine XL_append kPiece rfl rfl rfl wB.heap.size 124 .nilIface 16 Tryz.underlying160 info124 rfl (by decide) (by omega) (List.map pOf ps) (pOf o) [.iface 249 (.agg #[.slice D o.attrs.length d, sT o.text, i6 ((U.sc o.text).length : Int)])] okp_104 (by kernel_rfl) hM_105 hok_106 hR hB (by first | omega | (simp; omega)) ?_
  intro A_107 c_108 w_109 hr_110 hc_111 hg_112 hl_113 ha_114
  have he_115 : ((List.map pOf ps) ++ [(pOf o)]) = (List.map pOf (B.push ps o)) := push_app (.inr (fun h_ => by have h1_ := h_.1; have h2_ := h_.2.1; omega))
  rw [he_115] at hr_110 ⊢
  refine xe0 1 [(4, .slice A_107 ((List.map pOf (B.push ps o)).length) c_108)] ?_
  refine nl (X_ret (rj [.slice A_107 ((List.map pOf (B.push ps o)).length) c_108] hR_ ?_))
  exact ⟨_, _, rfl, hr_110, hg_112, ha_114⟩
 ·rw [pOf_ret hlk] at hM_23
  obtain ⟨A_116, c_117, e_118, hl_119, hR_120⟩ := kPiece_retM hM_23
  obtain rfl := (List.cons.inj e_118).1
  have hcc := hcn (.inl hlk)
  refine xe 1 [(24, .load (.iface 128 (.agg #[.slice A_116 ((B.lst ps).attrs.length) c_117, i6 ((B.lst ps).count)])))] [(0, .slice A ((List.map pOf ps).length) c), (1, .iface 249 (.agg #[.slice D o.attrs.length d, sT o.text, i6 ((U.sc o.text).length : Int)])), (5, i6 (((List.map pOf ps).length : Int) - 1)), (24, .iface 128 (.agg #[.slice A_116 ((B.lst ps).attrs.length) c_117, i6 ((B.lst ps).count)]))] [la 124 (ad_19.add ((((List.map pOf ps).length : Int) - 1).toNat * 1)) (.iface 128 (.agg #[.slice A_116 ((B.lst ps).attrs.length) c_117, i6 ((B.lst ps).count)])) w] ⟨loads1 rfl (elem_cell hc_21 0 _ rfl), trivial⟩ ?_
  refine nl (bk (sg (xr0 3 [(26, bF), (27, .agg #[.slice none 0 0, s0, i6 0])] [] ?_)))
  refine nl (cf (sg (xr0 3 [(62, bT), (63, .agg #[.slice A_116 ((B.lst ps).attrs.length) c_117, i6 ((B.lst ps).count)])] [24, 26, 27] ?_)))
  refine nl (ct (sg (xw 1 [] [(9, pw w.heap.size 0)] [62] (w.alloc (.cells #[.slice none 0 0, i6 0] 128)) [] trivial ?_)))
  obtain ⟨w_121, hw_125, hb_122, hk_123, hz_124⟩ := new_world w #[.slice none 0 0, i6 0] 128
  rw [hw_125]
  refine xst (.agg #[.slice A_116 ((B.lst ps).attrs.length) c_117, i6 ((B.lst ps).count)]) hk_123 0 #[.slice A_116 ((B.lst ps).attrs.length) c_117, i6 ((B.lst ps).count)] (fun w_126 hg_127 hk_128 hz_129 => ?_)
  have hr_130 := Kd.R_off (Kd.R_below hR hb_122) hk_123 (by decide) hg_127
  refine nl (sg (xw 6 [] [(10, pw w_126.heap.size 0), (67, .agg #[.slice none 0 0, i6 0]), (68, bF)] [63] (w_126.alloc (.cells #[.slice none 0 0, i6 0] 128)) [] trivial ?_))
  obtain ⟨w_131, hw_135, hb_132, hk_133, hz_134⟩ := new_world w_126 #[.slice none 0 0, i6 0] 128
  rw [hw_135]
  refine xst (.agg #[.slice none 0 0, i6 0]) hk_133 0 #[.slice none 0 0, i6 0] (fun w_136 hg_137 hk_138 hz_139 => ?_)
  have hr_140 := Kd.R_off (Kd.R_below hr_130 hb_132) hk_133 (by decide) hg_137
  refine xr0 1 [(11, bF)] [67, 68] ?_
  refine nl (sg (xe0 10 [(0, .slice A ((List.map pOf ps).length) c), (1, .iface 249 (.agg #[.slice D o.attrs.length d, sT o.text, i6 ((U.sc o.text).length : Int)])), (5, i6 (((List.map pOf ps).length : Int) - 1)), (9, pw w.heap.size 0), (10, pw w_126.heap.size 0), (78, bF)] ?_))
  refine nl (cf (sk (sg (xwe 3 [] [(92, .slice A ((List.map pOf ps).length) c), (94, .slice (some ⟨w_136.heap.size, 0, none⟩) 1 1)] (w_136.alloc (.cells #[.iface 249 (.agg #[.slice D o.attrs.length d, sT o.text, i6 ((U.sc o.text).length : Int)])] 124)) [] trivial ?_))))
  obtain ⟨w_141, hw_145, hb_142, hk_143, hz_144⟩ := new_world w_136 #[.iface 249 (.agg #[.slice D o.attrs.length d, sT o.text, i6 ((U.sc o.text).length : Int)])] 124
  rw [hw_145]
  have hB_149 : Below w.heap.size w w_136 := (bg (bt (bg hb_122 hg_127 (Nat.le_refl _)) hb_132) hg_137 ((bg hb_122 hg_127 (Nat.le_refl _))).size)
  obtain ⟨okp_146, hM_147, hok_148⟩ := Kd.M_apart (Kd.M_below hp hB_149) (Nat.le_refl _) hr_140 (by decide)
  rw [← hw_145]
  refine XL_append kPiece rfl rfl rfl wB.heap.size 124 .nilIface 16 Tryz.underlying160 info124 rfl (by decide) (by omega) (List.map pOf ps) (pOf o) [.iface 249 (.agg #[.slice D o.attrs.length d, sT o.text, i6 ((U.sc o.text).length : Int)])] okp_146 (by kernel_rfl) hM_147 hok_148 hr_140 (Nat.le_trans hB (Nat.le_trans (Nat.le_trans (Nat.le_trans hb_122.size hg_127.size) hb_132.size) hg_137.size)) (by first | omega | (simp; omega)) ?_
  intro A_150 c_151 w_152 hr_153 hc_154 hg_155 hl_156 ha_157
  have he_162 : ((List.map pOf ps) ++ [(pOf o)]) = (List.map pOf (B.push ps o)) := push_app (.inr (fun h_ => by have h1_ := h_.1; have h2_ := h_.2.1; omega))
  rw [he_162] at hr_153 ⊢
  refine xe0 1 [(4, .slice A_150 ((List.map pOf (B.push ps o)).length) c_151)] ?_
  refine nl (X_ret (rj [.slice A_150 ((List.map pOf (B.push ps o)).length) c_151] hR_ ?_))
  exact ⟨_, _, rfl, hr_153, (World.grownBy.trans (grown_of_below hB_149 (A.map (·.block))) hg_155), (ha_157.imp id (fun ⟨b_, h1_, h2_⟩ => ⟨b_, h1_, Nat.le_trans (hB_149).size h2_⟩))⟩
 rw [pOf_del hlk] at hM_23
 have e_165 := kPiece_del (kPiece.K_of_M hM_23)
 obtain rfl := (List.cons.inj e_165).1
 refine xe 1 [(24, .load (.iface 133 (.agg #[i6 ((B.lst ps).count)])))] [(0, .slice A ((List.map pOf ps).length) c), (1, .iface 249 (.agg #[.slice D o.attrs.length d, sT o.text, i6 ((U.sc o.text).length : Int)])), (5, i6 (((List.map pOf ps).length : Int) - 1)), (24, .iface 133 (.agg #[i6 ((B.lst ps).count)]))] [la 124 (ad_19.add ((((List.map pOf ps).length : Int) - 1).toNat * 1)) (.iface 133 (.agg #[i6 ((B.lst ps).count)])) w] ⟨loads1 rfl (elem_cell hc_21 0 _ rfl), trivial⟩ ?_
 refine nl (bk (sg (xr0 3 [(26, bF), (27, .agg #[.slice none 0 0, s0, i6 0])] [] ?_)))
 refine nl (cf (sg (xr0 3 [(62, bF), (63, .agg #[.slice none 0 0, i6 0])] [24, 26, 27] ?_)))
 refine nl (cf (sk (sg (xwe 3 [] [(92, .slice A ((List.map pOf ps).length) c), (94, .slice (some ⟨w.heap.size, 0, none⟩) 1 1)] (w.alloc (.cells #[.iface 249 (.agg #[.slice D o.attrs.length d, sT o.text, i6 ((U.sc o.text).length : Int)])] 124)) [] trivial ?_))))
 obtain ⟨w_168, hw_172, hb_169, hk_170, hz_171⟩ := new_world w #[.iface 249 (.agg #[.slice D o.attrs.length d, sT o.text, i6 ((U.sc o.text).length : Int)])] 124
 rw [hw_172]
 obtain ⟨okp_173, hM_174, hok_175⟩ := Kd.M_apart hp (Nat.le_refl _) hR (by decide)
 rw [← hw_172]
 refine XL_append kPiece rfl rfl rfl wB.heap.size 124 .nilIface 16 Tryz.underlying160 info124 rfl (by decide) (by omega) (List.map pOf ps) (pOf o) [.iface 249 (.agg #[.slice D o.attrs.length d, sT o.text, i6 ((U.sc o.text).length : Int)])] okp_173 (by kernel_rfl) hM_174 hok_175 hR hB (by first | omega | (simp; omega)) ?_
 intro A_176 c_177 w_178 hr_179 hc_180 hg_181 hl_182 ha_183
 have he_184 : ((List.map pOf ps) ++ [(pOf o)]) = (List.map pOf (B.push ps o)) := push_app (.inr (fun h_ => by have h1_ := h_.1; have h2_ := h_.2.1; omega))
 rw [he_184] at hr_179 ⊢
 refine xe0 1 [(4, .slice A_176 ((List.map pOf (B.push ps o)).length) c_177)] ?_
 refine nl (X_ret (rj [.slice A_176 ((List.map pOf (B.push ps o)).length) c_177] hR_ ?_))
 exact ⟨_, _, rfl, hr_179, hg_181, ha_183⟩
set_option maxHeartbeats 2000000 in
theorem bjoined_emb (A : Option Addr) (c : Nat) (ps : List OpA) (o : OpA) (D : Option Addr) (d : Nat) (wB w : World) (hB : wB.heap.size ≤ w.heap.size) (hk : o.kind = 2) (ho : pErr o = 0) (hb : badE ps = 0) (hR : kPiece.R 124 w wB.heap.size (OkFrom wB.heap.size) (.slice A (List.map pOf ps).length c) (List.map pOf ps)) (hl : ps.length ≤ 1000000000)
  (hD : kAttr.C w D o.attrs.length o.attrs) (hp : kPiece.M w wB.heap.size (OkFrom wB.heap.size) (pOf o) [.iface 253 (.agg #[.slice D o.attrs.length d, sT o.text, valV (o.vk, o.vn, o.vt)])]) (hot : o.text.size ≤ 1000000000) (hlt : (B.lst ps).text.size ≤ 1000000000) :
  Calls Tryz.prog 138 #[.slice A (List.map pOf ps).length c, .iface 253 (.agg #[.slice D o.attrs.length d, sT o.text, valV (o.vk, o.vn, o.vt)])] w fun e w' => ∃ A' c', e = .returned (.slice A' (List.map pOf (B.push ps o)).length c') ∧ kPiece.R 124 w' wB.heap.size (OkFrom wB.heap.size) (.slice A' (List.map pOf (B.push ps o)).length c') (List.map pOf (B.push ps o)) ∧ w.grownBy w' (A.map (·.block)) ∧ (A'.map (·.block) = A.map (·.block) ∨ ∃ b, A'.map (·.block) = some b ∧ w.heap.size ≤ b) := by
 have hlm : (List.map pOf ps).length = ps.length := List.length_map ..
 have hs1 := U.sc_le o.text
 have hs2 := U.sc_le (B.lst ps).text
 have hco := fun hk_ => count_of_ok ho hk_
 refine en Tryz.func138 rfl 96 [(0, .slice A ((List.map pOf ps).length) c), (1, .iface 253 (.agg #[.slice D o.attrs.length d, sT o.text, valV (o.vk, o.vn, o.vt)]))] (fun R_ hR_ => ?_)
 refine sg (xe0 1 [(0, .slice A ((List.map pOf ps).length) c), (1, .iface 253 (.agg #[.slice D o.attrs.length d, sT o.text, valV (o.vk, o.vn, o.vt)]))] ?_)
 refine nl (sg (xr1 4 [(14, .eq (i6 (((List.map pOf ps).length : Int) - 1)))] [(5, i6 (((List.map pOf ps).length : Int) - 1))] [] (w6 (((List.map pOf ps).length : Int) - 1)) ?_))
 refine nl (sq (sg (xr0 1 [(15, i6 (((List.map pOf ps).length : Int) - 1))] [] ?_)))
 by_cases c_1 : ((List.map pOf ps).length : Int) - 1 < 0
 ·refine xr1 1 [(16, .eq bT)] [(16, bT)] [15] (dT c_1) ?_
  refine nl (ct (sg (xwe 3 [] [(17, .slice A ((List.map pOf ps).length) c), (19, .slice (some ⟨w.heap.size, 0, none⟩) 1 1)] (w.alloc (.cells #[.iface 253 (.agg #[.slice D o.attrs.length d, sT o.text, valV (o.vk, o.vn, o.vt)])] 124)) [] trivial ?_)))
  obtain ⟨w_2, hw_6, hb_3, hk_4, hz_5⟩ := new_world w #[.iface 253 (.agg #[.slice D o.attrs.length d, sT o.text, valV (o.vk, o.vn, o.vt)])] 124
  rw [hw_6]
  obtain ⟨okp_7, hM_8, hok_9⟩ := Kd.M_apart hp (Nat.le_refl _) hR (by decide)
  rw [← hw_6]
  refine XL_append kPiece rfl rfl rfl wB.heap.size 124 .nilIface 16 Tryz.underlying160 info124 rfl (by decide) (by omega) (List.map pOf ps) (pOf o) [.iface 253 (.agg #[.slice D o.attrs.length d, sT o.text, valV (o.vk, o.vn, o.vt)])] okp_7 (by kernel_rfl) hM_8 hok_9 hR hB (by first | omega | (simp; omega)) ?_
  intro A_10 c_11 w_12 hr_13 hc_14 hg_15 hl_16 ha_17
  have he_18 : ((List.map pOf ps) ++ [(pOf o)]) = (List.map pOf (B.push ps o)) := push_app (.inl (by omega))
  rw [he_18] at hr_13 ⊢
  refine xe0 1 [(4, .slice A_10 ((List.map pOf (B.push ps o)).length) c_11)] ?_
  refine nl (X_ret (rj [.slice A_10 ((List.map pOf (B.push ps o)).length) c_11] hR_ ?_))
  exact ⟨_, _, rfl, hr_13, hg_15, ha_17⟩
 have hne : ps.length ≠ 0 := by omega
 refine xr1 1 [(16, .eq bF)] [(16, bF)] [15] (dF c_1) ?_
 refine nl (cf (sk (sq (sg (xr0 2 [(21, .slice A ((List.map pOf ps).length) c), (22, i6 (((List.map pOf ps).length : Int) - 1))] [16] ?_)))))
 obtain ⟨ad_19, cs_22, ha_20, hM_23, hc_21⟩ := Kd.R_at piece0 hR (i := ((List.map pOf ps).length : Int) - 1) (by omega) (by omega)
 obtain ⟨v_24, rfl⟩ := kPiece_one hM_23
 replace hc_21 : CellsAt w (ad_19.add ((((List.map pOf ps).length : Int) - 1).toNat * 1)) [v_24] := hc_21
 refine xr 1 [(23, .idx ad_19)] [(23, .pointer (some (ad_19.add ((((List.map pOf ps).length : Int) - 1).toNat * 1))))] [21, 22] [A = some ad_19, (0 : Int) ≤ ((List.map pOf ps).length : Int) - 1, ((List.map pOf ps).length : Int) - 1 < ((List.map pOf ps).length : Int)] ⟨ha_20, (by omega), (by omega), trivial⟩ ?_
 rw [last_get hne] at hM_23
 have hla := lst_ok hb hne
 have hcn := fun hk_ => count_of_ok hla hk_
 rcases kind_of_ok hla with hlk | hlk | hlk | hlk
 ·rw [pOf_ins hlk] at hM_23
  obtain ⟨A_26, c_27, e_28, hl_29, hR_30⟩ := kPiece_insM hM_23
  obtain rfl := (List.cons.inj e_28).1
  refine xe 1 [(24, .load (.iface 249 (.agg #[.slice A_26 ((B.lst ps).attrs.length) c_27, sT ((B.lst ps).text), i6 ((U.sc (B.lst ps).text).length : Int)])))] [(0, .slice A ((List.map pOf ps).length) c), (1, .iface 253 (.agg #[.slice D o.attrs.length d, sT o.text, valV (o.vk, o.vn, o.vt)])), (5, i6 (((List.map pOf ps).length : Int) - 1)), (24, .iface 249 (.agg #[.slice A_26 ((B.lst ps).attrs.length) c_27, sT ((B.lst ps).text), i6 ((U.sc (B.lst ps).text).length : Int)]))] [la 124 (ad_19.add ((((List.map pOf ps).length : Int) - 1).toNat * 1)) (.iface 249 (.agg #[.slice A_26 ((B.lst ps).attrs.length) c_27, sT ((B.lst ps).text), i6 ((U.sc (B.lst ps).text).length : Int)])) w] ⟨loads1 rfl (elem_cell hc_21 0 _ rfl), trivial⟩ ?_
  refine nl (bk (sg (xr0 3 [(26, bT), (27, .agg #[.slice A_26 ((B.lst ps).attrs.length) c_27, sT ((B.lst ps).text), i6 ((U.sc (B.lst ps).text).length : Int)])] [] ?_)))
  refine nl (ct (sg (xw 1 [] [(6, pw w.heap.size 0)] [24, 26] (w.alloc (.cells #[.slice none 0 0, s0, i6 0] 249)) [] trivial ?_)))
  obtain ⟨w_31, hw_35, hb_32, hk_33, hz_34⟩ := new_world w #[.slice none 0 0, s0, i6 0] 249
  rw [hw_35]
  refine xst (.agg #[.slice A_26 ((B.lst ps).attrs.length) c_27, sT ((B.lst ps).text), i6 ((U.sc (B.lst ps).text).length : Int)]) hk_33 0 #[.slice A_26 ((B.lst ps).attrs.length) c_27, sT ((B.lst ps).text), i6 ((U.sc (B.lst ps).text).length : Int)] (fun w_36 hg_37 hk_38 hz_39 => ?_)
  have hr_40 := Kd.R_off (Kd.R_below hR hb_32) hk_33 (by decide) hg_37
  refine nl (sg (xw 6 [] [(7, pw w_36.heap.size 0), (31, .agg #[.slice none 0 0, s0, i6 0]), (32, bF)] [27] (w_36.alloc (.cells #[.slice none 0 0, s0, i6 0] 249)) [] trivial ?_))
  obtain ⟨w_41, hw_45, hb_42, hk_43, hz_44⟩ := new_world w_36 #[.slice none 0 0, s0, i6 0] 249
  rw [hw_45]
  refine xst (.agg #[.slice none 0 0, s0, i6 0]) hk_43 0 #[.slice none 0 0, s0, i6 0] (fun w_46 hg_47 hk_48 hz_49 => ?_)
  have hr_50 := Kd.R_off (Kd.R_below hr_40 hb_42) hk_43 (by decide) hg_47
  refine xr0 1 [(8, bF)] [31, 32] ?_
  refine nl (sg (xr0 10 [(42, bF)] [8] ?_))
  refine nl (cf (sk (sg (xwe 3 [] [(92, .slice A ((List.map pOf ps).length) c), (94, .slice (some ⟨w_46.heap.size, 0, none⟩) 1 1)] (w_46.alloc (.cells #[.iface 253 (.agg #[.slice D o.attrs.length d, sT o.text, valV (o.vk, o.vn, o.vt)])] 124)) [] trivial ?_))))
  obtain ⟨w_51, hw_55, hb_52, hk_53, hz_54⟩ := new_world w_46 #[.iface 253 (.agg #[.slice D o.attrs.length d, sT o.text, valV (o.vk, o.vn, o.vt)])] 124
  rw [hw_55]
  have hB_59 : Below w.heap.size w w_46 := (bg (bt (bg hb_32 hg_37 (Nat.le_refl _)) hb_42) hg_47 ((bg hb_32 hg_37 (Nat.le_refl _))).size)
  obtain ⟨okp_56, hM_57, hok_58⟩ := Kd.M_apart (Kd.M_below hp hB_59) (Nat.le_refl _) hr_50 (by decide)
  rw [← hw_55]
  refine XL_append kPiece rfl rfl rfl wB.heap.size 124 .nilIface 16 Tryz.underlying160 info124 rfl (by decide) (by omega) (List.map pOf ps) (pOf o) [.iface 253 (.agg #[.slice D o.attrs.length d, sT o.text, valV (o.vk, o.vn, o.vt)])] okp_56 (by kernel_rfl) hM_57 hok_58 hr_50 (Nat.le_trans hB (Nat.le_trans (Nat.le_trans (Nat.le_trans hb_32.size hg_37.size) hb_42.size) hg_47.size)) (by first | omega | (simp; omega)) ?_
  intro A_60 c_61 w_62 hr_63 hc_64 hg_65 hl_66 ha_67
  have he_72 : ((List.map pOf ps) ++ [(pOf o)]) = (List.map pOf (B.push ps o)) := push_app (.inr (fun h_ => by have h1_ := h_.1; have h2_ := h_.2.1; omega))
  rw [he_72] at hr_63 ⊢
  refine xe0 1 [(4, .slice A_60 ((List.map pOf (B.push ps o)).length) c_61)] ?_
  refine nl (X_ret (rj [.slice A_60 ((List.map pOf (B.push ps o)).length) c_61] hR_ ?_))
  exact ⟨_, _, rfl, hr_63, (World.grownBy.trans (grown_of_below hB_59 (A.map (·.block))) hg_65), (ha_67.imp id (fun ⟨b_, h1_, h2_⟩ => ⟨b_, h1_, Nat.le_trans (hB_59).size h2_⟩))⟩
 ·rw [pOf_emb hlk] at hM_23
  obtain ⟨A_73, c_74, e_75, hl_76, hR_77⟩ := kPiece_embM hM_23
  obtain rfl := (List.cons.inj e_75).1
  have hval : (B.lst ps).val = ((B.lst ps).vk, (B.lst ps).vn, (B.lst ps).vt) := rfl
  rw [hval] at hc_21
  refine xe 1 [(24, .load (.iface 253 (.agg #[.slice A_73 ((B.lst ps).attrs.length) c_74, sT ((B.lst ps).text), valV ((B.lst ps).vk, (B.lst ps).vn, (B.lst ps).vt)])))] [(0, .slice A ((List.map pOf ps).length) c), (1, .iface 253 (.agg #[.slice D o.attrs.length d, sT o.text, valV (o.vk, o.vn, o.vt)])), (5, i6 (((List.map pOf ps).length : Int) - 1)), (24, .iface 253 (.agg #[.slice A_73 ((B.lst ps).attrs.length) c_74, sT ((B.lst ps).text), valV ((B.lst ps).vk, (B.lst ps).vn, (B.lst ps).vt)]))] [la 124 (ad_19.add ((((List.map pOf ps).length : Int) - 1).toNat * 1)) (.iface 253 (.agg #[.slice A_73 ((B.lst ps).attrs.length) c_74, sT ((B.lst ps).text), valV ((B.lst ps).vk, (B.lst ps).vn, (B.lst ps).vt)])) w] ⟨loads1 rfl (elem_cell hc_21 0 _ rfl), trivial⟩ ?_
  refine nl (bk (sg (xr0 3 [(26, bF), (27, .agg #[.slice none 0 0, s0, i6 0])] [] ?_)))
  refine nl (cf (sg (xr0 3 [(62, bF), (63, .agg #[.slice none 0 0, i6 0])] [24, 26, 27] ?_)))
  refine nl (cf (sk (sg (xwe 3 [] [(92, .slice A ((List.map pOf ps).length) c), (94, .slice (some ⟨w.heap.size, 0, none⟩) 1 1)] (w.alloc (.cells #[.iface 253 (.agg #[.slice D o.attrs.length d, sT o.text, valV (o.vk, o.vn, o.vt)])] 124)) [] trivial ?_))))
  obtain ⟨w_78, hw_82, hb_79, hk_80, hz_81⟩ := new_world w #[.iface 253 (.agg #[.slice D o.attrs.length d, sT o.text, valV (o.vk, o.vn, o.vt)])] 124
  rw [hw_82]
  obtain ⟨okp_83, hM_84, hok_85⟩ := Kd.M_apart hp (Nat.le_refl _) hR (by decide)
  rw [← hw_82]
  refine XL_append kPiece rfl rfl rfl wB.heap.size 124 .nilIface 16 Tryz.underlying160 info124 rfl (by decide) (by omega) (List.map pOf ps) (pOf o) [.iface 253 (.agg #[.slice D o.attrs.length d, sT o.text, valV (o.vk, o.vn, o.vt)])] okp_83 (by kernel_rfl) hM_84 hok_85 hR hB (by first | omega | (simp; omega)) ?_
  intro A_86 c_87 w_88 hr_89 hc_90 hg_91 hl_92 ha_93
  have he_94 : ((List.map pOf ps) ++ [(pOf o)]) = (List.map pOf (B.push ps o)) := push_app (.inr (fun h_ => by have h1_ := h_.1; have h2_ := h_.2.1; omega))
  rw [he_94] at hr_89 ⊢
  refine xe0 1 [(4, .slice A_86 ((List.map pOf (B.push ps o)).length) c_87)] ?_
  refine nl (X_ret (rj [.slice A_86 ((List.map pOf (B.push ps o)).length) c_87] hR_ ?_))
  exact ⟨_, _, rfl, hr_89, hg_91, ha_93⟩
 ·rw [pOf_ret hlk] at hM_23
  obtain ⟨A_95, c_96, e_97, hl_98, hR_99⟩ := kPiece_retM hM_23
  obtain rfl := (List.cons.inj e_97).1
  have hcc := hcn (.inl hlk)
  refine xe 1 [(24, .load (.iface 128 (.agg #[.slice A_95 ((B.lst ps).attrs.length) c_96, i6 ((B.lst ps).count)])))] [(0, .slice A ((List.map pOf ps).length) c), (1, .iface 253 (.agg #[.slice D o.attrs.length d, sT o.text, valV (o.vk, o.vn, o.vt)])), (5, i6 (((List.map pOf ps).length : Int) - 1)), (24, .iface 128 (.agg #[.slice A_95 ((B.lst ps).attrs.length) c_96, i6 ((B.lst ps).count)]))] [la 124 (ad_19.add ((((List.map pOf ps).length : Int) - 1).toNat * 1)) (.iface 128 (.agg #[.slice A_95 ((B.lst ps).attrs.length) c_96, i6 ((B.lst ps).count)])) w] ⟨loads1 rfl (elem_cell hc_21 0 _ rfl), trivial⟩ ?_
  refine nl (bk (sg (xr0 3 [(26, bF), (27, .agg #[.slice none 0 0, s0, i6 0])] [] ?_)))
  refine nl (cf (sg (xr0 3 [(62, bT), (63, .agg #[.slice A_95 ((B.lst ps).attrs.length) c_96, i6 ((B.lst ps).count)])] [24, 26, 27] ?_)))
  refine nl (ct (sg (xw 1 [] [(9, pw w.heap.size 0)] [62] (w.alloc (.cells #[.slice none 0 0, i6 0] 128)) [] trivial ?_)))
  obtain ⟨w_100, hw_104, hb_101, hk_102, hz_103⟩ := new_world w #[.slice none 0 0, i6 0] 128
  rw [hw_104]
  refine xst (.agg #[.slice A_95 ((B.lst ps).attrs.length) c_96, i6 ((B.lst ps).count)]) hk_102 0 #[.slice A_95 ((B.lst ps).attrs.length) c_96, i6 ((B.lst ps).count)] (fun w_105 hg_106 hk_107 hz_108 => ?_)
  have hr_109 := Kd.R_off (Kd.R_below hR hb_101) hk_102 (by decide) hg_106
  refine nl (sg (xw 6 [] [(10, pw w_105.heap.size 0), (67, .agg #[.slice none 0 0, i6 0]), (68, bF)] [63] (w_105.alloc (.cells #[.slice none 0 0, i6 0] 128)) [] trivial ?_))
  obtain ⟨w_110, hw_114, hb_111, hk_112, hz_113⟩ := new_world w_105 #[.slice none 0 0, i6 0] 128
  rw [hw_114]
  refine xst (.agg #[.slice none 0 0, i6 0]) hk_112 0 #[.slice none 0 0, i6 0] (fun w_115 hg_116 hk_117 hz_118 => ?_)
  have hr_119 := Kd.R_off (Kd.R_below hr_109 hb_111) hk_112 (by decide) hg_116
  refine xr0 1 [(11, bF)] [67, 68] ?_
  refine nl (sg (xe0 10 [(0, .slice A ((List.map pOf ps).length) c), (1, .iface 253 (.agg #[.slice D o.attrs.length d, sT o.text, valV (o.vk, o.vn, o.vt)])), (5, i6 (((List.map pOf ps).length : Int) - 1)), (9, pw w.heap.size 0), (10, pw w_105.heap.size 0), (78, bF)] ?_))
  refine nl (cf (sk (sg (xwe 3 [] [(92, .slice A ((List.map pOf ps).length) c), (94, .slice (some ⟨w_115.heap.size, 0, none⟩) 1 1)] (w_115.alloc (.cells #[.iface 253 (.agg #[.slice D o.attrs.length d, sT o.text, valV (o.vk, o.vn, o.vt)])] 124)) [] trivial ?_))))
  obtain ⟨w_120, hw_124, hb_121, hk_122, hz_123⟩ := new_world w_115 #[.iface 253 (.agg #[.slice D o.attrs.length d, sT o.text, valV (o.vk, o.vn, o.vt)])] 124
  rw [hw_124]
  have hB_128 : Below w.heap.size w w_115 := (bg (bt (bg hb_101 hg_106 (Nat.le_refl _)) hb_111) hg_116 ((bg hb_101 hg_106 (Nat.le_refl _))).size)
  obtain ⟨okp_125, hM_126, hok_127⟩ := Kd.M_apart (Kd.M_below hp hB_128) (Nat.le_refl _) hr_119 (by decide)
  rw [← hw_124]
  refine XL_append kPiece rfl rfl rfl wB.heap.size 124 .nilIface 16 Tryz.underlying160 info124 rfl (by decide) (by omega) (List.map pOf ps) (pOf o) [.iface 253 (.agg #[.slice D o.attrs.length d, sT o.text, valV (o.vk, o.vn, o.vt)])] okp_125 (by kernel_rfl) hM_126 hok_127 hr_119 (Nat.le_trans hB (Nat.le_trans (Nat.le_trans (Nat.le_trans hb_101.size hg_106.size) hb_111.size) hg_116.size)) (by first | omega | (simp; omega)) ?_
  intro A_129 c_130 w_131 hr_132 hc_133 hg_134 hl_135 ha_136
  have he_141 : ((List.map pOf ps) ++ [(pOf o)]) = (List.map pOf (B.push ps o)) := push_app (.inr (fun h_ => by have h1_ := h_.1; have h2_ := h_.2.1; omega))
  rw [he_141] at hr_132 ⊢
  refine xe0 1 [(4, .slice A_129 ((List.map pOf (B.push ps o)).length) c_130)] ?_
  refine nl (X_ret (rj [.slice A_129 ((List.map pOf (B.push ps o)).length) c_130] hR_ ?_))
  exact ⟨_, _, rfl, hr_132, (World.grownBy.trans (grown_of_below hB_128 (A.map (·.block))) hg_134), (ha_136.imp id (fun ⟨b_, h1_, h2_⟩ => ⟨b_, h1_, Nat.le_trans (hB_128).size h2_⟩))⟩
 rw [pOf_del hlk] at hM_23
 have e_144 := kPiece_del (kPiece.K_of_M hM_23)
 obtain rfl := (List.cons.inj e_144).1
 refine xe 1 [(24, .load (.iface 133 (.agg #[i6 ((B.lst ps).count)])))] [(0, .slice A ((List.map pOf ps).length) c), (1, .iface 253 (.agg #[.slice D o.attrs.length d, sT o.text, valV (o.vk, o.vn, o.vt)])), (5, i6 (((List.map pOf ps).length : Int) - 1)), (24, .iface 133 (.agg #[i6 ((B.lst ps).count)]))] [la 124 (ad_19.add ((((List.map pOf ps).length : Int) - 1).toNat * 1)) (.iface 133 (.agg #[i6 ((B.lst ps).count)])) w] ⟨loads1 rfl (elem_cell hc_21 0 _ rfl), trivial⟩ ?_
 refine nl (bk (sg (xr0 3 [(26, bF), (27, .agg #[.slice none 0 0, s0, i6 0])] [] ?_)))
 refine nl (cf (sg (xr0 3 [(62, bF), (63, .agg #[.slice none 0 0, i6 0])] [24, 26, 27] ?_)))
 refine nl (cf (sk (sg (xwe 3 [] [(92, .slice A ((List.map pOf ps).length) c), (94, .slice (some ⟨w.heap.size, 0, none⟩) 1 1)] (w.alloc (.cells #[.iface 253 (.agg #[.slice D o.attrs.length d, sT o.text, valV (o.vk, o.vn, o.vt)])] 124)) [] trivial ?_))))
 obtain ⟨w_147, hw_151, hb_148, hk_149, hz_150⟩ := new_world w #[.iface 253 (.agg #[.slice D o.attrs.length d, sT o.text, valV (o.vk, o.vn, o.vt)])] 124
 rw [hw_151]
 obtain ⟨okp_152, hM_153, hok_154⟩ := Kd.M_apart hp (Nat.le_refl _) hR (by decide)
 rw [← hw_151]
 refine XL_append kPiece rfl rfl rfl wB.heap.size 124 .nilIface 16 Tryz.underlying160 info124 rfl (by decide) (by omega) (List.map pOf ps) (pOf o) [.iface 253 (.agg #[.slice D o.attrs.length d, sT o.text, valV (o.vk, o.vn, o.vt)])] okp_152 (by kernel_rfl) hM_153 hok_154 hR hB (by first | omega | (simp; omega)) ?_
 intro A_155 c_156 w_157 hr_158 hc_159 hg_160 hl_161 ha_162
 have he_163 : ((List.map pOf ps) ++ [(pOf o)]) = (List.map pOf (B.push ps o)) := push_app (.inr (fun h_ => by have h1_ := h_.1; have h2_ := h_.2.1; omega))
 rw [he_163] at hr_158 ⊢
 refine xe0 1 [(4, .slice A_155 ((List.map pOf (B.push ps o)).length) c_156)] ?_
 refine nl (X_ret (rj [.slice A_155 ((List.map pOf (B.push ps o)).length) c_156] hR_ ?_))
 exact ⟨_, _, rfl, hr_158, hg_160, ha_162⟩
set_option maxHeartbeats 2000000 in
theorem bjoined_ret (A : Option Addr) (c : Nat) (ps : List OpA) (o : OpA) (D : Option Addr) (d : Nat) (wB w : World) (hB : wB.heap.size ≤ w.heap.size) (hk : o.kind = 3) (ho : pErr o = 0) (hb : badE ps = 0) (hR : kPiece.R 124 w wB.heap.size (OkFrom wB.heap.size) (.slice A (List.map pOf ps).length c) (List.map pOf ps)) (hl : ps.length ≤ 1000000000)
  (hD : kAttr.C w D o.attrs.length o.attrs) (hp : kPiece.M w wB.heap.size (OkFrom wB.heap.size) (pOf o) [.iface 128 (.agg #[.slice D o.attrs.length d, i6 o.count])]) (hot : o.text.size ≤ 1000000000) (hlt : (B.lst ps).text.size ≤ 1000000000) :
  Calls Tryz.prog 138 #[.slice A (List.map pOf ps).length c, .iface 128 (.agg #[.slice D o.attrs.length d, i6 o.count])] w fun e w' => ∃ A' c', e = .returned (.slice A' (List.map pOf (B.push ps o)).length c') ∧ kPiece.R 124 w' wB.heap.size (OkFrom wB.heap.size) (.slice A' (List.map pOf (B.push ps o)).length c') (List.map pOf (B.push ps o)) ∧ w.grownBy w' (A.map (·.block)) ∧ (A'.map (·.block) = A.map (·.block) ∨ ∃ b, A'.map (·.block) = some b ∧ w.heap.size ≤ b) := by
 have hlm : (List.map pOf ps).length = ps.length := List.length_map ..
 have hs1 := U.sc_le o.text
 have hs2 := U.sc_le (B.lst ps).text
 have hco := fun hk_ => count_of_ok ho hk_
 have hcc2 := hco (.inl hk)
 refine en Tryz.func138 rfl 96 [(0, .slice A ((List.map pOf ps).length) c), (1, .iface 128 (.agg #[.slice D o.attrs.length d, i6 o.count]))] (fun R_ hR_ => ?_)
 refine sg (xe0 1 [(0, .slice A ((List.map pOf ps).length) c), (1, .iface 128 (.agg #[.slice D o.attrs.length d, i6 o.count]))] ?_)
 refine nl (sg (xr1 4 [(14, .eq (i6 (((List.map pOf ps).length : Int) - 1)))] [(5, i6 (((List.map pOf ps).length : Int) - 1))] [] (w6 (((List.map pOf ps).length : Int) - 1)) ?_))
 refine nl (sq (sg (xr0 1 [(15, i6 (((List.map pOf ps).length : Int) - 1))] [] ?_)))
 by_cases c_1 : ((List.map pOf ps).length : Int) - 1 < 0
 ·refine xr1 1 [(16, .eq bT)] [(16, bT)] [15] (dT c_1) ?_
  refine nl (ct (sg (xwe 3 [] [(17, .slice A ((List.map pOf ps).length) c), (19, .slice (some ⟨w.heap.size, 0, none⟩) 1 1)] (w.alloc (.cells #[.iface 128 (.agg #[.slice D o.attrs.length d, i6 o.count])] 124)) [] trivial ?_)))
  obtain ⟨w_2, hw_6, hb_3, hk_4, hz_5⟩ := new_world w #[.iface 128 (.agg #[.slice D o.attrs.length d, i6 o.count])] 124
  rw [hw_6]
  obtain ⟨okp_7, hM_8, hok_9⟩ := Kd.M_apart hp (Nat.le_refl _) hR (by decide)
  rw [← hw_6]
  refine XL_append kPiece rfl rfl rfl wB.heap.size 124 .nilIface 16 Tryz.underlying160 info124 rfl (by decide) (by omega) (List.map pOf ps) (pOf o) [.iface 128 (.agg #[.slice D o.attrs.length d, i6 o.count])] okp_7 (by kernel_rfl) hM_8 hok_9 hR hB (by first | omega | (simp; omega)) ?_
  intro A_10 c_11 w_12 hr_13 hc_14 hg_15 hl_16 ha_17
  have he_18 : ((List.map pOf ps) ++ [(pOf o)]) = (List.map pOf (B.push ps o)) := push_app (.inl (by omega))
  rw [he_18] at hr_13 ⊢
  refine xe0 1 [(4, .slice A_10 ((List.map pOf (B.push ps o)).length) c_11)] ?_
  refine nl (X_ret (rj [.slice A_10 ((List.map pOf (B.push ps o)).length) c_11] hR_ ?_))
  exact ⟨_, _, rfl, hr_13, hg_15, ha_17⟩
 have hne : ps.length ≠ 0 := by omega
 refine xr1 1 [(16, .eq bF)] [(16, bF)] [15] (dF c_1) ?_
 refine nl (cf (sk (sq (sg (xr0 2 [(21, .slice A ((List.map pOf ps).length) c), (22, i6 (((List.map pOf ps).length : Int) - 1))] [16] ?_)))))
 obtain ⟨ad_19, cs_22, ha_20, hM_23, hc_21⟩ := Kd.R_at piece0 hR (i := ((List.map pOf ps).length : Int) - 1) (by omega) (by omega)
 obtain ⟨v_24, rfl⟩ := kPiece_one hM_23
 replace hc_21 : CellsAt w (ad_19.add ((((List.map pOf ps).length : Int) - 1).toNat * 1)) [v_24] := hc_21
 refine xr 1 [(23, .idx ad_19)] [(23, .pointer (some (ad_19.add ((((List.map pOf ps).length : Int) - 1).toNat * 1))))] [21, 22] [A = some ad_19, (0 : Int) ≤ ((List.map pOf ps).length : Int) - 1, ((List.map pOf ps).length : Int) - 1 < ((List.map pOf ps).length : Int)] ⟨ha_20, (by omega), (by omega), trivial⟩ ?_
 rw [last_get hne] at hM_23
 have hla := lst_ok hb hne
 have hcn := fun hk_ => count_of_ok hla hk_
 rcases kind_of_ok hla with hlk | hlk | hlk | hlk
 ·rw [pOf_ins hlk] at hM_23
  obtain ⟨A_26, c_27, e_28, hl_29, hR_30⟩ := kPiece_insM hM_23
  obtain rfl := (List.cons.inj e_28).1
  refine xe 1 [(24, .load (.iface 249 (.agg #[.slice A_26 ((B.lst ps).attrs.length) c_27, sT ((B.lst ps).text), i6 ((U.sc (B.lst ps).text).length : Int)])))] [(0, .slice A ((List.map pOf ps).length) c), (1, .iface 128 (.agg #[.slice D o.attrs.length d, i6 o.count])), (5, i6 (((List.map pOf ps).length : Int) - 1)), (24, .iface 249 (.agg #[.slice A_26 ((B.lst ps).attrs.length) c_27, sT ((B.lst ps).text), i6 ((U.sc (B.lst ps).text).length : Int)]))] [la 124 (ad_19.add ((((List.map pOf ps).length : Int) - 1).toNat * 1)) (.iface 249 (.agg #[.slice A_26 ((B.lst ps).attrs.length) c_27, sT ((B.lst ps).text), i6 ((U.sc (B.lst ps).text).length : Int)])) w] ⟨loads1 rfl (elem_cell hc_21 0 _ rfl), trivial⟩ ?_
  refine nl (bk (sg (xr0 3 [(26, bT), (27, .agg #[.slice A_26 ((B.lst ps).attrs.length) c_27, sT ((B.lst ps).text), i6 ((U.sc (B.lst ps).text).length : Int)])] [] ?_)))
  refine nl (ct (sg (xw 1 [] [(6, pw w.heap.size 0)] [24, 26] (w.alloc (.cells #[.slice none 0 0, s0, i6 0] 249)) [] trivial ?_)))
  obtain ⟨w_31, hw_35, hb_32, hk_33, hz_34⟩ := new_world w #[.slice none 0 0, s0, i6 0] 249
  rw [hw_35]
  refine xst (.agg #[.slice A_26 ((B.lst ps).attrs.length) c_27, sT ((B.lst ps).text), i6 ((U.sc (B.lst ps).text).length : Int)]) hk_33 0 #[.slice A_26 ((B.lst ps).attrs.length) c_27, sT ((B.lst ps).text), i6 ((U.sc (B.lst ps).text).length : Int)] (fun w_36 hg_37 hk_38 hz_39 => ?_)
  have hr_40 := Kd.R_off (Kd.R_below hR hb_32) hk_33 (by decide) hg_37
  refine nl (sg (xw 6 [] [(7, pw w_36.heap.size 0), (31, .agg #[.slice none 0 0, s0, i6 0]), (32, bF)] [27] (w_36.alloc (.cells #[.slice none 0 0, s0, i6 0] 249)) [] trivial ?_))
  obtain ⟨w_41, hw_45, hb_42, hk_43, hz_44⟩ := new_world w_36 #[.slice none 0 0, s0, i6 0] 249
  rw [hw_45]
  refine xst (.agg #[.slice none 0 0, s0, i6 0]) hk_43 0 #[.slice none 0 0, s0, i6 0] (fun w_46 hg_47 hk_48 hz_49 => ?_)
  have hr_50 := Kd.R_off (Kd.R_below hr_40 hb_42) hk_43 (by decide) hg_47
  refine xr0 1 [(8, bF)] [31, 32] ?_
  refine nl (sg (xr0 10 [(42, bF)] [8] ?_))
  refine nl (cf (sk (sg (xwe 3 [] [(92, .slice A ((List.map pOf ps).length) c), (94, .slice (some ⟨w_46.heap.size, 0, none⟩) 1 1)] (w_46.alloc (.cells #[.iface 128 (.agg #[.slice D o.attrs.length d, i6 o.count])] 124)) [] trivial ?_))))
  obtain ⟨w_51, hw_55, hb_52, hk_53, hz_54⟩ := new_world w_46 #[.iface 128 (.agg #[.slice D o.attrs.length d, i6 o.count])] 124
  rw [hw_55]
  have hB_59 : Below w.heap.size w w_46 := (bg (bt (bg hb_32 hg_37 (Nat.le_refl _)) hb_42) hg_47 ((bg hb_32 hg_37 (Nat.le_refl _))).size)
  obtain ⟨okp_56, hM_57, hok_58⟩ := Kd.M_apart (Kd.M_below hp hB_59) (Nat.le_refl _) hr_50 (by decide)
  rw [← hw_55]
  refine XL_append kPiece rfl rfl rfl wB.heap.size 124 .nilIface 16 Tryz.underlying160 info124 rfl (by decide) (by omega) (List.map pOf ps) (pOf o) [.iface 128 (.agg #[.slice D o.attrs.length d, i6 o.count])] okp_56 (by kernel_rfl) hM_57 hok_58 hr_50 (Nat.le_trans hB (Nat.le_trans (Nat.le_trans (Nat.le_trans hb_32.size hg_37.size) hb_42.size) hg_47.size)) (by first | omega | (simp; omega)) ?_
  intro A_60 c_61 w_62 hr_63 hc_64 hg_65 hl_66 ha_67
  have he_72 : ((List.map pOf ps) ++ [(pOf o)]) = (List.map pOf (B.push ps o)) := push_app (.inr (fun h_ => by have h1_ := h_.1; have h2_ := h_.2.1; omega))
  rw [he_72] at hr_63 ⊢
  refine xe0 1 [(4, .slice A_60 ((List.map pOf (B.push ps o)).length) c_61)] ?_
  refine nl (X_ret (rj [.slice A_60 ((List.map pOf (B.push ps o)).length) c_61] hR_ ?_))
  exact ⟨_, _, rfl, hr_63, (World.grownBy.trans (grown_of_below hB_59 (A.map (·.block))) hg_65), (ha_67.imp id (fun ⟨b_, h1_, h2_⟩ => ⟨b_, h1_, Nat.le_trans (hB_59).size h2_⟩))⟩
 ·rw [pOf_emb hlk] at hM_23
  obtain ⟨A_73, c_74, e_75, hl_76, hR_77⟩ := kPiece_embM hM_23
  obtain rfl := (List.cons.inj e_75).1
  have hval : (B.lst ps).val = ((B.lst ps).vk, (B.lst ps).vn, (B.lst ps).vt) := rfl
  rw [hval] at hc_21
  refine xe 1 [(24, .load (.iface 253 (.agg #[.slice A_73 ((B.lst ps).attrs.length) c_74, sT ((B.lst ps).text), valV ((B.lst ps).vk, (B.lst ps).vn, (B.lst ps).vt)])))] [(0, .slice A ((List.map pOf ps).length) c), (1, .iface 128 (.agg #[.slice D o.attrs.length d, i6 o.count])), (5, i6 (((List.map pOf ps).length : Int) - 1)), (24, .iface 253 (.agg #[.slice A_73 ((B.lst ps).attrs.length) c_74, sT ((B.lst ps).text), valV ((B.lst ps).vk, (B.lst ps).vn, (B.lst ps).vt)]))] [la 124 (ad_19.add ((((List.map pOf ps).length : Int) - 1).toNat * 1)) (.iface 253 (.agg #[.slice A_73 ((B.lst ps).attrs.length) c_74, sT ((B.lst ps).text), valV ((B.lst ps).vk, (B.lst ps).vn, (B.lst ps).vt)])) w] ⟨loads1 rfl (elem_cell hc_21 0 _ rfl), trivial⟩ ?_
  refine nl (bk (sg (xr0 3 [(26, bF), (27, .agg #[.slice none 0 0, s0, i6 0])] [] ?_)))
  refine nl (cf (sg (xr0 3 [(62, bF), (63, .agg #[.slice none 0 0, i6 0])] [24, 26, 27] ?_)))
  refine nl (cf (sk (sg (xwe 3 [] [(92, .slice A ((List.map pOf ps).length) c), (94, .slice (some ⟨w.heap.size, 0, none⟩) 1 1)] (w.alloc (.cells #[.iface 128 (.agg #[.slice D o.attrs.length d, i6 o.count])] 124)) [] trivial ?_))))
  obtain ⟨w_78, hw_82, hb_79, hk_80, hz_81⟩ := new_world w #[.iface 128 (.agg #[.slice D o.attrs.length d, i6 o.count])] 124
  rw [hw_82]
  obtain ⟨okp_83, hM_84, hok_85⟩ := Kd.M_apart hp (Nat.le_refl _) hR (by decide)
  rw [← hw_82]
  refine XL_append kPiece rfl rfl rfl wB.heap.size 124 .nilIface 16 Tryz.underlying160 info124 rfl (by decide) (by omega) (List.map pOf ps) (pOf o) [.iface 128 (.agg #[.slice D o.attrs.length d, i6 o.count])] okp_83 (by kernel_rfl) hM_84 hok_85 hR hB (by first | omega | (simp; omega)) ?_
  intro A_86 c_87 w_88 hr_89 hc_90 hg_91 hl_92 ha_93
  have he_94 : ((List.map pOf ps) ++ [(pOf o)]) = (List.map pOf (B.push ps o)) := push_app (.inr (fun h_ => by have h1_ := h_.1; have h2_ := h_.2.1; omega))
  rw [he_94] at hr_89 ⊢
  refine xe0 1 [(4, .slice A_86 ((List.map pOf (B.push ps o)).length) c_87)] ?_
  refine nl (X_ret (rj [.slice A_86 ((List.map pOf (B.push ps o)).length) c_87] hR_ ?_))
  exact ⟨_, _, rfl, hr_89, hg_91, ha_93⟩
 ·rw [pOf_ret hlk] at hM_23
  obtain ⟨A_95, c_96, e_97, hl_98, hR_99⟩ := kPiece_retM hM_23
  obtain rfl := (List.cons.inj e_97).1
  have hcc := hcn (.inl hlk)
  refine xe 1 [(24, .load (.iface 128 (.agg #[.slice A_95 ((B.lst ps).attrs.length) c_96, i6 ((B.lst ps).count)])))] [(0, .slice A ((List.map pOf ps).length) c), (1, .iface 128 (.agg #[.slice D o.attrs.length d, i6 o.count])), (5, i6 (((List.map pOf ps).length : Int) - 1)), (24, .iface 128 (.agg #[.slice A_95 ((B.lst ps).attrs.length) c_96, i6 ((B.lst ps).count)]))] [la 124 (ad_19.add ((((List.map pOf ps).length : Int) - 1).toNat * 1)) (.iface 128 (.agg #[.slice A_95 ((B.lst ps).attrs.length) c_96, i6 ((B.lst ps).count)])) w] ⟨loads1 rfl (elem_cell hc_21 0 _ rfl), trivial⟩ ?_
  refine nl (bk (sg (xr0 3 [(26, bF), (27, .agg #[.slice none 0 0, s0, i6 0])] [] ?_)))
  refine nl (cf (sg (xr0 3 [(62, bT), (63, .agg #[.slice A_95 ((B.lst ps).attrs.length) c_96, i6 ((B.lst ps).count)])] [24, 26, 27] ?_)))
  refine nl (ct (sg (xw 1 [] [(9, pw w.heap.size 0)] [62] (w.alloc (.cells #[.slice none 0 0, i6 0] 128)) [] trivial ?_)))
  obtain ⟨w_100, hw_104, hb_101, hk_102, hz_103⟩ := new_world w #[.slice none 0 0, i6 0] 128
  rw [hw_104]
  refine xst (.agg #[.slice A_95 ((B.lst ps).attrs.length) c_96, i6 ((B.lst ps).count)]) hk_102 0 #[.slice A_95 ((B.lst ps).attrs.length) c_96, i6 ((B.lst ps).count)] (fun w_105 hg_106 hk_107 hz_108 => ?_)
  have hr_109 := Kd.R_off (Kd.R_below hR hb_101) hk_102 (by decide) hg_106
  refine nl (sg (xw 6 [] [(10, pw w_105.heap.size 0), (67, .agg #[.slice D o.attrs.length d, i6 o.count]), (68, bT)] [63] (w_105.alloc (.cells #[.slice none 0 0, i6 0] 128)) [] trivial ?_))
  obtain ⟨w_110, hw_114, hb_111, hk_112, hz_113⟩ := new_world w_105 #[.slice none 0 0, i6 0] 128
  rw [hw_114]
  refine xst (.agg #[.slice D o.attrs.length d, i6 o.count]) hk_112 0 #[.slice D o.attrs.length d, i6 o.count] (fun w_115 hg_116 hk_117 hz_118 => ?_)
  have hr_119 := Kd.R_off (Kd.R_below hr_109 hb_111) hk_112 (by decide) hg_116
  refine xr0 1 [(11, bT)] [67, 68] ?_
  refine nl (sg (xe 8 [(73, .load (.slice A_95 ((B.lst ps).attrs.length) c_96)), (76, .load (.slice D o.attrs.length d))] [(0, .slice A ((List.map pOf ps).length) c), (1, .iface 128 (.agg #[.slice D o.attrs.length d, i6 o.count])), (5, i6 (((List.map pOf ps).length : Int) - 1)), (9, pw w.heap.size 0), (10, pw w_105.heap.size 0), (70, bT), (73, .slice A_95 ((B.lst ps).attrs.length) c_96), (76, .slice D o.attrs.length d)] [_, _] ⟨lc 49 (Blk.below hk_107 (bg hb_111 hg_116 (Nat.le_refl _))) 0, lc 49 hk_117 0, trivial⟩ ?_))
  have hB_120 : Below w.heap.size w w_115 := (bg (bt (bg hb_101 hg_106 (Nat.le_refl _)) hb_111) hg_116 ((bg hb_101 hg_106 (Nat.le_refl _))).size)
  refine xc 151 ent151 [.slice A_95 ((B.lst ps).attrs.length) c_96, .slice D o.attrs.length d] (asame_any _ _ _ _ ((B.lst ps).attrs) o.attrs _ (Kd.C_below (Kd.R_C hR_99) hB_120) (Kd.C_below hD hB_120)) ?_
  rintro e w_121 ⟨rfl, hb_122⟩; refine ⟨_, rfl, ?_⟩
  refine xr0 1 [(78, .bool (decide ((B.lst ps).attrs = o.attrs)))] [70, 73, 76, 77] ?_
  refine nl ?_
  by_cases c_123 : decide ((B.lst ps).attrs = o.attrs) = true
  ·rw [show (decide ((B.lst ps).attrs = o.attrs) : Bool) = true from by simpa using c_123]
   refine ct (sq (X_region ?_))
   have hB_124 : Below w_105.heap.size w_105 w_121 := (bt (bg hb_111 hg_116 (Nat.le_refl _)) hb_122)
   refine xr 11 [(82, .load (.agg #[.slice A_95 ((B.lst ps).attrs.length) c_96])), (84, .load (i6 ((B.lst ps).count))), (86, .load (i6 o.count)), (87, .eq (i6 (((B.lst ps).count) + o.count)))] [(79, .slice A ((List.map pOf ps).length) c), (80, i6 (((List.map pOf ps).length : Int) - 1)), (89, .iface 128 (.agg #[.slice A_95 ((B.lst ps).attrs.length) c_96, i6 (((B.lst ps).count) + o.count)]))] [1, 5, 9, 10, 78] [la 126 (⟨w.heap.size, 0, none⟩) (.agg #[.slice A_95 ((B.lst ps).attrs.length) c_96]) w_121, _, _, _] ⟨loadsB rfl rfl (Blk.below hk_107 hB_124) 0 ⟨by kernel_rfl, by kernel_rfl⟩, lc 3 (Blk.below hk_107 hB_124) 1, lc 3 (Blk.below hk_117 hb_122) 1, w6 (((B.lst ps).count) + o.count), trivial⟩ ?_
   obtain ⟨ad_125, cs_128, ha_126, hM_129, hc_127⟩ := Kd.R_at piece0 (Kd.R_below hr_119 hb_122) (i := ((List.map pOf ps).length : Int) - 1) (by omega) (by omega)
   obtain ⟨v_130, rfl⟩ := kPiece_one hM_129
   replace hc_127 : CellsAt w_121 (ad_125.add ((((List.map pOf ps).length : Int) - 1).toNat * 1)) [v_130] := hc_127
   refine xr 1 [(90, .idx ad_125)] [(90, .pointer (some (ad_125.add ((((List.map pOf ps).length : Int) - 1).toNat * 1))))] [79, 80] [A = some ad_125, (0 : Int) ≤ ((List.map pOf ps).length : Int) - 1, ((List.map pOf ps).length : Int) - 1 < ((List.map pOf ps).length : Int)] ⟨ha_126, (by omega), (by omega), trivial⟩ ?_
   refine XL_rowsetM kPiece rfl rfl rfl wB.heap.size 124 (ad := ad_125) (i := ((List.map pOf ps).length : Int) - 1) (v := .iface 128 (.agg #[.slice A_95 ((B.lst ps).attrs.length) c_96, i6 (((B.lst ps).count) + o.count)])) (List.map pOf ps) (pOf (B.jo (B.lst ps) o)) (by kernel_rfl) ha_126 (Kd.R_below hr_119 hb_122) (by omega) (by omega) [.iface 128 (.agg #[.slice A_95 ((B.lst ps).attrs.length) c_96, i6 (((B.lst ps).count) + o.count)])] ⟨by kernel_rfl, by kernel_rfl⟩ (by kernel_rfl) (pm_eq (pOf_jret hlk) (kPiece_Mret ⟨_, rfl, (Kd.R_below hR_99 (bt hB_120 hb_122))⟩)) ?_
   intro w_132 hr_133 hg_134 hl_135
   rw [push_set hne ⟨hlk.trans hk.symm, by omega, of_decide_eq_true c_123⟩] at hr_133
   refine nl (sg (xe0 2 [(4, .slice A ((List.map pOf ps).length) c)] ?_))
   refine nl (X_ret (rj [.slice A ((List.map pOf ps).length) c] hR_ ?_))
   have hln : (List.map pOf ps).length = (List.map pOf (B.push ps o)).length := by rw [← push_set hne ⟨hlk.trans hk.symm, by omega, of_decide_eq_true c_123⟩, List.length_set]
   have hR_ := hr_133
   rw [hln] at hR_ ⊢
   exact ⟨_, _, rfl, hR_, (World.grownBy.trans (grown_of_below (bt hB_120 hb_122) (A.map (·.block))) hg_134), .inl rfl⟩
  rw [show (decide ((B.lst ps).attrs = o.attrs) : Bool) = false from by simpa using c_123]
  refine cf (sk (sg (xwe 3 [] [(92, .slice A ((List.map pOf ps).length) c), (94, .slice (some ⟨w_121.heap.size, 0, none⟩) 1 1)] (w_121.alloc (.cells #[.iface 128 (.agg #[.slice D o.attrs.length d, i6 o.count])] 124)) [] trivial ?_)))
  obtain ⟨w_141, hw_145, hb_142, hk_143, hz_144⟩ := new_world w_121 #[.iface 128 (.agg #[.slice D o.attrs.length d, i6 o.count])] 124
  rw [hw_145]
  obtain ⟨okp_146, hM_147, hok_148⟩ := Kd.M_apart (Kd.M_below hp (bt hB_120 hb_122)) (Nat.le_refl _) (Kd.R_below hr_119 hb_122) (by decide)
  rw [← hw_145]
  refine XL_append kPiece rfl rfl rfl wB.heap.size 124 .nilIface 16 Tryz.underlying160 info124 rfl (by decide) (by omega) (List.map pOf ps) (pOf o) [.iface 128 (.agg #[.slice D o.attrs.length d, i6 o.count])] okp_146 (by kernel_rfl) hM_147 hok_148 (Kd.R_below hr_119 hb_122) (Nat.le_trans hB (Nat.le_trans (Nat.le_trans (Nat.le_trans (Nat.le_trans hb_101.size hg_106.size) hb_111.size) hg_116.size) hb_122.size)) (by first | omega | (simp; omega)) ?_
  intro A_149 c_150 w_151 hr_152 hc_153 hg_154 hl_155 ha_156
  have he_162 : ((List.map pOf ps) ++ [(pOf o)]) = (List.map pOf (B.push ps o)) := push_app (.inr (fun h_ => c_123 (decide_eq_true h_.2.2)))
  rw [he_162] at hr_152 ⊢
  refine xe0 1 [(4, .slice A_149 ((List.map pOf (B.push ps o)).length) c_150)] ?_
  refine nl (X_ret (rj [.slice A_149 ((List.map pOf (B.push ps o)).length) c_150] hR_ ?_))
  exact ⟨_, _, rfl, hr_152, (World.grownBy.trans (grown_of_below (bt hB_120 hb_122) (A.map (·.block))) hg_154), (ha_156.imp id (fun ⟨b_, h1_, h2_⟩ => ⟨b_, h1_, Nat.le_trans ((bt hB_120 hb_122)).size h2_⟩))⟩
 rw [pOf_del hlk] at hM_23
 have e_165 := kPiece_del (kPiece.K_of_M hM_23)
 obtain rfl := (List.cons.inj e_165).1
 refine xe 1 [(24, .load (.iface 133 (.agg #[i6 ((B.lst ps).count)])))] [(0, .slice A ((List.map pOf ps).length) c), (1, .iface 128 (.agg #[.slice D o.attrs.length d, i6 o.count])), (5, i6 (((List.map pOf ps).length : Int) - 1)), (24, .iface 133 (.agg #[i6 ((B.lst ps).count)]))] [la 124 (ad_19.add ((((List.map pOf ps).length : Int) - 1).toNat * 1)) (.iface 133 (.agg #[i6 ((B.lst ps).count)])) w] ⟨loads1 rfl (elem_cell hc_21 0 _ rfl), trivial⟩ ?_
 refine nl (bk (sg (xr0 3 [(26, bF), (27, .agg #[.slice none 0 0, s0, i6 0])] [] ?_)))
 refine nl (cf (sg (xr0 3 [(62, bF), (63, .agg #[.slice none 0 0, i6 0])] [24, 26, 27] ?_)))
 refine nl (cf (sk (sg (xwe 3 [] [(92, .slice A ((List.map pOf ps).length) c), (94, .slice (some ⟨w.heap.size, 0, none⟩) 1 1)] (w.alloc (.cells #[.iface 128 (.agg #[.slice D o.attrs.length d, i6 o.count])] 124)) [] trivial ?_))))
 obtain ⟨w_168, hw_172, hb_169, hk_170, hz_171⟩ := new_world w #[.iface 128 (.agg #[.slice D o.attrs.length d, i6 o.count])] 124
 rw [hw_172]
 obtain ⟨okp_173, hM_174, hok_175⟩ := Kd.M_apart hp (Nat.le_refl _) hR (by decide)
 rw [← hw_172]
 refine XL_append kPiece rfl rfl rfl wB.heap.size 124 .nilIface 16 Tryz.underlying160 info124 rfl (by decide) (by omega) (List.map pOf ps) (pOf o) [.iface 128 (.agg #[.slice D o.attrs.length d, i6 o.count])] okp_173 (by kernel_rfl) hM_174 hok_175 hR hB (by first | omega | (simp; omega)) ?_
 intro A_176 c_177 w_178 hr_179 hc_180 hg_181 hl_182 ha_183
 have he_184 : ((List.map pOf ps) ++ [(pOf o)]) = (List.map pOf (B.push ps o)) := push_app (.inr (fun h_ => by have h1_ := h_.1; have h2_ := h_.2.1; omega))
 rw [he_184] at hr_179 ⊢
 refine xe0 1 [(4, .slice A_176 ((List.map pOf (B.push ps o)).length) c_177)] ?_
 refine nl (X_ret (rj [.slice A_176 ((List.map pOf (B.push ps o)).length) c_177] hR_ ?_))
 exact ⟨_, _, rfl, hr_179, hg_181, ha_183⟩
theorem pclone_any (A : Option Addr) (c : Nat) (ps : List OpA) (wB w : World) (hB : wB.heap.size ≤ w.heap.size) (hR : kPiece.R 124 w wB.heap.size (OkFrom wB.heap.size) (.slice A (List.map pOf ps).length c) (List.map pOf ps)) (hl : ps.length ≤ 1000000000) :
  Calls Tryz.prog 143 #[.slice A (List.map pOf ps).length c] w fun e w' => ∃ A' c', e = .returned (.slice A' (List.map pOf ps).length c') ∧ kPiece.R 124 w' wB.heap.size (OkFrom wB.heap.size) (.slice A' (List.map pOf ps).length c') (List.map pOf ps) ∧ (∀ k, A'.map (·.block) = some k → w.heap.size ≤ k) ∧ Below w.heap.size w w' := by
 have hlm : (List.map pOf ps).length = ps.length := List.length_map ..
 refine en Tryz.func143 rfl 8 [(0, .slice A ((List.map pOf ps).length) c)] (fun R_ hR_ => ?_)
 refine sg (xe0 1 [(0, .slice A ((List.map pOf ps).length) c)] ?_)
 refine nl (sq (sg (xr0 1 [(3, .slice A ((List.map pOf ps).length) c)] [] ?_)))
 by_cases c_1 : A = none
 ·refine xr 1 [(4, .as bT)] [(4, bT)] [3] [RunsAs Tryz.prog [(3, .slice A ((List.map pOf ps).length) c)] (Go.Op.binOp Go.BinOp.eql 160 (Go.Operand.tmp 3) (Go.Operand.const (Go.Value.slice none 0 0)) 160) 4 bT w] ⟨runs_bin rfl rfl rfl (by have h_ := Lib.run_eql_slice_nil (P := Tryz.prog) w 160 124 A ((List.map pOf ps).length) c 0 0 Tryz.underlying160; rw [show A.isNone = true from by rw [c_1]; rfl] at h_; exact h_), trivial⟩ ?_
  refine nl (ct (sg (xe0 1 [(2, .slice none 0 0)] ?_)))
  refine nl (X_ret (rj [.slice none 0 0] hR_ ?_))
  subst c_1
  have hz_ := (RX.Kd.R_len hR)
  have h0_ : List.map pOf ps = [] := by have h_ := (Kd.R_C hR).2.2; by_cases hh : 0 < (List.map pOf ps).length; (· obtain ⟨ad_, _, hA_, _⟩ := Kd.atC (Kd.R_C hR) piece0 (i := 0) (by omega) (by omega); cases hA_); (· exact List.eq_nil_of_length_eq_zero (by omega))
  rw [h0_]
  exact ⟨none, 0, rfl, Kd.R_nil _ _ _ _ _, fun _ h_ => (by cases h_), (Below.refl _ _)⟩
 refine xr 1 [(4, .as bF)] [(4, bF)] [3] [RunsAs Tryz.prog [(3, .slice A ((List.map pOf ps).length) c)] (Go.Op.binOp Go.BinOp.eql 160 (Go.Operand.tmp 3) (Go.Operand.const (Go.Value.slice none 0 0)) 160) 4 bF w] ⟨runs_bin rfl rfl rfl (by have h_ := Lib.run_eql_slice_nil (P := Tryz.prog) w 160 124 A ((List.map pOf ps).length) c 0 0 Tryz.underlying160; rw [show A.isNone = false from by cases hA_ : A with | none => exact absurd hA_ c_1 | some _ => rfl] at h_; exact h_), trivial⟩ ?_
 refine nl (cf (sk (sg (xw 1 [] [(5, .slice (some ⟨w.heap.size, 0, none⟩) 0 0)] [4] (w.alloc (.cells #[] 124)) [] trivial ?_))))
 obtain ⟨w_2, hw_6, hb_3, hk_4, hz_5⟩ := new_world w #[] 124
 rw [hw_6]
 refine xr0 1 [(6, .slice A ((List.map pOf ps).length) c)] [0] ?_
 have hr_7 := Kd.R_down (Kd.R_litB kPiece (W := w) (e := 124) (cs := #[]) [] hk_4 (Reps.none _ _) (by decide)) (show wB.heap.size ≤ w.heap.size from hB)
 refine XL_appendRow (c' := c) kPiece piece0 rfl rfl rfl wB.heap.size 124 .nilIface 16 Tryz.underlying160 info124 rfl (by decide) (by omega) rfl [] (List.map pOf ps) (by kernel_rfl) hr_7 (Kd.R_below hR hb_3) (Nat.le_trans hB hb_3.size) (by simp only [List.length_nil]; omega) ?_
 intro A_8 c_9 w_10 hr_11 hc_12 hg_13 hl_14 ha_15
 rw [List.nil_append] at hr_11 hc_12 ⊢
 refine xe0 1 [(2, .slice A_8 ((List.map pOf ps).length) c_9)] ?_
 refine nl (X_ret (rj [.slice A_8 ((List.map pOf ps).length) c_9] hR_ ?_))
 have hB_16 : Below w.heap.size w w_10 := (bgo hb_3 hg_13 (fun x_ e_ => by injection e_ with e_; subst e_; exact Nat.le_refl _) (Nat.le_refl _))
 exact ⟨_, _, rfl, hr_11, (fun k_ hk_ => by rcases ha_15 with h_ | ⟨b_, h_, h2_⟩; (· rw [h_] at hk_; injection hk_ with hk_; subst hk_; exact (Nat.le_refl _)); (· rw [h_] at hk_; injection hk_ with hk_; subst hk_; exact Nat.le_trans (hb_3).size h2_)), hB_16⟩
end Go.Proofs.YtgphmfnkeolbcaaGreatDoor
