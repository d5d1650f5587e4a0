import Derived.Test.YtgphmfnkeolbcaaGreatDoorT75
import Derived.Test.YtgphmfnkeolbcaaGreatDoorNum
import Derived.Test.YtgphmfnkeolbcaaGreatDoorClp
/- LinesBack returns true. Conditions: sizes, the tables of utf8, the errors' variables. -/
set_option linter.unusedVariables false
set_option linter.unusedSimpArgs false
set_option maxRecDepth 100000
namespace Go.Proofs.YtgphmfnkeolbcaaGreatDoor
open Go Go.RowKit Go.Proofs.YtgphmfnkeolbcaaGreatDoorW.PrintWords RX
theorem run_remL {t : TypeId} {k : IntKind} {a b : Int} (hb : b ≠ 0) (w : World) : (binOp .rem t (.int k a) (.int k b)).run Tryz.prog w = .ok (.int k (Int.tmod a b)) w := by
 rw [binOp_rem]
 simp [Op.intDiv, hb]
theorem tm_bdL {x y : Int} (hx : 0 ≤ x) (hy : 0 < y) : 0 ≤ x.tmod y ∧ x.tmod y < y := by
 rw [Int.tmod_eq_emod_of_nonneg hx]
 exact ⟨Int.emod_nonneg _ (by omega), Int.emod_lt_of_pos _ hy⟩
theorem u64_nonnegL (x : Int) : 0 ≤ IntKind.u64.wrap x := by rw [IntKind.wrap_u64]; omega
set_option maxHeartbeats 4000000 in
theorem linesBack_law (A : Option Addr) (c : Nat) (xs : List OpA) (p : Int) (w : World) (hx : kOp.C w A xs.length xs) (hxc : xs.length ≤ c) (hn : xs.length ≤ 116508) (hz : ∀ i, i < xs.length → opSz (xs.getD i op0)) (hp : -9223372036854775808 ≤ p ∧ p ≤ 9223372036854775807) (hT : Tabs w) (es : List Addr) (hE : Errs w es) : Calls Tryz.prog 7 #[.slice A xs.length c, i6 p] w fun e w' => e = .returned bT ∧ Below w.heap.size w w' := by
 have hO : ErrsO w es := hE.on rfl
 have hEL : ErrsL w es := hE.on rfl
 have hzI := insOf_sz hz
 have hlI := insOf_len xs
 have htI := insOf_tx xs
 have hdoc_ := insOf_doc xs
 refine en Tryz.func7 rfl 209 [(0, aL A xs c), (1, i6 p)] (fun R_ hR_ => ?_)
 refine sg (xe0 1 [(0, aL A xs c), (1, i6 p)] ?_)
 refine nl (sq (sg (xc 33 ent33 [] (lives21_any _ (hT.below (Below.refl _ _)) es (hEL.below (Below.refl _ _))) ?_)))
 rintro e w_1 ⟨rfl, hb_2⟩; refine ⟨_, rfl, ?_⟩
 refine xr0 1 [(24, bF)] [23] ?_
 refine nl (cf (sk (sq (sg (xr0 1 [(25, aL A xs c)] [24] ?_)))))
 refine xc 34 ent34 [aL A xs c] (heavy_any _ _ xs _ (Kd.C_below hx hb_2) (by omega) hz) ?_
 rintro e w_3 ⟨rfl, hb_4⟩; refine ⟨_, rfl, ?_⟩
 refine nl ?_
 by_cases c_5 : decide (6000 < hvS xs) = true
 ·rw [show (decide (6000 < hvS xs) : Bool) = true from by simpa using c_5]
  refine ct (sg (xe0 1 [(4, bT)] ?_))
  refine nl (X_ret (rj [bT] hR_ ?_))
  exact ⟨rfl, (bt hb_2 hb_4)⟩
 have hlg := of_decide_eq_false (Bool.eq_false_iff.2 c_5)
 obtain ⟨hlg1, hlg2⟩ := hvS_bd xs
 rw [show (decide (6000 < hvS xs) : Bool) = false from by simpa using c_5]
 refine cf (sk (sg (xr0 1 [(28, aL A xs c)] [0, 25, 26] ?_)))
 refine xc 51 ent51 [aL A xs c] (mdocu_any _ _ xs _ (Kd.C_below hx (bt hb_2 hb_4)) hxc (by omega) hz (by omega) (hT.below (bt hb_2 hb_4)) es (hO.below (bt hb_2 hb_4))) ?_
 rintro e w_6 ⟨hb_7, ⟨hb0_8, d, A_9, c_10, A_11, c_12, wm_13, rfl, hb_14, hb_15, hd_16, hm_17⟩ | ⟨hb0_8, rfl⟩⟩
 ·refine ⟨_, rfl, ?_⟩
  obtain ⟨hcb_d, hcn_d, hcz_d, hcc_d⟩ := can_facts (xs := insOf xs) hb0_8 (by omega) hzI (by omega)
  have hcs_d := (B.of_can hcc_d).2.1
  have hcf_d : (cellsAll (B.can (insOf xs))).length ≤ 100000000 := by have h1_ := cellsAll_few (B.can (insOf xs)); have h2_ := B.can_tx (fine_all3 hzI); have h3_ := B.can_len (insOf xs); omega
  have hD_d := hd_16.c
  have hC_18 : kOp.C w_6 A_11 (B.can (insOf xs)).length (B.can (insOf xs)) := MixK.C hm_17 hb_15
  refine xr0 7 [(5, pw d 0), (6, aL A_11 (B.can (insOf xs)) c_12), (7, bT)] [28, 29] ?_
  refine nl (sq (sg (xr0 2 [(34, bF)] [7] ?_)))
  refine nl (cf (sk (sq (sg (xe0 2 [(1, i6 p), (5, pw d 0), (6, aL A_11 (B.can (insOf xs)) c_12), (36, bF)] ?_)))))
  refine nl (cf (sk (sg (xr0 1 [(38, pw d 0)] [36] ?_))))
  refine xc 36 ent36 [pw d 0] (lines_any d (B.can (insOf xs)) _ hD_d hcb_d hcs_d hcn_d hcz_d hcf_d (hT.below (bt (bt hb_2 hb_4) hb_7)) es (hEL.below (bt (bt hb_2 hb_4) hb_7))) ?_
  rintro e w_25 ⟨A_19, c_20, ls_21, el_22, rfl, hl_23, hr_24, hb_26⟩; refine ⟨_, rfl, ?_⟩
  have hC_27 := Kd.R_C hr_24
  have hbd_ : ∀ j, j < ls_21.length → 0 ≤ (ls_21.getD j line0).from_ ∧ 0 ≤ (ls_21.getD j line0).len ∧ (ls_21.getD j line0).from_ + (ls_21.getD j line0).len < ((cellsAll (B.can (insOf xs))).length : Int) := by rw [el_22]; exact fun j h_ => lnOf_bd _ h_
  have hll_ : ls_21.length ≤ (cellsAll (B.can (insOf xs))).length := by rw [el_22]; exact lnOf_len _
  refine xr0 5 [(8, aL A_19 ls_21 c_20), (9, errV es (lnErr (B.can (insOf xs))))] [38, 39] ?_
  refine nl (sg (xr0 1 [(43, pw d 0)] [] ?_))
  refine xc 38 ent38 [pw d 0] (lntext_any d (B.can (insOf xs)) _ (hD_d.below hb_26) hcb_d hcs_d hcn_d hcz_d hcf_d (hT.below (bt (bt (bt hb_2 hb_4) hb_7) hb_26)) es (hEL.below (bt (bt (bt hb_2 hb_4) hb_7) hb_26))) ?_
  rintro e w_28 ⟨rfl, hb_29⟩; refine ⟨_, rfl, ?_⟩
  rw [if_pos hdoc_, if_pos hdoc_, errV_zero]
  refine xr0 5 [(10, sT (lnText (cellsAll (B.can (insOf xs))))), (11, .nilIface)] [43, 44] ?_
  refine nl (sg (xr0 1 [(47, aL A_11 (B.can (insOf xs)) c_12)] [6] ?_))
  refine xc 52 ent52 [aL A_11 (B.can (insOf xs)) c_12] (r10cells_any _ _ (B.can (insOf xs)) _ (Kd.C_below hC_18 (bt hb_26 hb_29)) (by omega) hcz_d hcf_d) ?_
  rintro e w_36 ⟨A_30, c_31, zs_32, ez_33, rfl, hl_34, hr_35, hb_37⟩; refine ⟨_, rfl, ?_⟩
  have hC_38 := Kd.R_C hr_35
  have hzl_ : zs_32.length = (cellsAll (B.can (insOf xs))).length := by rw [ez_33]
  refine xe0 1 [(1, i6 p), (5, pw d 0), (8, aL A_19 ls_21 c_20), (9, errV es (lnErr (B.can (insOf xs)))), (10, sT (lnText (cellsAll (B.can (insOf xs))))), (11, .nilIface), (12, aL A_30 zs_32 c_31)] ?_
  refine nl (sq (sg (xr0 2 [(50, bF)] [11] ?_)))
  refine nl (cf (sk (sq (sg (xr0 1 [(51, errV es (lnErr (B.can (insOf xs))))] [50] ?_)))))
  by_cases c_39 : (lnErr (B.can (insOf xs))) = 0
  ·rw [show errV es (lnErr (B.can (insOf xs))) = .nilIface from by rw [c_39]; rfl]
   refine xr0 1 [(9, .nilIface), (52, bF)] [51] ?_
   refine nl (cf (sk (sg (xr0 3 [(13, sT (⟨#[]⟩ : ByteArray)), (14, i6 0), (15, i6 0)] [9, 52] ?_))))
   refine nl (sq (sq (X_region ?_)))
   have h0_ : lnErr (B.can (insOf xs)) = 0 := by omega
   obtain ⟨hch_, hend_, htxt_, hnl_, hpos_⟩ := lnBack_all h0_
   rw [← el_22] at hch_ hend_ htxt_ hnl_
   rw [← ez_33] at hend_ htxt_ hnl_ hpos_
   have htz_ : (lnText zs_32).size ≤ 400000000 := by have h_ := B.rb_size (l := zs_32.map letL) (fun r hr => by obtain ⟨c_, hc_, rfl⟩ := List.mem_map.1 hr; exact sc_letL c_ (by rw [← ez_33]; exact hc_)); rw [List.length_map] at h_; unfold lnText; omega
   refine xr0 3 [(71, aL A_30 zs_32 c_31), (72, i6 (zs_32.length : Int)), (73, i6 0)] [] ?_
   refine nl (bk (X_loop (ι := Nat × Nat) (fun ⟨i, n⟩ => [(1, i6 p), (5, pw d 0), (8, aL A_19 ls_21 c_20), (10, sT (lnText (cellsAll (B.can (insOf xs))))), (12, aL A_30 zs_32 c_31), (13, sT (⟨#[]⟩ : ByteArray)), (14, i6 0), (15, i6 (n : Int)), (71, aL A_30 zs_32 c_31), (72, i6 (zs_32.length : Int)), (73, i6 (i : Int))]) (fun ⟨i, n⟩ wl => i ≤ zs_32.length ∧ n = lnNl (zs_32.take i) ∧ Below w_36.heap.size w_36 wl) (fun ⟨i, n⟩ => zs_32.length - i) (0, 0) ⟨Nat.zero_le _, rfl, Below.refl _ _⟩ (by kernel_rfl) ?_))
   rintro ⟨i, n⟩ wl ⟨hi, hn_, HB⟩
   have hnle_ := lnNl_le (zs_32.take i)
   rw [List.length_take] at hnle_
   refine sq (X_region ?_)
   by_cases c_40 : (i : Int) < (zs_32.length : Int)
   ·refine xr1 1 [(74, .eq bT)] [(74, bT)] [] (dT c_40) ?_
    refine nl (sq (ct (sk (sq (bk (sq (X_region ?_)))))))
    obtain ⟨ad_41, B_44, c_45, ha_42, hc_43, hl_46, hC_47⟩ := Kd.atCell (Kd.C_below hC_38 HB) (i := (i : Int)) (by omega) (by omega)
    replace hc_43 : CellsAt wl (ad_41.add ((i : Int).toNat * 6)) (c6L (zs_32.getD i cell0) (aL B_44 (zs_32.getD i cell0).attrs c_45)) := hc_43
    replace hl_46 : (zs_32.getD i cell0).attrs.length ≤ c_45 := hl_46
    replace hC_47 : kAttr.C wl B_44 ((zs_32.getD i cell0).attrs.length) (zs_32.getD i cell0).attrs := hC_47
    refine xw 3 [(75, .idx ad_41), (76, .load (.agg (c6A (zs_32.getD i cell0) (aL B_44 (zs_32.getD i cell0).attrs c_45))))] [(17, pw wl.heap.size 0), (76, .agg (c6A (zs_32.getD i cell0) (aL B_44 (zs_32.getD i cell0).attrs c_45)))] [74] (wl.alloc (.cells #[.int .i32 0, s0, i6 0, i6 0, s0, .slice none 0 0] 51)) [A_30 = some ad_41, (0 : Int) ≤ (i : Int), (i : Int) < (zs_32.length : Int), la 51 (ad_41.add ((i : Int).toNat * 6)) (.agg (c6A (zs_32.getD i cell0) (aL B_44 (zs_32.getD i cell0).attrs c_45))) wl] ⟨ha_42, (by omega), (by omega), loadsE rfl rfl hc_43 0 ⟨by kernel_rfl, by kernel_rfl⟩, trivial⟩ ?_
    obtain ⟨w_48, hw_52, hb_49, hk_50, hz_51⟩ := new_world wl #[.int .i32 0, s0, i6 0, i6 0, s0, .slice none 0 0] 51
    rw [hw_52]
    refine xst (.agg (c6A (zs_32.getD i cell0) (aL B_44 (zs_32.getD i cell0).attrs c_45))) hk_50 0 (c6A (zs_32.getD i cell0) (aL B_44 (zs_32.getD i cell0).attrs c_45)) (fun w_53 hg_54 hk_55 hz_56 => ?_)
    refine nl (sg (xr1 2 [(78, .load (.int .i32 ((zs_32.getD i cell0).rune)))] [(78, .int .i32 ((zs_32.getD i cell0).rune))] [17, 76] (lc 21 hk_55 0) ?_))
    by_cases c_57 : (zs_32.getD i cell0).rune = 10
    ·refine xr1 1 [(79, .eq bT)] [(79, bT)] [78] (bE c_57) ?_
     refine nl (ct (rg (xr1 3 [(81, .eq (i6 ((n : Int) + 1)))] [(15, i6 ((n : Int) + 1))] [79] (w6 ((n : Int) + 1)) ?_)))
     refine nl (rg (xe1 2 [(82, .eq (i6 ((i : Int) + 1)))] [(1, i6 p), (5, pw d 0), (8, aL A_19 ls_21 c_20), (10, sT (lnText (cellsAll (B.can (insOf xs))))), (12, aL A_30 zs_32 c_31), (13, sT (⟨#[]⟩ : ByteArray)), (14, i6 0), (15, i6 ((n : Int) + 1)), (71, aL A_30 zs_32 c_31), (72, i6 (zs_32.length : Int)), (73, i6 ((i : Int) + 1))] (w6 ((i : Int) + 1)) ?_))
     refine nl ?_
     refine ⟨(i + 1, n + 1), by kernel_rfl, ?_, ?_⟩
     ·exact ⟨by omega, by rw [take_snocD cell0 zs_32 i (by omega), lnNl_yes c_57, ← hn_], (bg (bt HB hb_49) hg_54 (HB).size)⟩
     (try dsimp only); omega
    refine xr1 1 [(79, .eq bF)] [(79, bF)] [78] (bN c_57) ?_
    refine nl (cf (sk (rg (xr1 2 [(82, .eq (i6 ((i : Int) + 1)))] [(73, i6 ((i : Int) + 1))] [79] (w6 ((i : Int) + 1)) ?_))))
    refine nl ?_
    refine ⟨(i + 1, n), by kernel_rfl, ?_, ?_⟩
    ·exact ⟨by omega, by rw [take_snocD cell0 zs_32 i (by omega), lnNl_no c_57, ← hn_], (bg (bt HB hb_49) hg_54 (HB).size)⟩
    (try dsimp only); omega
   refine xr1 1 [(74, .eq bF)] [(74, bF)] [] (dF c_40) ?_
   refine nl (sq (cf (X_exit (sq (sq (X_region ?_))))))
   have hie_ : i = zs_32.length := by omega
   rw [hie_, List.take_length, hnl_] at hn_
   refine xr0 3 [(83, aL A_19 ls_21 c_20), (84, i6 (ls_21.length : Int)), (85, i6 0)] [71, 72, 73, 74] ?_
   refine nl (bk (X_loop (ι := Nat × Int × ByteArray) (fun ⟨j, a, tx⟩ => [(1, i6 p), (5, pw d 0), (8, aL A_19 ls_21 c_20), (10, sT (lnText (cellsAll (B.can (insOf xs))))), (12, aL A_30 zs_32 c_31), (13, sT tx), (14, i6 a), (15, i6 (n : Int)), (83, aL A_19 ls_21 c_20), (84, i6 (ls_21.length : Int)), (85, i6 (j : Int))]) (fun ⟨j, a, tx⟩ wl2 => j ≤ ls_21.length ∧ a = lnEnd 0 (ls_21.take j) ∧ tx = lnTxt (ls_21.take j) ∧ Below wl.heap.size wl wl2) (fun ⟨j, a, tx⟩ => ls_21.length - j) (0, 0, ByteArray.empty) ⟨Nat.zero_le _, rfl, rfl, Below.refl _ _⟩ (by kernel_rfl) ?_))
   rintro ⟨j, a, tx⟩ wl2 ⟨hj, ha_, htx_, HB2⟩
   have hbj_ := fun (h_ : j < ls_21.length) => hbd_ j h_
   have hnt_ := fun (h_ : j < ls_21.length) => lnChain_nth hch_ h_
   refine sq (X_region ?_)
   by_cases c_58 : (j : Int) < (ls_21.length : Int)
   ·refine xr1 1 [(86, .eq bT)] [(86, bT)] [] (dT c_58) ?_
    refine nl (sq (ct (sk (sq (bk (sq (X_region ?_)))))))
    have hts_ := lnTxt_sz (show j < ls_21.length by omega)
    rw [← htx_, htxt_] at hts_
    have hs1_ : (⟨#[10]⟩ : ByteArray).size = 1 := rfl
    have hs2_ : ((ls_21.getD j line0).text ++ (⟨#[10]⟩ : ByteArray)).size = (ls_21.getD j line0).text.size + 1 := ByteArray.size_append
    have hbj2_ := hbj_ (by omega)
    have hnt2_ := hnt_ (by omega)
    have hfa_ := hnt2_.1.trans ha_.symm
    obtain ⟨ad_59, B_62, c_63, ha_60, hc_61, hl_64, hC_65⟩ := RX.Kd.atLine (Kd.C_below hC_27 (bt (bt (bt hb_29 hb_37) HB) HB2)) (i := (j : Int)) (by omega) (by omega)
    replace hc_61 : CellsAt wl2 (ad_59.add ((j : Int).toNat * 4)) [i6 ((ls_21.getD j line0).from_), i6 ((ls_21.getD j line0).len), .slice B_62 ((ls_21.getD j line0).attrs.length) c_63, sT ((ls_21.getD j line0).text)] := hc_61
    replace hl_64 : (ls_21.getD j line0).attrs.length ≤ c_63 := hl_64
    replace hC_65 : kAttr.C wl2 B_62 ((ls_21.getD j line0).attrs.length) (ls_21.getD j line0).attrs := hC_65
    refine xw 3 [(87, .idx ad_59), (88, .load (.agg #[i6 ((ls_21.getD j line0).from_), i6 ((ls_21.getD j line0).len), .slice B_62 ((ls_21.getD j line0).attrs.length) c_63, sT ((ls_21.getD j line0).text)]))] [(19, pw wl2.heap.size 0), (88, .agg #[i6 ((ls_21.getD j line0).from_), i6 ((ls_21.getD j line0).len), .slice B_62 ((ls_21.getD j line0).attrs.length) c_63, sT ((ls_21.getD j line0).text)])] [86] (wl2.alloc (.cells #[i6 0, i6 0, .slice none 0 0, s0] 78)) [A_19 = some ad_59, (0 : Int) ≤ (j : Int), (j : Int) < (ls_21.length : Int), la 78 (ad_59.add ((j : Int).toNat * 4)) (.agg #[i6 ((ls_21.getD j line0).from_), i6 ((ls_21.getD j line0).len), .slice B_62 ((ls_21.getD j line0).attrs.length) c_63, sT ((ls_21.getD j line0).text)]) wl2] ⟨ha_60, (by omega), (by omega), loadsE rfl rfl hc_61 0 ⟨by kernel_rfl, by kernel_rfl⟩, trivial⟩ ?_
    obtain ⟨w_66, hw_70, hb_67, hk_68, hz_69⟩ := new_world wl2 #[i6 0, i6 0, .slice none 0 0, s0] 78
    rw [hw_70]
    refine xst (.agg #[i6 ((ls_21.getD j line0).from_), i6 ((ls_21.getD j line0).len), .slice B_62 ((ls_21.getD j line0).attrs.length) c_63, sT ((ls_21.getD j line0).text)]) hk_68 0 #[i6 ((ls_21.getD j line0).from_), i6 ((ls_21.getD j line0).len), .slice B_62 ((ls_21.getD j line0).attrs.length) c_63, sT ((ls_21.getD j line0).text)] (fun w_71 hg_72 hk_73 hz_74 => ?_)
    refine nl (sq (sg (xr1 3 [(90, .load (i6 ((ls_21.getD j line0).from_)))] [(90, i6 ((ls_21.getD j line0).from_)), (91, i6 a)] [88] (lc 3 hk_73 0) ?_)))
    by_cases c_75 : (ls_21.getD j line0).from_ = a
    ·refine xr 4 [(92, .eq bF), (95, .load (i6 ((ls_21.getD j line0).len)))] [(93, bF), (95, i6 ((ls_21.getD j line0).len))] [90, 91] [_, _] ⟨nF c_75, lc 3 hk_73 1, trivial⟩ ?_
     by_cases c_76 : (ls_21.getD j line0).len < 0
     ·exfalso; omega
     refine xr1 2 [(96, .eq bF)] [(97, bF)] [93, 95] (dF c_76) ?_
     refine nl (cf (sk (sg (xe 6 [(100, .load (sT ((ls_21.getD j line0).text))), (101, .as (sT (((ls_21.getD j line0).text) ++ (⟨#[10]⟩ : ByteArray)))), (102, .as (sT (tx ++ (((ls_21.getD j line0).text) ++ (⟨#[10]⟩ : ByteArray)))))] [(1, i6 p), (5, pw d 0), (8, aL A_19 ls_21 c_20), (10, sT (lnText (cellsAll (B.can (insOf xs))))), (12, aL A_30 zs_32 c_31), (13, sT (tx ++ (((ls_21.getD j line0).text) ++ (⟨#[10]⟩ : ByteArray)))), (14, i6 a), (15, nv n), (19, pw wl2.heap.size 0), (83, aL A_19 ls_21 c_20), (84, i6 (ls_21.length : Int)), (85, nv j)] [_, RunsAs Tryz.prog [(100, sT ((ls_21.getD j line0).text))] (Go.Op.binOp Go.BinOp.add 9 (Go.Operand.tmp 100) (Go.Operand.const (Go.Value.string { data := #[10] })) 9) 9 (sT (((ls_21.getD j line0).text) ++ (⟨#[10]⟩ : ByteArray))) w_71, RunsAs Tryz.prog [(98, sT tx), (101, sT (((ls_21.getD j line0).text) ++ (⟨#[10]⟩ : ByteArray)))] (Go.Op.binOp Go.BinOp.add 9 (Go.Operand.tmp 98) (Go.Operand.tmp 101) 9) 9 (sT (tx ++ (((ls_21.getD j line0).text) ++ (⟨#[10]⟩ : ByteArray)))) w_71] ⟨lc 9 hk_73 3, runs_bin rfl rfl rfl (run_sadd (by omega)), runs_bin rfl rfl rfl (run_sadd (by omega)), trivial⟩ ?_))))
     refine nl (rg (xr 6 [(105, .load (i6 ((ls_21.getD j line0).len))), (106, .eq (i6 (((ls_21.getD j line0).len) + 1))), (107, .eq (i6 (a + (((ls_21.getD j line0).len) + 1))))] [(14, i6 (a + (((ls_21.getD j line0).len) + 1)))] [19] [_, _, _] ⟨lc 3 hk_73 1, w6 (((ls_21.getD j line0).len) + 1), w6 (a + (((ls_21.getD j line0).len) + 1)), trivial⟩ ?_))
     refine nl (rg (xr1 2 [(108, .eq (i6 ((j : Int) + 1)))] [(85, i6 ((j : Int) + 1))] [] (w6 ((j : Int) + 1)) ?_))
     refine nl ?_
     refine ⟨(j + 1, a + ((ls_21.getD j line0).len + 1), tx ++ ((ls_21.getD j line0).text ++ (⟨#[10]⟩ : ByteArray))), by kernel_rfl, ?_, ?_⟩
     ·exact ⟨by omega, by rw [hnt2_.2.1, ← ha_]; omega, by rw [hnt2_.2.2, ← htx_]; rfl, (bg (bt HB2 hb_67) hg_72 (HB2).size)⟩
     (try dsimp only); omega
    exact absurd hfa_ c_75
   refine xr1 1 [(86, .eq bF)] [(86, bF)] [] (dF c_58) ?_
   refine nl (sq (cf (X_exit (sq (sq (X_region ?_))))))
   have hje_ : j = ls_21.length := by omega
   rw [hje_, List.take_length, hend_] at ha_
   rw [hje_, List.take_length, htxt_] at htx_
   refine xr0 2 [(109, sT tx), (110, sT (lnText (cellsAll (B.can (insOf xs)))))] [10, 13, 83, 84, 85, 86] ?_
   by_cases c_77 : tx = (lnText (cellsAll (B.can (insOf xs))))
   ·refine xr 5 [(111, .eq bF)] [(112, bF), (113, i6 a), (115, i6 (zs_32.length : Int))] [14, 109, 110] [Value.bool (!tx.toList == (lnText (cellsAll (B.can (insOf xs)))).toList) = bF] ⟨congrArg Value.bool (strNeF (c_77)), trivial⟩ ?_
    by_cases c_78 : a = (zs_32.length : Int)
    ·refine xr1 6 [(116, .eq bF)] [(118, bF), (119, nv n), (121, i6 (ls_21.length : Int))] [15, 112, 113, 115] (nF c_78) ?_
     by_cases c_79 : (n : Int) = (ls_21.length : Int)
     ·refine xr1 5 [(122, .eq bF)] [(124, bF), (126, i6 (zs_32.length : Int))] [118, 119, 121] (nF c_79) ?_
      by_cases c_80 : (zs_32.length : Int) = 0
      ·exfalso; omega
      refine xe1 2 [(127, .eq bF)] [(1, i6 p), (5, pw d 0), (8, aL A_19 ls_21 c_20), (12, aL A_30 zs_32 c_31), (128, bF)] (bN c_80) ?_
      refine nl (cf (sk (sq (X_region ?_))))
      obtain ⟨q, hq, hq0, hq1⟩ : ∃ q_ : Int, Int.tmod (IntKind.u64.wrap (p)) (zs_32.length : Int) = q_ ∧ 0 ≤ q_ ∧ q_ < (zs_32.length : Int) := ⟨_, rfl, (tm_bdL (u64_nonnegL _) (by omega)).1, (tm_bdL (u64_nonnegL _) (by omega)).2⟩
      refine xr 8 [(133, .eq (.int .u64 (zs_32.length : Int))), (134, .as (.int .u64 q)), (135, .eq (i6 q))] [(1, i6 q)] [128] [Value.int .u64 (IntKind.u64.wrap ((zs_32.length : Int))) = Value.int .u64 (zs_32.length : Int), RunsAs Tryz.prog [(130, .int .u64 (IntKind.u64.wrap (p))), (133, .int .u64 (zs_32.length : Int))] (Go.Op.binOp Go.BinOp.rem 96 (Go.Operand.tmp 130) (Go.Operand.tmp 133) 96) 96 (.int .u64 q) wl2, i6 (IntKind.i64.wrap (q)) = i6 q] ⟨wr_u64 (by omega) (by omega), runs_bin rfl rfl rfl (by have h_ := run_remL (t := 96) (k := .u64) (a := (IntKind.u64.wrap (p))) (b := (zs_32.length : Int)) (by omega) wl2; rwa [hq] at h_), wr_i64 (by omega) (by omega), trivial⟩ ?_
      refine nl (sq (X_region ?_))
      obtain ⟨k, hk_, hat_, hf1_, hf2_, hpl_, hiff_⟩ := lnBack_at h0_ hq0 (show q < _ by omega)
      rw [← el_22] at hk_ hat_ hf1_ hf2_ hpl_ hiff_
      rw [← ez_33] at hiff_
      have hbk_ := hbd_ k hk_
      refine xr0 2 [(137, pw d 0), (138, i6 q)] [] ?_
      have hB_81 : Below w_6.heap.size w_6 wl2 := (bt (bt (bt (bt hb_26 hb_29) hb_37) HB) HB2)
      have hB_82 : Below w.heap.size w wl2 := (bt (bt (bt (bt (bt (bt (bt hb_2 hb_4) hb_7) hb_26) hb_29) hb_37) HB) HB2)
      refine xc 45 ent45 [pw d 0, i6 q] (lat_any d (B.can (insOf xs)) q _ (hD_d.below hB_81) hcb_d hcs_d hcn_d hcz_d hcf_d (hT.below hB_82) es (hEL.below hB_82) (by omega)) ?_
      rintro e w_83 ⟨rfl, hb_84⟩; refine ⟨_, rfl, ?_⟩
      rw [hat_, errV_zero]
      refine xr0 7 [(9, .nilIface), (20, nv k), (21, i6 (q - (ls_21.getD k line0).from_))] [137, 138, 139] ?_
      refine nl (sq (sg (xr0 4 [(145, bF), (146, nv k)] [9] ?_)))
      by_cases c_85 : (k : Int) < 0
      ·exfalso; omega
      refine xr1 6 [(147, .eq bF)] [(149, bF), (150, nv k), (152, i6 (ls_21.length : Int))] [145, 146] (dF c_85) ?_
      by_cases c_86 : (k : Int) ≥ (ls_21.length : Int)
      ·exfalso; omega
      refine xe1 7 [(153, .eq bF)] [(1, i6 q), (5, pw d 0), (8, aL A_19 ls_21 c_20), (12, aL A_30 zs_32 c_31), (20, nv k), (21, i6 (q - (ls_21.getD k line0).from_)), (155, bF), (156, i6 (q - (ls_21.getD k line0).from_)), (157, i6 q), (158, aL A_19 ls_21 c_20), (159, nv k)] (dF c_86) ?_
      have hB_87 : Below w_25.heap.size w_25 w_83 := (bt (bt (bt (bt hb_29 hb_37) HB) HB2) hb_84)
      obtain ⟨ad_88, B_91, c_92, ha_89, hc_90, hl_93, hC_94⟩ := RX.Kd.atLine (Kd.C_below hC_27 hB_87) (i := (k : Int)) (by omega) (by omega)
      replace hc_90 : CellsAt w_83 (ad_88.add ((k : Int).toNat * 4)) [i6 ((ls_21.getD k line0).from_), i6 ((ls_21.getD k line0).len), .slice B_91 ((ls_21.getD k line0).attrs.length) c_92, sT ((ls_21.getD k line0).text)] := hc_90
      replace hl_93 : (ls_21.getD k line0).attrs.length ≤ c_92 := hl_93
      replace hC_94 : kAttr.C w_83 B_91 ((ls_21.getD k line0).attrs.length) (ls_21.getD k line0).attrs := hC_94
      refine xr 4 [(160, .idx ad_88), (162, .load (i6 ((ls_21.getD k line0).from_))), (163, .eq (i6 (q - ((ls_21.getD k line0).from_))))] [(163, i6 (q - ((ls_21.getD k line0).from_)))] [157, 158, 159] [A_19 = some ad_88, (0 : Int) ≤ (k : Int), (k : Int) < (ls_21.length : Int), la 3 (ad_88.add ((k : Int).toNat * 4)) (i6 ((ls_21.getD k line0).from_)) w_83, _] ⟨ha_89, (by omega), (by omega), loads1 rfl (elem_cell hc_90 0 _ rfl), w6 (q - ((ls_21.getD k line0).from_)), trivial⟩ ?_
      by_cases c_95 : (q - (ls_21.getD k line0).from_) = q - ((ls_21.getD k line0).from_)
      ·refine xr1 4 [(164, .eq bF)] [(166, bF), (167, i6 (q - (ls_21.getD k line0).from_))] [155, 156, 163] (nF c_95) ?_
       by_cases c_96 : (q - (ls_21.getD k line0).from_) < 0
       ·exfalso; omega
       refine xr1 6 [(168, .eq bF)] [(170, bF), (171, i6 (q - (ls_21.getD k line0).from_)), (172, aL A_19 ls_21 c_20), (173, nv k)] [166, 167] (dF c_96) ?_
       obtain ⟨ad_97, B_100, c_101, ha_98, hc_99, hl_102, hC_103⟩ := RX.Kd.atLine (Kd.C_below hC_27 hB_87) (i := (k : Int)) (by omega) (by omega)
       replace hc_99 : CellsAt w_83 (ad_97.add ((k : Int).toNat * 4)) [i6 ((ls_21.getD k line0).from_), i6 ((ls_21.getD k line0).len), .slice B_100 ((ls_21.getD k line0).attrs.length) c_101, sT ((ls_21.getD k line0).text)] := hc_99
       replace hl_102 : (ls_21.getD k line0).attrs.length ≤ c_101 := hl_102
       replace hC_103 : kAttr.C w_83 B_100 ((ls_21.getD k line0).attrs.length) (ls_21.getD k line0).attrs := hC_103
       refine xr 3 [(174, .idx ad_97), (176, .load (i6 ((ls_21.getD k line0).len)))] [(176, i6 ((ls_21.getD k line0).len))] [172, 173] [A_19 = some ad_97, (0 : Int) ≤ (k : Int), (k : Int) < (ls_21.length : Int), la 3 ((ad_97.add ((k : Int).toNat * 4)).add 1) (i6 ((ls_21.getD k line0).len)) w_83] ⟨ha_98, (by omega), (by omega), loads1 rfl (elem_cell hc_99 1 _ rfl), trivial⟩ ?_
       by_cases c_104 : (q - (ls_21.getD k line0).from_) > (ls_21.getD k line0).len
       ·exfalso; omega
       refine xr1 2 [(177, .eq bF)] [(178, bF)] [170, 171, 176] (dF c_104) ?_
       refine nl (cf (sk (sg (xe0 3 [(1, i6 q), (8, aL A_19 ls_21 c_20), (12, aL A_30 zs_32 c_31), (20, nv k), (21, i6 (q - (ls_21.getD k line0).from_)), (180, pw d 0), (181, nv k), (182, i6 (q - (ls_21.getD k line0).from_))] ?_))))
       refine xc 47 ent47 [pw d 0, i6 (k : Int), i6 (q - (ls_21.getD k line0).from_)] (lplace_any d (B.can (insOf xs)) (k : Int) (q - (ls_21.getD k line0).from_) _ (hD_d.below (bt hB_81 hb_84)) hcb_d hcs_d hcn_d hcz_d hcf_d (hT.below (bt hB_82 hb_84)) es (hEL.below (bt hB_82 hb_84))) ?_
       rintro e w_105 ⟨rfl, hb_106⟩; refine ⟨_, rfl, ?_⟩
       rw [hpl_, errV_zero]
       refine xr0 5 [(9, .nilIface), (22, i6 q)] [180, 181, 182, 183] ?_
       refine nl (sq (X_still (by kernel_rfl) (by kernel_rfl) (fun wd_107 hb_108 hh_109 => ?_)))
       refine xse 10 [(191, .eq bT)] [(8, aL A_19 ls_21 c_20), (20, i6 (k : Int)), (21, i6 (q - (ls_21.getD k line0).from_)), (193, bT), (194, aL A_30 zs_32 c_31), (195, i6 q)] [Value.bool (q == q) = bT] ⟨congrArg Value.bool (beq_self_eq_true _), trivial⟩ ?_
       have hB_110 : Below w_36.heap.size w_36 wd_107 := (bt (bt (bt (bt HB HB2) hb_84) hb_106) hb_108)
       obtain ⟨ad_111, B_114, c_115, ha_112, hc_113, hl_116, hC_117⟩ := Kd.atCell (Kd.C_below hC_38 hB_110) (i := q) (by omega) (by omega)
       replace hc_113 : CellsAt wd_107 (ad_111.add (q.toNat * 6)) (c6L (zs_32.getD q.toNat cell0) (aL B_114 (zs_32.getD q.toNat cell0).attrs c_115)) := hc_113
       replace hl_116 : (zs_32.getD q.toNat cell0).attrs.length ≤ c_115 := hl_116
       replace hC_117 : kAttr.C wd_107 B_114 ((zs_32.getD q.toNat cell0).attrs.length) (zs_32.getD q.toNat cell0).attrs := hC_117
       refine xse 3 [(196, .idx ad_111), (198, .load (.int .i32 ((zs_32.getD q.toNat cell0).rune)))] [(8, aL A_19 ls_21 c_20), (20, i6 (k : Int)), (21, i6 (q - (ls_21.getD k line0).from_)), (193, bT), (198, .int .i32 ((zs_32.getD q.toNat cell0).rune))] [A_30 = some ad_111, (0 : Int) ≤ q, q < (zs_32.length : Int), la 21 (ad_111.add (q.toNat * 6)) (.int .i32 ((zs_32.getD q.toNat cell0).rune)) wd_107] ⟨ha_112, (by omega), (by omega), loads1 rfl (elem_cell hc_113 0 _ rfl), trivial⟩ ?_
       by_cases c_118 : (zs_32.getD q.toNat cell0).rune = 10
       ·refine xse 4 [(199, .eq bT)] [(193, bT), (199, bT), (200, i6 (q - (ls_21.getD k line0).from_)), (201, aL A_19 ls_21 c_20), (202, i6 (k : Int))] [_] ⟨bE c_118, trivial⟩ ?_
        obtain ⟨ad_119, B_122, c_123, ha_120, hc_121, hl_124, hC_125⟩ := RX.Kd.atLine (Kd.C_below hC_27 (bt (bt hB_87 hb_106) hb_108)) (i := (k : Int)) (by omega) (by omega)
        replace hc_121 : CellsAt wd_107 (ad_119.add ((k : Int).toNat * 4)) [i6 ((ls_21.getD k line0).from_), i6 ((ls_21.getD k line0).len), .slice B_122 ((ls_21.getD k line0).attrs.length) c_123, sT ((ls_21.getD k line0).text)] := hc_121
        replace hl_124 : (ls_21.getD k line0).attrs.length ≤ c_123 := hl_124
        replace hC_125 : kAttr.C wd_107 B_122 ((ls_21.getD k line0).attrs.length) (ls_21.getD k line0).attrs := hC_125
        refine xse 3 [(203, .idx ad_119), (205, .load (i6 ((ls_21.getD k line0).len)))] [(193, bT), (199, bT), (200, i6 (q - (ls_21.getD k line0).from_)), (205, i6 ((ls_21.getD k line0).len))] [A_19 = some ad_119, (0 : Int) ≤ (k : Int), (k : Int) < (ls_21.length : Int), la 3 ((ad_119.add ((k : Int).toNat * 4)).add 1) (i6 ((ls_21.getD k line0).len)) wd_107] ⟨ha_120, (by omega), (by omega), loads1 rfl (elem_cell hc_121 1 _ rfl), trivial⟩ ?_
        by_cases c_126 : (q - (ls_21.getD k line0).from_) = (ls_21.getD k line0).len
        ·refine xse 4 [(206, .eq bT)] [(4, bT)] [_] ⟨bE c_126, trivial⟩ ?_
         refine XS_nil ?_
         refine X_ret (rj [bT] hR_ ?_)
         exact ⟨rfl, (bt (bt (bt hB_82 hb_84) hb_106) hb_108)⟩
        refine xse 4 [(206, .eq bF)] [(4, bF)] [_] ⟨bN c_126, trivial⟩ ?_
        refine XS_nil ?_
        refine X_ret (rj [bF] hR_ ?_)
        exfalso; first | omega | simp_all
       refine xse 4 [(199, .eq bF)] [(193, bT), (199, bF), (200, i6 (q - (ls_21.getD k line0).from_)), (201, aL A_19 ls_21 c_20), (202, i6 (k : Int))] [_] ⟨bN c_118, trivial⟩ ?_
       obtain ⟨ad_127, B_130, c_131, ha_128, hc_129, hl_132, hC_133⟩ := RX.Kd.atLine (Kd.C_below hC_27 (bt (bt hB_87 hb_106) hb_108)) (i := (k : Int)) (by omega) (by omega)
       replace hc_129 : CellsAt wd_107 (ad_127.add ((k : Int).toNat * 4)) [i6 ((ls_21.getD k line0).from_), i6 ((ls_21.getD k line0).len), .slice B_130 ((ls_21.getD k line0).attrs.length) c_131, sT ((ls_21.getD k line0).text)] := hc_129
       replace hl_132 : (ls_21.getD k line0).attrs.length ≤ c_131 := hl_132
       replace hC_133 : kAttr.C wd_107 B_130 ((ls_21.getD k line0).attrs.length) (ls_21.getD k line0).attrs := hC_133
       refine xse 3 [(203, .idx ad_127), (205, .load (i6 ((ls_21.getD k line0).len)))] [(193, bT), (199, bF), (200, i6 (q - (ls_21.getD k line0).from_)), (205, i6 ((ls_21.getD k line0).len))] [A_19 = some ad_127, (0 : Int) ≤ (k : Int), (k : Int) < (ls_21.length : Int), la 3 ((ad_127.add ((k : Int).toNat * 4)).add 1) (i6 ((ls_21.getD k line0).len)) wd_107] ⟨ha_128, (by omega), (by omega), loads1 rfl (elem_cell hc_129 1 _ rfl), trivial⟩ ?_
       by_cases c_134 : (q - (ls_21.getD k line0).from_) = (ls_21.getD k line0).len
       ·refine xse 4 [(206, .eq bT)] [(4, bF)] [_] ⟨bE c_134, trivial⟩ ?_
        refine XS_nil ?_
        refine X_ret (rj [bF] hR_ ?_)
        exfalso; first | omega | simp_all
       refine xse 4 [(206, .eq bF)] [(4, bT)] [_] ⟨bN c_134, trivial⟩ ?_
       refine XS_nil ?_
       refine X_ret (rj [bT] hR_ ?_)
       exact ⟨rfl, (bt (bt (bt hB_82 hb_84) hb_106) hb_108)⟩
      refine xr1 15 [(164, .eq bT)] [(178, bT)] [155, 156, 163] (nT c_95) ?_
      refine nl (ct (sg (xe0 1 [(4, bF)] ?_)))
      refine nl (X_ret (rj [bF] hR_ ?_))
      exfalso; first | omega | simp_all
     exfalso; omega
    exfalso; omega
   exact absurd (by rw [htx_, ez_33]) c_77
  rw [errV_pos es (lnErr (B.can (insOf xs))) (Nat.pos_of_ne_zero c_39)]
  refine xr0 1 [(9, .iface 301 (.pointer (some (errAt es (lnErr (B.can (insOf xs))))))), (52, bT)] [51] ?_
  refine nl (ct (sq (X_region ?_)))
  obtain ⟨hk14_, hlast_⟩ := lnBack_not hdoc_ (show lnErr (B.can (insOf xs)) ≠ 0 by omega)
  rw [← ez_33] at hlast_
  refine xr0 1 [(53, .iface 301 (.pointer (some (errAt es (lnErr (B.can (insOf xs)))))))] [1, 5, 8, 9, 10, 52] ?_
  have hB_135 : Below w.heap.size w w_36 := (bt (bt (bt (bt (bt hb_2 hb_4) hb_7) hb_26) hb_29) hb_37)
  refine xc 40 ent40 [.iface 301 (.pointer (some (errAt es (lnErr (B.can (insOf xs))))))] ((by have h_ := num_any es (lnErr (B.can (insOf xs))) (lnErr_le _) _ (hE.below hB_135); rw [errV_pos es _ (Nat.pos_of_ne_zero c_39)] at h_; exact h_)) ?_
  rintro e w_136 ⟨rfl, hb_137⟩; refine ⟨_, rfl, ?_⟩
  by_cases c_138 : ((lnErr (B.can (insOf xs))) : Int) = 14
  ·refine xr1 4 [(55, .eq bT)] [(56, bT), (58, i6 (zs_32.length : Int))] [53, 54] (bE c_138) ?_
   by_cases c_139 : (zs_32.length : Int) = 0
   ·refine xe1 13 [(59, .eq bT)] [(4, bT)] (bE c_139) ?_
    refine nl (X_ret (rj [bT] hR_ ?_))
    exact ⟨rfl, (bt hB_135 hb_137)⟩
   refine xe 6 [(59, .eq bF), (64, .eq (i6 ((zs_32.length : Int) - 1)))] [(56, bT), (60, bF), (61, aL A_30 zs_32 c_31), (64, i6 ((zs_32.length : Int) - 1))] [_, _] ⟨bN c_139, w6 ((zs_32.length : Int) - 1), trivial⟩ ?_
   obtain ⟨ad_140, B_143, c_144, ha_141, hc_142, hl_145, hC_146⟩ := Kd.atCell (Kd.C_below hC_38 hb_137) (i := (zs_32.length : Int) - 1) (by omega) (by omega)
   replace hc_142 : CellsAt w_136 (ad_140.add (((zs_32.length : Int) - 1).toNat * 6)) (c6L (zs_32.getD ((zs_32.length : Int) - 1).toNat cell0) (aL B_143 (zs_32.getD ((zs_32.length : Int) - 1).toNat cell0).attrs c_144)) := hc_142
   replace hl_145 : (zs_32.getD ((zs_32.length : Int) - 1).toNat cell0).attrs.length ≤ c_144 := hl_145
   replace hC_146 : kAttr.C w_136 B_143 ((zs_32.getD ((zs_32.length : Int) - 1).toNat cell0).attrs.length) (zs_32.getD ((zs_32.length : Int) - 1).toNat cell0).attrs := hC_146
   refine xr 3 [(65, .idx ad_140), (67, .load (.int .i32 ((zs_32.getD ((zs_32.length : Int) - 1).toNat cell0).rune)))] [(67, .int .i32 ((zs_32.getD ((zs_32.length : Int) - 1).toNat cell0).rune))] [61, 64] [A_30 = some ad_140, (0 : Int) ≤ (zs_32.length : Int) - 1, (zs_32.length : Int) - 1 < (zs_32.length : Int), la 21 (ad_140.add (((zs_32.length : Int) - 1).toNat * 6)) (.int .i32 ((zs_32.getD ((zs_32.length : Int) - 1).toNat cell0).rune)) w_136] ⟨ha_141, (by omega), (by omega), loads1 rfl (elem_cell hc_142 0 _ rfl), trivial⟩ ?_
   by_cases c_147 : (zs_32.getD ((zs_32.length : Int) - 1).toNat cell0).rune = 10
   ·exfalso; rcases hlast_ with h_ | h_; (· omega); (· exact h_ (by have h2_ := c_147; first | exact h2_ | (rw [show (((zs_32.length : Int) - 1).toNat) = zs_32.length - 1 from by omega] at h2_; exact h2_)))
   refine xe1 4 [(68, .eq bT)] [(4, bT)] (nT c_147) ?_
   refine nl (X_ret (rj [bT] hR_ ?_))
   exact ⟨rfl, (bt hB_135 hb_137)⟩
  refine xe1 17 [(55, .eq bF)] [(4, bF)] (bN c_138) ?_
  refine nl (X_ret (rj [bF] hR_ ?_))
  exfalso; omega
 refine ⟨_, rfl, ?_⟩
 refine xr0 7 [(5, .pointer none), (6, .slice none 0 0), (7, bF)] [28, 29] ?_
 refine nl (sq (sg (xr0 2 [(34, bT)] [7] ?_)))
 refine nl (ct (sg (xe0 1 [(4, bT)] ?_)))
 refine nl (X_ret (rj [bT] hR_ ?_))
 exact ⟨rfl, (bt (bt hb_2 hb_4) hb_7)⟩
end Go.Proofs.YtgphmfnkeolbcaaGreatDoor
