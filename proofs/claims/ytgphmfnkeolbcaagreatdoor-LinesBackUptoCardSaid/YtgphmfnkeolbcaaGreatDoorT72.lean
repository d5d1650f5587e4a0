import Derived.Test.YtgphmfnkeolbcaaGreatDoorT16
import Derived.Test.YtgphmfnkeolbcaaGreatDoorIn
import Derived.Test.YtgphmfnkeolbcaaGreatDoorSpare
import Derived.Laws.AppendOwn
import Derived.Test.YtgphmfnkeolbcaaGreatDoorP1
import Derived.Test.YtgphmfnkeolbcaaGreatDoorMixP
import Derived.Test.YtgphmfnkeolbcaaGreatDoorT5
import Derived.Test.YtgphmfnkeolbcaaGreatDoorR1
import Derived.Test.YtgphmfnkeolbcaaGreatDoorClp
import Derived.Test.YtgphmfnkeolbcaaGreatDoorT67
/- vellumref06.Of. Conditions: sizes, the tables of utf8. -/
set_option linter.unusedVariables false
set_option linter.unusedSimpArgs false
set_option maxRecDepth 100000
namespace Go.Proofs.YtgphmfnkeolbcaaGreatDoor
open Go Go.RowKit Go.Proofs.YtgphmfnkeolbcaaGreatDoorW.PrintWords RX
theorem ent101 : Ent Tryz.prog 101 := ent_of Tryz.func101 (by kernel_rfl) rfl
set_option maxHeartbeats 4000000 in
theorem r6of_any (A : Option Addr) (c : Nat) (xs : List OpA) (W0 w : World) (hW : Below W0.heap.size W0 w) (hx : kOp.C W0 A xs.length xs) (hn : xs.length ≤ 1048576) (hz : ∀ i, i < xs.length → opSz (xs.getD i op0)) (ht : B.txS xs ≤ 50000000) (hT : Tabs w) :
  Calls Tryz.prog 101 #[aL A xs c] w fun e w' => Below w.heap.size w w' ∧ (((B.bOf xs).2 = 0 ∧ ∃ A1 c1, e = .returned (.tuple #[.slice A1 (B.can xs).length c1, i6 0, i6 0]) ∧ MixK kOp op0 102 w.heap.size W0 w' A1 (B.can xs).length c1 (B.can xs)) ∨ ((B.bOf xs).2 ≠ 0 ∧ e = .returned (.tuple #[.slice none 0 0, i6 ((B.bOf xs).1 : Int), i6 ((B.bOf xs).2 : Int)]))) := by
 have hpl : xs.length ≤ 9223372036854775807 := hx.2.1
 have hL_ : B.L = 1099511627776 := rfl
 refine en Tryz.func101 rfl 49 [(0, aL A xs c)] (fun R_ hR_ => ?_)
 refine sg (xe0 3 [(0, aL A xs c)] ?_)
 refine nl (sg (xr0 2 [(5, i6 0), (6, i6 0)] [] ?_))
 refine nl (sq (sg (xr0 3 [(11, aL A xs c), (12, i6 (xs.length : Int)), (13, i6 0)] [] ?_)))
 refine nl (bk (X_loop (ι := Nat × Int × Int) (fun ⟨i, b, r⟩ => [(0, aL A xs c), (5, i6 b), (6, i6 r), (11, aL A xs c), (12, i6 (xs.length : Int)), (13, i6 (i : Int))]) (fun ⟨i, b, r⟩ wl => i ≤ xs.length ∧ (∀ j, j < i → B.bE xs j = 0) ∧ b = sB (xs.take i) ∧ r = sR (xs.take i) ∧ Below w.heap.size w wl) (fun ⟨i, b, r⟩ => xs.length - i) (0, 0, 0) ⟨Nat.zero_le _, fun _ h_ => absurd h_ (Nat.not_lt_zero _), rfl, rfl, (Below.refl _ _)⟩ (by kernel_rfl) ?_))
 rintro ⟨i, b, r⟩ wl ⟨hi, hb0, hbb, hrr, HB⟩
 have hup := B.bE_upto hi hb0
 have hsB0 := sB_ok hup.1
 have hsR0 := sR_ok hup.1
 refine sq (X_region ?_)
 by_cases c_1 : (i : Int) < (xs.length : Int)
 ·refine xr1 1 [(14, .eq bT)] [(14, bT)] [] (dT c_1) ?_
  refine nl (sq (ct (sk (sq (bk (sg (xr0 1 [(15, nv i)] [14] ?_)))))))
  obtain ⟨ad_2, B_5, c_6, ha_3, hc_4, hl_7, hC_8⟩ := Kd.atOp (Kd.C_below hx (bt hW HB)) (i := (i : Int)) (by omega) (by omega)
  replace hc_4 : CellsAt wl (ad_2.add ((i : Int).toNat * 7)) (o7L (xs.getD i op0) (aL B_5 (xs.getD i op0).attrs c_6)) := hc_4
  replace hl_7 : (xs.getD i op0).attrs.length ≤ c_6 := hl_7
  replace hC_8 : kAttr.C wl B_5 ((xs.getD i op0).attrs.length) (xs.getD i op0).attrs := hC_8
  refine xw 3 [(16, .idx ad_2), (17, .load (.agg (o7A (xs.getD i op0) (aL B_5 (xs.getD i op0).attrs c_6))))] [(8, pw wl.heap.size 0), (17, .agg (o7A (xs.getD i op0) (aL B_5 (xs.getD i op0).attrs c_6)))] [] (wl.alloc (.cells #[i6 0, s0, i6 0, i6 0, s0, i6 0, .slice none 0 0] 102)) [A = some ad_2, (0 : Int) ≤ (i : Int), (i : Int) < (xs.length : Int), la 102 (ad_2.add ((i : Int).toNat * 7)) (.agg (o7A (xs.getD i op0) (aL B_5 (xs.getD i op0).attrs c_6))) wl] ⟨ha_3, (by omega), (by omega), loadsE rfl rfl hc_4 0 ⟨by kernel_rfl, by kernel_rfl⟩, trivial⟩ ?_
  obtain ⟨w_9, hw_13, hb_10, hk_11, hz_12⟩ := new_world wl #[i6 0, s0, i6 0, i6 0, s0, i6 0, .slice none 0 0] 102
  rw [hw_13]
  refine xr0 1 [(7, nv i)] [15] ?_
  refine xst (.agg (o7A (xs.getD i op0) (aL B_5 (xs.getD i op0).attrs c_6))) hk_11 0 (o7A (xs.getD i op0) (aL B_5 (xs.getD i op0).attrs c_6)) (fun w_14 hg_15 hk_16 hz_17 => ?_)
  refine nl (sg (xr 1 [(18, .load (.agg (o7A (xs.getD i op0) (aL B_5 (xs.getD i op0).attrs c_6))))] [(18, .agg (o7A (xs.getD i op0) (aL B_5 (xs.getD i op0).attrs c_6)))] [17] [la 102 (⟨wl.heap.size, 0, none⟩) (.agg (o7A (xs.getD i op0) (aL B_5 (xs.getD i op0).attrs c_6))) w_14] ⟨loadsB rfl rfl hk_16 0 ⟨by kernel_rfl, by kernel_rfl⟩, trivial⟩ ?_))
  have hszi := hz i (by omega)
  have hsci := U.sc_le (xs.getD i op0).text
  have hszt := hszi.1
  have hol : opLen (xs.getD i op0) = (if (xs.getD i op0).kind = 1 then ((U.sc (xs.getD i op0).text).length : Int) else if (xs.getD i op0).kind = 2 then 1 else (xs.getD i op0).count) := rfl
  have hob : opB (xs.getD i op0) = (if (xs.getD i op0).kind = 3 ∨ (xs.getD i op0).kind = 4 then opLen (xs.getD i op0) else 0) := rfl
  have hor : opR (xs.getD i op0) = (if (xs.getD i op0).kind = 4 then 0 else opLen (xs.getD i op0)) := rfl
  have hst1 := B.sB_take (show i < xs.length by omega)
  have hst2 := B.sR_take (show i < xs.length by omega)
  refine xc 163 ent163 [.agg (o7A (xs.getD i op0) (aL B_5 (xs.getD i op0).attrs c_6))] (r5check_any (xs.getD i op0) _ _ _ (Kd.C_below hC_8 (bg hb_10 hg_15 (Nat.le_refl _))) hszi (hT.below (bg (bt HB hb_10) hg_15 (HB).size))) ?_
  rintro e w_18 ⟨rfl, hb_19⟩; refine ⟨_, rfl, ?_⟩
  refine xe0 1 [(0, aL A xs c), (5, i6 b), (6, i6 r), (7, nv i), (8, pw wl.heap.size 0), (9, i6 (pErr (xs.getD i op0) : Int)), (11, aL A xs c), (12, i6 (xs.length : Int)), (13, nv i)] ?_
  refine nl (sq (sg (xr0 1 [(20, i6 (pErr (xs.getD i op0) : Int))] [] ?_)))
  by_cases c_20 : (pErr (xs.getD i op0) : Int) = 0
  ·have hpe : pErr (xs.getD i op0) = 0 := by omega
   have hki := kind_of_ok hpe
   have hcni := fun hk_ => count_of_ok hpe hk_
   have hol0 := opLen_ok hpe
   have hol1 : opLen (xs.getD i op0) ≤ 1099511627776 := by rw [hol]; split; (· omega); (· split; (· omega); (· exact (hcni (by omega)).2))
   refine xr1 1 [(21, .eq bF)] [(21, bF)] [20] (nF c_20) ?_
   refine nl (cf (sk (sg (xr 1 [(24, .load (.agg (o7A (xs.getD i op0) (aL B_5 (xs.getD i op0).attrs c_6))))] [(24, .agg (o7A (xs.getD i op0) (aL B_5 (xs.getD i op0).attrs c_6)))] [9, 21] [la 102 (⟨wl.heap.size, 0, none⟩) (.agg (o7A (xs.getD i op0) (aL B_5 (xs.getD i op0).attrs c_6))) w_18] ⟨loadsB rfl rfl (Blk.below hk_16 hb_19) 0 ⟨by kernel_rfl, by kernel_rfl⟩, trivial⟩ ?_))))
   have hB_21 : Below wl.heap.size wl w_18 := (bt (bg hb_10 hg_15 (Nat.le_refl _)) hb_19)
   refine xc 115 ent115 [.agg (o7A (xs.getD i op0) (aL B_5 (xs.getD i op0).attrs c_6))] (r6len_any (xs.getD i op0) _ _ _ (Kd.C_below hC_8 hB_21) (ok_utf hpe) hszi) ?_
   rintro e w_22 ⟨rfl, hb_23⟩; refine ⟨_, rfl, ?_⟩
   refine xr 2 [(26, .eq (i6 (min (opLen (xs.getD i op0)) 1099511627777)))] [(10, i6 (min (opLen (xs.getD i op0)) 1099511627777))] [24, 25] [i6 (if 1099511627777 < opLen (xs.getD i op0) then 1099511627777 else opLen (xs.getD i op0)) = i6 (min (opLen (xs.getD i op0)) 1099511627777)] ⟨congrArg (Value.int .i64) (min_eq _ _), trivial⟩ ?_
   refine nl (sq (sg (xr 1 [(27, .load (.agg (o7A (xs.getD i op0) (aL B_5 (xs.getD i op0).attrs c_6))))] [(27, .agg (o7A (xs.getD i op0) (aL B_5 (xs.getD i op0).attrs c_6)))] [] [la 102 (⟨wl.heap.size, 0, none⟩) (.agg (o7A (xs.getD i op0) (aL B_5 (xs.getD i op0).attrs c_6))) w_22] ⟨loadsB rfl rfl (Blk.below hk_16 (bt hb_19 hb_23)) 0 ⟨by kernel_rfl, by kernel_rfl⟩, trivial⟩ ?_)))
   refine xc 100 ent100 [.agg (o7A (xs.getD i op0) (aL B_5 (xs.getD i op0).attrs c_6))] (r6ins_any (xs.getD i op0) _ _ _ (Kd.C_below hC_8 (bt hB_21 hb_23))) ?_
   rintro e w_24 ⟨rfl, hb_25⟩; refine ⟨_, rfl, ?_⟩
   by_cases c_26 : decide (insO (xs.getD i op0)) = true
   ·have hin : ((xs.getD i op0).kind = 1 ∨ (xs.getD i op0).kind = 2) := of_decide_eq_true c_26
    rw [show (decide (insO (xs.getD i op0)) : Bool) = true from by simpa using c_26]
    refine xe0 1 [(0, aL A xs c), (5, i6 b), (6, i6 r), (7, nv i), (8, pw wl.heap.size 0), (10, i6 (min (opLen (xs.getD i op0)) 1099511627777)), (11, aL A xs c), (12, i6 (xs.length : Int)), (13, nv i), (29, bF)] ?_
    refine nl (cf (sk (sq (sg (xr1 2 [(34, .load (i6 ((xs.getD i op0).kind)))] [(34, i6 ((xs.getD i op0).kind))] [8, 29] (lc 3 (Blk.below hk_16 (bt (bt hb_19 hb_23) hb_25)) 0) ?_)))))
    by_cases c_27 : (xs.getD i op0).kind = 4
    ·refine xr1 1 [(35, .eq bF)] [(35, bF)] [34] (nF c_27) ?_
     refine nl (cf (sk (sg (xr0 1 [(39, i6 b)] [10, 35] ?_))))
     by_cases c_28 : b > 1099511627776
     ·refine xr1 5 [(40, .eq bT)] [(44, bT)] [39] (dT c_28) ?_
      refine nl (ct (sg (xe0 4 [(2, .slice none 0 0), (3, nv i), (4, i6 11)] ?_)))
      refine nl (X_ret (rj [.slice none 0 0, i6 (i : Int), i6 11] hR_ ?_))
      have hB_29 : Below w.heap.size w w_24 := (bt (bt (bt (bg (bt HB hb_10) hg_15 (HB).size) hb_19) hb_23) hb_25)
      have hbi : B.bE xs i = 11 := by unfold B.bE; rw [if_neg (by omega), if_pos (by omega)]
      have hbn : B.bE xs i ≠ 0 := by omega
      have hfo : B.bOf xs = (i, B.bE xs i) := B.first_at hb0 hbn (show i < xs.length by omega)
      rw [hfo, hbi]
      exact ⟨hB_29, .inr ⟨by (try dsimp only); omega, rfl⟩⟩
     refine xr1 3 [(40, .eq bF)] [(41, bF), (42, i6 r)] [39] (dF c_28) ?_
     by_cases c_30 : r > 1099511627776
     ·refine xr1 2 [(43, .eq bT)] [(44, bT)] [41, 42] (dT c_30) ?_
      refine nl (ct (sg (xe0 4 [(2, .slice none 0 0), (3, nv i), (4, i6 11)] ?_)))
      refine nl (X_ret (rj [.slice none 0 0, i6 (i : Int), i6 11] hR_ ?_))
      have hB_31 : Below w.heap.size w w_24 := (bt (bt (bt (bg (bt HB hb_10) hg_15 (HB).size) hb_19) hb_23) hb_25)
      have hbi : B.bE xs i = 11 := by unfold B.bE; rw [if_neg (by omega), if_pos (by omega)]
      have hbn : B.bE xs i ≠ 0 := by omega
      have hfo : B.bOf xs = (i, B.bE xs i) := B.first_at hb0 hbn (show i < xs.length by omega)
      rw [hfo, hbi]
      exact ⟨hB_31, .inr ⟨by (try dsimp only); omega, rfl⟩⟩
     refine xr1 2 [(43, .eq bF)] [(44, bF)] [41, 42] (dF c_30) ?_
     refine nl (cf (sk (rg (xe1 2 [(46, .eq (i6 ((i : Int) + 1)))] [(0, aL A xs c), (5, i6 b), (6, i6 r), (11, aL A xs c), (12, i6 (xs.length : Int)), (13, i6 ((i : Int) + 1))] (w6 ((i : Int) + 1)) ?_))))
     refine nl ?_
     have hB_32 : Below w.heap.size w w_24 := (bt (bt (bt (bg (bt HB hb_10) hg_15 (HB).size) hb_19) hb_23) hb_25)
     refine ⟨(i + 1, b, r), by kernel_rfl, ?_, ?_⟩
     ·have hbi : B.bE xs i = 0 := by unfold B.bE; rw [if_neg (by omega), if_neg (by omega)]
      exact ⟨by omega, fun j_ hj_ => (by by_cases h_ : j_ < i; (· exact hb0 j_ h_); (· obtain rfl : j_ = i := (by omega); exact hbi)), by omega, by omega, hB_32⟩
     (try dsimp only); omega
    refine xr1 1 [(35, .eq bT)] [(35, bT)] [34] (nT c_27) ?_
    refine nl (ct (rg (xr1 4 [(38, .eq (i6 (r + (min (opLen (xs.getD i op0)) 1099511627777))))] [(6, i6 (r + (min (opLen (xs.getD i op0)) 1099511627777)))] [10, 35] (w6 (r + (min (opLen (xs.getD i op0)) 1099511627777))) ?_)))
    refine nl (sg (xr0 1 [(39, i6 b)] [] ?_))
    by_cases c_33 : b > 1099511627776
    ·refine xr1 5 [(40, .eq bT)] [(44, bT)] [39] (dT c_33) ?_
     refine nl (ct (sg (xe0 4 [(2, .slice none 0 0), (3, nv i), (4, i6 11)] ?_)))
     refine nl (X_ret (rj [.slice none 0 0, i6 (i : Int), i6 11] hR_ ?_))
     have hB_34 : Below w.heap.size w w_24 := (bt (bt (bt (bg (bt HB hb_10) hg_15 (HB).size) hb_19) hb_23) hb_25)
     have hbi : B.bE xs i = 11 := by unfold B.bE; rw [if_neg (by omega), if_pos (by omega)]
     have hbn : B.bE xs i ≠ 0 := by omega
     have hfo : B.bOf xs = (i, B.bE xs i) := B.first_at hb0 hbn (show i < xs.length by omega)
     rw [hfo, hbi]
     exact ⟨hB_34, .inr ⟨by (try dsimp only); omega, rfl⟩⟩
    refine xr1 3 [(40, .eq bF)] [(41, bF), (42, i6 (r + (min (opLen (xs.getD i op0)) 1099511627777)))] [39] (dF c_33) ?_
    by_cases c_35 : r + (min (opLen (xs.getD i op0)) 1099511627777) > 1099511627776
    ·refine xe1 2 [(43, .eq bT)] [(0, aL A xs c), (5, i6 b), (6, i6 (r + (min (opLen (xs.getD i op0)) 1099511627777))), (7, nv i), (11, aL A xs c), (12, i6 (xs.length : Int)), (13, nv i), (44, bT)] (dT c_35) ?_
     refine nl (ct (sg (xe0 4 [(2, .slice none 0 0), (3, nv i), (4, i6 11)] ?_)))
     refine nl (X_ret (rj [.slice none 0 0, i6 (i : Int), i6 11] hR_ ?_))
     have hB_36 : Below w.heap.size w w_24 := (bt (bt (bt (bg (bt HB hb_10) hg_15 (HB).size) hb_19) hb_23) hb_25)
     have hbi : B.bE xs i = 11 := by unfold B.bE; rw [if_neg (by omega), if_pos (by omega)]
     have hbn : B.bE xs i ≠ 0 := by omega
     have hfo : B.bOf xs = (i, B.bE xs i) := B.first_at hb0 hbn (show i < xs.length by omega)
     rw [hfo, hbi]
     exact ⟨hB_36, .inr ⟨by (try dsimp only); omega, rfl⟩⟩
    refine xe1 2 [(43, .eq bF)] [(0, aL A xs c), (5, i6 b), (6, i6 (r + (min (opLen (xs.getD i op0)) 1099511627777))), (7, nv i), (11, aL A xs c), (12, i6 (xs.length : Int)), (13, nv i), (44, bF)] (dF c_35) ?_
    refine nl (cf (sk (rg (xr1 2 [(46, .eq (i6 ((i : Int) + 1)))] [(13, i6 ((i : Int) + 1))] [7, 44] (w6 ((i : Int) + 1)) ?_))))
    refine nl ?_
    have hB_37 : Below w.heap.size w w_24 := (bt (bt (bt (bg (bt HB hb_10) hg_15 (HB).size) hb_19) hb_23) hb_25)
    refine ⟨(i + 1, b, r + (min (opLen (xs.getD i op0)) 1099511627777)), by kernel_rfl, ?_, ?_⟩
    ·have hbi : B.bE xs i = 0 := by unfold B.bE; rw [if_neg (by omega), if_neg (by omega)]
     exact ⟨by omega, fun j_ hj_ => (by by_cases h_ : j_ < i; (· exact hb0 j_ h_); (· obtain rfl : j_ = i := (by omega); exact hbi)), by omega, by omega, hB_37⟩
    (try dsimp only); omega
   have hin : ¬ ((xs.getD i op0).kind = 1 ∨ (xs.getD i op0).kind = 2) := (of_decide_eq_false (Bool.eq_false_iff.2 c_26))
   rw [show (decide (insO (xs.getD i op0)) : Bool) = false from by simpa using c_26]
   refine xe0 1 [(0, aL A xs c), (5, i6 b), (6, i6 r), (7, nv i), (8, pw wl.heap.size 0), (10, i6 (min (opLen (xs.getD i op0)) 1099511627777)), (11, aL A xs c), (12, i6 (xs.length : Int)), (13, nv i), (29, bT)] ?_
   refine nl (ct (rg (xr1 4 [(32, .eq (i6 (b + (min (opLen (xs.getD i op0)) 1099511627777))))] [(5, i6 (b + (min (opLen (xs.getD i op0)) 1099511627777)))] [29] (w6 (b + (min (opLen (xs.getD i op0)) 1099511627777))) ?_)))
   refine nl (sq (sg (xr1 2 [(34, .load (i6 ((xs.getD i op0).kind)))] [(34, i6 ((xs.getD i op0).kind))] [8] (lc 3 (Blk.below hk_16 (bt (bt hb_19 hb_23) hb_25)) 0) ?_)))
   by_cases c_38 : (xs.getD i op0).kind = 4
   ·refine xr1 1 [(35, .eq bF)] [(35, bF)] [34] (nF c_38) ?_
    refine nl (cf (sk (sg (xr0 1 [(39, i6 (b + (min (opLen (xs.getD i op0)) 1099511627777)))] [10, 35] ?_))))
    by_cases c_39 : b + (min (opLen (xs.getD i op0)) 1099511627777) > 1099511627776
    ·refine xr1 5 [(40, .eq bT)] [(44, bT)] [39] (dT c_39) ?_
     refine nl (ct (sg (xe0 4 [(2, .slice none 0 0), (3, nv i), (4, i6 11)] ?_)))
     refine nl (X_ret (rj [.slice none 0 0, i6 (i : Int), i6 11] hR_ ?_))
     have hB_40 : Below w.heap.size w w_24 := (bt (bt (bt (bg (bt HB hb_10) hg_15 (HB).size) hb_19) hb_23) hb_25)
     have hbi : B.bE xs i = 11 := by unfold B.bE; rw [if_neg (by omega), if_pos (by omega)]
     have hbn : B.bE xs i ≠ 0 := by omega
     have hfo : B.bOf xs = (i, B.bE xs i) := B.first_at hb0 hbn (show i < xs.length by omega)
     rw [hfo, hbi]
     exact ⟨hB_40, .inr ⟨by (try dsimp only); omega, rfl⟩⟩
    refine xr1 3 [(40, .eq bF)] [(41, bF), (42, i6 r)] [39] (dF c_39) ?_
    by_cases c_41 : r > 1099511627776
    ·refine xe1 2 [(43, .eq bT)] [(0, aL A xs c), (5, i6 (b + (min (opLen (xs.getD i op0)) 1099511627777))), (6, i6 r), (7, nv i), (11, aL A xs c), (12, i6 (xs.length : Int)), (13, nv i), (44, bT)] (dT c_41) ?_
     refine nl (ct (sg (xe0 4 [(2, .slice none 0 0), (3, nv i), (4, i6 11)] ?_)))
     refine nl (X_ret (rj [.slice none 0 0, i6 (i : Int), i6 11] hR_ ?_))
     have hB_42 : Below w.heap.size w w_24 := (bt (bt (bt (bg (bt HB hb_10) hg_15 (HB).size) hb_19) hb_23) hb_25)
     have hbi : B.bE xs i = 11 := by unfold B.bE; rw [if_neg (by omega), if_pos (by omega)]
     have hbn : B.bE xs i ≠ 0 := by omega
     have hfo : B.bOf xs = (i, B.bE xs i) := B.first_at hb0 hbn (show i < xs.length by omega)
     rw [hfo, hbi]
     exact ⟨hB_42, .inr ⟨by (try dsimp only); omega, rfl⟩⟩
    refine xe1 2 [(43, .eq bF)] [(0, aL A xs c), (5, i6 (b + (min (opLen (xs.getD i op0)) 1099511627777))), (6, i6 r), (7, nv i), (11, aL A xs c), (12, i6 (xs.length : Int)), (13, nv i), (44, bF)] (dF c_41) ?_
    refine nl (cf (sk (rg (xr1 2 [(46, .eq (i6 ((i : Int) + 1)))] [(13, i6 ((i : Int) + 1))] [7, 44] (w6 ((i : Int) + 1)) ?_))))
    refine nl ?_
    have hB_43 : Below w.heap.size w w_24 := (bt (bt (bt (bg (bt HB hb_10) hg_15 (HB).size) hb_19) hb_23) hb_25)
    refine ⟨(i + 1, b + (min (opLen (xs.getD i op0)) 1099511627777), r), by kernel_rfl, ?_, ?_⟩
    ·have hbi : B.bE xs i = 0 := by unfold B.bE; rw [if_neg (by omega), if_neg (by omega)]
     exact ⟨by omega, fun j_ hj_ => (by by_cases h_ : j_ < i; (· exact hb0 j_ h_); (· obtain rfl : j_ = i := (by omega); exact hbi)), by omega, by omega, hB_43⟩
    (try dsimp only); omega
   refine xr1 1 [(35, .eq bT)] [(35, bT)] [34] (nT c_38) ?_
   refine nl (ct (rg (xr1 4 [(38, .eq (i6 (r + (min (opLen (xs.getD i op0)) 1099511627777))))] [(6, i6 (r + (min (opLen (xs.getD i op0)) 1099511627777)))] [10, 35] (w6 (r + (min (opLen (xs.getD i op0)) 1099511627777))) ?_)))
   refine nl (sg (xr0 1 [(39, i6 (b + (min (opLen (xs.getD i op0)) 1099511627777)))] [] ?_))
   by_cases c_44 : b + (min (opLen (xs.getD i op0)) 1099511627777) > 1099511627776
   ·refine xe1 5 [(40, .eq bT)] [(0, aL A xs c), (5, i6 (b + (min (opLen (xs.getD i op0)) 1099511627777))), (6, i6 (r + (min (opLen (xs.getD i op0)) 1099511627777))), (7, nv i), (11, aL A xs c), (12, i6 (xs.length : Int)), (13, nv i), (44, bT)] (dT c_44) ?_
    refine nl (ct (sg (xe0 4 [(2, .slice none 0 0), (3, nv i), (4, i6 11)] ?_)))
    refine nl (X_ret (rj [.slice none 0 0, i6 (i : Int), i6 11] hR_ ?_))
    have hB_45 : Below w.heap.size w w_24 := (bt (bt (bt (bg (bt HB hb_10) hg_15 (HB).size) hb_19) hb_23) hb_25)
    have hbi : B.bE xs i = 11 := by unfold B.bE; rw [if_neg (by omega), if_pos (by omega)]
    have hbn : B.bE xs i ≠ 0 := by omega
    have hfo : B.bOf xs = (i, B.bE xs i) := B.first_at hb0 hbn (show i < xs.length by omega)
    rw [hfo, hbi]
    exact ⟨hB_45, .inr ⟨by (try dsimp only); omega, rfl⟩⟩
   refine xe1 3 [(40, .eq bF)] [(0, aL A xs c), (5, i6 (b + (min (opLen (xs.getD i op0)) 1099511627777))), (6, i6 (r + (min (opLen (xs.getD i op0)) 1099511627777))), (7, nv i), (11, aL A xs c), (12, i6 (xs.length : Int)), (13, nv i), (41, bF), (42, i6 (r + (min (opLen (xs.getD i op0)) 1099511627777)))] (dF c_44) ?_
   by_cases c_46 : r + (min (opLen (xs.getD i op0)) 1099511627777) > 1099511627776
   ·refine xr1 2 [(43, .eq bT)] [(44, bT)] [41, 42] (dT c_46) ?_
    refine nl (ct (sg (xe0 4 [(2, .slice none 0 0), (3, nv i), (4, i6 11)] ?_)))
    refine nl (X_ret (rj [.slice none 0 0, i6 (i : Int), i6 11] hR_ ?_))
    have hB_47 : Below w.heap.size w w_24 := (bt (bt (bt (bg (bt HB hb_10) hg_15 (HB).size) hb_19) hb_23) hb_25)
    have hbi : B.bE xs i = 11 := by unfold B.bE; rw [if_neg (by omega), if_pos (by omega)]
    have hbn : B.bE xs i ≠ 0 := by omega
    have hfo : B.bOf xs = (i, B.bE xs i) := B.first_at hb0 hbn (show i < xs.length by omega)
    rw [hfo, hbi]
    exact ⟨hB_47, .inr ⟨by (try dsimp only); omega, rfl⟩⟩
   refine xr1 2 [(43, .eq bF)] [(44, bF)] [41, 42] (dF c_46) ?_
   refine nl (cf (sk (rg (xr1 2 [(46, .eq (i6 ((i : Int) + 1)))] [(13, i6 ((i : Int) + 1))] [7, 44] (w6 ((i : Int) + 1)) ?_))))
   refine nl ?_
   have hB_48 : Below w.heap.size w w_24 := (bt (bt (bt (bg (bt HB hb_10) hg_15 (HB).size) hb_19) hb_23) hb_25)
   refine ⟨(i + 1, b + (min (opLen (xs.getD i op0)) 1099511627777), r + (min (opLen (xs.getD i op0)) 1099511627777)), by kernel_rfl, ?_, ?_⟩
   ·have hbi : B.bE xs i = 0 := by unfold B.bE; rw [if_neg (by omega), if_neg (by omega)]
    exact ⟨by omega, fun j_ hj_ => (by by_cases h_ : j_ < i; (· exact hb0 j_ h_); (· obtain rfl : j_ = i := (by omega); exact hbi)), by omega, by omega, hB_48⟩
   (try dsimp only); omega
  refine xr1 1 [(21, .eq bT)] [(21, bT)] [20] (nT c_20) ?_
  refine nl (ct (sg (xe0 5 [(2, .slice none 0 0), (3, nv i), (4, i6 (pErr (xs.getD i op0) : Int))] ?_)))
  refine nl (X_ret (rj [.slice none 0 0, i6 (i : Int), i6 (pErr (xs.getD i op0) : Int)] hR_ ?_))
  have hB_49 : Below w.heap.size w w_18 := (bt (bg (bt HB hb_10) hg_15 (HB).size) hb_19)
  have hbi : B.bE xs i = pErr (xs.getD i op0) := by unfold B.bE; rw [if_pos (by omega)]
  have hbn : B.bE xs i ≠ 0 := by omega
  have hfo : B.bOf xs = (i, B.bE xs i) := B.first_at hb0 hbn (show i < xs.length by omega)
  rw [hfo, hbi]
  exact ⟨hB_49, .inr ⟨by (try dsimp only); omega, rfl⟩⟩
 refine xr1 1 [(14, .eq bF)] [(14, bF)] [] (dF c_1) ?_
 refine nl (sq (cf (X_exit (sg (xe0 1 [(47, aL A xs c)] ?_)))))
 have hbf : B.bOf xs = (0, 0) := B.first_none fun j_ hj_ => hb0 j_ (by omega)
 have hgd := B.bOf_ok (xs := xs) (by rw [hbf])
 refine xc 158 ent158 [aL A xs c] (r6canonical_any A c xs W0 _ (bt hW HB) (RX.OpK.of_C hx (bt hW HB)) hgd.1 hgd.2.1 hn hz ht) ?_
 rintro e w_52 ⟨A_50, c_51, rfl, hm_53, hb_54⟩; refine ⟨_, rfl, ?_⟩
 refine xe0 3 [(2, aL A_50 (B.can xs) c_51), (3, i6 0), (4, i6 0)] ?_
 refine nl (X_ret (rj [.slice A_50 ((B.can xs).length) c_51, i6 0, i6 0] hR_ ?_))
 rw [hbf]
 exact ⟨(bt HB hb_54), .inl ⟨rfl, A_50, c_51, rfl, (MixK.low hm_53 (HB).size)⟩⟩
theorem ent164 : Ent Tryz.prog 164 := ent_of Tryz.func164 (by kernel_rfl) rfl
theorem ent102 : Ent Tryz.prog 102 := ent_of Tryz.func102 (by kernel_rfl) rfl
theorem infoSp : (Tryz.prog.info? 102).map (fun i => (i.zero, i.size, i.bytes)) = some (some (.agg #[i6 0, s0, i6 0, i6 0, s0, i6 0, .slice none 0 0]), 7, 88) := by kernel_rfl
theorem spAttrs_any (A : Option Addr) (c : Nat) (xs : List At) (w : World) (hx : kAttr.C w A xs.length xs) (hn : xs.length ≤ 100000000) : Calls Tryz.prog 164 #[.slice A xs.length c] w fun e w' => ∃ A' c', e = .returned (.slice A' xs.length c') ∧ kAttrsS.M w' w.heap.size (OkFrom w.heap.size) xs [.slice A' xs.length c'] ∧ Below w.heap.size w w' := by
 have hpl : xs.length ≤ 9223372036854775807 := hx.2.1
 refine en Tryz.func164 rfl 15 [(0, aL A xs c)] (fun R_ hR_ => ?_)
 refine sg (xe0 1 [(0, aL A xs c)] ?_)
 refine nl (sq (sg (xr0 2 [(4, i6 (xs.length : Int))] [] ?_)))
 by_cases c_1 : (xs.length : Int) = 0
 ·refine xr1 1 [(5, .eq bT)] [(5, bT)] [4] (bE c_1) ?_
  refine nl (ct (sg (xe0 1 [(2, .slice none 0 0)] ?_)))
  refine nl (X_ret (rj [.slice none 0 0] hR_ ?_))
  have h0 : xs = [] := List.eq_nil_of_length_eq_zero (by omega)
  subst h0
  exact ⟨none, 0, rfl, ⟨none, 0, rfl, .inl ⟨rfl, rfl, rfl⟩⟩, (Below.refl _ _)⟩
 refine xr1 1 [(5, .eq bF)] [(5, bF)] [4] (bN c_1) ?_
 refine nl (cf (sk (sg (xw 1 [] [(6, .slice (some ⟨w.heap.size, 0, none⟩) 0 0)] [5] (w.alloc (.cells #[] 57)) [] trivial ?_))))
 obtain ⟨w_2, hw_6, hb_3, hk_4, hz_5⟩ := new_world w #[] 57
 rw [hw_6]
 refine xr0 1 [(7, aL A xs c)] [] ?_
 have hr_7 := Kd.R_litB kAttr (W := w) (e := 57) (cs := #[]) [] hk_4 (repsAttr []) (Nat.le_of_ble_eq_true (by kernel_rfl))
 refine XL_appendAll (c' := c) kAttr rfl rfl rfl w.heap.size 57 (.agg #[s0, i6 0, i6 0, s0]) 48 Tryz.underlying49 info57 rfl (by decide) (by omega) ([]) xs (by kernel_rfl) hr_7 (Kd.C_below hx hb_3) kAttr_KM (hb_3).size (by first | omega | (simp; omega)) ?_
 intro A_8 c_9 w_10 hr_11 hc_12 hg_13 hl_14 ha_15
 have he_16 : ([] ++ xs) = xs := List.nil_append _
 rw [he_16] at hr_11 ⊢
 refine xw 2 [] [(8, aL A_8 xs c_9), (10, .slice (some ⟨w_10.heap.size, 0, none⟩) 1 1)] [6, 7] (w_10.alloc (.cells #[sT (⟨#[115, 112, 97, 114, 101]⟩ : ByteArray), i6 0, i6 0, s0] 57)) [] trivial ?_
 obtain ⟨w_17, hw_21, hb_18, hk_19, hz_20⟩ := new_world w_10 #[sT (⟨#[115, 112, 97, 114, 101]⟩ : ByteArray), i6 0, i6 0, s0] 57
 rw [hw_21]
 rw [← hw_21]
 refine XL_append kAttr rfl rfl rfl w.heap.size 57 (.agg #[s0, i6 0, i6 0, s0]) 48 Tryz.underlying49 info57 rfl (by decide) (by omega) xs ((⟨#[115, 112, 97, 114, 101]⟩ : ByteArray), 0, 0, ByteArray.empty) [sT (⟨#[115, 112, 97, 114, 101]⟩ : ByteArray), i6 0, i6 0, s0] (fun _ => False) (by kernel_rfl) (kAttr_M _ _ _ _) (fun _ h => h.elim) hr_11 ((bgo hb_3 hg_13 hl_14 (Nat.le_refl _))).size (by omega) ?_
 intro A_22 c_23 w_24 hr_25 hc_26 hg_27 hl_28 ha_29
 have hC_30 : kAttr.C w_24 A_22 xs.length xs := by have h := RX.Kd.C_take (m := xs.length) (Kd.R_C hr_25) (by first | omega | (simp; done) | (simp; omega)); rwa [show (List.take xs.length (xs ++ [((⟨#[115, 112, 97, 114, 101]⟩ : ByteArray), 0, 0, ByteArray.empty)])) = xs from List.take_left ..] at h
 refine xe 4 [(14, .as (aL A_22 xs c_23))] [(2, aL A_22 xs c_23)] [RunsAs Tryz.prog [(11, aL A_22 (xs ++ [((⟨#[115, 112, 97, 114, 101]⟩ : ByteArray), 0, 0, ByteArray.empty)]) c_23), (13, i6 (xs.length : Int))] (Go.Op.slice 49 (Go.Operand.tmp 11) none (some (Go.Operand.tmp 13)) none) 49 (aL A_22 xs c_23) w_24] ⟨runs_slice_h (h := (xs.length : Int)) rfl rfl rfl rfl (by omega) (by have h := hc_26; (try simp only [List.length_append, List.length_cons, List.length_nil] at h); omega), trivial⟩ ?_
 refine nl (X_ret (rj [aL A_22 xs c_23] hR_ ?_))
 have hB_31 : Below w.heap.size w w_24 := (bgo (bgo hb_3 hg_13 hl_14 (Nat.le_refl _)) hg_27 hl_28 (Nat.le_refl _))
 have hR := hr_25
 rw [List.length_append, List.length_singleton] at hR
 exact ⟨_, _, rfl, ⟨_, _, rfl, .inr ⟨_, rfl, Kd.R_low hR (Nat.le_refl _)⟩⟩, hB_31⟩
set_option maxHeartbeats 2000000 in
theorem spCopy_any (A : Option Addr) (c : Nat) (xs : List OpA) (w : World) (hx : kOp.C w A xs.length xs) (hn : xs.length ≤ 1100000) (hz : ∀ i, i < xs.length → opSz (xs.getD i op0)) : Calls Tryz.prog 102 #[.slice A xs.length c] w fun e w' => ∃ A' c', e = .returned (.slice A' xs.length c') ∧ xs.length + 1 ≤ c' ∧ kOpS.R 102 w' w.heap.size (OkFrom w.heap.size) (.slice A' (xs.length + 1) c') (xs ++ [sp77]) ∧ Below w.heap.size w w' := by
 have hpl : xs.length ≤ 9223372036854775807 := hx.2.1
 refine en Tryz.func102 rfl 29 [(0, aL A xs c)] (fun R_ hR_ => ?_)
 refine sg (xe0 1 [(0, aL A xs c)] ?_)
 refine nl (sg (xw 1 [] [(6, .slice (some ⟨w.heap.size, 0, none⟩) 0 0)] [] (w.alloc (.cells #[] 102)) [] trivial ?_))
 obtain ⟨w_1, hw_5, hb_2, hk_3, hz_4⟩ := new_world w #[] 102
 rw [hw_5]
 refine xr0 1 [(3, .slice (some ⟨w.heap.size, 0, none⟩) 0 0)] [6] ?_
 refine nl (sq (sg (xr0 3 [(7, aL A xs c), (8, i6 (xs.length : Int)), (9, i6 0)] [] ?_)))
 refine nl (X_block ?_)
 have hr_6 := Kd.R_litB kOpS (W := w) (e := 102) (cs := #[]) [] hk_3 (repsOpS0 [] (fun _ h => by cases h)) (Nat.le_of_ble_eq_true (by kernel_rfl))
 refine X_loop (ι := Nat × Option Addr × Nat × List OpA) (fun ⟨i, A3, c3, zs3⟩ => [(0, aL A xs c), (3, aL A3 zs3 c3), (7, aL A xs c), (8, i6 (xs.length : Int)), (9, i6 (i : Int))]) (fun ⟨i, A3, c3, zs3⟩ wl => i ≤ xs.length ∧ zs3 = xs.take i ∧ kOpS.R 102 wl w.heap.size (OkFrom w.heap.size) (aL A3 zs3 c3) zs3 ∧ w.heap.size ≤ wl.heap.size ∧ Below w.heap.size w wl) (fun ⟨i, A3, c3, zs3⟩ => xs.length - i) (0, (some ⟨w.heap.size, 0, none⟩), 0, []) ⟨by omega, rfl, hr_6, (hb_2).size, hb_2⟩ (by kernel_rfl) ?_
 rintro ⟨i, A3, c3, zs3⟩ wl ⟨hi, he3, hr3, hle3, HB⟩
 have hzl : zs3.length = min i xs.length := by rw [he3, List.length_take]
 have hatl := fun (h_ : i < xs.length) => (hz i h_).2.2.1
 refine sq (X_region ?_)
 by_cases c_7 : (i : Int) < (xs.length : Int)
 ·refine xr1 1 [(10, .eq bT)] [(10, bT)] [] (dT c_7) ?_
  refine nl (sq (ct (sk (sq (bk (sq (X_region ?_)))))))
  obtain ⟨ad_8, B_11, c_12, ha_9, hc_10, hl_13, hC_14⟩ := Kd.atOp (Kd.C_below hx HB) (i := (i : Int)) (by omega) (by omega)
  replace hc_10 : CellsAt wl (ad_8.add ((i : Int).toNat * 7)) (o7L (xs.getD i op0) (aL B_11 (xs.getD i op0).attrs c_12)) := hc_10
  replace hl_13 : (xs.getD i op0).attrs.length ≤ c_12 := hl_13
  replace hC_14 : kAttr.C wl B_11 ((xs.getD i op0).attrs.length) (xs.getD i op0).attrs := hC_14
  refine xw 3 [(11, .idx ad_8), (12, .load (.agg (o7A (xs.getD i op0) (aL B_11 (xs.getD i op0).attrs c_12))))] [(5, pw wl.heap.size 0), (12, .agg (o7A (xs.getD i op0) (aL B_11 (xs.getD i op0).attrs c_12)))] [10] (wl.alloc (.cells #[i6 0, s0, i6 0, i6 0, s0, i6 0, .slice none 0 0] 102)) [A = some ad_8, (0 : Int) ≤ (i : Int), (i : Int) < (xs.length : Int), la 102 (ad_8.add ((i : Int).toNat * 7)) (.agg (o7A (xs.getD i op0) (aL B_11 (xs.getD i op0).attrs c_12))) wl] ⟨ha_9, (by omega), (by omega), loadsE rfl rfl hc_10 0 ⟨by kernel_rfl, by kernel_rfl⟩, trivial⟩ ?_
  obtain ⟨w_15, hw_19, hb_16, hk_17, hz_18⟩ := new_world wl #[i6 0, s0, i6 0, i6 0, s0, i6 0, .slice none 0 0] 102
  rw [hw_19]
  refine xst (.agg (o7A (xs.getD i op0) (aL B_11 (xs.getD i op0).attrs c_12))) hk_17 0 (o7A (xs.getD i op0) (aL B_11 (xs.getD i op0).attrs c_12)) (fun w_20 hg_21 hk_22 hz_23 => ?_)
  refine nl (sg (xr1 2 [(14, .load (aL B_11 (xs.getD i op0).attrs c_12))] [(14, aL B_11 (xs.getD i op0).attrs c_12)] [12] (lc 49 hk_22 6) ?_))
  refine xc 164 ent164 [aL B_11 (xs.getD i op0).attrs c_12] (spAttrs_any _ _ ((xs.getD i op0).attrs) _ (Kd.C_below hC_14 (bg hb_16 hg_21 (Nat.le_refl _))) (by omega)) ?_
  rintro e w_26 ⟨A_24, c_25, rfl, hM_28, hb_27⟩; refine ⟨_, rfl, ?_⟩
  refine xr0 1 [(15, aL A_24 (xs.getD i op0).attrs c_25), (16, pw wl.heap.size 6)] [14] ?_
  refine xst (aL A_24 (xs.getD i op0).attrs c_25) (Blk.below hk_22 hb_27) 6 (o7A (xs.getD i op0) (aL A_24 (xs.getD i op0).attrs c_25)) (fun w_29 hg_30 hk_31 hz_32 => ?_)
  refine nl (rg (xw 3 [(18, .load (.agg (o7A (xs.getD i op0) (aL A_24 (xs.getD i op0).attrs c_25))))] [(17, aL A3 zs3 c3), (19, .slice (some ⟨w_29.heap.size, 0, none⟩) 1 1)] [3, 5, 15, 16] (w_29.alloc (.cells (o7A (xs.getD i op0) (aL A_24 (xs.getD i op0).attrs c_25)) 102)) [la 102 (⟨wl.heap.size, 0, none⟩) (.agg (o7A (xs.getD i op0) (aL A_24 (xs.getD i op0).attrs c_25))) w_29] ⟨loadsB rfl rfl hk_31 0 ⟨by kernel_rfl, by kernel_rfl⟩, trivial⟩ ?_))
  obtain ⟨w_33, hw_37, hb_34, hk_35, hz_36⟩ := new_world w_29 (o7A (xs.getD i op0) (aL A_24 (xs.getD i op0).attrs c_25)) 102
  rw [hw_37]
  have hB_41 : Below wl.heap.size wl w_29 := (bg (bt (bg hb_16 hg_21 (Nat.le_refl _)) hb_27) hg_30 (Nat.le_refl _))
  obtain ⟨okp_38, hM_39, hok_40⟩ := Kd.M_apart (Kd.M_past hM_28 hg_30 (Nat.lt_of_lt_of_le (Blk.lt hk_17) hg_21.size)) ((bg (bt HB hb_16) hg_21 hle3)).size (Kd.R_below hr3 hB_41) (by decide)
  rw [← hw_37]
  have hB_50 : Below w.heap.size w w_29 := (bg (bt (bg (bt HB hb_16) hg_21 hle3) hb_27) hg_30 hle3)
  refine XL_append kOpS rfl rfl rfl w.heap.size 102 (.agg #[i6 0, s0, i6 0, i6 0, s0, i6 0, .slice none 0 0]) 88 Tryz.underlying22 infoSp rfl (by decide) (by omega) zs3 (⟨(xs.getD i op0).kind, (xs.getD i op0).text, (xs.getD i op0).vk, (xs.getD i op0).vn, (xs.getD i op0).vt, (xs.getD i op0).count, (xs.getD i op0).attrs⟩ : OpA) (o7L (xs.getD i op0) (aL A_24 (xs.getD i op0).attrs c_25)) okp_38 (by kernel_rfl) (kOpS_M (x := (⟨(xs.getD i op0).kind, (xs.getD i op0).text, (xs.getD i op0).vk, (xs.getD i op0).vn, (xs.getD i op0).vt, (xs.getD i op0).count, (xs.getD i op0).attrs⟩ : OpA)) hM_39) hok_40 (Kd.R_below hr3 hB_41) (hB_50).size (by first | omega | (simp; omega)) ?_
  intro A_42 c_43 w_44 hr_45 hc_46 hg_47 hl_48 ha_49
  have he_51 : (zs3 ++ [(⟨(xs.getD i op0).kind, (xs.getD i op0).text, (xs.getD i op0).vk, (xs.getD i op0).vn, (xs.getD i op0).vt, (xs.getD i op0).count, (xs.getD i op0).attrs⟩ : OpA)]) = (xs.take (i + 1)) := by rw [he3]; exact (take_snocD op0 xs i (by omega)).symm
  rw [he_51] at hr_45 ⊢
  refine xe0 1 [(0, aL A xs c), (3, aL A_42 (xs.take (i + 1)) c_43), (7, aL A xs c), (8, i6 (xs.length : Int)), (9, nv i)] ?_
  refine nl (rg (xr1 2 [(21, .eq (i6 ((i : Int) + 1)))] [(9, i6 ((i : Int) + 1))] [] (w6 ((i : Int) + 1)) ?_))
  refine nl ?_
  refine ⟨(i + 1, A_42, c_43, (xs.take (i + 1))), by kernel_rfl, ?_, ?_⟩
  ·exact ⟨by omega, rfl, hr_45, ((bgo hB_50 hg_47 hl_48 (Nat.le_refl _))).size, (bgo hB_50 hg_47 hl_48 (Nat.le_refl _))⟩
  (try dsimp only); omega
 refine xr1 1 [(10, .eq bF)] [(10, bF)] [] (dF c_7) ?_
 refine nl (sq (cf (X_exit (sg (xw 3 [] [(22, aL A3 zs3 c3), (24, .slice (some ⟨wl.heap.size, 0, none⟩) 1 1)] [3, 7, 8, 9, 10] (wl.alloc (.cells #[i6 77, s0, i6 0, i6 0, s0, i6 0, .slice none 0 0] 102)) [] trivial ?_)))))
 obtain ⟨w_52, hw_56, hb_53, hk_54, hz_55⟩ := new_world wl #[i6 77, s0, i6 0, i6 0, s0, i6 0, .slice none 0 0] 102
 rw [hw_56]
 rw [← hw_56]
 refine XL_append kOpS rfl rfl rfl w.heap.size 102 (.agg #[i6 0, s0, i6 0, i6 0, s0, i6 0, .slice none 0 0]) 88 Tryz.underlying22 infoSp rfl (by decide) (by omega) zs3 (⟨77, ByteArray.empty, 0, 0, ByteArray.empty, 0, []⟩ : OpA) [i6 77, s0, i6 0, i6 0, s0, i6 0, .slice none 0 0] (fun _ => False) (by kernel_rfl) (kOpS_M0 (⟨77, ByteArray.empty, 0, 0, ByteArray.empty, 0, []⟩ : OpA) rfl) (fun _ h => h.elim) hr3 hle3 (by first | omega | (simp; omega)) ?_
 intro A_57 c_58 w_59 hr_60 hc_61 hg_62 hl_63 ha_64
 have hC_65 : kOpS.C w_59 A_57 xs.length xs := by have h := RX.Kd.C_take (m := xs.length) (Kd.R_C hr_60) (by first | omega | (simp; done) | (simp; omega)); rwa [show (List.take xs.length (zs3 ++ [(⟨77, ByteArray.empty, 0, 0, ByteArray.empty, 0, []⟩ : OpA)])) = xs from by rw [show zs3 = xs from by rw [he3]; exact List.take_of_length_le (by omega)]; exact List.take_left ..] at h
 refine xe 4 [(28, .as (aL A_57 xs c_58))] [(2, aL A_57 xs c_58)] [RunsAs Tryz.prog [(25, aL A_57 (zs3 ++ [(⟨77, ByteArray.empty, 0, 0, ByteArray.empty, 0, []⟩ : OpA)]) c_58), (27, i6 (xs.length : Int))] (Go.Op.slice 22 (Go.Operand.tmp 25) none (some (Go.Operand.tmp 27)) none) 22 (aL A_57 xs c_58) w_59] ⟨runs_slice_h (h := (xs.length : Int)) rfl rfl rfl rfl (by omega) (by have h := hc_61; (try simp only [List.length_append, List.length_cons, List.length_nil] at h); omega), trivial⟩ ?_
 refine nl (X_ret (rj [aL A_57 xs c_58] hR_ ?_))
 have hxi : xs.take i = xs := List.take_of_length_le (by omega)
 have hR := hr_60
 have hcp := hc_61
 rw [hxi] at he3
 subst he3
 rw [List.length_append, List.length_singleton] at hR hcp
 exact ⟨_, _, rfl, hcp, Kd.R_low hR (Nat.le_refl _), (bgo HB hg_62 hl_63 (Nat.le_refl _))⟩
theorem ent35 : Ent Tryz.prog 35 := ent_of Tryz.func35 (by kernel_rfl) rfl
theorem ent34 : Ent Tryz.prog 34 := ent_of Tryz.func34 (by kernel_rfl) rfl
theorem made_any (A : Option Addr) (c : Nat) (xs : List OpA) (w : World) (hx : kOp.C w A xs.length xs) (hxc : xs.length ≤ c) (hn : xs.length ≤ 500000) (hz : ∀ i, i < xs.length → opSz (xs.getD i op0)) (ht : B.txS xs ≤ 50000000) (hT : Tabs w) (es : List Addr) (hE : ErrsO w es) : Calls Tryz.prog 35 #[.slice A xs.length c] w fun e w' => Below w.heap.size w w' ∧ (((B.bOf xs).2 = 0 ∧ ∃ d A1 c1 A2 c2, e = .returned (.tuple #[pw d 0, .slice A2 (B.can xs).length c2, bT]) ∧ DeltaR w' w.heap.size d A1 c1 (B.can xs) ∧ MixK kOp op0 102 w.heap.size w w' A2 (B.can xs).length c2 (B.can xs)) ∨ ((B.bOf xs).2 ≠ 0 ∧ e = .returned (.tuple #[.pointer none, .slice none 0 0, bF]))) := by
 refine en Tryz.func35 rfl 31 [(0, aL A xs c)] (fun R_ hR_ => ?_)
 refine sg (xe0 3 [(0, aL A xs c)] ?_)
 refine nl (sg (xr0 1 [(12, aL A xs c)] [] ?_))
 refine xc 101 ent101 [aL A xs c] (r6of_any _ _ xs w _ (Below.refl _ _) hx (by omega) hz ht hT) ?_
 rintro e w_1 ⟨hb_2, ⟨hb0_3, A_4, c_5, rfl, hm_6⟩ | ⟨hb0_3, rfl⟩⟩
 ·refine ⟨_, rfl, ?_⟩
  refine xr0 7 [(5, aL A_4 (B.can xs) c_5), (7, i6 0)] [12, 13] ?_
  refine nl (sq (sg (xr0 2 [(18, bF)] [7] ?_)))
  refine nl (cf (sk (sg (xr0 1 [(20, aL A xs c)] [0, 18] ?_))))
  refine xc 102 ent102 [aL A xs c] (spCopy_any _ _ xs _ (Kd.C_below hx hb_2) (by omega) hz) ?_
  rintro e w_11 ⟨A_7, c_8, rfl, hc_9, hR_10, hb_12⟩; refine ⟨_, rfl, ?_⟩
  have hS_13 := Kd.R_C hR_10
  have hC_14 : kOp.C w_11 A_7 xs.length xs := kOpS_C (kOpS_init hS_13)
  refine xc 65 ent65 [aL A_7 xs c_8] (bof_any _ _ xs _ hC_14 (Nat.le_of_succ_le hc_9) (by omega) hz ht (hT.below (bt hb_2 hb_12)) es (hE.below (bt hb_2 hb_12))) ?_
  rintro e w_15 ⟨hb_16, ⟨hb0_17, d, A_18, c_19, rfl, hd_20⟩ | ⟨hb0_17, rfl⟩⟩
  ·refine ⟨_, rfl, ?_⟩
   refine xr0 7 [(8, pw d 0), (10, .nilIface)] [20, 21, 22] ?_
   refine nl (sq (sg (xe0 2 [(5, aL A_4 (B.can xs) c_5), (8, pw d 0), (27, bF)] ?_)))
   refine nl (cf (sk (sg (xe0 5 [(2, pw d 0), (3, aL A_4 (B.can xs) c_5), (4, bT)] ?_))))
   refine nl (X_ret (rj [pw d 0, .slice A_4 ((B.can xs).length) c_5, bT] hR_ ?_))
   exact ⟨(bt (bt hb_2 hb_12) hb_16), .inl ⟨hb0_3, d, A_18, c_19, A_4, c_5, rfl, ⟨Nat.le_trans ((bt hb_2 hb_12)).size hd_20.1, hd_20.2.1, Kd.R_low hd_20.2.2 ((bt hb_2 hb_12)).size⟩, MixK.low (MixK.below hm_6 (bt hb_12 hb_16)) (Nat.le_refl _)⟩⟩
  exact absurd hb0_3 hb0_17
 refine ⟨_, rfl, ?_⟩
 refine xr0 7 [(5, .slice none 0 0), (7, i6 ((B.bOf xs).2 : Int))] [12, 13] ?_
 refine nl (sq (sg (xr0 1 [(17, i6 ((B.bOf xs).2 : Int))] [7] ?_)))
 by_cases c_21 : ((B.bOf xs).2 : Int) = 0
 ·exfalso; omega
 refine xr1 1 [(18, .eq bT)] [(18, bT)] [17] (nT c_21) ?_
 refine nl (ct (sg (xe0 3 [(2, .pointer none), (3, .slice none 0 0), (4, bF)] ?_)))
 refine nl (X_ret (rj [.pointer none, .slice none 0 0, bF] hR_ ?_))
 exact ⟨hb_2, .inr ⟨hb0_3, rfl⟩⟩
def hvS : List OpA → Nat
 | [] => 0
 | o :: r => (1 + o.text.size + o.attrs.length) + hvS r
theorem hvS_append : ∀ xs ys : List OpA, hvS (xs ++ ys) = hvS xs + hvS ys
 | [], ys => by simp [hvS]
 | o :: r, ys => by simp only [List.cons_append, hvS, hvS_append r ys]; omega
theorem hvS_take {xs : List OpA} {i : Nat} (h : i < xs.length) : hvS (xs.take (i + 1)) = hvS (xs.take i) + (1 + (xs.getD i op0).text.size + (xs.getD i op0).attrs.length) := by rw [take_snocD op0 xs i h, hvS_append]; simp [hvS]
theorem hvS_bd : ∀ xs : List OpA, B.txS xs ≤ hvS xs ∧ xs.length ≤ hvS xs
 | [] => ⟨Nat.le_refl _, Nat.le_refl _⟩
 | o :: r => by
  have := hvS_bd r
  simp only [B.txS, hvS, List.length_cons]
  omega
theorem heavy_any (A : Option Addr) (c : Nat) (xs : List OpA) (w : World) (hx : kOp.C w A xs.length xs) (hn : xs.length ≤ 1100000) (hz : ∀ i, i < xs.length → opSz (xs.getD i op0)) : Calls Tryz.prog 34 #[.slice A xs.length c] w fun e w' => e = .returned (.bool (decide (6000 < hvS xs))) ∧ Below w.heap.size w w' := by
 have hpl : xs.length ≤ 9223372036854775807 := hx.2.1
 refine en Tryz.func34 rfl 25 [(0, aL A xs c)] (fun R_ hR_ => ?_)
 refine sg (xe0 1 [(0, aL A xs c)] ?_)
 refine nl (sg (xr0 1 [(3, i6 0)] [] ?_))
 refine nl (sq (sg (xr0 3 [(6, aL A xs c), (7, i6 (xs.length : Int)), (8, i6 0)] [0] ?_)))
 refine nl (bk (X_loop (ι := Nat) (fun i => [(3, i6 (hvS (xs.take i) : Int)), (6, aL A xs c), (7, i6 (xs.length : Int)), (8, i6 (i : Int))]) (fun i wl => i ≤ xs.length ∧ hvS (xs.take i) ≤ i * 70000000 ∧ Below w.heap.size w wl) (fun i => xs.length - i) 0 ⟨Nat.zero_le _, Nat.le_refl _, (Below.refl _ _)⟩ (by kernel_rfl) ?_))
 rintro i wl ⟨hi, hsz, HB⟩
 have hzi := fun (h_ : i < xs.length) => hz i h_
 have hlt := fun (h_ : i < xs.length) => hvS_take h_
 refine sq (X_region ?_)
 by_cases c_1 : (i : Int) < (xs.length : Int)
 ·refine xr1 1 [(9, .eq bT)] [(9, bT)] [] (dT c_1) ?_
  refine nl (sq (ct (sk (sq (bk (sq (X_region ?_)))))))
  obtain ⟨ad_2, B_5, c_6, ha_3, hc_4, hl_7, hC_8⟩ := Kd.atOp (Kd.C_below hx HB) (i := (i : Int)) (by omega) (by omega)
  replace hc_4 : CellsAt wl (ad_2.add ((i : Int).toNat * 7)) (o7L (xs.getD i op0) (aL B_5 (xs.getD i op0).attrs c_6)) := hc_4
  replace hl_7 : (xs.getD i op0).attrs.length ≤ c_6 := hl_7
  replace hC_8 : kAttr.C wl B_5 ((xs.getD i op0).attrs.length) (xs.getD i op0).attrs := hC_8
  refine xw 3 [(10, .idx ad_2), (11, .load (.agg (o7A (xs.getD i op0) (aL B_5 (xs.getD i op0).attrs c_6))))] [(5, pw wl.heap.size 0), (11, .agg (o7A (xs.getD i op0) (aL B_5 (xs.getD i op0).attrs c_6)))] [9] (wl.alloc (.cells #[i6 0, s0, i6 0, i6 0, s0, i6 0, .slice none 0 0] 102)) [A = some ad_2, (0 : Int) ≤ (i : Int), (i : Int) < (xs.length : Int), la 102 (ad_2.add ((i : Int).toNat * 7)) (.agg (o7A (xs.getD i op0) (aL B_5 (xs.getD i op0).attrs c_6))) wl] ⟨ha_3, (by omega), (by omega), loadsE rfl rfl hc_4 0 ⟨by kernel_rfl, by kernel_rfl⟩, trivial⟩ ?_
  obtain ⟨w_9, hw_13, hb_10, hk_11, hz_12⟩ := new_world wl #[i6 0, s0, i6 0, i6 0, s0, i6 0, .slice none 0 0] 102
  rw [hw_13]
  refine xst (.agg (o7A (xs.getD i op0) (aL B_5 (xs.getD i op0).attrs c_6))) hk_11 0 (o7A (xs.getD i op0) (aL B_5 (xs.getD i op0).attrs c_6)) (fun w_14 hg_15 hk_16 hz_17 => ?_)
  refine nl (rg (xr0 1 [(12, i6 (hvS (xs.take i) : Int))] [3, 11] ?_))
  have hszi := hzi (by omega)
  have hs1 := hszi.1
  have hs3 := hszi.2.2.1
  have hlg := hlt (by omega)
  refine xr 10 [(14, .load (sT ((xs.getD i op0).text))), (16, .eq (i6 (1 + (((xs.getD i op0).text).size : Int)))), (18, .load (aL B_5 (xs.getD i op0).attrs c_6)), (20, .eq (i6 ((1 + (((xs.getD i op0).text).size : Int)) + ((xs.getD i op0).attrs.length : Int)))), (21, .eq (i6 (hvS (xs.take (i + 1)) : Int)))] [(3, i6 (hvS (xs.take (i + 1)) : Int))] [5, 12] [_, _, _, _, i6 (IntKind.i64.wrap ((hvS (xs.take i) : Int) + ((1 + (((xs.getD i op0).text).size : Int)) + ((xs.getD i op0).attrs.length : Int)))) = i6 (hvS (xs.take (i + 1)) : Int)] ⟨lc 9 hk_16 1, w6 (1 + (((xs.getD i op0).text).size : Int)), lc 49 hk_16 6, w6 ((1 + (((xs.getD i op0).text).size : Int)) + ((xs.getD i op0).attrs.length : Int)), (by rw [show (hvS (xs.take i) : Int) + ((1 + ((xs.getD i op0).text.size : Int)) + ((xs.getD i op0).attrs.length : Int)) = (hvS (xs.take (i + 1)) : Int) from by omega]; exact wr_i64 (by omega) (by omega)), trivial⟩ ?_
  refine nl (rg (xr1 2 [(22, .eq (i6 ((i : Int) + 1)))] [(8, i6 ((i : Int) + 1))] [] (w6 ((i : Int) + 1)) ?_))
  refine nl ?_
  refine ⟨(i + 1), by kernel_rfl, ?_, ?_⟩
  ·exact ⟨by omega, by have h_ := hlt (by omega); omega, (bg (bt HB hb_10) hg_15 (HB).size)⟩
  (try dsimp only); omega
 refine xr1 1 [(9, .eq bF)] [(9, bF)] [] (dF c_1) ?_
 refine nl (sq (cf (X_exit (sg (xe0 1 [(23, i6 (hvS (xs.take i) : Int))] ?_)))))
 by_cases c_18 : (hvS (xs.take i) : Int) > 6000
 ·refine xe1 2 [(24, .eq bT)] [(2, bT)] (dT c_18) ?_
  refine nl (X_ret (rj [bT] hR_ ?_))
  have hxi : xs.take i = xs := List.take_of_length_le (by omega)
  rw [show decide (6000 < hvS xs) = true from decide_eq_true (by rw [← hxi]; omega)]
  exact ⟨rfl, HB⟩
 refine xe1 2 [(24, .eq bF)] [(2, bF)] (dF c_18) ?_
 refine nl (X_ret (rj [bF] hR_ ?_))
 have hxi : xs.take i = xs := List.take_of_length_le (by omega)
 rw [show decide (6000 < hvS xs) = false from decide_eq_false (by rw [← hxi]; omega)]
 exact ⟨rfl, HB⟩
end Go.Proofs.YtgphmfnkeolbcaaGreatDoor
