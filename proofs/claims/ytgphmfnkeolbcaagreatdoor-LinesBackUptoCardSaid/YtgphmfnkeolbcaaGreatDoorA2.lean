import Derived.Test.YtgphmfnkeolbcaaGreatDoorAn
import Derived.Test.YtgphmfnkeolbcaaGreatDoorSpare
/- What values.Check, attrs.Check answer. Conditions: the tables of utf8, Errs. -/
set_option linter.unusedVariables false
set_option linter.unusedSimpArgs false
set_option maxRecDepth 100000
namespace Go.Proofs.YtgphmfnkeolbcaaGreatDoor
open Go Go.RowKit Go.Proofs.YtgphmfnkeolbcaaGreatDoorW.PrintWords RX
theorem ent192 : Ent Tryz.prog 192 := ent_of Tryz.func192 (by kernel_rfl) rfl
theorem ent146 : Ent Tryz.prog 146 := ent_of Tryz.func146 (by kernel_rfl) rfl
theorem ent191 : Ent Tryz.prog 191 := ent_of Tryz.func191 (by kernel_rfl) rfl
theorem ent149 : Ent Tryz.prog 149 := ent_of Tryz.func149 (by kernel_rfl) rfl
theorem info57 : (Tryz.prog.info? 57).map (fun i => (i.zero, i.size, i.bytes)) = some (some (.agg #[s0, i6 0, i6 0, s0]), 4, 48) := by kernel_rfl
def plainOk (k n : Int) (t : ByteArray) : Bool := decide ((k = 0 ∧ n = 0 ∧ t = ⟨#[]⟩) ∨ (k = 1 ∧ (n = 0 ∨ n = 1) ∧ t = ⟨#[]⟩) ∨ (k = 2 ∧ t = ⟨#[]⟩) ∨ (k = 3 ∧ n = 0))
def plainErr (k n : Int) (t : ByteArray) : Nat := if plainOk k n t = false then 5 else if (uchk t).2 = false then 1 else if 1048576 < t.size then 10 else 0
def pairErr (x : At) : Nat := if x.1 = ⟨#[]⟩ ∨ 64 < x.1.size then 6 else if (uchk x.1).2 = false then 1 else plainErr x.2.1 x.2.2.1 x.2.2.2
theorem null_any (x : At) (w : World) : Calls Tryz.prog 192 #[.agg (a4 x)] w fun e w' => e = .returned (.bool (decide (x.2.1 = 0))) ∧ Below w.heap.size w w' := by
 refine en Tryz.func192 rfl 7 [(0, .agg (a4 x))] (fun R_ hR_ => ?_)
 refine sg (xwe 1 [] [(1, pw w.heap.size 0)] (w.alloc (.cells (a4 x) 57)) [] trivial ?_)
 obtain ⟨w_1, hw_5, hb_2, hk_3, hz_4⟩ := new_world w (a4 x) 57
 rw [hw_5]
 refine xr0 1 [] [] ?_
 refine nl (sg (xe1 3 [(5, .load (i6 x.2.1))] [(5, i6 x.2.1)] (lc 3 hk_3 1) ?_))
 by_cases c_6 : x.2.1 = 0
 ·refine xe1 2 [(6, .eq bT)] [(2, bT)] (bE c_6) ?_
  refine nl (X_ret (rj [bT] hR_ ?_))
  rw [show (decide (x.2.1 = 0)) = true from decide_eq_true c_6]
  exact ⟨rfl, hb_2⟩
 refine xe1 2 [(6, .eq bF)] [(2, bF)] (bN c_6) ?_
 refine nl (X_ret (rj [bF] hR_ ?_))
 rw [show (decide (x.2.1 = 0)) = false from decide_eq_false c_6]
 exact ⟨rfl, hb_2⟩
theorem vcheck_any (k n : Int) (t : ByteArray) (w : World) (hs : t.size ≤ 9223372036854775807) (hT : Tabs w) (es : List Addr) (hE : ErrsA w es) : Calls Tryz.prog 146 #[.agg #[i6 k, i6 n, sT t]] w fun e w' => e = .returned (errV es (plainErr k n t)) ∧ Below w.heap.size w w' := by
 refine en Tryz.func146 rfl 63 [(0, .agg #[i6 k, i6 n, sT t])] (fun R_ hR_ => ?_)
 refine sg (xwe 1 [] [(1, pw w.heap.size 0)] (w.alloc (.cells #[i6 k, i6 n, sT t] 48)) [] trivial ?_)
 obtain ⟨w_1, hw_5, hb_2, hk_3, hz_4⟩ := new_world w #[i6 k, i6 n, sT t] 48
 rw [hw_5]
 refine xr0 1 [] [] ?_
 refine nl (sq (X_still (by kernel_rfl) (by kernel_rfl) (fun wd_6 hb_7 hh_8 => ?_)))
 refine xse 2 [(9, .load (i6 n))] [(1, pw w.heap.size 0), (9, i6 n)] [_] ⟨lc 2 (Blk.below hk_3 hb_7) 1, trivial⟩ ?_
 by_cases c_9 : n = 0
 ·refine xse 3 [(10, .eq bF), (12, .load (sT t))] [(1, pw w.heap.size 0), (10, bF), (12, sT t)] [_, _] ⟨nF c_9, lc 9 (Blk.below hk_3 hb_7) 2, trivial⟩ ?_
  by_cases c_10 : t = (⟨#[]⟩ : ByteArray)
  ·refine xse 3 [(13, .eq bF)] [(1, pw w.heap.size 0), (3, bF), (4, bF)] [Value.bool (!t.toList == (⟨#[]⟩ : ByteArray).toList) = bF] ⟨congrArg Value.bool (strNeF (c_10)), trivial⟩ ?_
   refine XS_nil ?_
   refine sg (xr0 1 [(5, bF)] [] ?_)
   refine nl (X_join (ι := Bool) (fun ok => [(1, pw w.heap.size 0), (5, .bool ok)]) (fun ok wj => ok = plainOk k n t ∧ Below wd_6.heap.size wd_6 wj) ?_ ?_)
   ·refine sg (xr1 2 [(15, .load (i6 k))] [(15, i6 k)] [] (lc 3 (Blk.below hk_3 hb_7) 0) ?_)
    refine nl (bk (sq (X_region ?_)))
    by_cases c_11 : k = 0
    ·refine xr1 2 [(17, .eq bT)] [(16, bT)] [] (bE c_11) ?_
     refine nl (ct (rg (xr0 7 [(5, bT)] [3, 4, 15, 16] ?_)))
     refine nl ?_
     exact ⟨true, by kernel_rfl, ⟨(decide_eq_true (by simp_all)).symm, (Below.refl _ _)⟩⟩
    refine xr1 2 [(17, .eq bF)] [(16, bF)] [] (bN c_11) ?_
    refine nl (cf (sq (X_region ?_)))
    by_cases c_12 : k = 1
    ·refine xr1 2 [(25, .eq bT)] [(24, bT)] [16] (bE c_12) ?_
     refine nl (ct (rg (xr 13 [(27, .load (i6 n)), (28, .eq bT)] [(5, bT)] [3, 4, 15, 24] [_, _] ⟨lc 2 (Blk.below hk_3 hb_7) 1, bE c_9, trivial⟩ ?_)))
     refine nl ?_
     exact ⟨true, by kernel_rfl, ⟨(decide_eq_true (by simp_all)).symm, (Below.refl _ _)⟩⟩
    refine xr1 2 [(25, .eq bF)] [(24, bF)] [16] (bN c_12) ?_
    refine nl (cf (sq (X_region ?_)))
    by_cases c_13 : k = 2
    ·refine xr1 2 [(39, .eq bT)] [(38, bT)] [24] (bE c_13) ?_
     refine nl (ct (rg (xe0 3 [(1, pw w.heap.size 0), (5, bT)] ?_)))
     refine nl ?_
     exact ⟨true, by kernel_rfl, ⟨(decide_eq_true (by simp_all)).symm, (Below.refl _ _)⟩⟩
    refine xr1 2 [(39, .eq bF)] [(38, bF)] [24] (bN c_13) ?_
    refine nl (cf (sq (X_region ?_)))
    by_cases c_14 : k = 3
    ·refine xe1 2 [(43, .eq bT)] [(1, pw w.heap.size 0), (3, bF), (5, bF), (42, bT)] (bE c_14) ?_
     refine nl (ct (rg (xr0 3 [(5, bT)] [3, 42] ?_)))
     refine nl ?_
     exact ⟨true, by kernel_rfl, ⟨(decide_eq_true (by simp_all)).symm, (Below.refl _ _)⟩⟩
    refine xe1 2 [(43, .eq bF)] [(1, pw w.heap.size 0), (3, bF), (5, bF), (42, bF)] (bN c_14) ?_
    refine nl (cf (X_skip ?_))
    exact ⟨false, by kernel_rfl, ⟨(decide_eq_false (by simp_all)).symm, (Below.refl _ _)⟩⟩
   rintro ok wj ⟨hok, HBj⟩
   refine sq (sg (xr0 1 [(46, .bool ok)] [5] ?_))
   by_cases c_15 : ok = true
   ·rw [show (ok : Bool) = true from by simpa using c_15]
    refine xr0 1 [(47, bF)] [46] ?_
    refine nl (cf (sk (sq (sg (xr1 2 [(51, .load (sT t))] [(51, sT t)] [47] (lc 9 (Blk.below hk_3 (bt hb_7 HBj)) 2) ?_)))))
    refine xc 145 ent145 [sT t] (scheck_any t _ (by omega) (hT.below (bt (bt hb_2 hb_7) HBj)) es (hE.below (bt (bt hb_2 hb_7) HBj))) ?_
    rintro e w_16 ⟨rfl, hb_17⟩; refine ⟨_, rfl, ?_⟩
    refine xr0 5 [(7, errV es (if (uchk t).2 then 0 else 1))] [51, 52] ?_
    refine nl (sg (xr0 1 [(55, errV es (if (uchk t).2 then 0 else 1))] [7] ?_))
    by_cases c_18 : (if (uchk t).2 then 0 else 1) = 0
    ·rw [show errV es (if (uchk t).2 then 0 else 1) = .nilIface from by rw [c_18]; rfl]
     refine xe0 1 [(1, pw w.heap.size 0), (56, bF)] ?_
     refine nl (cf (sk (sq (sg (xe1 3 [(59, .load (sT t))] [(60, i6 (t.size : Int))] (lc 9 (Blk.below hk_3 (bt (bt hb_7 HBj) hb_17)) 2) ?_)))))
     by_cases c_19 : (t.size : Int) > 1048576
     ·refine xe1 1 [(61, .eq bT)] [(61, bT)] (dT c_19) ?_
      refine nl (ct (sg (xe 2 [(62, .load (ev es 10))] [(2, ev es 10)] [la 35 (⟨12, 0, none⟩) (ev es 10) w_16] ⟨loads1 rfl (((bt (bt (bt hb_2 hb_7) HBj) hb_17).cell (World.block_lt_of_cell? _ _ (hE.load 10 12 (by decide) (by decide) rfl))).trans (hE.load 10 12 (by decide) (by decide) rfl)), trivial⟩ ?_)))
      refine nl (X_ret (rj [ev es 10] hR_ ?_))
      rw [show plainErr k n t = 10 from by unfold plainErr; simp_all <;> omega]
      exact ⟨rfl, (bt (bt (bt hb_2 hb_7) HBj) hb_17)⟩
     refine xe1 1 [(61, .eq bF)] [(61, bF)] (dF c_19) ?_
     refine nl (cf (sk (sg (xe0 1 [(2, .nilIface)] ?_))))
     refine nl (X_ret (rj [.nilIface] hR_ ?_))
     rw [show plainErr k n t = 0 from by unfold plainErr; simp_all <;> omega]
     exact ⟨rfl, (bt (bt (bt hb_2 hb_7) HBj) hb_17)⟩
    rw [errV_pos es (if (uchk t).2 then 0 else 1) (Nat.pos_of_ne_zero c_18)]
    refine xe0 1 [(1, pw w.heap.size 0), (56, bT)] ?_
    refine nl (ct (sg (xe 2 [(57, .load (ev es 1))] [(2, ev es 1)] [la 35 (⟨6, 0, none⟩) (ev es 1) w_16] ⟨loads1 rfl (((bt (bt (bt hb_2 hb_7) HBj) hb_17).cell (World.block_lt_of_cell? _ _ (hE.load 1 6 (by decide) (by decide) rfl))).trans (hE.load 1 6 (by decide) (by decide) rfl)), trivial⟩ ?_)))
    refine nl (X_ret (rj [ev es 1] hR_ ?_))
    rw [show plainErr k n t = 1 from by unfold plainErr; simp_all <;> omega]
    exact ⟨rfl, (bt (bt (bt hb_2 hb_7) HBj) hb_17)⟩
   rw [show (ok : Bool) = false from by simpa using c_15]
   refine xr0 1 [(47, bT)] [46] ?_
   refine nl (ct (sg (xe 2 [(48, .load (ev es 5))] [(2, ev es 5)] [la 35 (⟨5, 0, none⟩) (ev es 5) wj] ⟨loads1 rfl (((bt (bt hb_2 hb_7) HBj).cell (World.block_lt_of_cell? _ _ (hE.load 5 5 (by decide) (by decide) rfl))).trans (hE.load 5 5 (by decide) (by decide) rfl)), trivial⟩ ?_)))
   refine nl (X_ret (rj [ev es 5] hR_ ?_))
   rw [show plainErr k n t = 5 from by unfold plainErr; simp_all <;> omega]
   exact ⟨rfl, (bt (bt hb_2 hb_7) HBj)⟩
  refine xse 3 [(13, .eq bT)] [(1, pw w.heap.size 0), (3, bF), (4, bT)] [Value.bool (!t.toList == (⟨#[]⟩ : ByteArray).toList) = bT] ⟨congrArg Value.bool (strNeT (c_10)), trivial⟩ ?_
  refine XS_nil ?_
  refine sg (xr0 1 [(5, bF)] [] ?_)
  refine nl (X_join (ι := Bool) (fun ok => [(1, pw w.heap.size 0), (5, .bool ok)]) (fun ok wj => ok = plainOk k n t ∧ Below wd_6.heap.size wd_6 wj) ?_ ?_)
  ·refine sg (xr1 2 [(15, .load (i6 k))] [(15, i6 k)] [] (lc 3 (Blk.below hk_3 hb_7) 0) ?_)
   refine nl (bk (sq (X_region ?_)))
   by_cases c_20 : k = 0
   ·refine xr1 2 [(17, .eq bT)] [(16, bT)] [] (bE c_20) ?_
    refine nl (ct (rg (xr0 7 [] [3, 4, 15, 16] ?_)))
    refine nl ?_
    exact ⟨false, by kernel_rfl, ⟨(decide_eq_false (by simp_all)).symm, (Below.refl _ _)⟩⟩
   refine xr1 2 [(17, .eq bF)] [(16, bF)] [] (bN c_20) ?_
   refine nl (cf (sq (X_region ?_)))
   by_cases c_21 : k = 1
   ·refine xr1 2 [(25, .eq bT)] [(24, bT)] [16] (bE c_21) ?_
    refine nl (ct (rg (xr 13 [(27, .load (i6 n)), (28, .eq bT)] [] [3, 4, 15, 24] [_, _] ⟨lc 2 (Blk.below hk_3 hb_7) 1, bE c_9, trivial⟩ ?_)))
    refine nl ?_
    exact ⟨false, by kernel_rfl, ⟨(decide_eq_false (by simp_all)).symm, (Below.refl _ _)⟩⟩
   refine xr1 2 [(25, .eq bF)] [(24, bF)] [16] (bN c_21) ?_
   refine nl (cf (sq (X_region ?_)))
   by_cases c_22 : k = 2
   ·refine xr1 2 [(39, .eq bT)] [(38, bT)] [24] (bE c_22) ?_
    refine nl (ct (rg (xe0 3 [(1, pw w.heap.size 0), (5, bF)] ?_)))
    refine nl ?_
    exact ⟨false, by kernel_rfl, ⟨(decide_eq_false (by simp_all)).symm, (Below.refl _ _)⟩⟩
   refine xr1 2 [(39, .eq bF)] [(38, bF)] [24] (bN c_22) ?_
   refine nl (cf (sq (X_region ?_)))
   by_cases c_23 : k = 3
   ·refine xe1 2 [(43, .eq bT)] [(1, pw w.heap.size 0), (3, bF), (5, bF), (42, bT)] (bE c_23) ?_
    refine nl (ct (rg (xr0 3 [(5, bT)] [3, 42] ?_)))
    refine nl ?_
    exact ⟨true, by kernel_rfl, ⟨(decide_eq_true (by simp_all)).symm, (Below.refl _ _)⟩⟩
   refine xe1 2 [(43, .eq bF)] [(1, pw w.heap.size 0), (3, bF), (5, bF), (42, bF)] (bN c_23) ?_
   refine nl (cf (X_skip ?_))
   exact ⟨false, by kernel_rfl, ⟨(decide_eq_false (by simp_all)).symm, (Below.refl _ _)⟩⟩
  rintro ok wj ⟨hok, HBj⟩
  refine sq (sg (xr0 1 [(46, .bool ok)] [5] ?_))
  by_cases c_24 : ok = true
  ·rw [show (ok : Bool) = true from by simpa using c_24]
   refine xr0 1 [(47, bF)] [46] ?_
   refine nl (cf (sk (sq (sg (xr1 2 [(51, .load (sT t))] [(51, sT t)] [47] (lc 9 (Blk.below hk_3 (bt hb_7 HBj)) 2) ?_)))))
   refine xc 145 ent145 [sT t] (scheck_any t _ (by omega) (hT.below (bt (bt hb_2 hb_7) HBj)) es (hE.below (bt (bt hb_2 hb_7) HBj))) ?_
   rintro e w_25 ⟨rfl, hb_26⟩; refine ⟨_, rfl, ?_⟩
   refine xr0 5 [(7, errV es (if (uchk t).2 then 0 else 1))] [51, 52] ?_
   refine nl (sg (xr0 1 [(55, errV es (if (uchk t).2 then 0 else 1))] [7] ?_))
   by_cases c_27 : (if (uchk t).2 then 0 else 1) = 0
   ·rw [show errV es (if (uchk t).2 then 0 else 1) = .nilIface from by rw [c_27]; rfl]
    refine xe0 1 [(1, pw w.heap.size 0), (56, bF)] ?_
    refine nl (cf (sk (sq (sg (xe1 3 [(59, .load (sT t))] [(60, i6 (t.size : Int))] (lc 9 (Blk.below hk_3 (bt (bt hb_7 HBj) hb_26)) 2) ?_)))))
    by_cases c_28 : (t.size : Int) > 1048576
    ·refine xe1 1 [(61, .eq bT)] [(61, bT)] (dT c_28) ?_
     refine nl (ct (sg (xe 2 [(62, .load (ev es 10))] [(2, ev es 10)] [la 35 (⟨12, 0, none⟩) (ev es 10) w_25] ⟨loads1 rfl (((bt (bt (bt hb_2 hb_7) HBj) hb_26).cell (World.block_lt_of_cell? _ _ (hE.load 10 12 (by decide) (by decide) rfl))).trans (hE.load 10 12 (by decide) (by decide) rfl)), trivial⟩ ?_)))
     refine nl (X_ret (rj [ev es 10] hR_ ?_))
     rw [show plainErr k n t = 10 from by unfold plainErr; simp_all <;> omega]
     exact ⟨rfl, (bt (bt (bt hb_2 hb_7) HBj) hb_26)⟩
    refine xe1 1 [(61, .eq bF)] [(61, bF)] (dF c_28) ?_
    refine nl (cf (sk (sg (xe0 1 [(2, .nilIface)] ?_))))
    refine nl (X_ret (rj [.nilIface] hR_ ?_))
    rw [show plainErr k n t = 0 from by unfold plainErr; simp_all <;> omega]
    exact ⟨rfl, (bt (bt (bt hb_2 hb_7) HBj) hb_26)⟩
   rw [errV_pos es (if (uchk t).2 then 0 else 1) (Nat.pos_of_ne_zero c_27)]
   refine xe0 1 [(1, pw w.heap.size 0), (56, bT)] ?_
   refine nl (ct (sg (xe 2 [(57, .load (ev es 1))] [(2, ev es 1)] [la 35 (⟨6, 0, none⟩) (ev es 1) w_25] ⟨loads1 rfl (((bt (bt (bt hb_2 hb_7) HBj) hb_26).cell (World.block_lt_of_cell? _ _ (hE.load 1 6 (by decide) (by decide) rfl))).trans (hE.load 1 6 (by decide) (by decide) rfl)), trivial⟩ ?_)))
   refine nl (X_ret (rj [ev es 1] hR_ ?_))
   rw [show plainErr k n t = 1 from by unfold plainErr; simp_all <;> omega]
   exact ⟨rfl, (bt (bt (bt hb_2 hb_7) HBj) hb_26)⟩
  rw [show (ok : Bool) = false from by simpa using c_24]
  refine xr0 1 [(47, bT)] [46] ?_
  refine nl (ct (sg (xe 2 [(48, .load (ev es 5))] [(2, ev es 5)] [la 35 (⟨5, 0, none⟩) (ev es 5) wj] ⟨loads1 rfl (((bt (bt hb_2 hb_7) HBj).cell (World.block_lt_of_cell? _ _ (hE.load 5 5 (by decide) (by decide) rfl))).trans (hE.load 5 5 (by decide) (by decide) rfl)), trivial⟩ ?_)))
  refine nl (X_ret (rj [ev es 5] hR_ ?_))
  rw [show plainErr k n t = 5 from by unfold plainErr; simp_all <;> omega]
  exact ⟨rfl, (bt (bt hb_2 hb_7) HBj)⟩
 refine xse 3 [(10, .eq bT), (12, .load (sT t))] [(1, pw w.heap.size 0), (10, bT), (12, sT t)] [_, _] ⟨nT c_9, lc 9 (Blk.below hk_3 hb_7) 2, trivial⟩ ?_
 by_cases c_29 : t = (⟨#[]⟩ : ByteArray)
 ·refine xse 3 [(13, .eq bF)] [(1, pw w.heap.size 0), (3, bT), (4, bF)] [Value.bool (!t.toList == (⟨#[]⟩ : ByteArray).toList) = bF] ⟨congrArg Value.bool (strNeF (c_29)), trivial⟩ ?_
  refine XS_nil ?_
  refine sg (xr0 1 [(5, bF)] [] ?_)
  refine nl (X_join (ι := Bool) (fun ok => [(1, pw w.heap.size 0), (5, .bool ok)]) (fun ok wj => ok = plainOk k n t ∧ Below wd_6.heap.size wd_6 wj) ?_ ?_)
  ·refine sg (xr1 2 [(15, .load (i6 k))] [(15, i6 k)] [] (lc 3 (Blk.below hk_3 hb_7) 0) ?_)
   refine nl (bk (sq (X_region ?_)))
   by_cases c_30 : k = 0
   ·refine xr1 2 [(17, .eq bT)] [(16, bT)] [] (bE c_30) ?_
    refine nl (ct (rg (xr0 7 [] [3, 4, 15, 16] ?_)))
    refine nl ?_
    exact ⟨false, by kernel_rfl, ⟨(decide_eq_false (by simp_all)).symm, (Below.refl _ _)⟩⟩
   refine xr1 2 [(17, .eq bF)] [(16, bF)] [] (bN c_30) ?_
   refine nl (cf (sq (X_region ?_)))
   by_cases c_31 : k = 1
   ·refine xr1 2 [(25, .eq bT)] [(24, bT)] [16] (bE c_31) ?_
    refine nl (ct (rg (xr 6 [(27, .load (i6 n)), (28, .eq bF), (31, .load (i6 n))] [(29, bF), (31, i6 n)] [3, 5, 15, 24] [_, _, _] ⟨lc 2 (Blk.below hk_3 hb_7) 1, bN c_9, lc 2 (Blk.below hk_3 hb_7) 1, trivial⟩ ?_)))
    by_cases c_32 : n = 1
    ·refine xe1 7 [(32, .eq bT)] [(1, pw w.heap.size 0), (5, bT)] (bE c_32) ?_
     refine nl ?_
     exact ⟨true, by kernel_rfl, ⟨(decide_eq_true (by simp_all)).symm, (Below.refl _ _)⟩⟩
    refine xe1 7 [(32, .eq bF)] [(1, pw w.heap.size 0), (5, bF)] (bN c_32) ?_
    refine nl ?_
    exact ⟨false, by kernel_rfl, ⟨(decide_eq_false (by simp_all)).symm, (Below.refl _ _)⟩⟩
   refine xr1 2 [(25, .eq bF)] [(24, bF)] [16] (bN c_31) ?_
   refine nl (cf (sq (X_region ?_)))
   by_cases c_33 : k = 2
   ·refine xr1 2 [(39, .eq bT)] [(38, bT)] [24] (bE c_33) ?_
    refine nl (ct (rg (xe0 3 [(1, pw w.heap.size 0), (5, bT)] ?_)))
    refine nl ?_
    exact ⟨true, by kernel_rfl, ⟨(decide_eq_true (by simp_all)).symm, (Below.refl _ _)⟩⟩
   refine xr1 2 [(39, .eq bF)] [(38, bF)] [24] (bN c_33) ?_
   refine nl (cf (sq (X_region ?_)))
   by_cases c_34 : k = 3
   ·refine xe1 2 [(43, .eq bT)] [(1, pw w.heap.size 0), (3, bT), (5, bF), (42, bT)] (bE c_34) ?_
    refine nl (ct (rg (xr0 3 [] [3, 42] ?_)))
    refine nl ?_
    exact ⟨false, by kernel_rfl, ⟨(decide_eq_false (by simp_all)).symm, (Below.refl _ _)⟩⟩
   refine xe1 2 [(43, .eq bF)] [(1, pw w.heap.size 0), (3, bT), (5, bF), (42, bF)] (bN c_34) ?_
   refine nl (cf (X_skip ?_))
   exact ⟨false, by kernel_rfl, ⟨(decide_eq_false (by simp_all)).symm, (Below.refl _ _)⟩⟩
  rintro ok wj ⟨hok, HBj⟩
  refine sq (sg (xr0 1 [(46, .bool ok)] [5] ?_))
  by_cases c_35 : ok = true
  ·rw [show (ok : Bool) = true from by simpa using c_35]
   refine xr0 1 [(47, bF)] [46] ?_
   refine nl (cf (sk (sq (sg (xr1 2 [(51, .load (sT t))] [(51, sT t)] [47] (lc 9 (Blk.below hk_3 (bt hb_7 HBj)) 2) ?_)))))
   refine xc 145 ent145 [sT t] (scheck_any t _ (by omega) (hT.below (bt (bt hb_2 hb_7) HBj)) es (hE.below (bt (bt hb_2 hb_7) HBj))) ?_
   rintro e w_36 ⟨rfl, hb_37⟩; refine ⟨_, rfl, ?_⟩
   refine xr0 5 [(7, errV es (if (uchk t).2 then 0 else 1))] [51, 52] ?_
   refine nl (sg (xr0 1 [(55, errV es (if (uchk t).2 then 0 else 1))] [7] ?_))
   by_cases c_38 : (if (uchk t).2 then 0 else 1) = 0
   ·rw [show errV es (if (uchk t).2 then 0 else 1) = .nilIface from by rw [c_38]; rfl]
    refine xe0 1 [(1, pw w.heap.size 0), (56, bF)] ?_
    refine nl (cf (sk (sq (sg (xe1 3 [(59, .load (sT t))] [(60, i6 (t.size : Int))] (lc 9 (Blk.below hk_3 (bt (bt hb_7 HBj) hb_37)) 2) ?_)))))
    by_cases c_39 : (t.size : Int) > 1048576
    ·refine xe1 1 [(61, .eq bT)] [(61, bT)] (dT c_39) ?_
     refine nl (ct (sg (xe 2 [(62, .load (ev es 10))] [(2, ev es 10)] [la 35 (⟨12, 0, none⟩) (ev es 10) w_36] ⟨loads1 rfl (((bt (bt (bt hb_2 hb_7) HBj) hb_37).cell (World.block_lt_of_cell? _ _ (hE.load 10 12 (by decide) (by decide) rfl))).trans (hE.load 10 12 (by decide) (by decide) rfl)), trivial⟩ ?_)))
     refine nl (X_ret (rj [ev es 10] hR_ ?_))
     rw [show plainErr k n t = 10 from by unfold plainErr; simp_all <;> omega]
     exact ⟨rfl, (bt (bt (bt hb_2 hb_7) HBj) hb_37)⟩
    refine xe1 1 [(61, .eq bF)] [(61, bF)] (dF c_39) ?_
    refine nl (cf (sk (sg (xe0 1 [(2, .nilIface)] ?_))))
    refine nl (X_ret (rj [.nilIface] hR_ ?_))
    rw [show plainErr k n t = 0 from by unfold plainErr; simp_all <;> omega]
    exact ⟨rfl, (bt (bt (bt hb_2 hb_7) HBj) hb_37)⟩
   rw [errV_pos es (if (uchk t).2 then 0 else 1) (Nat.pos_of_ne_zero c_38)]
   refine xe0 1 [(1, pw w.heap.size 0), (56, bT)] ?_
   refine nl (ct (sg (xe 2 [(57, .load (ev es 1))] [(2, ev es 1)] [la 35 (⟨6, 0, none⟩) (ev es 1) w_36] ⟨loads1 rfl (((bt (bt (bt hb_2 hb_7) HBj) hb_37).cell (World.block_lt_of_cell? _ _ (hE.load 1 6 (by decide) (by decide) rfl))).trans (hE.load 1 6 (by decide) (by decide) rfl)), trivial⟩ ?_)))
   refine nl (X_ret (rj [ev es 1] hR_ ?_))
   rw [show plainErr k n t = 1 from by unfold plainErr; simp_all <;> omega]
   exact ⟨rfl, (bt (bt (bt hb_2 hb_7) HBj) hb_37)⟩
  rw [show (ok : Bool) = false from by simpa using c_35]
  refine xr0 1 [(47, bT)] [46] ?_
  refine nl (ct (sg (xe 2 [(48, .load (ev es 5))] [(2, ev es 5)] [la 35 (⟨5, 0, none⟩) (ev es 5) wj] ⟨loads1 rfl (((bt (bt hb_2 hb_7) HBj).cell (World.block_lt_of_cell? _ _ (hE.load 5 5 (by decide) (by decide) rfl))).trans (hE.load 5 5 (by decide) (by decide) rfl)), trivial⟩ ?_)))
  refine nl (X_ret (rj [ev es 5] hR_ ?_))
  rw [show plainErr k n t = 5 from by unfold plainErr; simp_all <;> omega]
  exact ⟨rfl, (bt (bt hb_2 hb_7) HBj)⟩
 refine xse 3 [(13, .eq bT)] [(1, pw w.heap.size 0), (3, bT), (4, bT)] [Value.bool (!t.toList == (⟨#[]⟩ : ByteArray).toList) = bT] ⟨congrArg Value.bool (strNeT (c_29)), trivial⟩ ?_
 refine XS_nil ?_
 refine sg (xr0 1 [(5, bF)] [] ?_)
 refine nl (X_join (ι := Bool) (fun ok => [(1, pw w.heap.size 0), (5, .bool ok)]) (fun ok wj => ok = plainOk k n t ∧ Below wd_6.heap.size wd_6 wj) ?_ ?_)
 ·refine sg (xr1 2 [(15, .load (i6 k))] [(15, i6 k)] [] (lc 3 (Blk.below hk_3 hb_7) 0) ?_)
  refine nl (bk (sq (X_region ?_)))
  by_cases c_40 : k = 0
  ·refine xr1 2 [(17, .eq bT)] [(16, bT)] [] (bE c_40) ?_
   refine nl (ct (rg (xr0 7 [] [3, 4, 15, 16] ?_)))
   refine nl ?_
   exact ⟨false, by kernel_rfl, ⟨(decide_eq_false (by simp_all)).symm, (Below.refl _ _)⟩⟩
  refine xr1 2 [(17, .eq bF)] [(16, bF)] [] (bN c_40) ?_
  refine nl (cf (sq (X_region ?_)))
  by_cases c_41 : k = 1
  ·refine xr1 2 [(25, .eq bT)] [(24, bT)] [16] (bE c_41) ?_
   refine nl (ct (rg (xr 6 [(27, .load (i6 n)), (28, .eq bF), (31, .load (i6 n))] [(29, bF), (31, i6 n)] [3, 5, 15, 24] [_, _, _] ⟨lc 2 (Blk.below hk_3 hb_7) 1, bN c_9, lc 2 (Blk.below hk_3 hb_7) 1, trivial⟩ ?_)))
   by_cases c_42 : n = 1
   ·refine xe1 7 [(32, .eq bT)] [(1, pw w.heap.size 0), (5, bF)] (bE c_42) ?_
    refine nl ?_
    exact ⟨false, by kernel_rfl, ⟨(decide_eq_false (by simp_all)).symm, (Below.refl _ _)⟩⟩
   refine xe1 7 [(32, .eq bF)] [(1, pw w.heap.size 0), (5, bF)] (bN c_42) ?_
   refine nl ?_
   exact ⟨false, by kernel_rfl, ⟨(decide_eq_false (by simp_all)).symm, (Below.refl _ _)⟩⟩
  refine xr1 2 [(25, .eq bF)] [(24, bF)] [16] (bN c_41) ?_
  refine nl (cf (sq (X_region ?_)))
  by_cases c_43 : k = 2
  ·refine xr1 2 [(39, .eq bT)] [(38, bT)] [24] (bE c_43) ?_
   refine nl (ct (rg (xe0 3 [(1, pw w.heap.size 0), (5, bF)] ?_)))
   refine nl ?_
   exact ⟨false, by kernel_rfl, ⟨(decide_eq_false (by simp_all)).symm, (Below.refl _ _)⟩⟩
  refine xr1 2 [(39, .eq bF)] [(38, bF)] [24] (bN c_43) ?_
  refine nl (cf (sq (X_region ?_)))
  by_cases c_44 : k = 3
  ·refine xe1 2 [(43, .eq bT)] [(1, pw w.heap.size 0), (3, bT), (5, bF), (42, bT)] (bE c_44) ?_
   refine nl (ct (rg (xr0 3 [] [3, 42] ?_)))
   refine nl ?_
   exact ⟨false, by kernel_rfl, ⟨(decide_eq_false (by simp_all)).symm, (Below.refl _ _)⟩⟩
  refine xe1 2 [(43, .eq bF)] [(1, pw w.heap.size 0), (3, bT), (5, bF), (42, bF)] (bN c_44) ?_
  refine nl (cf (X_skip ?_))
  exact ⟨false, by kernel_rfl, ⟨(decide_eq_false (by simp_all)).symm, (Below.refl _ _)⟩⟩
 rintro ok wj ⟨hok, HBj⟩
 refine sq (sg (xr0 1 [(46, .bool ok)] [5] ?_))
 by_cases c_45 : ok = true
 ·rw [show (ok : Bool) = true from by simpa using c_45]
  refine xr0 1 [(47, bF)] [46] ?_
  refine nl (cf (sk (sq (sg (xr1 2 [(51, .load (sT t))] [(51, sT t)] [47] (lc 9 (Blk.below hk_3 (bt hb_7 HBj)) 2) ?_)))))
  refine xc 145 ent145 [sT t] (scheck_any t _ (by omega) (hT.below (bt (bt hb_2 hb_7) HBj)) es (hE.below (bt (bt hb_2 hb_7) HBj))) ?_
  rintro e w_46 ⟨rfl, hb_47⟩; refine ⟨_, rfl, ?_⟩
  refine xr0 5 [(7, errV es (if (uchk t).2 then 0 else 1))] [51, 52] ?_
  refine nl (sg (xr0 1 [(55, errV es (if (uchk t).2 then 0 else 1))] [7] ?_))
  by_cases c_48 : (if (uchk t).2 then 0 else 1) = 0
  ·rw [show errV es (if (uchk t).2 then 0 else 1) = .nilIface from by rw [c_48]; rfl]
   refine xe0 1 [(1, pw w.heap.size 0), (56, bF)] ?_
   refine nl (cf (sk (sq (sg (xe1 3 [(59, .load (sT t))] [(60, i6 (t.size : Int))] (lc 9 (Blk.below hk_3 (bt (bt hb_7 HBj) hb_47)) 2) ?_)))))
   by_cases c_49 : (t.size : Int) > 1048576
   ·refine xe1 1 [(61, .eq bT)] [(61, bT)] (dT c_49) ?_
    refine nl (ct (sg (xe 2 [(62, .load (ev es 10))] [(2, ev es 10)] [la 35 (⟨12, 0, none⟩) (ev es 10) w_46] ⟨loads1 rfl (((bt (bt (bt hb_2 hb_7) HBj) hb_47).cell (World.block_lt_of_cell? _ _ (hE.load 10 12 (by decide) (by decide) rfl))).trans (hE.load 10 12 (by decide) (by decide) rfl)), trivial⟩ ?_)))
    refine nl (X_ret (rj [ev es 10] hR_ ?_))
    rw [show plainErr k n t = 10 from by unfold plainErr; simp_all <;> omega]
    exact ⟨rfl, (bt (bt (bt hb_2 hb_7) HBj) hb_47)⟩
   refine xe1 1 [(61, .eq bF)] [(61, bF)] (dF c_49) ?_
   refine nl (cf (sk (sg (xe0 1 [(2, .nilIface)] ?_))))
   refine nl (X_ret (rj [.nilIface] hR_ ?_))
   rw [show plainErr k n t = 0 from by unfold plainErr; simp_all <;> omega]
   exact ⟨rfl, (bt (bt (bt hb_2 hb_7) HBj) hb_47)⟩
  rw [errV_pos es (if (uchk t).2 then 0 else 1) (Nat.pos_of_ne_zero c_48)]
  refine xe0 1 [(1, pw w.heap.size 0), (56, bT)] ?_
  refine nl (ct (sg (xe 2 [(57, .load (ev es 1))] [(2, ev es 1)] [la 35 (⟨6, 0, none⟩) (ev es 1) w_46] ⟨loads1 rfl (((bt (bt (bt hb_2 hb_7) HBj) hb_47).cell (World.block_lt_of_cell? _ _ (hE.load 1 6 (by decide) (by decide) rfl))).trans (hE.load 1 6 (by decide) (by decide) rfl)), trivial⟩ ?_)))
  refine nl (X_ret (rj [ev es 1] hR_ ?_))
  rw [show plainErr k n t = 1 from by unfold plainErr; simp_all <;> omega]
  exact ⟨rfl, (bt (bt (bt hb_2 hb_7) HBj) hb_47)⟩
 rw [show (ok : Bool) = false from by simpa using c_45]
 refine xr0 1 [(47, bT)] [46] ?_
 refine nl (ct (sg (xe 2 [(48, .load (ev es 5))] [(2, ev es 5)] [la 35 (⟨5, 0, none⟩) (ev es 5) wj] ⟨loads1 rfl (((bt (bt hb_2 hb_7) HBj).cell (World.block_lt_of_cell? _ _ (hE.load 5 5 (by decide) (by decide) rfl))).trans (hE.load 5 5 (by decide) (by decide) rfl)), trivial⟩ ?_)))
 refine nl (X_ret (rj [ev es 5] hR_ ?_))
 rw [show plainErr k n t = 5 from by unfold plainErr; simp_all <;> omega]
 exact ⟨rfl, (bt (bt hb_2 hb_7) HBj)⟩
theorem pair_any (x : At) (w : World) (h1 : x.1.size ≤ 9223372036854775807) (h2 : x.2.2.2.size ≤ 9223372036854775807) (hT : Tabs w) (es : List Addr) (hE : ErrsA w es) : Calls Tryz.prog 191 #[.agg (a4 x)] w fun e w' => e = .returned (errV es (pairErr x)) ∧ Below w.heap.size w w' := by
 refine en Tryz.func191 rfl 27 [(0, .agg (a4 x))] (fun R_ hR_ => ?_)
 refine sg (xwe 1 [] [(1, pw w.heap.size 0)] (w.alloc (.cells (a4 x) 57)) [] trivial ?_)
 obtain ⟨w_1, hw_5, hb_2, hk_3, hz_4⟩ := new_world w (a4 x) 57
 rw [hw_5]
 refine xr0 1 [] [] ?_
 refine nl (sq (sg (xr1 2 [(6, .load (sT x.1))] [(6, sT x.1)] [] (lc 9 hk_3 0) ?_)))
 by_cases c_6 : x.1 = (⟨#[]⟩ : ByteArray)
 ·refine xr 7 [(7, .eq bT)] [(13, bT)] [6] [Value.bool (x.1.toList == (⟨#[]⟩ : ByteArray).toList) = bT] ⟨congrArg Value.bool (strEqT (c_6)), trivial⟩ ?_
  refine nl (ct (sg (xe 2 [(14, .load (ev es 6))] [(2, ev es 6)] [la 35 (⟨4, 0, none⟩) (ev es 6) w_1] ⟨loads1 rfl ((hb_2.cell (World.block_lt_of_cell? _ _ (hE.load 6 4 (by decide) (by decide) rfl))).trans (hE.load 6 4 (by decide) (by decide) rfl)), trivial⟩ ?_)))
  refine nl (X_ret (rj [ev es 6] hR_ ?_))
  rw [show pairErr x = 6 from by unfold pairErr; simp_all <;> omega]
  exact ⟨rfl, hb_2⟩
 refine xr 5 [(7, .eq bF), (10, .load (sT x.1))] [(8, bF), (11, i6 (x.1.size : Int))] [6] [Value.bool (x.1.toList == (⟨#[]⟩ : ByteArray).toList) = bF, _] ⟨congrArg Value.bool (strEqF (c_6)), lc 9 hk_3 0, trivial⟩ ?_
 by_cases c_7 : (x.1.size : Int) > 64
 ·refine xr1 2 [(12, .eq bT)] [(13, bT)] [8, 11] (dT c_7) ?_
  refine nl (ct (sg (xe 2 [(14, .load (ev es 6))] [(2, ev es 6)] [la 35 (⟨4, 0, none⟩) (ev es 6) w_1] ⟨loads1 rfl ((hb_2.cell (World.block_lt_of_cell? _ _ (hE.load 6 4 (by decide) (by decide) rfl))).trans (hE.load 6 4 (by decide) (by decide) rfl)), trivial⟩ ?_)))
  refine nl (X_ret (rj [ev es 6] hR_ ?_))
  rw [show pairErr x = 6 from by unfold pairErr; simp_all <;> omega]
  exact ⟨rfl, hb_2⟩
 refine xr1 2 [(12, .eq bF)] [(13, bF)] [8, 11] (dF c_7) ?_
 refine nl (cf (sk (sq (sg (xr1 2 [(17, .load (sT x.1))] [(17, sT x.1)] [13] (lc 9 hk_3 0) ?_)))))
 refine xc 145 ent145 [sT x.1] (scheck_any x.1 _ (by omega) (hT.below hb_2) es (hE.below hb_2)) ?_
 rintro e w_8 ⟨rfl, hb_9⟩; refine ⟨_, rfl, ?_⟩
 refine xe0 5 [(1, pw w.heap.size 0), (4, errV es (if (uchk x.1).2 then 0 else 1))] ?_
 refine nl (sg (xr0 1 [(21, errV es (if (uchk x.1).2 then 0 else 1))] [] ?_))
 by_cases c_10 : (if (uchk x.1).2 then 0 else 1) = 0
 ·rw [show errV es (if (uchk x.1).2 then 0 else 1) = .nilIface from by rw [c_10]; rfl]
  refine xr0 1 [(4, .nilIface), (22, bF)] [21] ?_
  refine nl (cf (sk (sg (xe 2 [(25, .load (.agg #[i6 x.2.1, i6 x.2.2.1, sT x.2.2.2]))] [(25, .agg #[i6 x.2.1, i6 x.2.2.1, sT x.2.2.2])] [la 48 (⟨w.heap.size, 1, none⟩) (.agg #[i6 x.2.1, i6 x.2.2.1, sT x.2.2.2]) w_8] ⟨loadsB rfl rfl (Blk.below hk_3 hb_9) 1 ⟨by kernel_rfl, by kernel_rfl⟩, trivial⟩ ?_))))
  refine xc 146 ent146 [.agg #[i6 x.2.1, i6 x.2.2.1, sT x.2.2.2]] (vcheck_any x.2.1 x.2.2.1 x.2.2.2 _ (by omega) (hT.below (bt hb_2 hb_9)) es (hE.below (bt hb_2 hb_9))) ?_
  rintro e w_11 ⟨rfl, hb_12⟩; refine ⟨_, rfl, ?_⟩
  refine xe0 1 [(2, errV es (plainErr x.2.1 x.2.2.1 x.2.2.2))] ?_
  refine nl (X_ret (rj [errV es (plainErr x.2.1 x.2.2.1 x.2.2.2)] hR_ ?_))
  rw [show pairErr x = (plainErr x.2.1 x.2.2.1 x.2.2.2) from by unfold pairErr; simp_all <;> omega]
  exact ⟨rfl, (bt (bt hb_2 hb_9) hb_12)⟩
 rw [errV_pos es (if (uchk x.1).2 then 0 else 1) (Nat.pos_of_ne_zero c_10)]
 refine xr0 1 [(4, .iface 301 (.pointer (some (errAt es (if (uchk x.1).2 then 0 else 1))))), (22, bT)] [21] ?_
 refine nl (ct (sg (xe0 2 [(2, .iface 301 (.pointer (some (errAt es (if (uchk x.1).2 then 0 else 1)))))] ?_)))
 refine nl (X_ret (rj [.iface 301 (.pointer (some (errAt es (if (uchk x.1).2 then 0 else 1))))] hR_ ?_))
 rw [show pairErr x = (if (uchk x.1).2 then 0 else 1) from by unfold pairErr; simp_all <;> omega, errV_pos es _ (Nat.pos_of_ne_zero c_10)]
 exact ⟨rfl, (bt hb_2 hb_9)⟩
def attrAt (nulls : Bool) (xs : List At) (i : Nat) : Nat := if pairErr (xs.getD i at0) ≠ 0 then pairErr (xs.getD i at0) else if (xs.getD i at0).2.1 = 0 ∧ nulls = false then 7
 else if 0 < i ∧ (Op.bytesLess (xs.getD i at0).1.toList (xs.getD (i - 1) at0).1.toList || (xs.getD i at0).1.toList == (xs.getD (i - 1) at0).1.toList) = true then 8 else 0
def chkUpto (nulls : Bool) (xs : List At) : Nat → Nat
 | 0 => 0
 | n + 1 => if chkUpto nulls xs n ≠ 0 then chkUpto nulls xs n else attrAt nulls xs n
def chkA (nulls : Bool) (xs : List At) : Nat := chkUpto nulls xs xs.length
theorem chkUpto_stop (nulls : Bool) (xs : List At) (i : Nat) (h0 : chkUpto nulls xs i = 0) (h1 : attrAt nulls xs i ≠ 0) : ∀ k, chkUpto nulls xs (i + 1 + k) = attrAt nulls xs i
 | 0 => by show (if chkUpto nulls xs i ≠ 0 then _ else _) = _; rw [if_neg (by omega)]
 | k + 1 => by
  have ih := chkUpto_stop nulls xs i h0 h1 k
  show (if chkUpto nulls xs (i + 1 + k) ≠ 0 then chkUpto nulls xs (i + 1 + k) else _) = _
  rw [if_pos (by rw [ih]; exact h1), ih]
theorem chkA_stop (nulls : Bool) (xs : List At) (i : Nat) (hi : i < xs.length) (h0 : chkUpto nulls xs i = 0) (h1 : attrAt nulls xs i ≠ 0) : chkA nulls xs = attrAt nulls xs i := by
 have := chkUpto_stop nulls xs i h0 h1 (xs.length - (i + 1))
 rw [show i + 1 + (xs.length - (i + 1)) = xs.length from by omega] at this
 exact this
theorem chkUpto_succ (nulls : Bool) (xs : List At) (i : Nat) (h0 : chkUpto nulls xs i = 0) (h1 : attrAt nulls xs i = 0) : chkUpto nulls xs (i + 1) = 0 := by
 show (if chkUpto nulls xs i ≠ 0 then _ else _) = 0
 rw [if_neg (by omega), h1]
theorem acheck_any (A : Option Addr) (c : Nat) (xs : List At) (nulls : Bool) (w : World) (hx : kAttr.C w A xs.length xs) (hsz : ∀ i, i < xs.length → (xs.getD i at0).1.size ≤ 9223372036854775807 ∧ (xs.getD i at0).2.2.2.size ≤ 9223372036854775807) (hT : Tabs w) (es : List Addr) (hE : ErrsA w es) :
  Calls Tryz.prog 149 #[.slice A xs.length c, .bool nulls] w fun e w' => e = .returned (errV es (chkA nulls xs)) ∧ Below w.heap.size w w' := by
 have hpl : xs.length ≤ 9223372036854775807 := hx.2.1
 refine en Tryz.func149 rfl 42 [(0, aL A xs c), (1, .bool nulls)] (fun R_ hR_ => ?_)
 refine sg (xe0 1 [(0, aL A xs c), (1, .bool nulls)] ?_)
 refine nl (sq (sg (xr0 3 [(8, aL A xs c), (9, i6 (xs.length : Int)), (10, i6 0)] [] ?_)))
 refine nl (bk (X_loop (ι := Nat) (fun i => [(0, aL A xs c), (1, .bool nulls), (8, aL A xs c), (9, i6 (xs.length : Int)), (10, i6 (i : Int))]) (fun i wl => i ≤ xs.length ∧ chkUpto nulls xs i = 0 ∧ Below w.heap.size w wl) (fun i => xs.length - i) 0 ⟨by omega, rfl, (Below.refl _ _)⟩ (by kernel_rfl) ?_))
 rintro i wl ⟨hi, h0, HB⟩
 have hz : ((i : Int) - 1).toNat = i - 1 := by omega
 refine sq (X_region ?_)
 by_cases c_1 : (i : Int) < (xs.length : Int)
 ·refine xr1 1 [(11, .eq bT)] [(11, bT)] [] (dT c_1) ?_
  refine nl (sq (ct (sk (sq (bk (sg (xr0 1 [(12, nv i)] [11] ?_)))))))
  obtain ⟨ad_2, ha_3, hc_4⟩ := Kd.atAttr (Kd.C_below hx HB) (i := (i : Int)) (by omega) (by omega)
  replace hc_4 : CellsAt wl (ad_2.add ((i : Int).toNat * 4)) [sT ((xs.getD i at0).1), i6 ((xs.getD i at0).2.1), i6 ((xs.getD i at0).2.2.1), sT ((xs.getD i at0).2.2.2)] := hc_4
  refine xw 3 [(13, .idx ad_2), (14, .load (.agg (a4 (xs.getD i at0))))] [(6, pw wl.heap.size 0), (14, .agg (a4 (xs.getD i at0)))] [] (wl.alloc (.cells #[s0, i6 0, i6 0, s0] 57)) [A = some ad_2, (0 : Int) ≤ (i : Int), (i : Int) < (xs.length : Int), la 57 (ad_2.add ((i : Int).toNat * 4)) (.agg (a4 (xs.getD i at0))) wl] ⟨ha_3, (by omega), (by omega), loadsE rfl rfl hc_4 0 ⟨by kernel_rfl, by kernel_rfl⟩, trivial⟩ ?_
  obtain ⟨w_5, hw_9, hb_6, hk_7, hz_8⟩ := new_world wl #[s0, i6 0, i6 0, s0] 57
  rw [hw_9]
  refine xr0 1 [(5, nv i)] [12] ?_
  refine xst (.agg (a4 (xs.getD i at0))) hk_7 0 (a4 (xs.getD i at0)) (fun w_10 hg_11 hk_12 hz_13 => ?_)
  refine nl (sq (sg (xr 1 [(15, .load (.agg (a4 (xs.getD i at0))))] [(15, .agg (a4 (xs.getD i at0)))] [14] [la 57 (⟨wl.heap.size, 0, none⟩) (.agg (a4 (xs.getD i at0))) w_10] ⟨loadsB rfl rfl hk_12 0 ⟨by kernel_rfl, by kernel_rfl⟩, trivial⟩ ?_)))
  refine xc 191 ent191 [.agg (a4 (xs.getD i at0))] (pair_any (xs.getD i at0) _ (hsz i (by omega)).1 (hsz i (by omega)).2 (hT.below (bg (bt HB hb_6) hg_11 (HB).size)) es (hE.below (bg (bt HB hb_6) hg_11 (HB).size))) ?_
  rintro e w_14 ⟨rfl, hb_15⟩; refine ⟨_, rfl, ?_⟩
  refine xe0 1 [(0, aL A xs c), (1, .bool nulls), (5, nv i), (6, pw wl.heap.size 0), (7, errV es (pairErr (xs.getD i at0))), (8, aL A xs c), (9, i6 (xs.length : Int)), (10, nv i)] ?_
  refine nl (sg (xr0 1 [(17, errV es (pairErr (xs.getD i at0)))] [] ?_))
  by_cases c_16 : (pairErr (xs.getD i at0)) = 0
  ·rw [show errV es (pairErr (xs.getD i at0)) = .nilIface from by rw [c_16]; rfl]
   refine xr0 1 [(7, .nilIface), (18, bF)] [17] ?_
   refine nl (cf (sk (sq (sg (xr 1 [(20, .load (.agg (a4 (xs.getD i at0))))] [(20, .agg (a4 (xs.getD i at0)))] [7, 18] [la 57 (⟨wl.heap.size, 0, none⟩) (.agg (a4 (xs.getD i at0))) w_14] ⟨loadsB rfl rfl (Blk.below hk_12 hb_15) 0 ⟨by kernel_rfl, by kernel_rfl⟩, trivial⟩ ?_)))))
   refine xc 192 ent192 [.agg (a4 (xs.getD i at0))] (null_any (xs.getD i at0) _) ?_
   rintro e w_17 ⟨rfl, hb_18⟩; refine ⟨_, rfl, ?_⟩
   refine xr0 1 [(22, .bool (decide ((xs.getD i at0).2.1 = 0)))] [20, 21] ?_
   by_cases c_19 : decide ((xs.getD i at0).2.1 = 0) = true
   ·rw [show (decide ((xs.getD i at0).2.1 = 0) : Bool) = true from by simpa using c_19]
    refine xr0 1 [(22, bT), (23, .bool nulls)] [] ?_
    by_cases c_20 : nulls = true
    ·rw [show (nulls : Bool) = true from by simpa using c_20]
     refine xe0 2 [(0, aL A xs c), (1, bT), (5, nv i), (6, pw wl.heap.size 0), (8, aL A xs c), (9, i6 (xs.length : Int)), (10, nv i), (25, bF)] ?_
     refine nl (cf (sk (sq (X_still (by kernel_rfl) (by kernel_rfl) (fun wd_21 hb_22 hh_23 => ?_)))))
     refine xse 1 [] [(0, aL A xs c), (1, bT), (5, i6 (i : Int)), (6, pw wl.heap.size 0), (8, aL A xs c), (9, i6 (xs.length : Int)), (10, i6 (i : Int)), (27, i6 (i : Int))] [] trivial ?_
     by_cases c_24 : (i : Int) > 0
     ·refine xse 7 [(28, .eq bT), (31, .load (sT ((xs.getD i at0).1))), (34, .eq (i6 ((i : Int) - 1)))] [(0, aL A xs c), (1, bT), (8, aL A xs c), (9, i6 (xs.length : Int)), (10, i6 (i : Int)), (29, bT), (31, sT ((xs.getD i at0).1)), (32, aL A xs c), (34, i6 ((i : Int) - 1))] [_, _, _] ⟨dT c_24, lc 9 (Blk.below hk_12 (bt (bt hb_15 hb_18) hb_22)) 0, w6 ((i : Int) - 1), trivial⟩ ?_
      have hB_25 : Below w.heap.size w wd_21 := (bt (bt (bt (bg (bt HB hb_6) hg_11 (HB).size) hb_15) hb_18) hb_22)
      obtain ⟨ad_26, ha_27, hc_28⟩ := Kd.atAttr (Kd.C_below hx hB_25) (i := (i : Int) - 1) (by omega) (by omega)
      replace hc_28 : CellsAt wd_21 (ad_26.add (((i : Int) - 1).toNat * 4)) [sT ((xs.getD ((i : Int) - 1).toNat at0).1), i6 ((xs.getD ((i : Int) - 1).toNat at0).2.1), i6 ((xs.getD ((i : Int) - 1).toNat at0).2.2.1), sT ((xs.getD ((i : Int) - 1).toNat at0).2.2.2)] := hc_28
      refine xse 3 [(35, .idx ad_26), (37, .load (sT ((xs.getD ((i : Int) - 1).toNat at0).1)))] [(0, aL A xs c), (1, bT), (8, aL A xs c), (9, i6 (xs.length : Int)), (10, i6 (i : Int)), (29, bT), (31, sT ((xs.getD i at0).1)), (37, sT ((xs.getD ((i : Int) - 1).toNat at0).1))] [A = some ad_26, (0 : Int) ≤ (i : Int) - 1, (i : Int) - 1 < (xs.length : Int), la 9 (ad_26.add (((i : Int) - 1).toNat * 4)) (sT ((xs.getD ((i : Int) - 1).toNat at0).1)) wd_21] ⟨ha_27, (by omega), (by omega), loads1 rfl (elem_cell hc_28 0 _ rfl), trivial⟩ ?_
      by_cases c_29 : ((Op.bytesLess ((xs.getD i at0).1).toList ((xs.getD ((i : Int) - 1).toNat at0).1).toList || (((xs.getD i at0).1).toList == ((xs.getD ((i : Int) - 1).toNat at0).1).toList))) = true
      ·refine xse 2 [(38, .eq bT)] [(0, aL A xs c), (1, bT), (8, aL A xs c), (9, i6 (xs.length : Int)), (10, i6 (i : Int)), (39, bT)] [Value.bool ((Op.bytesLess ((xs.getD i at0).1).toList ((xs.getD ((i : Int) - 1).toNat at0).1).toList || (((xs.getD i at0).1).toList == ((xs.getD ((i : Int) - 1).toNat at0).1).toList))) = bT] ⟨congrArg Value.bool (c_29), trivial⟩ ?_
       refine XS_nil ?_
       refine ct (sg (xe 2 [(40, .load (ev es 8))] [(4, ev es 8)] [la 35 (⟨11, 0, none⟩) (ev es 8) wd_21] ⟨loads1 rfl ((hB_25.cell (World.block_lt_of_cell? _ _ (hE.load 8 11 (by decide) (by decide) rfl))).trans (hE.load 8 11 (by decide) (by decide) rfl)), trivial⟩ ?_))
       refine nl (X_ret (rj [ev es 8] hR_ ?_))
       (try simp only [hz] at *)
       have he : attrAt nulls xs i = 8 := by unfold attrAt; simp_all <;> omega
       rw [chkA_stop nulls xs i (by omega) h0 (by rw [he]; decide), he]
       exact ⟨rfl, hB_25⟩
      refine xse 2 [(38, .eq bF)] [(0, aL A xs c), (1, bT), (8, aL A xs c), (9, i6 (xs.length : Int)), (10, i6 (i : Int)), (39, bF)] [Value.bool ((Op.bytesLess ((xs.getD i at0).1).toList ((xs.getD ((i : Int) - 1).toNat at0).1).toList || (((xs.getD i at0).1).toList == ((xs.getD ((i : Int) - 1).toNat at0).1).toList))) = bF] ⟨congrArg Value.bool (Bool.eq_false_iff.2 (c_29)), trivial⟩ ?_
      refine XS_nil ?_
      refine cf (sk (rg (xr1 2 [(41, .eq (i6 ((i : Int) + 1)))] [(10, i6 ((i : Int) + 1))] [39] (w6 ((i : Int) + 1)) ?_)))
      refine nl ?_
      refine ⟨(i + 1), by kernel_rfl, ?_, ?_⟩
      ·obtain rfl : nulls = true := c_20
       (try simp only [hz] at *)
       exact ⟨by omega, chkUpto_succ _ _ _ h0 (by unfold attrAt; simp_all <;> omega), hB_25⟩
      (try dsimp only); omega
     refine xse 12 [(28, .eq bF)] [(0, aL A xs c), (1, bT), (8, aL A xs c), (9, i6 (xs.length : Int)), (10, i6 (i : Int)), (39, bF)] [_] ⟨dF c_24, trivial⟩ ?_
     refine XS_nil ?_
     refine cf (sk (rg (xr1 2 [(41, .eq (i6 ((i : Int) + 1)))] [(10, i6 ((i : Int) + 1))] [39] (w6 ((i : Int) + 1)) ?_)))
     refine nl ?_
     have hB_30 : Below w.heap.size w wd_21 := (bt (bt (bt (bg (bt HB hb_6) hg_11 (HB).size) hb_15) hb_18) hb_22)
     refine ⟨(i + 1), by kernel_rfl, ?_, ?_⟩
     ·obtain rfl : nulls = true := c_20
      (try simp only [hz] at *)
      exact ⟨by omega, chkUpto_succ _ _ _ h0 (by unfold attrAt; simp_all <;> omega), hB_30⟩
     (try dsimp only); omega
    rw [show (nulls : Bool) = false from by simpa using c_20]
    refine xe0 2 [(0, aL A xs c), (1, bF), (5, nv i), (6, pw wl.heap.size 0), (8, aL A xs c), (9, i6 (xs.length : Int)), (10, nv i), (25, bT)] ?_
    refine nl (ct (sq (X_region ?_)))
    have hB_31 : Below w.heap.size w w_17 := (bt (bt (bg (bt HB hb_6) hg_11 (HB).size) hb_15) hb_18)
    refine xe 2 [(26, .load (ev es 7))] [(4, ev es 7)] [la 35 (⟨10, 0, none⟩) (ev es 7) w_17] ⟨loads1 rfl ((hB_31.cell (World.block_lt_of_cell? _ _ (hE.load 7 10 (by decide) (by decide) rfl))).trans (hE.load 7 10 (by decide) (by decide) rfl)), trivial⟩ ?_
    refine nl (X_ret (rj [ev es 7] hR_ ?_))
    (try simp only [hz] at *)
    have he : attrAt nulls xs i = 7 := by unfold attrAt; simp_all <;> omega
    rw [chkA_stop nulls xs i (by omega) h0 (by rw [he]; decide), he]
    exact ⟨rfl, hB_31⟩
   rw [show (decide ((xs.getD i at0).2.1 = 0) : Bool) = false from by simpa using c_19]
   refine xr0 3 [(25, bF)] [22] ?_
   refine nl (cf (sk (sq (X_still (by kernel_rfl) (by kernel_rfl) (fun wd_32 hb_33 hh_34 => ?_)))))
   refine xse 1 [] [(0, aL A xs c), (1, .bool nulls), (5, i6 (i : Int)), (6, pw wl.heap.size 0), (8, aL A xs c), (9, i6 (xs.length : Int)), (10, i6 (i : Int)), (27, i6 (i : Int))] [] trivial ?_
   by_cases c_35 : (i : Int) > 0
   ·refine xse 7 [(28, .eq bT), (31, .load (sT ((xs.getD i at0).1))), (34, .eq (i6 ((i : Int) - 1)))] [(0, aL A xs c), (1, .bool nulls), (8, aL A xs c), (9, i6 (xs.length : Int)), (10, i6 (i : Int)), (29, bT), (31, sT ((xs.getD i at0).1)), (32, aL A xs c), (34, i6 ((i : Int) - 1))] [_, _, _] ⟨dT c_35, lc 9 (Blk.below hk_12 (bt (bt hb_15 hb_18) hb_33)) 0, w6 ((i : Int) - 1), trivial⟩ ?_
    have hB_36 : Below w.heap.size w wd_32 := (bt (bt (bt (bg (bt HB hb_6) hg_11 (HB).size) hb_15) hb_18) hb_33)
    obtain ⟨ad_37, ha_38, hc_39⟩ := Kd.atAttr (Kd.C_below hx hB_36) (i := (i : Int) - 1) (by omega) (by omega)
    replace hc_39 : CellsAt wd_32 (ad_37.add (((i : Int) - 1).toNat * 4)) [sT ((xs.getD ((i : Int) - 1).toNat at0).1), i6 ((xs.getD ((i : Int) - 1).toNat at0).2.1), i6 ((xs.getD ((i : Int) - 1).toNat at0).2.2.1), sT ((xs.getD ((i : Int) - 1).toNat at0).2.2.2)] := hc_39
    refine xse 3 [(35, .idx ad_37), (37, .load (sT ((xs.getD ((i : Int) - 1).toNat at0).1)))] [(0, aL A xs c), (1, .bool nulls), (8, aL A xs c), (9, i6 (xs.length : Int)), (10, i6 (i : Int)), (29, bT), (31, sT ((xs.getD i at0).1)), (37, sT ((xs.getD ((i : Int) - 1).toNat at0).1))] [A = some ad_37, (0 : Int) ≤ (i : Int) - 1, (i : Int) - 1 < (xs.length : Int), la 9 (ad_37.add (((i : Int) - 1).toNat * 4)) (sT ((xs.getD ((i : Int) - 1).toNat at0).1)) wd_32] ⟨ha_38, (by omega), (by omega), loads1 rfl (elem_cell hc_39 0 _ rfl), trivial⟩ ?_
    by_cases c_40 : ((Op.bytesLess ((xs.getD i at0).1).toList ((xs.getD ((i : Int) - 1).toNat at0).1).toList || (((xs.getD i at0).1).toList == ((xs.getD ((i : Int) - 1).toNat at0).1).toList))) = true
    ·refine xse 2 [(38, .eq bT)] [(0, aL A xs c), (1, .bool nulls), (8, aL A xs c), (9, i6 (xs.length : Int)), (10, i6 (i : Int)), (39, bT)] [Value.bool ((Op.bytesLess ((xs.getD i at0).1).toList ((xs.getD ((i : Int) - 1).toNat at0).1).toList || (((xs.getD i at0).1).toList == ((xs.getD ((i : Int) - 1).toNat at0).1).toList))) = bT] ⟨congrArg Value.bool (c_40), trivial⟩ ?_
     refine XS_nil ?_
     refine ct (sg (xe 2 [(40, .load (ev es 8))] [(4, ev es 8)] [la 35 (⟨11, 0, none⟩) (ev es 8) wd_32] ⟨loads1 rfl ((hB_36.cell (World.block_lt_of_cell? _ _ (hE.load 8 11 (by decide) (by decide) rfl))).trans (hE.load 8 11 (by decide) (by decide) rfl)), trivial⟩ ?_))
     refine nl (X_ret (rj [ev es 8] hR_ ?_))
     (try simp only [hz] at *)
     have he : attrAt nulls xs i = 8 := by unfold attrAt; simp_all <;> omega
     rw [chkA_stop nulls xs i (by omega) h0 (by rw [he]; decide), he]
     exact ⟨rfl, hB_36⟩
    refine xse 2 [(38, .eq bF)] [(0, aL A xs c), (1, .bool nulls), (8, aL A xs c), (9, i6 (xs.length : Int)), (10, i6 (i : Int)), (39, bF)] [Value.bool ((Op.bytesLess ((xs.getD i at0).1).toList ((xs.getD ((i : Int) - 1).toNat at0).1).toList || (((xs.getD i at0).1).toList == ((xs.getD ((i : Int) - 1).toNat at0).1).toList))) = bF] ⟨congrArg Value.bool (Bool.eq_false_iff.2 (c_40)), trivial⟩ ?_
    refine XS_nil ?_
    refine cf (sk (rg (xr1 2 [(41, .eq (i6 ((i : Int) + 1)))] [(10, i6 ((i : Int) + 1))] [39] (w6 ((i : Int) + 1)) ?_)))
    refine nl ?_
    refine ⟨(i + 1), by kernel_rfl, ?_, ?_⟩
    ·(try simp only [hz] at *)
     exact ⟨by omega, chkUpto_succ _ _ _ h0 (by unfold attrAt; simp_all <;> omega), hB_36⟩
    (try dsimp only); omega
   refine xse 12 [(28, .eq bF)] [(0, aL A xs c), (1, .bool nulls), (8, aL A xs c), (9, i6 (xs.length : Int)), (10, i6 (i : Int)), (39, bF)] [_] ⟨dF c_35, trivial⟩ ?_
   refine XS_nil ?_
   refine cf (sk (rg (xr1 2 [(41, .eq (i6 ((i : Int) + 1)))] [(10, i6 ((i : Int) + 1))] [39] (w6 ((i : Int) + 1)) ?_)))
   refine nl ?_
   have hB_41 : Below w.heap.size w wd_32 := (bt (bt (bt (bg (bt HB hb_6) hg_11 (HB).size) hb_15) hb_18) hb_33)
   refine ⟨(i + 1), by kernel_rfl, ?_, ?_⟩
   ·(try simp only [hz] at *)
    exact ⟨by omega, chkUpto_succ _ _ _ h0 (by unfold attrAt; simp_all <;> omega), hB_41⟩
   (try dsimp only); omega
  rw [errV_pos es (pairErr (xs.getD i at0)) (Nat.pos_of_ne_zero c_16)]
  refine xr0 1 [(7, .iface 301 (.pointer (some (errAt es (pairErr (xs.getD i at0)))))), (18, bT)] [17] ?_
  refine nl (ct (sg (xe0 2 [(4, .iface 301 (.pointer (some (errAt es (pairErr (xs.getD i at0))))))] ?_)))
  refine nl (X_ret (rj [.iface 301 (.pointer (some (errAt es (pairErr (xs.getD i at0)))))] hR_ ?_))
  have hB_42 : Below w.heap.size w w_14 := (bt (bg (bt HB hb_6) hg_11 (HB).size) hb_15)
  (try simp only [hz] at *)
  have he : attrAt nulls xs i = (pairErr (xs.getD i at0)) := by unfold attrAt; simp_all <;> omega
  rw [chkA_stop nulls xs i (by omega) h0 (by rw [he]; exact c_16), he, errV_pos es _ (Nat.pos_of_ne_zero c_16)]
  exact ⟨rfl, hB_42⟩
 refine xr1 1 [(11, .eq bF)] [(11, bF)] [] (dF c_1) ?_
 refine nl (sq (cf (X_exit (sg (xe0 1 [(4, .nilIface)] ?_)))))
 refine nl (X_ret (rj [.nilIface] hR_ ?_))
 rw [show chkA nulls xs = 0 from by unfold chkA; rw [show xs.length = i from by omega]; exact h0]
 exact ⟨rfl, HB⟩
end Go.Proofs.YtgphmfnkeolbcaaGreatDoor
