import Derived.Test.YtgphmfnkeolbcaaGreatDoorUtf4
import Derived.Test.YtgphmfnkeolbcaaGreatDoorR1
/- What the references of layers content and ops answer: what the program answers. Conditions: sizes, the tables of utf8. -/
set_option linter.unusedVariables false
set_option linter.unusedSimpArgs false
set_option maxRecDepth 100000
namespace Go.Proofs.YtgphmfnkeolbcaaGreatDoor
open Go Go.RowKit Go.Proofs.YtgphmfnkeolbcaaGreatDoorW.PrintWords RX
theorem ent202 : Ent Tryz.prog 202 := ent_of Tryz.func202 (by kernel_rfl) rfl
theorem ent201 : Ent Tryz.prog 201 := ent_of Tryz.func201 (by kernel_rfl) rfl
theorem ent163 : Ent Tryz.prog 163 := ent_of Tryz.func163 (by kernel_rfl) rfl
theorem opSz.b {o : OpA} (h : opSz o) : o.text.size ≤ 100000000 ∧ o.vt.size ≤ 100000000 := by have h1 := h.1; have h2 := h.2.1; omega
set_option maxHeartbeats 2000000 in
theorem r4refuse_any (o : OpA) (A : Option Addr) (c : Nat) (w : World) (hA : kAttr.C w A o.attrs.length o.attrs) (hz : opSz o) (hT : Tabs w) : Calls Tryz.prog 202 #[.agg (o7A o (.slice A o.attrs.length c))] w fun e w' => e = .returned (i6 (refuseP o : Int)) ∧ Below w.heap.size w w' := by
 have hz1 := hz.b.1
 have hz2 := hz.b.2
 refine en Tryz.func202 rfl 65 [(0, .agg (o7A o (aL A o.attrs c)))] (fun R_ hR_ => ?_)
 refine sg (xwe 1 [] [(1, pw w.heap.size 0)] (w.alloc (.cells (o7A o (aL A o.attrs c)) 102)) [] trivial ?_)
 obtain ⟨w_1, hw_5, hb_2, hk_3, hz_4⟩ := new_world w (o7A o (aL A o.attrs c)) 102
 rw [hw_5]
 refine xr0 1 [] [] ?_
 refine nl (sq (bk (sg (xr1 2 [(7, .load (i6 o.kind))] [(7, i6 o.kind)] [] (lc 3 hk_3 0) ?_))))
 by_cases c_6 : o.kind = 1
 ·refine xr1 7 [(8, .eq bF)] [(5, bF)] [7] (nF c_6) ?_
  refine nl (cf (sg (xr1 2 [(16, .load (i6 o.count))] [(16, i6 o.count)] [5] (lc 3 hk_3 5) ?_)))
  by_cases c_7 : o.count = 0
  ·refine xr1 2 [(17, .eq bF)] [(14, bF)] [16] (nF c_7) ?_
   refine nl (cf (sg (xe 6 [(20, .load (i6 o.kind)), (21, .eq bT), (24, .load (sT o.text))] [(1, pw w.heap.size 0), (22, bT), (24, sT o.text)] [_, _, _] ⟨lc 3 hk_3 0, bE c_6, lc 9 hk_3 1, trivial⟩ ?_)))
   by_cases c_8 : o.text = (⟨#[]⟩ : ByteArray)
   ·refine xr 9 [(25, .eq bT)] [(18, bT)] [22, 24] [Value.bool (o.text.toList == (⟨#[]⟩ : ByteArray).toList) = bT] ⟨congrArg Value.bool (strEqT (c_8)), trivial⟩ ?_
    refine nl (ct (sg (xe0 1 [(2, i6 9)] ?_)))
    refine nl (X_ret (rj [i6 9] hR_ ?_))
    rw [show refuseP o = 9 from by unfold refuseP; simp_all <;> omega]
    exact ⟨rfl, hb_2⟩
   refine xr 5 [(25, .eq bF), (28, .load (.agg #[i6 o.vk, i6 o.vn, sT o.vt]))] [(26, bF), (28, .agg #[i6 o.vk, i6 o.vn, sT o.vt]), (29, .agg #[i6 0, i6 0, s0])] [24] [Value.bool (o.text.toList == (⟨#[]⟩ : ByteArray).toList) = bF, la 48 (⟨w.heap.size, 2, none⟩) (.agg #[i6 o.vk, i6 o.vn, sT o.vt]) w_1] ⟨congrArg Value.bool (strEqF (c_8)), loadsB rfl rfl hk_3 2 ⟨by kernel_rfl, by kernel_rfl⟩, trivial⟩ ?_
   by_cases c_9 : (o.vk, o.vn, o.vt) = pl0
   ·refine xr 4 [(30, .as bF)] [(18, bF)] [22, 26, 28, 29] [RunsAs Tryz.prog [(28, .agg #[i6 o.vk, i6 o.vn, sT o.vt]), (29, .agg #[i6 0, i6 0, s0])] (Go.Op.binOp Go.BinOp.neq 48 (Go.Operand.tmp 28) (Go.Operand.tmp 29) 48) 4 bF w_1] ⟨runs_bin rfl rfl (run_eqGuard_agg _ _ _ _ _ _ _ (by kernel_rfl)) (by have h := plain_neq (o.vk, o.vn, o.vt) pl0 w_1; rw [show ple (o.vk, o.vn, o.vt) pl0 = true from (ple_iff _ _).2 c_9] at h; exact h), trivial⟩ ?_
    refine nl (cf (sg (xr1 2 [(35, .load (i6 o.kind))] [(35, i6 o.kind)] [18] (lc 3 hk_3 0) ?_)))
    by_cases c_10 : o.kind = 2
    ·refine xr 9 [(36, .eq bT), (39, .load (sT o.text)), (40, .eq bF), (43, .load (sT o.text))] [(37, bT), (41, bF), (44, i6 (o.text.size : Int))] [35] [_, _, Value.bool (o.text.toList == (⟨#[]⟩ : ByteArray).toList) = bF, _] ⟨bE c_10, lc 9 hk_3 1, congrArg Value.bool (strEqF (c_8)), lc 9 hk_3 1, trivial⟩ ?_
     by_cases c_11 : (o.text.size : Int) > 64
     ·refine xr1 4 [(45, .eq bT)] [(33, bT)] [37, 41, 44] (dT c_11) ?_
      refine nl (ct (sg (xe0 1 [(2, i6 6)] ?_)))
      refine nl (X_ret (rj [i6 6] hR_ ?_))
      rw [show refuseP o = 6 from by unfold refuseP; simp_all <;> omega]
      exact ⟨rfl, hb_2⟩
     refine xr1 4 [(45, .eq bF)] [(33, bF)] [37, 41, 44] (dF c_11) ?_
     refine nl (cf (sk (sg (xe1 2 [(49, .load (sT o.text))] [(1, pw w.heap.size 0), (49, sT o.text)] (lc 9 hk_3 1) ?_))))
     refine xc 218 ent218 [sT o.text] (utf8_any o.text _ (by omega)) ?_
     rintro e w_12 ⟨rfl, hb_13⟩; refine ⟨_, rfl, ?_⟩
     refine xr0 1 [(3, .bool ((uchk o.text).2))] [49, 50] ?_
     refine nl (sq (sg (xr0 1 [(51, .bool ((uchk o.text).2))] [3] ?_)))
     by_cases c_14 : (uchk o.text).2 = true
     ·rw [show ((uchk o.text).2 : Bool) = true from by simpa using c_14]
      refine xr0 1 [(52, bF)] [51] ?_
      refine nl (cf (sk (sq (sg (xr 3 [(54, .load (i6 o.kind)), (55, .eq bT)] [(55, bT)] [52] [_, _] ⟨lc 3 (Blk.below hk_3 hb_13) 0, bE c_10, trivial⟩ ?_)))))
      refine nl (ct (sg (xr 2 [(57, .load (.agg #[i6 o.vk, i6 o.vn, sT o.vt]))] [(57, .agg #[i6 o.vk, i6 o.vn, sT o.vt])] [55] [la 48 (⟨w.heap.size, 2, none⟩) (.agg #[i6 o.vk, i6 o.vn, sT o.vt]) w_12] ⟨loadsB rfl rfl (Blk.below hk_3 hb_13) 2 ⟨by kernel_rfl, by kernel_rfl⟩, trivial⟩ ?_)))
      refine xc 155 ent155 [.agg #[i6 o.vk, i6 o.vn, sT o.vt]] (r2check_any o.vk o.vn o.vt _ (by omega)) ?_
      rintro e w_15 ⟨rfl, hb_16⟩; refine ⟨_, rfl, ?_⟩
      refine xe0 1 [(1, pw w.heap.size 0), (4, i6 (plainErr o.vk o.vn o.vt : Int))] ?_
      refine nl (sg (xr0 1 [(59, i6 (plainErr o.vk o.vn o.vt : Int))] [] ?_))
      by_cases c_17 : (plainErr o.vk o.vn o.vt : Int) = 0
      ·refine xr1 1 [(60, .eq bF)] [(60, bF)] [59] (nF c_17) ?_
       refine nl (cf (sk (sg (xe1 2 [(63, .load (aL A o.attrs c))] [(63, aL A o.attrs c)] (lc 49 (Blk.below hk_3 (bt hb_13 hb_16)) 6) ?_))))
       refine xc 156 ent156 [.slice A o.attrs.length c, bF] (r3check_any _ _ o.attrs false _ (Kd.C_below hA (bt (bt hb_2 hb_13) hb_16)) hz.2.2.2 (hT.below (bt (bt hb_2 hb_13) hb_16))) ?_
       rintro e w_18 ⟨rfl, hb_19⟩; refine ⟨_, rfl, ?_⟩
       refine xe0 1 [(2, i6 (chkA false o.attrs : Int))] ?_
       refine nl (X_ret (rj [i6 (chkA false o.attrs : Int)] hR_ ?_))
       rw [show refuseP o = chkA false o.attrs from by unfold refuseP; simp_all <;> omega]
       exact ⟨rfl, (bt (bt (bt hb_2 hb_13) hb_16) hb_19)⟩
      refine xr1 1 [(60, .eq bT)] [(60, bT)] [59] (nT c_17) ?_
      refine nl (ct (sg (xe0 2 [(2, i6 (plainErr o.vk o.vn o.vt : Int))] ?_)))
      refine nl (X_ret (rj [i6 (plainErr o.vk o.vn o.vt : Int)] hR_ ?_))
      rw [show refuseP o = plainErr o.vk o.vn o.vt from by unfold refuseP; simp_all <;> omega]
      exact ⟨rfl, (bt (bt hb_2 hb_13) hb_16)⟩
     rw [show ((uchk o.text).2 : Bool) = false from by simpa using c_14]
     refine xr0 1 [(52, bT)] [51] ?_
     refine nl (ct (sg (xe0 1 [(2, i6 1)] ?_)))
     refine nl (X_ret (rj [i6 1] hR_ ?_))
     rw [show refuseP o = 1 from by unfold refuseP; simp_all <;> omega]
     exact ⟨rfl, (bt hb_2 hb_13)⟩
    refine xr1 13 [(36, .eq bF)] [(33, bF)] [35] (bN c_10) ?_
    refine nl (cf (sk (sg (xr1 2 [(49, .load (sT o.text))] [(49, sT o.text)] [33] (lc 9 hk_3 1) ?_))))
    refine xc 218 ent218 [sT o.text] (utf8_any o.text _ (by omega)) ?_
    rintro e w_20 ⟨rfl, hb_21⟩; refine ⟨_, rfl, ?_⟩
    refine xe0 1 [(1, pw w.heap.size 0), (3, .bool ((uchk o.text).2))] ?_
    refine nl (sq (sg (xr0 1 [(51, .bool ((uchk o.text).2))] [3] ?_)))
    by_cases c_22 : (uchk o.text).2 = true
    ·rw [show ((uchk o.text).2 : Bool) = true from by simpa using c_22]
     refine xr0 1 [(52, bF)] [51] ?_
     refine nl (cf (sk (sq (sg (xr 3 [(54, .load (i6 o.kind)), (55, .eq bF)] [(55, bF)] [52] [_, _] ⟨lc 3 (Blk.below hk_3 hb_21) 0, bN c_10, trivial⟩ ?_)))))
     refine nl (cf (sk (sg (xe1 2 [(63, .load (aL A o.attrs c))] [(63, aL A o.attrs c)] (lc 49 (Blk.below hk_3 hb_21) 6) ?_))))
     refine xc 156 ent156 [.slice A o.attrs.length c, bF] (r3check_any _ _ o.attrs false _ (Kd.C_below hA (bt hb_2 hb_21)) hz.2.2.2 (hT.below (bt hb_2 hb_21))) ?_
     rintro e w_23 ⟨rfl, hb_24⟩; refine ⟨_, rfl, ?_⟩
     refine xe0 1 [(2, i6 (chkA false o.attrs : Int))] ?_
     refine nl (X_ret (rj [i6 (chkA false o.attrs : Int)] hR_ ?_))
     rw [show refuseP o = chkA false o.attrs from by unfold refuseP; simp_all <;> omega]
     exact ⟨rfl, (bt (bt hb_2 hb_21) hb_24)⟩
    rw [show ((uchk o.text).2 : Bool) = false from by simpa using c_22]
    refine xr0 1 [(52, bT)] [51] ?_
    refine nl (ct (sg (xe0 1 [(2, i6 1)] ?_)))
    refine nl (X_ret (rj [i6 1] hR_ ?_))
    rw [show refuseP o = 1 from by unfold refuseP; simp_all <;> omega]
    exact ⟨rfl, (bt hb_2 hb_21)⟩
   refine xr 4 [(30, .as bT)] [(18, bT)] [22, 26, 28, 29] [RunsAs Tryz.prog [(28, .agg #[i6 o.vk, i6 o.vn, sT o.vt]), (29, .agg #[i6 0, i6 0, s0])] (Go.Op.binOp Go.BinOp.neq 48 (Go.Operand.tmp 28) (Go.Operand.tmp 29) 48) 4 bT w_1] ⟨runs_bin rfl rfl (run_eqGuard_agg _ _ _ _ _ _ _ (by kernel_rfl)) (by have h := plain_neq (o.vk, o.vn, o.vt) pl0 w_1; rw [show ple (o.vk, o.vn, o.vt) pl0 = false from Bool.eq_false_iff.2 (fun k => c_9 ((ple_iff _ _).1 k))] at h; exact h), trivial⟩ ?_
   refine nl (ct (sg (xe0 1 [(2, i6 9)] ?_)))
   refine nl (X_ret (rj [i6 9] hR_ ?_))
   rw [show refuseP o = 9 from by unfold refuseP; simp_all <;> omega]
   exact ⟨rfl, hb_2⟩
  refine xr1 2 [(17, .eq bT)] [(14, bT)] [16] (nT c_7) ?_
  refine nl (ct (sg (xe0 1 [(2, i6 9)] ?_)))
  refine nl (X_ret (rj [i6 9] hR_ ?_))
  rw [show refuseP o = 9 from by unfold refuseP; simp_all <;> omega]
  exact ⟨rfl, hb_2⟩
 refine xr 4 [(8, .eq bT), (11, .load (i6 o.kind))] [(9, bT), (11, i6 o.kind)] [7] [_, _] ⟨nT c_6, lc 3 hk_3 0, trivial⟩ ?_
 by_cases c_25 : o.kind = 2
 ·refine xr1 3 [(12, .eq bF)] [(5, bF)] [9, 11] (nF c_25) ?_
  refine nl (cf (sg (xr1 2 [(16, .load (i6 o.count))] [(16, i6 o.count)] [5] (lc 3 hk_3 5) ?_)))
  by_cases c_26 : o.count = 0
  ·refine xe1 2 [(17, .eq bF)] [(1, pw w.heap.size 0), (14, bF)] (nF c_26) ?_
   refine nl (cf (sg (xr 15 [(20, .load (i6 o.kind)), (21, .eq bF)] [(18, bF)] [14] [_, _] ⟨lc 3 hk_3 0, bN c_6, trivial⟩ ?_)))
   refine nl (cf (sg (xr 6 [(35, .load (i6 o.kind)), (36, .eq bT), (39, .load (sT o.text))] [(37, bT), (39, sT o.text)] [18] [_, _, _] ⟨lc 3 hk_3 0, bE c_25, lc 9 hk_3 1, trivial⟩ ?_)))
   by_cases c_27 : o.text = (⟨#[]⟩ : ByteArray)
   ·refine xr 9 [(40, .eq bT)] [(33, bT)] [37, 39] [Value.bool (o.text.toList == (⟨#[]⟩ : ByteArray).toList) = bT] ⟨congrArg Value.bool (strEqT (c_27)), trivial⟩ ?_
    refine nl (ct (sg (xe0 1 [(2, i6 6)] ?_)))
    refine nl (X_ret (rj [i6 6] hR_ ?_))
    rw [show refuseP o = 6 from by unfold refuseP; simp_all <;> omega]
    exact ⟨rfl, hb_2⟩
   refine xr 5 [(40, .eq bF), (43, .load (sT o.text))] [(41, bF), (44, i6 (o.text.size : Int))] [39] [Value.bool (o.text.toList == (⟨#[]⟩ : ByteArray).toList) = bF, _] ⟨congrArg Value.bool (strEqF (c_27)), lc 9 hk_3 1, trivial⟩ ?_
   by_cases c_28 : (o.text.size : Int) > 64
   ·refine xr1 4 [(45, .eq bT)] [(33, bT)] [37, 41, 44] (dT c_28) ?_
    refine nl (ct (sg (xe0 1 [(2, i6 6)] ?_)))
    refine nl (X_ret (rj [i6 6] hR_ ?_))
    rw [show refuseP o = 6 from by unfold refuseP; simp_all <;> omega]
    exact ⟨rfl, hb_2⟩
   refine xr1 4 [(45, .eq bF)] [(33, bF)] [37, 41, 44] (dF c_28) ?_
   refine nl (cf (sk (sg (xr1 2 [(49, .load (sT o.text))] [(49, sT o.text)] [33] (lc 9 hk_3 1) ?_))))
   refine xc 218 ent218 [sT o.text] (utf8_any o.text _ (by omega)) ?_
   rintro e w_29 ⟨rfl, hb_30⟩; refine ⟨_, rfl, ?_⟩
   refine xe0 1 [(1, pw w.heap.size 0), (3, .bool ((uchk o.text).2))] ?_
   refine nl (sq (sg (xr0 1 [(51, .bool ((uchk o.text).2))] [3] ?_)))
   by_cases c_31 : (uchk o.text).2 = true
   ·rw [show ((uchk o.text).2 : Bool) = true from by simpa using c_31]
    refine xr0 1 [(52, bF)] [51] ?_
    refine nl (cf (sk (sq (sg (xr 3 [(54, .load (i6 o.kind)), (55, .eq bT)] [(55, bT)] [52] [_, _] ⟨lc 3 (Blk.below hk_3 hb_30) 0, bE c_25, trivial⟩ ?_)))))
    refine nl (ct (sg (xr 2 [(57, .load (.agg #[i6 o.vk, i6 o.vn, sT o.vt]))] [(57, .agg #[i6 o.vk, i6 o.vn, sT o.vt])] [55] [la 48 (⟨w.heap.size, 2, none⟩) (.agg #[i6 o.vk, i6 o.vn, sT o.vt]) w_29] ⟨loadsB rfl rfl (Blk.below hk_3 hb_30) 2 ⟨by kernel_rfl, by kernel_rfl⟩, trivial⟩ ?_)))
    refine xc 155 ent155 [.agg #[i6 o.vk, i6 o.vn, sT o.vt]] (r2check_any o.vk o.vn o.vt _ (by omega)) ?_
    rintro e w_32 ⟨rfl, hb_33⟩; refine ⟨_, rfl, ?_⟩
    refine xr0 1 [(4, i6 (plainErr o.vk o.vn o.vt : Int))] [57, 58] ?_
    refine nl (sg (xe0 1 [(1, pw w.heap.size 0), (4, i6 (plainErr o.vk o.vn o.vt : Int)), (59, i6 (plainErr o.vk o.vn o.vt : Int))] ?_))
    by_cases c_34 : (plainErr o.vk o.vn o.vt : Int) = 0
    ·refine xr1 1 [(60, .eq bF)] [(60, bF)] [59] (nF c_34) ?_
     refine nl (cf (sk (sg (xe1 2 [(63, .load (aL A o.attrs c))] [(63, aL A o.attrs c)] (lc 49 (Blk.below hk_3 (bt hb_30 hb_33)) 6) ?_))))
     refine xc 156 ent156 [.slice A o.attrs.length c, bF] (r3check_any _ _ o.attrs false _ (Kd.C_below hA (bt (bt hb_2 hb_30) hb_33)) hz.2.2.2 (hT.below (bt (bt hb_2 hb_30) hb_33))) ?_
     rintro e w_35 ⟨rfl, hb_36⟩; refine ⟨_, rfl, ?_⟩
     refine xe0 1 [(2, i6 (chkA false o.attrs : Int))] ?_
     refine nl (X_ret (rj [i6 (chkA false o.attrs : Int)] hR_ ?_))
     rw [show refuseP o = chkA false o.attrs from by unfold refuseP; simp_all <;> omega]
     exact ⟨rfl, (bt (bt (bt hb_2 hb_30) hb_33) hb_36)⟩
    refine xr1 1 [(60, .eq bT)] [(60, bT)] [59] (nT c_34) ?_
    refine nl (ct (sg (xe0 2 [(2, i6 (plainErr o.vk o.vn o.vt : Int))] ?_)))
    refine nl (X_ret (rj [i6 (plainErr o.vk o.vn o.vt : Int)] hR_ ?_))
    rw [show refuseP o = plainErr o.vk o.vn o.vt from by unfold refuseP; simp_all <;> omega]
    exact ⟨rfl, (bt (bt hb_2 hb_30) hb_33)⟩
   rw [show ((uchk o.text).2 : Bool) = false from by simpa using c_31]
   refine xr0 1 [(52, bT)] [51] ?_
   refine nl (ct (sg (xe0 1 [(2, i6 1)] ?_)))
   refine nl (X_ret (rj [i6 1] hR_ ?_))
   rw [show refuseP o = 1 from by unfold refuseP; simp_all <;> omega]
   exact ⟨rfl, (bt hb_2 hb_30)⟩
  refine xe1 2 [(17, .eq bT)] [(1, pw w.heap.size 0), (14, bT)] (nT c_26) ?_
  refine nl (ct (sg (xe0 1 [(2, i6 9)] ?_)))
  refine nl (X_ret (rj [i6 9] hR_ ?_))
  rw [show refuseP o = 9 from by unfold refuseP; simp_all <;> omega]
  exact ⟨rfl, hb_2⟩
 refine xr1 3 [(12, .eq bT)] [(5, bT)] [9, 11] (nT c_25) ?_
 refine nl (ct (sg (xe0 1 [(2, i6 5)] ?_)))
 refine nl (X_ret (rj [i6 5] hR_ ?_))
 rw [show refuseP o = 5 from by unfold refuseP; simp_all <;> omega]
 exact ⟨rfl, hb_2⟩
noncomputable def len4 (o : OpA) : Int := if o.kind = 2 then 1 else ((U.sc o.text).length : Int)
set_option maxHeartbeats 2000000 in
theorem r5empty_any (o : OpA) (A : Option Addr) (c : Nat) (w : World) (hA : kAttr.C w A o.attrs.length o.attrs) (hz : opSz o) : Calls Tryz.prog 201 #[.agg (o7A o (.slice A o.attrs.length c))] w fun e w' => e = .returned (.bool (hasP o)) ∧ Below w.heap.size w w' := by
 refine en Tryz.func201 rfl 49 [(0, .agg (o7A o (aL A o.attrs c)))] (fun R_ hR_ => ?_)
 refine sg (xwe 1 [] [(1, pw w.heap.size 0)] (w.alloc (.cells (o7A o (aL A o.attrs c)) 102)) [] trivial ?_)
 obtain ⟨w_1, hw_5, hb_2, hk_3, hz_4⟩ := new_world w (o7A o (aL A o.attrs c)) 102
 rw [hw_5]
 refine xr0 1 [] [] ?_
 refine nl (sq (sg (xr1 2 [(4, .load (i6 o.kind))] [(4, i6 o.kind)] [] (lc 3 hk_3 0) ?_)))
 refine nl (bk (sq (X_region ?_)))
 by_cases c_6 : o.kind = 1
 ·refine xr1 2 [(6, .eq bT)] [(5, bT)] [] (bE c_6) ?_
  refine nl (ct (sg (xr1 2 [(8, .load (i6 o.count))] [(8, i6 o.count)] [4, 5] (lc 3 hk_3 5) ?_)))
  by_cases c_7 : o.count = 0
  ·refine xe 5 [(9, .eq bT), (12, .load (.agg #[i6 o.vk, i6 o.vn, sT o.vt]))] [(10, bT), (12, .agg #[i6 o.vk, i6 o.vn, sT o.vt]), (13, .agg #[i6 0, i6 0, s0])] [_, la 48 (⟨w.heap.size, 2, none⟩) (.agg #[i6 o.vk, i6 o.vn, sT o.vt]) w_1] ⟨bE c_7, loadsB rfl rfl hk_3 2 ⟨by kernel_rfl, by kernel_rfl⟩, trivial⟩ ?_
   by_cases c_8 : (o.vk, o.vn, o.vt) = pl0
   ·refine xe 3 [(14, .as bT)] [(2, bT)] [RunsAs Tryz.prog [(12, .agg #[i6 o.vk, i6 o.vn, sT o.vt]), (13, .agg #[i6 0, i6 0, s0])] (Go.Op.binOp Go.BinOp.eql 48 (Go.Operand.tmp 12) (Go.Operand.tmp 13) 48) 4 bT w_1] ⟨runs_bin rfl rfl (run_eqGuard_agg _ _ _ _ _ _ _ (by kernel_rfl)) (by have h := plain_eqb (o.vk, o.vn, o.vt) pl0 w_1; rw [show ple (o.vk, o.vn, o.vt) pl0 = true from (ple_iff _ _).2 c_8] at h; exact h), trivial⟩ ?_
    refine nl (X_ret (rj [bT] hR_ ?_))
    rw [show hasP o = true from by unfold hasP; simp_all]
    exact ⟨rfl, hb_2⟩
   refine xe 3 [(14, .as bF)] [(2, bF)] [RunsAs Tryz.prog [(12, .agg #[i6 o.vk, i6 o.vn, sT o.vt]), (13, .agg #[i6 0, i6 0, s0])] (Go.Op.binOp Go.BinOp.eql 48 (Go.Operand.tmp 12) (Go.Operand.tmp 13) 48) 4 bF w_1] ⟨runs_bin rfl rfl (run_eqGuard_agg _ _ _ _ _ _ _ (by kernel_rfl)) (by have h := plain_eqb (o.vk, o.vn, o.vt) pl0 w_1; rw [show ple (o.vk, o.vn, o.vt) pl0 = false from Bool.eq_false_iff.2 (fun k => c_8 ((ple_iff _ _).1 k))] at h; exact h), trivial⟩ ?_
   refine nl (X_ret (rj [bF] hR_ ?_))
   rw [show hasP o = false from by unfold hasP; simp_all]
   exact ⟨rfl, hb_2⟩
  refine xe1 8 [(9, .eq bF)] [(2, bF)] (bN c_7) ?_
  refine nl (X_ret (rj [bF] hR_ ?_))
  rw [show hasP o = false from by unfold hasP; simp_all]
  exact ⟨rfl, hb_2⟩
 refine xr1 2 [(6, .eq bF)] [(5, bF)] [] (bN c_6) ?_
 refine nl (cf (sq (X_region ?_)))
 by_cases c_9 : o.kind = 2
 ·refine xr1 2 [(17, .eq bT)] [(16, bT)] [5] (bE c_9) ?_
  refine nl (ct (sg (xe1 2 [(19, .load (i6 o.count))] [(19, i6 o.count)] (lc 3 hk_3 5) ?_)))
  by_cases c_10 : o.count = 0
  ·refine xe1 2 [(20, .eq bT)] [(2, bT)] (bE c_10) ?_
   refine nl (X_ret (rj [bT] hR_ ?_))
   rw [show hasP o = true from by unfold hasP; simp_all]
   exact ⟨rfl, hb_2⟩
  refine xe1 2 [(20, .eq bF)] [(2, bF)] (bN c_10) ?_
  refine nl (X_ret (rj [bF] hR_ ?_))
  rw [show hasP o = false from by unfold hasP; simp_all]
  exact ⟨rfl, hb_2⟩
 refine xr1 2 [(17, .eq bF)] [(16, bF)] [5] (bN c_9) ?_
 refine nl (cf (sq (X_region ?_)))
 by_cases c_11 : o.kind = 3
 ·refine xr1 2 [(22, .eq bT)] [(21, bT)] [16] (bE c_11) ?_
  refine nl (ct (sg (xe1 2 [(24, .load (sT o.text))] [(1, pw w.heap.size 0), (24, sT o.text)] (lc 9 hk_3 1) ?_)))
  by_cases c_12 : o.text = (⟨#[]⟩ : ByteArray)
  ·refine xe 5 [(25, .eq bT), (28, .load (.agg #[i6 o.vk, i6 o.vn, sT o.vt]))] [(26, bT), (28, .agg #[i6 o.vk, i6 o.vn, sT o.vt]), (29, .agg #[i6 0, i6 0, s0])] [Value.bool (o.text.toList == (⟨#[]⟩ : ByteArray).toList) = bT, la 48 (⟨w.heap.size, 2, none⟩) (.agg #[i6 o.vk, i6 o.vn, sT o.vt]) w_1] ⟨congrArg Value.bool (strEqT (c_12)), loadsB rfl rfl hk_3 2 ⟨by kernel_rfl, by kernel_rfl⟩, trivial⟩ ?_
   by_cases c_13 : (o.vk, o.vn, o.vt) = pl0
   ·refine xe 3 [(30, .as bT)] [(2, bT)] [RunsAs Tryz.prog [(28, .agg #[i6 o.vk, i6 o.vn, sT o.vt]), (29, .agg #[i6 0, i6 0, s0])] (Go.Op.binOp Go.BinOp.eql 48 (Go.Operand.tmp 28) (Go.Operand.tmp 29) 48) 4 bT w_1] ⟨runs_bin rfl rfl (run_eqGuard_agg _ _ _ _ _ _ _ (by kernel_rfl)) (by have h := plain_eqb (o.vk, o.vn, o.vt) pl0 w_1; rw [show ple (o.vk, o.vn, o.vt) pl0 = true from (ple_iff _ _).2 c_13] at h; exact h), trivial⟩ ?_
    refine nl (X_ret (rj [bT] hR_ ?_))
    rw [show hasP o = true from by unfold hasP; simp_all]
    exact ⟨rfl, hb_2⟩
   refine xe 3 [(30, .as bF)] [(2, bF)] [RunsAs Tryz.prog [(28, .agg #[i6 o.vk, i6 o.vn, sT o.vt]), (29, .agg #[i6 0, i6 0, s0])] (Go.Op.binOp Go.BinOp.eql 48 (Go.Operand.tmp 28) (Go.Operand.tmp 29) 48) 4 bF w_1] ⟨runs_bin rfl rfl (run_eqGuard_agg _ _ _ _ _ _ _ (by kernel_rfl)) (by have h := plain_eqb (o.vk, o.vn, o.vt) pl0 w_1; rw [show ple (o.vk, o.vn, o.vt) pl0 = false from Bool.eq_false_iff.2 (fun k => c_13 ((ple_iff _ _).1 k))] at h; exact h), trivial⟩ ?_
   refine nl (X_ret (rj [bF] hR_ ?_))
   rw [show hasP o = false from by unfold hasP; simp_all]
   exact ⟨rfl, hb_2⟩
  refine xe 8 [(25, .eq bF)] [(2, bF)] [Value.bool (o.text.toList == (⟨#[]⟩ : ByteArray).toList) = bF] ⟨congrArg Value.bool (strEqF (c_12)), trivial⟩ ?_
  refine nl (X_ret (rj [bF] hR_ ?_))
  rw [show hasP o = false from by unfold hasP; simp_all]
  exact ⟨rfl, hb_2⟩
 refine xr1 2 [(22, .eq bF)] [(21, bF)] [16] (bN c_11) ?_
 refine nl (cf (sq (X_region ?_)))
 by_cases c_14 : o.kind = 4
 ·refine xe1 2 [(33, .eq bT)] [(1, pw w.heap.size 0), (32, bT)] (bE c_14) ?_
  refine nl (ct (sg (xr1 2 [(35, .load (sT o.text))] [(35, sT o.text)] [32] (lc 9 hk_3 1) ?_)))
  by_cases c_15 : o.text = (⟨#[]⟩ : ByteArray)
  ·refine xr 5 [(36, .eq bT), (39, .load (.agg #[i6 o.vk, i6 o.vn, sT o.vt]))] [(37, bT), (39, .agg #[i6 o.vk, i6 o.vn, sT o.vt]), (40, .agg #[i6 0, i6 0, s0])] [35] [Value.bool (o.text.toList == (⟨#[]⟩ : ByteArray).toList) = bT, la 48 (⟨w.heap.size, 2, none⟩) (.agg #[i6 o.vk, i6 o.vn, sT o.vt]) w_1] ⟨congrArg Value.bool (strEqT (c_15)), loadsB rfl rfl hk_3 2 ⟨by kernel_rfl, by kernel_rfl⟩, trivial⟩ ?_
   by_cases c_16 : (o.vk, o.vn, o.vt) = pl0
   ·refine xe 6 [(41, .as bT), (45, .load (aL A o.attrs c))] [(43, bT), (46, i6 (o.attrs.length : Int))] [RunsAs Tryz.prog [(39, .agg #[i6 o.vk, i6 o.vn, sT o.vt]), (40, .agg #[i6 0, i6 0, s0])] (Go.Op.binOp Go.BinOp.eql 48 (Go.Operand.tmp 39) (Go.Operand.tmp 40) 48) 4 bT w_1, _] ⟨runs_bin rfl rfl (run_eqGuard_agg _ _ _ _ _ _ _ (by kernel_rfl)) (by have h := plain_eqb (o.vk, o.vn, o.vt) pl0 w_1; rw [show ple (o.vk, o.vn, o.vt) pl0 = true from (ple_iff _ _).2 c_16] at h; exact h), lc 49 hk_3 6, trivial⟩ ?_
    by_cases c_17 : (o.attrs.length : Int) = 0
    ·refine xe1 3 [(47, .eq bT)] [(2, bT)] (bE c_17) ?_
     refine nl (X_ret (rj [bT] hR_ ?_))
     rw [show hasP o = true from by unfold hasP; simp_all]
     exact ⟨rfl, hb_2⟩
    refine xe1 3 [(47, .eq bF)] [(2, bF)] (bN c_17) ?_
    refine nl (X_ret (rj [bF] hR_ ?_))
    rw [show hasP o = false from by unfold hasP; simp_all]
    exact ⟨rfl, hb_2⟩
   refine xe 9 [(41, .as bF)] [(2, bF)] [RunsAs Tryz.prog [(39, .agg #[i6 o.vk, i6 o.vn, sT o.vt]), (40, .agg #[i6 0, i6 0, s0])] (Go.Op.binOp Go.BinOp.eql 48 (Go.Operand.tmp 39) (Go.Operand.tmp 40) 48) 4 bF w_1] ⟨runs_bin rfl rfl (run_eqGuard_agg _ _ _ _ _ _ _ (by kernel_rfl)) (by have h := plain_eqb (o.vk, o.vn, o.vt) pl0 w_1; rw [show ple (o.vk, o.vn, o.vt) pl0 = false from Bool.eq_false_iff.2 (fun k => c_16 ((ple_iff _ _).1 k))] at h; exact h), trivial⟩ ?_
   refine nl (X_ret (rj [bF] hR_ ?_))
   rw [show hasP o = false from by unfold hasP; simp_all]
   exact ⟨rfl, hb_2⟩
  refine xe 14 [(36, .eq bF)] [(2, bF)] [Value.bool (o.text.toList == (⟨#[]⟩ : ByteArray).toList) = bF] ⟨congrArg Value.bool (strEqF (c_15)), trivial⟩ ?_
  refine nl (X_ret (rj [bF] hR_ ?_))
  rw [show hasP o = false from by unfold hasP; simp_all]
  exact ⟨rfl, hb_2⟩
 refine xe1 2 [(33, .eq bF)] [(1, pw w.heap.size 0), (32, bF)] (bN c_14) ?_
 refine nl (cf (sk (sg (xe0 1 [(2, bF)] ?_))))
 refine nl (X_ret (rj [bF] hR_ ?_))
 rw [show hasP o = false from by unfold hasP; simp_all]
 exact ⟨rfl, hb_2⟩
theorem r5check_any (o : OpA) (A : Option Addr) (c : Nat) (w : World) (hA : kAttr.C w A o.attrs.length o.attrs) (hz : opSz o) (hT : Tabs w) : Calls Tryz.prog 163 #[.agg (o7A o (.slice A o.attrs.length c))] w fun e w' => e = .returned (i6 (pErr o : Int)) ∧ Below w.heap.size w w' := by
 refine en Tryz.func163 rfl 28 [(0, .agg (o7A o (aL A o.attrs c)))] (fun R_ hR_ => ?_)
 refine sg (xwe 1 [] [(1, pw w.heap.size 0)] (w.alloc (.cells (o7A o (aL A o.attrs c)) 102)) [] trivial ?_)
 obtain ⟨w_1, hw_5, hb_2, hk_3, hz_4⟩ := new_world w (o7A o (aL A o.attrs c)) 102
 rw [hw_5]
 refine xr0 1 [] [] ?_
 refine nl (sq (sg (xr 1 [(3, .load (.agg (o7A o (aL A o.attrs c))))] [(3, .agg (o7A o (aL A o.attrs c)))] [] [la 102 (⟨w.heap.size, 0, none⟩) (.agg (o7A o (aL A o.attrs c))) w_1] ⟨loadsB rfl rfl hk_3 0 ⟨by kernel_rfl, by kernel_rfl⟩, trivial⟩ ?_)))
 refine xc 201 ent201 [.agg (o7A o (aL A o.attrs c))] (r5empty_any o _ _ _ (Kd.C_below hA hb_2) hz) ?_
 rintro e w_6 ⟨rfl, hb_7⟩; refine ⟨_, rfl, ?_⟩
 by_cases c_8 : hasP o = true
 ·rw [show (hasP o : Bool) = true from by simpa using c_8]
  refine xr0 1 [(5, bF)] [3, 4] ?_
  refine nl (cf (sk (sq (sg (xr1 2 [(7, .load (i6 o.kind))] [(7, i6 o.kind)] [5] (lc 3 (Blk.below hk_3 hb_7) 0) ?_)))))
  by_cases c_9 : o.kind = 1
  ·refine xr1 6 [(8, .eq bT)] [(13, bT)] [7] (bE c_9) ?_
   refine nl (ct (sg (xe 1 [(14, .load (.agg (o7A o (aL A o.attrs c))))] [(14, .agg (o7A o (aL A o.attrs c)))] [la 102 (⟨w.heap.size, 0, none⟩) (.agg (o7A o (aL A o.attrs c))) w_6] ⟨loadsB rfl rfl (Blk.below hk_3 hb_7) 0 ⟨by kernel_rfl, by kernel_rfl⟩, trivial⟩ ?_)))
   refine xc 202 ent202 [.agg (o7A o (aL A o.attrs c))] (r4refuse_any o _ _ _ (Kd.C_below hA (bt hb_2 hb_7)) hz (hT.below (bt hb_2 hb_7))) ?_
   rintro e w_10 ⟨rfl, hb_11⟩; refine ⟨_, rfl, ?_⟩
   refine xe0 1 [(2, i6 (refuseP o : Int))] ?_
   refine nl (X_ret (rj [i6 (refuseP o : Int)] hR_ ?_))
   have hpe : pErr o = refuseP o := by unfold pErr; simp_all
   rw [hpe]
   exact ⟨rfl, (bt (bt hb_2 hb_7) hb_11)⟩
  refine xr 4 [(8, .eq bF), (11, .load (i6 o.kind))] [(9, bF), (11, i6 o.kind)] [7] [_, _] ⟨bN c_9, lc 3 (Blk.below hk_3 hb_7) 0, trivial⟩ ?_
  by_cases c_12 : o.kind = 2
  ·refine xe1 2 [(12, .eq bT)] [(1, pw w.heap.size 0), (13, bT)] (bE c_12) ?_
   refine nl (ct (sg (xe 1 [(14, .load (.agg (o7A o (aL A o.attrs c))))] [(14, .agg (o7A o (aL A o.attrs c)))] [la 102 (⟨w.heap.size, 0, none⟩) (.agg (o7A o (aL A o.attrs c))) w_6] ⟨loadsB rfl rfl (Blk.below hk_3 hb_7) 0 ⟨by kernel_rfl, by kernel_rfl⟩, trivial⟩ ?_)))
   refine xc 202 ent202 [.agg (o7A o (aL A o.attrs c))] (r4refuse_any o _ _ _ (Kd.C_below hA (bt hb_2 hb_7)) hz (hT.below (bt hb_2 hb_7))) ?_
   rintro e w_13 ⟨rfl, hb_14⟩; refine ⟨_, rfl, ?_⟩
   refine xe0 1 [(2, i6 (refuseP o : Int))] ?_
   refine nl (X_ret (rj [i6 (refuseP o : Int)] hR_ ?_))
   have hpe : pErr o = refuseP o := by unfold pErr; simp_all
   rw [hpe]
   exact ⟨rfl, (bt (bt hb_2 hb_7) hb_14)⟩
  refine xe1 2 [(12, .eq bF)] [(1, pw w.heap.size 0), (13, bF)] (bN c_12) ?_
  refine nl (cf (sk (sq (sg (xr1 2 [(17, .load (i6 o.count))] [(17, i6 o.count)] [13] (lc 3 (Blk.below hk_3 hb_7) 5) ?_)))))
  by_cases c_15 : o.count < 1
  ·refine xr1 1 [(18, .eq bT)] [(18, bT)] [17] (dT c_15) ?_
   refine nl (ct (sg (xe0 1 [(2, i6 9)] ?_)))
   refine nl (X_ret (rj [i6 9] hR_ ?_))
   have hpe : pErr o = 9 := by rw [pErr_small c_8 c_9 c_12]; first | (rw [if_pos (by omega)]; done) | (rw [if_neg (by omega), if_pos (by omega)]; done) | (rw [if_neg (by omega), if_neg (by omega), if_pos (by omega)]; done) | (rw [if_neg (by omega), if_neg (by omega), if_neg (by omega)])
   rw [hpe]
   exact ⟨rfl, (bt hb_2 hb_7)⟩
  refine xr1 1 [(18, .eq bF)] [(18, bF)] [17] (dF c_15) ?_
  refine nl (cf (sk (sq (sg (xr1 2 [(20, .load (i6 o.count))] [(20, i6 o.count)] [18] (lc 3 (Blk.below hk_3 hb_7) 5) ?_)))))
  by_cases c_16 : o.count > 1099511627776
  ·refine xr1 1 [(21, .eq bT)] [(21, bT)] [20] (dT c_16) ?_
   refine nl (ct (sg (xe0 1 [(2, i6 11)] ?_)))
   refine nl (X_ret (rj [i6 11] hR_ ?_))
   have hpe : pErr o = 11 := by rw [pErr_small c_8 c_9 c_12]; first | (rw [if_pos (by omega)]; done) | (rw [if_neg (by omega), if_pos (by omega)]; done) | (rw [if_neg (by omega), if_neg (by omega), if_pos (by omega)]; done) | (rw [if_neg (by omega), if_neg (by omega), if_neg (by omega)])
   rw [hpe]
   exact ⟨rfl, (bt hb_2 hb_7)⟩
  refine xr1 1 [(21, .eq bF)] [(21, bF)] [20] (dF c_16) ?_
  refine nl (cf (sk (sq (sg (xr1 2 [(23, .load (i6 o.kind))] [(23, i6 o.kind)] [21] (lc 3 (Blk.below hk_3 hb_7) 0) ?_)))))
  by_cases c_17 : o.kind = 3
  ·refine xe1 1 [(24, .eq bT)] [(1, pw w.heap.size 0), (24, bT)] (bE c_17) ?_
   refine nl (ct (sg (xe1 2 [(26, .load (aL A o.attrs c))] [(26, aL A o.attrs c)] (lc 49 (Blk.below hk_3 hb_7) 6) ?_)))
   refine xc 156 ent156 [.slice A o.attrs.length c, bT] (r3check_any _ _ o.attrs true _ (Kd.C_below hA (bt hb_2 hb_7)) hz.2.2.2 (hT.below (bt hb_2 hb_7))) ?_
   rintro e w_18 ⟨rfl, hb_19⟩; refine ⟨_, rfl, ?_⟩
   refine xe0 1 [(2, i6 (chkA true o.attrs : Int))] ?_
   refine nl (X_ret (rj [i6 (chkA true o.attrs : Int)] hR_ ?_))
   have hk4 : ¬ o.kind = 4 := by omega
   have hpe : pErr o = chkA true o.attrs := by rw [pErr_small c_8 c_9 c_12]; first | (rw [if_pos (by omega)]; done) | (rw [if_neg (by omega), if_pos (by omega)]; done) | (rw [if_neg (by omega), if_neg (by omega), if_pos (by omega)]; done) | (rw [if_neg (by omega), if_neg (by omega), if_neg (by omega)])
   rw [hpe]
   exact ⟨rfl, (bt (bt hb_2 hb_7) hb_19)⟩
  refine xe1 1 [(24, .eq bF)] [(1, pw w.heap.size 0), (24, bF)] (bN c_17) ?_
  refine nl (cf (sk (sg (xe0 1 [(2, i6 0)] ?_))))
  refine nl (X_ret (rj [i6 0] hR_ ?_))
  have hk4 : o.kind = 4 := by have h_ := pErr_k3 c_8; omega
  have hpe : pErr o = 0 := by rw [pErr_small c_8 c_9 c_12]; first | (rw [if_pos (by omega)]; done) | (rw [if_neg (by omega), if_pos (by omega)]; done) | (rw [if_neg (by omega), if_neg (by omega), if_pos (by omega)]; done) | (rw [if_neg (by omega), if_neg (by omega), if_neg (by omega)])
  rw [hpe]
  exact ⟨rfl, (bt hb_2 hb_7)⟩
 rw [show (hasP o : Bool) = false from by simpa using c_8]
 refine xr0 1 [(5, bT)] [3, 4] ?_
 refine nl (ct (sg (xe0 1 [(2, i6 9)] ?_)))
 refine nl (X_ret (rj [i6 9] hR_ ?_))
 have hpe : pErr o = 9 := pErr_has (Bool.eq_false_iff.2 c_8)
 rw [hpe]
 exact ⟨rfl, (bt hb_2 hb_7)⟩
end Go.Proofs.YtgphmfnkeolbcaaGreatDoor
