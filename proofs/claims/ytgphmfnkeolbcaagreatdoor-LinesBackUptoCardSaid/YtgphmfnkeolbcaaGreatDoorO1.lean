import Derived.Lib.SliceRun
import Derived.Test.YtgphmfnkeolbcaaGreatDoorAn2
import Derived.Test.YtgphmfnkeolbcaaGreatDoorSpare
import Derived.Test.YtgphmfnkeolbcaaGreatDoorWEqStruct
/- What values.Of, content.Of, slices.Clone, ops.piece answer. Conditions: sizes, the tables of utf8, the errors' variables. -/
set_option linter.unusedVariables false
set_option linter.unusedSimpArgs false
set_option maxRecDepth 100000
namespace Go.Proofs.YtgphmfnkeolbcaaGreatDoor
open Go Go.RowKit Go.Proofs.YtgphmfnkeolbcaaGreatDoorW.PrintWords RX
theorem ent230 : Ent Tryz.prog 230 := ent_of Tryz.func230 (by kernel_rfl) rfl
theorem ent225 : Ent Tryz.prog 225 := ent_of Tryz.func225 (by kernel_rfl) rfl
theorem ent222 : Ent Tryz.prog 222 := ent_of Tryz.func222 (by kernel_rfl) rfl
theorem ent223 : Ent Tryz.prog 223 := ent_of Tryz.func223 (by kernel_rfl) rfl
theorem ent213 : Ent Tryz.prog 213 := ent_of Tryz.func213 (by kernel_rfl) rfl
theorem ent110 : Ent Tryz.prog 110 := ent_of Tryz.func110 (by kernel_rfl) rfl
theorem ent212 : Ent Tryz.prog 212 := ent_of Tryz.func212 (by kernel_rfl) rfl
theorem ent186 : Ent Tryz.prog 186 := ent_of Tryz.func186 (by kernel_rfl) rfl
abbrev ErrsI (w : World) (es : List Addr) : Prop := ErrsOn [1, 5, 6, 7, 8, 9, 10] w es
abbrev ErrsO (w : World) (es : List Addr) : Prop := ErrsOn [1, 5, 6, 7, 8, 9, 10, 11] w es
theorem ErrsI.a {w : World} {es : List Addr} (h : ErrsI w es) : ErrsA w es := h.sub (by decide)
theorem ErrsO.i {w : World} {es : List Addr} (h : ErrsO w es) : ErrsI w es := h.sub (by decide)
def ple (x y : Pl) : Bool := (x.1 == y.1) && ((x.2.1 == y.2.1) && (x.2.2.toList == y.2.2.toList))
theorem ple_iff (x y : Pl) : ple x y = true ↔ x = y := by
 obtain ⟨a, b, c⟩ := x
 obtain ⟨a', b', c'⟩ := y
 simp only [ple, Bool.and_eq_true, beq_iff_eq, Prod.mk.injEq]
 exact ⟨fun ⟨h1, h2, h3⟩ => ⟨h1, h2, bytes_ext h3⟩, fun ⟨h1, h2, h3⟩ => ⟨h1, h2, by rw [h3]⟩⟩
theorem plain_neq (x y : Pl) (w : World) : (binOp .neq 48 (.agg #[i6 x.1, i6 x.2.1, sT x.2.2]) (.agg #[i6 y.1, i6 y.2.1, sT y.2.2])).run Tryz.prog w = .ok (.bool (!(ple x y))) w := by
 have h : (Op.equalIn 10000 48 (.agg #[i6 x.1, i6 x.2.1, sT x.2.2]) (.agg #[i6 y.1, i6 y.2.1, sT y.2.2])).run Tryz.prog w = .ok (ple x y) w := by
  refine eqA_of (d := 9999) Tryz.underlying48 (by kernel_rfl) ?_
  exact eqf_cons (a := i6 x.1) (b := i6 y.1) rfl (by kernel_rfl) (by kernel_rfl) (run_equalIn_int _ _ _ _ _ _ _ Tryz.underlying3) (eqf_cons (a := i6 x.2.1) (b := i6 y.2.1) rfl (by kernel_rfl) (by kernel_rfl) (run_equalIn_int _ _ _ _ _ _ _ Tryz.underlying2) (eqf_last (a := sT x.2.2) (b := sT y.2.2) rfl (by kernel_rfl) (by kernel_rfl) (run_equalIn_string _ _ _ _ _ Tryz.underlying9)))
 rw [run_neq_struct]
 show ((Op.equalIn 10000 48 _ _).run Tryz.prog w).andThen _ = _
 rw [h]; rfl
theorem plain_eqb (x y : Pl) (w : World) : (binOp .eql 48 (.agg #[i6 x.1, i6 x.2.1, sT x.2.2]) (.agg #[i6 y.1, i6 y.2.1, sT y.2.2])).run Tryz.prog w = .ok (.bool (ple x y)) w := by
 have h : (Op.equalIn 10000 48 (.agg #[i6 x.1, i6 x.2.1, sT x.2.2]) (.agg #[i6 y.1, i6 y.2.1, sT y.2.2])).run Tryz.prog w = .ok (ple x y) w := by
  refine eqA_of (d := 9999) Tryz.underlying48 (by kernel_rfl) ?_
  exact eqf_cons (a := i6 x.1) (b := i6 y.1) rfl (by kernel_rfl) (by kernel_rfl) (run_equalIn_int _ _ _ _ _ _ _ Tryz.underlying3) (eqf_cons (a := i6 x.2.1) (b := i6 y.2.1) rfl (by kernel_rfl) (by kernel_rfl) (run_equalIn_int _ _ _ _ _ _ _ Tryz.underlying2) (eqf_last (a := sT x.2.2) (b := sT y.2.2) rfl (by kernel_rfl) (by kernel_rfl) (run_equalIn_string _ _ _ _ _ Tryz.underlying9)))
 rw [run_eql_struct]
 show ((Op.equalIn 10000 48 _ _).run Tryz.prog w).andThen _ = _
 rw [h]; rfl
theorem valV_1 {v : Pl} (h : v.1 = 1) : valV v = .iface 296 (.bool (decide (v.2.1 = 1))) := if_pos h
theorem valV_2 {v : Pl} (h1 : v.1 ≠ 1) (h : v.1 = 2) : valV v = .iface 297 (i6 v.2.1) := by unfold valV; rw [if_neg h1, if_pos h]
theorem valV_3 {v : Pl} (h1 : v.1 ≠ 1) (h2 : v.1 ≠ 2) (h : v.1 = 3) : valV v = .iface 298 (sT v.2.2) := by unfold valV; rw [if_neg h1, if_neg h2, if_pos h]
theorem valV_0 {v : Pl} (h1 : v.1 ≠ 1) (h2 : v.1 ≠ 2) (h3 : v.1 ≠ 3) : valV v = .iface 300 (.agg #[]) := by unfold valV; rw [if_neg h1, if_neg h2, if_neg h3]
theorem value_any (k n : Int) (t : ByteArray) (w : World) : Calls Tryz.prog 230 #[.agg #[i6 k, i6 n, sT t]] w fun e w' => e = .returned (valV (k, n, t)) ∧ Below w.heap.size w w' := by
 refine en Tryz.func230 rfl 23 [(0, .agg #[i6 k, i6 n, sT t])] (fun R_ hR_ => ?_)
 refine sg (xwe 1 [] [(1, pw w.heap.size 0)] (w.alloc (.cells #[i6 k, i6 n, sT t] 48)) [] trivial ?_)
 obtain ⟨w_1, hw_5, hb_2, hk_3, hz_4⟩ := new_world w #[i6 k, i6 n, sT t] 48
 rw [hw_5]
 refine xr0 1 [] [] ?_
 refine nl (sq (sg (xr1 2 [(4, .load (i6 k))] [(4, i6 k)] [] (lc 3 hk_3 0) ?_)))
 refine nl (bk (sq (X_region ?_)))
 by_cases c_6 : k = 1
 ·refine xr1 2 [(6, .eq bT)] [(5, bT)] [] (bE c_6) ?_
  refine nl (ct (sg (xe1 2 [(8, .load (i6 n))] [(8, i6 n)] (lc 2 hk_3 1) ?_)))
  by_cases c_7 : n = 1
  ·refine xe1 3 [(9, .eq bT)] [(2, .iface 296 bT)] (bE c_7) ?_
   refine nl (X_ret (rj [.iface 296 bT] hR_ ?_))
   rw [show valV (k, n, t) = .iface 296 bT from by unfold valV; simp_all]
   exact ⟨rfl, hb_2⟩
  refine xe1 3 [(9, .eq bF)] [(2, .iface 296 bF)] (bN c_7) ?_
  refine nl (X_ret (rj [.iface 296 bF] hR_ ?_))
  rw [show valV (k, n, t) = .iface 296 bF from by unfold valV; simp_all]
  exact ⟨rfl, hb_2⟩
 refine xr1 2 [(6, .eq bF)] [(5, bF)] [] (bN c_6) ?_
 refine nl (cf (sq (X_region ?_)))
 by_cases c_8 : k = 2
 ·refine xr1 2 [(12, .eq bT)] [(11, bT)] [5] (bE c_8) ?_
  refine nl (ct (sg (xe1 4 [(14, .load (i6 n))] [(2, .iface 297 (i6 n))] (lc 2 hk_3 1) ?_)))
  refine nl (X_ret (rj [.iface 297 (i6 n)] hR_ ?_))
  rw [show valV (k, n, t) = .iface 297 (i6 n) from by unfold valV; simp_all]
  exact ⟨rfl, hb_2⟩
 refine xr1 2 [(12, .eq bF)] [(11, bF)] [5] (bN c_8) ?_
 refine nl (cf (sq (X_region ?_)))
 by_cases c_9 : k = 3
 ·refine xr1 2 [(17, .eq bT)] [(16, bT)] [4, 11] (bE c_9) ?_
  refine nl (ct (sg (xe1 4 [(19, .load (sT t))] [(2, .iface 298 (sT t))] (lc 9 hk_3 2) ?_)))
  refine nl (X_ret (rj [.iface 298 (sT t)] hR_ ?_))
  rw [show valV (k, n, t) = .iface 298 (sT t) from by unfold valV; simp_all]
  exact ⟨rfl, hb_2⟩
 refine xr1 2 [(17, .eq bF)] [(16, bF)] [4, 11] (bN c_9) ?_
 refine nl (cf (sk (sg (xe0 3 [(2, .iface 300 (.agg #[]))] ?_))))
 refine nl (X_ret (rj [.iface 300 (.agg #[])] hR_ ?_))
 rw [show valV (k, n, t) = .iface 300 (.agg #[]) from by unfold valV; simp_all]
 exact ⟨rfl, hb_2⟩
theorem vof_any (k n : Int) (t : ByteArray) (w : World) (hs : t.size ≤ 9223372036854775807) (hT : Tabs w) (es : List Addr) (hE : ErrsA w es) : Calls Tryz.prog 225 #[.agg #[i6 k, i6 n, sT t]] w fun e w' => e = .returned (.tuple #[if plainErr k n t = 0 then valV (k, n, t) else .nilIface, errV es (plainErr k n t)]) ∧ Below w.heap.size w w' := by
 refine en Tryz.func225 rfl 12 [(0, .agg #[i6 k, i6 n, sT t])] (fun R_ hR_ => ?_)
 refine sg (xwe 1 [] [(1, pw w.heap.size 0)] (w.alloc (.cells #[i6 k, i6 n, sT t] 48)) [] trivial ?_)
 obtain ⟨w_1, hw_5, hb_2, hk_3, hz_4⟩ := new_world w #[i6 k, i6 n, sT t] 48
 rw [hw_5]
 refine xr0 2 [] [] ?_
 refine nl (sq (sg (xr 1 [(5, .load (.agg #[i6 k, i6 n, sT t]))] [(5, .agg #[i6 k, i6 n, sT t])] [] [la 48 (⟨w.heap.size, 0, none⟩) (.agg #[i6 k, i6 n, sT t]) w_1] ⟨loadsB rfl rfl hk_3 0 ⟨by kernel_rfl, by kernel_rfl⟩, trivial⟩ ?_)))
 refine xc 146 ent146 [.agg #[i6 k, i6 n, sT t]] (vcheck_any k n t _ (by omega) (hT.below hb_2) es (hE.below hb_2)) ?_
 rintro e w_6 ⟨rfl, hb_7⟩; refine ⟨_, rfl, ?_⟩
 refine xr0 1 [(4, errV es (plainErr k n t))] [5, 6] ?_
 refine nl (sg (xr0 1 [(7, errV es (plainErr k n t))] [] ?_))
 by_cases c_8 : (plainErr k n t) = 0
 ·rw [show errV es (plainErr k n t) = .nilIface from by rw [c_8]; rfl]
  refine xr0 1 [(4, .nilIface), (8, bF)] [7] ?_
  refine nl (cf (sk (sg (xe 1 [(10, .load (.agg #[i6 k, i6 n, sT t]))] [(10, .agg #[i6 k, i6 n, sT t])] [la 48 (⟨w.heap.size, 0, none⟩) (.agg #[i6 k, i6 n, sT t]) w_6] ⟨loadsB rfl rfl (Blk.below hk_3 hb_7) 0 ⟨by kernel_rfl, by kernel_rfl⟩, trivial⟩ ?_))))
  refine xc 230 ent230 [.agg #[i6 k, i6 n, sT t]] (value_any k n t _) ?_
  rintro e w_9 ⟨rfl, hb_10⟩; refine ⟨_, rfl, ?_⟩
  refine xe0 2 [(2, valV (k, n, t)), (3, .nilIface)] ?_
  refine nl (X_ret (rj [valV (k, n, t), .nilIface] hR_ ?_))
  rw [if_pos c_8, c_8]
  exact ⟨rfl, (bt (bt hb_2 hb_7) hb_10)⟩
 rw [errV_pos es (plainErr k n t) (Nat.pos_of_ne_zero c_8)]
 refine xr0 1 [(4, .iface 301 (.pointer (some (errAt es (plainErr k n t))))), (8, bT)] [7] ?_
 refine nl (ct (sg (xe0 3 [(2, .nilIface), (3, .iface 301 (.pointer (some (errAt es (plainErr k n t)))))] ?_)))
 refine nl (X_ret (rj [.nilIface, .iface 301 (.pointer (some (errAt es (plainErr k n t))))] hR_ ?_))
 rw [if_neg c_8, errV_pos es _ (Nat.pos_of_ne_zero c_8)]
 exact ⟨rfl, (bt hb_2 hb_7)⟩
theorem opSz.a {o : OpA} (h : opSz o) : ∀ i, i < o.attrs.length → (o.attrs.getD i at0).1.size ≤ 9223372036854775807 ∧ (o.attrs.getD i at0).2.2.2.size ≤ 9223372036854775807 := fun i hi => by have := h.2.2.2 i hi; omega
set_option maxHeartbeats 2000000 in
theorem refuse_any (o : OpA) (A : Option Addr) (c : Nat) (w : World) (hA : kAttr.C w A o.attrs.length o.attrs) (hz : opSz o) (hT : Tabs w) (es : List Addr) (hE : ErrsI w es) : Calls Tryz.prog 222 #[.agg (o7A o (.slice A o.attrs.length c))] w fun e w' => e = .returned (errV es (refuseP o)) ∧ Below w.heap.size w w' := by
 have hz1 := hz.1
 have hz2 := hz.2.1
 refine en Tryz.func222 rfl 72 [(0, .agg (o7A o (aL A o.attrs c)))] (fun R_ hR_ => ?_)
 refine sg (xwe 1 [] [(1, pw w.heap.size 0)] (w.alloc (.cells (o7A o (aL A o.attrs c)) 102)) [] trivial ?_)
 obtain ⟨w_1, hw_5, hb_2, hk_3, hz_4⟩ := new_world w (o7A o (aL A o.attrs c)) 102
 rw [hw_5]
 refine xr0 1 [] [] ?_
 refine nl (sq (X_still (by kernel_rfl) (by kernel_rfl) (fun wd_6 hb_7 hh_8 => ?_)))
 refine xse 2 [(9, .load (i6 o.kind))] [(1, pw w.heap.size 0), (9, i6 o.kind)] [_] ⟨lc 3 (Blk.below hk_3 hb_7) 0, trivial⟩ ?_
 by_cases c_9 : o.kind = 1
 ·refine xse 3 [(10, .eq bT), (12, .load (i6 o.kind))] [(1, pw w.heap.size 0), (10, bT), (12, i6 o.kind)] [_, _] ⟨bE c_9, lc 3 (Blk.below hk_3 hb_7) 0, trivial⟩ ?_
  by_cases c_10 : o.kind = 2
  ·refine xse 3 [(13, .eq bT)] [(1, pw w.heap.size 0), (3, bT), (4, bT)] [_] ⟨bE c_10, trivial⟩ ?_
   refine XS_nil ?_
   refine sq (bk (sg (xr0 7 [(14, bF)] [] ?_)))
   refine nl (cf (sq (sg (xr1 2 [(24, .load (i6 o.count))] [(24, i6 o.count)] [14] (lc 3 (Blk.below hk_3 hb_7) 5) ?_))))
   by_cases c_11 : o.count = 0
   ·refine xr1 2 [(25, .eq bF)] [(22, bF)] [24] (nF c_11) ?_
    refine nl (cf (rg (xr1 4 [(29, .load (sT o.text))] [(27, bT), (29, sT o.text)] [3, 22] (lc 9 (Blk.below hk_3 hb_7) 1) ?_)))
    by_cases c_12 : o.text = (⟨#[]⟩ : ByteArray)
    ·refine xr 9 [(30, .eq bT)] [(22, bT)] [27, 29] [Value.bool (o.text.toList == (⟨#[]⟩ : ByteArray).toList) = bT] ⟨congrArg Value.bool (strEqT (c_12)), trivial⟩ ?_
     refine nl (ct (sg (xe 2 [(38, .load (ev es 9))] [(2, ev es 9)] [la 35 (⟨0, 0, none⟩) (ev es 9) wd_6] ⟨loads1 rfl (((bt hb_2 hb_7).cell (World.block_lt_of_cell? _ _ (hE.load 9 0 (by decide) (by decide) rfl))).trans (hE.load 9 0 (by decide) (by decide) rfl)), trivial⟩ ?_)))
     refine nl (X_ret (rj [ev es 9] hR_ ?_))
     rw [show refuseP o = 9 from by unfold refuseP; simp_all <;> omega]
     exact ⟨rfl, (bt hb_2 hb_7)⟩
    refine xr 5 [(30, .eq bF), (33, .load (.agg #[i6 o.vk, i6 o.vn, sT o.vt]))] [(31, bF), (33, .agg #[i6 o.vk, i6 o.vn, sT o.vt]), (34, .agg #[i6 0, i6 0, s0])] [29] [Value.bool (o.text.toList == (⟨#[]⟩ : ByteArray).toList) = bF, la 48 (⟨w.heap.size, 2, none⟩) (.agg #[i6 o.vk, i6 o.vn, sT o.vt]) wd_6] ⟨congrArg Value.bool (strEqF (c_12)), loadsB rfl rfl (Blk.below hk_3 hb_7) 2 ⟨by kernel_rfl, by kernel_rfl⟩, trivial⟩ ?_
    by_cases c_13 : (o.vk, o.vn, o.vt) = pl0
    ·refine xe 4 [(35, .as bF)] [(1, pw w.heap.size 0), (4, bT), (22, bF)] [RunsAs Tryz.prog [(33, .agg #[i6 o.vk, i6 o.vn, sT o.vt]), (34, .agg #[i6 0, i6 0, s0])] (Go.Op.binOp Go.BinOp.neq 48 (Go.Operand.tmp 33) (Go.Operand.tmp 34) 48) 4 bF wd_6] ⟨runs_bin rfl rfl (run_eqGuard_agg _ _ _ _ _ _ _ (by kernel_rfl)) (by have h := plain_neq (o.vk, o.vn, o.vt) pl0 wd_6; rw [show ple (o.vk, o.vn, o.vt) pl0 = true from (ple_iff _ _).2 c_13] at h; exact h), trivial⟩ ?_
     refine nl (cf (sg (xr 9 [(43, .load (sT o.text)), (44, .eq bF), (47, .load (sT o.text))] [(41, bT), (45, bF), (48, i6 (o.text.size : Int))] [22] [_, Value.bool (o.text.toList == (⟨#[]⟩ : ByteArray).toList) = bF, _] ⟨lc 9 (Blk.below hk_3 hb_7) 1, congrArg Value.bool (strEqF (c_12)), lc 9 (Blk.below hk_3 hb_7) 1, trivial⟩ ?_)))
     by_cases c_14 : (o.text.size : Int) > 64
     ·refine xr1 4 [(49, .eq bT)] [(39, bT)] [41, 45, 48] (dT c_14) ?_
      refine nl (ct (sg (xe 2 [(52, .load (ev es 6))] [(2, ev es 6)] [la 35 (⟨4, 0, none⟩) (ev es 6) wd_6] ⟨loads1 rfl (((bt hb_2 hb_7).cell (World.block_lt_of_cell? _ _ (hE.load 6 4 (by decide) (by decide) rfl))).trans (hE.load 6 4 (by decide) (by decide) rfl)), trivial⟩ ?_)))
      refine nl (X_ret (rj [ev es 6] hR_ ?_))
      rw [show refuseP o = 6 from by unfold refuseP; simp_all <;> omega]
      exact ⟨rfl, (bt hb_2 hb_7)⟩
     refine xr1 4 [(49, .eq bF)] [(39, bF)] [41, 45, 48] (dF c_14) ?_
     refine nl (cf (sk (sq (sg (xr1 2 [(55, .load (sT o.text))] [(55, sT o.text)] [39] (lc 9 (Blk.below hk_3 hb_7) 1) ?_)))))
     refine xc 145 ent145 [sT o.text] (scheck_any o.text _ (by omega) (hT.below (bt hb_2 hb_7)) es (hE.a.below (bt hb_2 hb_7))) ?_
     rintro e w_15 ⟨rfl, hb_16⟩; refine ⟨_, rfl, ?_⟩
     refine xr0 5 [(6, errV es (if (uchk o.text).2 then 0 else 1))] [55, 56] ?_
     refine nl (sg (xr0 1 [(59, errV es (if (uchk o.text).2 then 0 else 1))] [6] ?_))
     by_cases c_17 : (if (uchk o.text).2 then 0 else 1) = 0
     ·rw [show errV es (if (uchk o.text).2 then 0 else 1) = .nilIface from by rw [c_17]; rfl]
      refine xe0 1 [(1, pw w.heap.size 0), (4, bT), (60, bF)] ?_
      refine nl (cf (sk (sq (sg (xr0 1 [(62, bT)] [4, 60] ?_)))))
      refine nl (ct (sg (xr 2 [(64, .load (.agg #[i6 o.vk, i6 o.vn, sT o.vt]))] [(64, .agg #[i6 o.vk, i6 o.vn, sT o.vt])] [62] [la 48 (⟨w.heap.size, 2, none⟩) (.agg #[i6 o.vk, i6 o.vn, sT o.vt]) w_15] ⟨loadsB rfl rfl (Blk.below hk_3 (bt hb_7 hb_16)) 2 ⟨by kernel_rfl, by kernel_rfl⟩, trivial⟩ ?_)))
      refine xc 146 ent146 [.agg #[i6 o.vk, i6 o.vn, sT o.vt]] (vcheck_any o.vk o.vn o.vt _ (by omega) (hT.below (bt (bt hb_2 hb_7) hb_16)) es (hE.a.below (bt (bt hb_2 hb_7) hb_16))) ?_
      rintro e w_18 ⟨rfl, hb_19⟩; refine ⟨_, rfl, ?_⟩
      refine xr0 1 [(7, errV es (plainErr o.vk o.vn o.vt))] [64, 65] ?_
      refine nl (sg (xr0 1 [(66, errV es (plainErr o.vk o.vn o.vt))] [] ?_))
      by_cases c_20 : (plainErr o.vk o.vn o.vt) = 0
      ·rw [show errV es (plainErr o.vk o.vn o.vt) = .nilIface from by rw [c_20]; rfl]
       refine xr0 1 [(7, .nilIface), (67, bF)] [66] ?_
       refine nl (cf (sk (sg (xe1 2 [(70, .load (aL A o.attrs c))] [(70, aL A o.attrs c)] (lc 49 (Blk.below hk_3 (bt (bt hb_7 hb_16) hb_19)) 6) ?_))))
       refine xc 149 ent149 [.slice A o.attrs.length c, bF] (acheck_any _ _ o.attrs false _ (Kd.C_below hA (bt (bt (bt hb_2 hb_7) hb_16) hb_19)) hz.a (hT.below (bt (bt (bt hb_2 hb_7) hb_16) hb_19)) es (hE.a.below (bt (bt (bt hb_2 hb_7) hb_16) hb_19))) ?_
       rintro e w_21 ⟨rfl, hb_22⟩; refine ⟨_, rfl, ?_⟩
       refine xe0 1 [(2, errV es (chkA false o.attrs))] ?_
       refine nl (X_ret (rj [errV es (chkA false o.attrs)] hR_ ?_))
       have hB_23 : Below w.heap.size w w_21 := (bt (bt (bt (bt hb_2 hb_7) hb_16) hb_19) hb_22)
       rw [show refuseP o = (chkA false o.attrs) from by unfold refuseP; simp_all <;> omega]
       exact ⟨rfl, hB_23⟩
      rw [errV_pos es (plainErr o.vk o.vn o.vt) (Nat.pos_of_ne_zero c_20)]
      refine xr0 1 [(7, .iface 301 (.pointer (some (errAt es (plainErr o.vk o.vn o.vt))))), (67, bT)] [66] ?_
      refine nl (ct (sg (xe0 2 [(2, .iface 301 (.pointer (some (errAt es (plainErr o.vk o.vn o.vt)))))] ?_)))
      refine nl (X_ret (rj [.iface 301 (.pointer (some (errAt es (plainErr o.vk o.vn o.vt))))] hR_ ?_))
      rw [show refuseP o = (plainErr o.vk o.vn o.vt) from by unfold refuseP; simp_all <;> omega, errV_pos es _ (Nat.pos_of_ne_zero c_20)]
      exact ⟨rfl, (bt (bt (bt hb_2 hb_7) hb_16) hb_19)⟩
     rw [errV_pos es (if (uchk o.text).2 then 0 else 1) (Nat.pos_of_ne_zero c_17)]
     refine xe0 1 [(1, pw w.heap.size 0), (4, bT), (60, bT)] ?_
     refine nl (ct (sg (xe 2 [(61, .load (ev es 1))] [(2, ev es 1)] [la 35 (⟨6, 0, none⟩) (ev es 1) w_15] ⟨loads1 rfl (((bt (bt hb_2 hb_7) hb_16).cell (World.block_lt_of_cell? _ _ (hE.load 1 6 (by decide) (by decide) rfl))).trans (hE.load 1 6 (by decide) (by decide) rfl)), trivial⟩ ?_)))
     refine nl (X_ret (rj [ev es 1] hR_ ?_))
     rw [show refuseP o = 1 from by unfold refuseP; simp_all <;> omega]
     exact ⟨rfl, (bt (bt hb_2 hb_7) hb_16)⟩
    refine xe 4 [(35, .as bT)] [(1, pw w.heap.size 0), (4, bT), (22, bT)] [RunsAs Tryz.prog [(33, .agg #[i6 o.vk, i6 o.vn, sT o.vt]), (34, .agg #[i6 0, i6 0, s0])] (Go.Op.binOp Go.BinOp.neq 48 (Go.Operand.tmp 33) (Go.Operand.tmp 34) 48) 4 bT wd_6] ⟨runs_bin rfl rfl (run_eqGuard_agg _ _ _ _ _ _ _ (by kernel_rfl)) (by have h := plain_neq (o.vk, o.vn, o.vt) pl0 wd_6; rw [show ple (o.vk, o.vn, o.vt) pl0 = false from Bool.eq_false_iff.2 (fun k => c_13 ((ple_iff _ _).1 k))] at h; exact h), trivial⟩ ?_
    refine nl (ct (sg (xe 2 [(38, .load (ev es 9))] [(2, ev es 9)] [la 35 (⟨0, 0, none⟩) (ev es 9) wd_6] ⟨loads1 rfl (((bt hb_2 hb_7).cell (World.block_lt_of_cell? _ _ (hE.load 9 0 (by decide) (by decide) rfl))).trans (hE.load 9 0 (by decide) (by decide) rfl)), trivial⟩ ?_)))
    refine nl (X_ret (rj [ev es 9] hR_ ?_))
    rw [show refuseP o = 9 from by unfold refuseP; simp_all <;> omega]
    exact ⟨rfl, (bt hb_2 hb_7)⟩
   refine xr1 2 [(25, .eq bT)] [(22, bT)] [24] (nT c_11) ?_
   refine nl (ct (sk (ct (sg (xe 2 [(38, .load (ev es 9))] [(2, ev es 9)] [la 35 (⟨0, 0, none⟩) (ev es 9) wd_6] ⟨loads1 rfl (((bt hb_2 hb_7).cell (World.block_lt_of_cell? _ _ (hE.load 9 0 (by decide) (by decide) rfl))).trans (hE.load 9 0 (by decide) (by decide) rfl)), trivial⟩ ?_)))))
   refine nl (X_ret (rj [ev es 9] hR_ ?_))
   rw [show refuseP o = 9 from by unfold refuseP; simp_all <;> omega]
   exact ⟨rfl, (bt hb_2 hb_7)⟩
  refine xse 3 [(13, .eq bF)] [(1, pw w.heap.size 0), (3, bT), (4, bF)] [_] ⟨bN c_10, trivial⟩ ?_
  refine XS_nil ?_
  refine sq (bk (sg (xr0 7 [(14, bF)] [] ?_)))
  refine nl (cf (sq (sg (xr1 2 [(24, .load (i6 o.count))] [(24, i6 o.count)] [14] (lc 3 (Blk.below hk_3 hb_7) 5) ?_))))
  by_cases c_24 : o.count = 0
  ·refine xr1 2 [(25, .eq bF)] [(22, bF)] [24] (nF c_24) ?_
   refine nl (cf (rg (xr1 4 [(29, .load (sT o.text))] [(27, bT), (29, sT o.text)] [3, 22] (lc 9 (Blk.below hk_3 hb_7) 1) ?_)))
   by_cases c_25 : o.text = (⟨#[]⟩ : ByteArray)
   ·refine xr 9 [(30, .eq bT)] [(22, bT)] [27, 29] [Value.bool (o.text.toList == (⟨#[]⟩ : ByteArray).toList) = bT] ⟨congrArg Value.bool (strEqT (c_25)), trivial⟩ ?_
    refine nl (ct (sg (xe 2 [(38, .load (ev es 9))] [(2, ev es 9)] [la 35 (⟨0, 0, none⟩) (ev es 9) wd_6] ⟨loads1 rfl (((bt hb_2 hb_7).cell (World.block_lt_of_cell? _ _ (hE.load 9 0 (by decide) (by decide) rfl))).trans (hE.load 9 0 (by decide) (by decide) rfl)), trivial⟩ ?_)))
    refine nl (X_ret (rj [ev es 9] hR_ ?_))
    rw [show refuseP o = 9 from by unfold refuseP; simp_all <;> omega]
    exact ⟨rfl, (bt hb_2 hb_7)⟩
   refine xr 5 [(30, .eq bF), (33, .load (.agg #[i6 o.vk, i6 o.vn, sT o.vt]))] [(31, bF), (33, .agg #[i6 o.vk, i6 o.vn, sT o.vt]), (34, .agg #[i6 0, i6 0, s0])] [29] [Value.bool (o.text.toList == (⟨#[]⟩ : ByteArray).toList) = bF, la 48 (⟨w.heap.size, 2, none⟩) (.agg #[i6 o.vk, i6 o.vn, sT o.vt]) wd_6] ⟨congrArg Value.bool (strEqF (c_25)), loadsB rfl rfl (Blk.below hk_3 hb_7) 2 ⟨by kernel_rfl, by kernel_rfl⟩, trivial⟩ ?_
   by_cases c_26 : (o.vk, o.vn, o.vt) = pl0
   ·refine xe 4 [(35, .as bF)] [(1, pw w.heap.size 0), (4, bF), (22, bF)] [RunsAs Tryz.prog [(33, .agg #[i6 o.vk, i6 o.vn, sT o.vt]), (34, .agg #[i6 0, i6 0, s0])] (Go.Op.binOp Go.BinOp.neq 48 (Go.Operand.tmp 33) (Go.Operand.tmp 34) 48) 4 bF wd_6] ⟨runs_bin rfl rfl (run_eqGuard_agg _ _ _ _ _ _ _ (by kernel_rfl)) (by have h := plain_neq (o.vk, o.vn, o.vt) pl0 wd_6; rw [show ple (o.vk, o.vn, o.vt) pl0 = true from (ple_iff _ _).2 c_26] at h; exact h), trivial⟩ ?_
    refine nl (cf (sg (xr0 13 [(39, bF)] [22] ?_)))
    refine nl (cf (sk (sq (sg (xr1 2 [(55, .load (sT o.text))] [(55, sT o.text)] [39] (lc 9 (Blk.below hk_3 hb_7) 1) ?_)))))
    refine xc 145 ent145 [sT o.text] (scheck_any o.text _ (by omega) (hT.below (bt hb_2 hb_7)) es (hE.a.below (bt hb_2 hb_7))) ?_
    rintro e w_27 ⟨rfl, hb_28⟩; refine ⟨_, rfl, ?_⟩
    refine xr0 5 [(6, errV es (if (uchk o.text).2 then 0 else 1))] [55, 56] ?_
    refine nl (sg (xr0 1 [(59, errV es (if (uchk o.text).2 then 0 else 1))] [6] ?_))
    by_cases c_29 : (if (uchk o.text).2 then 0 else 1) = 0
    ·rw [show errV es (if (uchk o.text).2 then 0 else 1) = .nilIface from by rw [c_29]; rfl]
     refine xr0 1 [(60, bF)] [59] ?_
     refine nl (cf (sk (sq (sg (xe0 1 [(1, pw w.heap.size 0), (62, bF)] ?_)))))
     refine nl (cf (sk (sg (xe1 2 [(70, .load (aL A o.attrs c))] [(70, aL A o.attrs c)] (lc 49 (Blk.below hk_3 (bt hb_7 hb_28)) 6) ?_))))
     refine xc 149 ent149 [.slice A o.attrs.length c, bF] (acheck_any _ _ o.attrs false _ (Kd.C_below hA (bt (bt hb_2 hb_7) hb_28)) hz.a (hT.below (bt (bt hb_2 hb_7) hb_28)) es (hE.a.below (bt (bt hb_2 hb_7) hb_28))) ?_
     rintro e w_30 ⟨rfl, hb_31⟩; refine ⟨_, rfl, ?_⟩
     refine xe0 1 [(2, errV es (chkA false o.attrs))] ?_
     refine nl (X_ret (rj [errV es (chkA false o.attrs)] hR_ ?_))
     rw [show refuseP o = (chkA false o.attrs) from by unfold refuseP; simp_all <;> omega]
     exact ⟨rfl, (bt (bt (bt hb_2 hb_7) hb_28) hb_31)⟩
    rw [errV_pos es (if (uchk o.text).2 then 0 else 1) (Nat.pos_of_ne_zero c_29)]
    refine xr0 1 [(60, bT)] [59] ?_
    refine nl (ct (sg (xe 2 [(61, .load (ev es 1))] [(2, ev es 1)] [la 35 (⟨6, 0, none⟩) (ev es 1) w_27] ⟨loads1 rfl (((bt (bt hb_2 hb_7) hb_28).cell (World.block_lt_of_cell? _ _ (hE.load 1 6 (by decide) (by decide) rfl))).trans (hE.load 1 6 (by decide) (by decide) rfl)), trivial⟩ ?_)))
    refine nl (X_ret (rj [ev es 1] hR_ ?_))
    rw [show refuseP o = 1 from by unfold refuseP; simp_all <;> omega]
    exact ⟨rfl, (bt (bt hb_2 hb_7) hb_28)⟩
   refine xe 4 [(35, .as bT)] [(1, pw w.heap.size 0), (4, bF), (22, bT)] [RunsAs Tryz.prog [(33, .agg #[i6 o.vk, i6 o.vn, sT o.vt]), (34, .agg #[i6 0, i6 0, s0])] (Go.Op.binOp Go.BinOp.neq 48 (Go.Operand.tmp 33) (Go.Operand.tmp 34) 48) 4 bT wd_6] ⟨runs_bin rfl rfl (run_eqGuard_agg _ _ _ _ _ _ _ (by kernel_rfl)) (by have h := plain_neq (o.vk, o.vn, o.vt) pl0 wd_6; rw [show ple (o.vk, o.vn, o.vt) pl0 = false from Bool.eq_false_iff.2 (fun k => c_26 ((ple_iff _ _).1 k))] at h; exact h), trivial⟩ ?_
   refine nl (ct (sg (xe 2 [(38, .load (ev es 9))] [(2, ev es 9)] [la 35 (⟨0, 0, none⟩) (ev es 9) wd_6] ⟨loads1 rfl (((bt hb_2 hb_7).cell (World.block_lt_of_cell? _ _ (hE.load 9 0 (by decide) (by decide) rfl))).trans (hE.load 9 0 (by decide) (by decide) rfl)), trivial⟩ ?_)))
   refine nl (X_ret (rj [ev es 9] hR_ ?_))
   rw [show refuseP o = 9 from by unfold refuseP; simp_all <;> omega]
   exact ⟨rfl, (bt hb_2 hb_7)⟩
  refine xr1 2 [(25, .eq bT)] [(22, bT)] [24] (nT c_24) ?_
  refine nl (ct (sk (ct (sg (xe 2 [(38, .load (ev es 9))] [(2, ev es 9)] [la 35 (⟨0, 0, none⟩) (ev es 9) wd_6] ⟨loads1 rfl (((bt hb_2 hb_7).cell (World.block_lt_of_cell? _ _ (hE.load 9 0 (by decide) (by decide) rfl))).trans (hE.load 9 0 (by decide) (by decide) rfl)), trivial⟩ ?_)))))
  refine nl (X_ret (rj [ev es 9] hR_ ?_))
  rw [show refuseP o = 9 from by unfold refuseP; simp_all <;> omega]
  exact ⟨rfl, (bt hb_2 hb_7)⟩
 refine xse 3 [(10, .eq bF), (12, .load (i6 o.kind))] [(1, pw w.heap.size 0), (10, bF), (12, i6 o.kind)] [_, _] ⟨bN c_9, lc 3 (Blk.below hk_3 hb_7) 0, trivial⟩ ?_
 by_cases c_32 : o.kind = 2
 ·refine xse 3 [(13, .eq bT)] [(1, pw w.heap.size 0), (3, bF), (4, bT)] [_] ⟨bE c_32, trivial⟩ ?_
  refine XS_nil ?_
  refine sq (bk (sg (xr0 7 [(14, bF)] [] ?_)))
  refine nl (cf (sq (sg (xr1 2 [(24, .load (i6 o.count))] [(24, i6 o.count)] [14] (lc 3 (Blk.below hk_3 hb_7) 5) ?_))))
  by_cases c_33 : o.count = 0
  ·refine xr1 2 [(25, .eq bF)] [(22, bF)] [24] (nF c_33) ?_
   refine nl (cf (rg (xr0 13 [] [3] ?_)))
   refine nl (cf (sg (xr1 4 [(43, .load (sT o.text))] [(41, bT), (43, sT o.text)] [22] (lc 9 (Blk.below hk_3 hb_7) 1) ?_)))
   by_cases c_34 : o.text = (⟨#[]⟩ : ByteArray)
   ·refine xe 9 [(44, .eq bT)] [(1, pw w.heap.size 0), (4, bT), (39, bT)] [Value.bool (o.text.toList == (⟨#[]⟩ : ByteArray).toList) = bT] ⟨congrArg Value.bool (strEqT (c_34)), trivial⟩ ?_
    refine nl (ct (sg (xe 2 [(52, .load (ev es 6))] [(2, ev es 6)] [la 35 (⟨4, 0, none⟩) (ev es 6) wd_6] ⟨loads1 rfl (((bt hb_2 hb_7).cell (World.block_lt_of_cell? _ _ (hE.load 6 4 (by decide) (by decide) rfl))).trans (hE.load 6 4 (by decide) (by decide) rfl)), trivial⟩ ?_)))
    refine nl (X_ret (rj [ev es 6] hR_ ?_))
    rw [show refuseP o = 6 from by unfold refuseP; simp_all <;> omega]
    exact ⟨rfl, (bt hb_2 hb_7)⟩
   refine xe 5 [(44, .eq bF), (47, .load (sT o.text))] [(1, pw w.heap.size 0), (4, bT), (41, bT), (45, bF), (48, i6 (o.text.size : Int))] [Value.bool (o.text.toList == (⟨#[]⟩ : ByteArray).toList) = bF, _] ⟨congrArg Value.bool (strEqF (c_34)), lc 9 (Blk.below hk_3 hb_7) 1, trivial⟩ ?_
   by_cases c_35 : (o.text.size : Int) > 64
   ·refine xr1 4 [(49, .eq bT)] [(39, bT)] [41, 45, 48] (dT c_35) ?_
    refine nl (ct (sg (xe 2 [(52, .load (ev es 6))] [(2, ev es 6)] [la 35 (⟨4, 0, none⟩) (ev es 6) wd_6] ⟨loads1 rfl (((bt hb_2 hb_7).cell (World.block_lt_of_cell? _ _ (hE.load 6 4 (by decide) (by decide) rfl))).trans (hE.load 6 4 (by decide) (by decide) rfl)), trivial⟩ ?_)))
    refine nl (X_ret (rj [ev es 6] hR_ ?_))
    rw [show refuseP o = 6 from by unfold refuseP; simp_all <;> omega]
    exact ⟨rfl, (bt hb_2 hb_7)⟩
   refine xr1 4 [(49, .eq bF)] [(39, bF)] [41, 45, 48] (dF c_35) ?_
   refine nl (cf (sk (sq (sg (xr1 2 [(55, .load (sT o.text))] [(55, sT o.text)] [39] (lc 9 (Blk.below hk_3 hb_7) 1) ?_)))))
   refine xc 145 ent145 [sT o.text] (scheck_any o.text _ (by omega) (hT.below (bt hb_2 hb_7)) es (hE.a.below (bt hb_2 hb_7))) ?_
   rintro e w_36 ⟨rfl, hb_37⟩; refine ⟨_, rfl, ?_⟩
   refine xr0 5 [(6, errV es (if (uchk o.text).2 then 0 else 1))] [55, 56] ?_
   refine nl (sg (xr0 1 [(59, errV es (if (uchk o.text).2 then 0 else 1))] [6] ?_))
   by_cases c_38 : (if (uchk o.text).2 then 0 else 1) = 0
   ·rw [show errV es (if (uchk o.text).2 then 0 else 1) = .nilIface from by rw [c_38]; rfl]
    refine xr0 1 [(60, bF)] [59] ?_
    refine nl (cf (sk (sq (sg (xe0 1 [(1, pw w.heap.size 0), (62, bT)] ?_)))))
    refine nl (ct (sg (xr 2 [(64, .load (.agg #[i6 o.vk, i6 o.vn, sT o.vt]))] [(64, .agg #[i6 o.vk, i6 o.vn, sT o.vt])] [62] [la 48 (⟨w.heap.size, 2, none⟩) (.agg #[i6 o.vk, i6 o.vn, sT o.vt]) w_36] ⟨loadsB rfl rfl (Blk.below hk_3 (bt hb_7 hb_37)) 2 ⟨by kernel_rfl, by kernel_rfl⟩, trivial⟩ ?_)))
    refine xc 146 ent146 [.agg #[i6 o.vk, i6 o.vn, sT o.vt]] (vcheck_any o.vk o.vn o.vt _ (by omega) (hT.below (bt (bt hb_2 hb_7) hb_37)) es (hE.a.below (bt (bt hb_2 hb_7) hb_37))) ?_
    rintro e w_39 ⟨rfl, hb_40⟩; refine ⟨_, rfl, ?_⟩
    refine xr0 1 [(7, errV es (plainErr o.vk o.vn o.vt))] [64, 65] ?_
    refine nl (sg (xr0 1 [(66, errV es (plainErr o.vk o.vn o.vt))] [] ?_))
    by_cases c_41 : (plainErr o.vk o.vn o.vt) = 0
    ·rw [show errV es (plainErr o.vk o.vn o.vt) = .nilIface from by rw [c_41]; rfl]
     refine xr0 1 [(7, .nilIface), (67, bF)] [66] ?_
     refine nl (cf (sk (sg (xe1 2 [(70, .load (aL A o.attrs c))] [(70, aL A o.attrs c)] (lc 49 (Blk.below hk_3 (bt (bt hb_7 hb_37) hb_40)) 6) ?_))))
     refine xc 149 ent149 [.slice A o.attrs.length c, bF] (acheck_any _ _ o.attrs false _ (Kd.C_below hA (bt (bt (bt hb_2 hb_7) hb_37) hb_40)) hz.a (hT.below (bt (bt (bt hb_2 hb_7) hb_37) hb_40)) es (hE.a.below (bt (bt (bt hb_2 hb_7) hb_37) hb_40))) ?_
     rintro e w_42 ⟨rfl, hb_43⟩; refine ⟨_, rfl, ?_⟩
     refine xe0 1 [(2, errV es (chkA false o.attrs))] ?_
     refine nl (X_ret (rj [errV es (chkA false o.attrs)] hR_ ?_))
     have hB_44 : Below w.heap.size w w_42 := (bt (bt (bt (bt hb_2 hb_7) hb_37) hb_40) hb_43)
     rw [show refuseP o = (chkA false o.attrs) from by unfold refuseP; simp_all <;> omega]
     exact ⟨rfl, hB_44⟩
    rw [errV_pos es (plainErr o.vk o.vn o.vt) (Nat.pos_of_ne_zero c_41)]
    refine xr0 1 [(7, .iface 301 (.pointer (some (errAt es (plainErr o.vk o.vn o.vt))))), (67, bT)] [66] ?_
    refine nl (ct (sg (xe0 2 [(2, .iface 301 (.pointer (some (errAt es (plainErr o.vk o.vn o.vt)))))] ?_)))
    refine nl (X_ret (rj [.iface 301 (.pointer (some (errAt es (plainErr o.vk o.vn o.vt))))] hR_ ?_))
    rw [show refuseP o = (plainErr o.vk o.vn o.vt) from by unfold refuseP; simp_all <;> omega, errV_pos es _ (Nat.pos_of_ne_zero c_41)]
    exact ⟨rfl, (bt (bt (bt hb_2 hb_7) hb_37) hb_40)⟩
   rw [errV_pos es (if (uchk o.text).2 then 0 else 1) (Nat.pos_of_ne_zero c_38)]
   refine xr0 1 [(60, bT)] [59] ?_
   refine nl (ct (sg (xe 2 [(61, .load (ev es 1))] [(2, ev es 1)] [la 35 (⟨6, 0, none⟩) (ev es 1) w_36] ⟨loads1 rfl (((bt (bt hb_2 hb_7) hb_37).cell (World.block_lt_of_cell? _ _ (hE.load 1 6 (by decide) (by decide) rfl))).trans (hE.load 1 6 (by decide) (by decide) rfl)), trivial⟩ ?_)))
   refine nl (X_ret (rj [ev es 1] hR_ ?_))
   rw [show refuseP o = 1 from by unfold refuseP; simp_all <;> omega]
   exact ⟨rfl, (bt (bt hb_2 hb_7) hb_37)⟩
  refine xr1 2 [(25, .eq bT)] [(22, bT)] [24] (nT c_33) ?_
  refine nl (ct (sk (ct (sg (xe 2 [(38, .load (ev es 9))] [(2, ev es 9)] [la 35 (⟨0, 0, none⟩) (ev es 9) wd_6] ⟨loads1 rfl (((bt hb_2 hb_7).cell (World.block_lt_of_cell? _ _ (hE.load 9 0 (by decide) (by decide) rfl))).trans (hE.load 9 0 (by decide) (by decide) rfl)), trivial⟩ ?_)))))
  refine nl (X_ret (rj [ev es 9] hR_ ?_))
  rw [show refuseP o = 9 from by unfold refuseP; simp_all <;> omega]
  exact ⟨rfl, (bt hb_2 hb_7)⟩
 refine xse 3 [(13, .eq bF)] [(1, pw w.heap.size 0), (3, bF), (4, bF)] [_] ⟨bN c_32, trivial⟩ ?_
 refine XS_nil ?_
 refine sq (bk (sg (xr0 7 [(14, bT)] [] ?_)))
 refine nl (ct (sg (xe 2 [(21, .load (ev es 5))] [(2, ev es 5)] [la 35 (⟨5, 0, none⟩) (ev es 5) wd_6] ⟨loads1 rfl (((bt hb_2 hb_7).cell (World.block_lt_of_cell? _ _ (hE.load 5 5 (by decide) (by decide) rfl))).trans (hE.load 5 5 (by decide) (by decide) rfl)), trivial⟩ ?_)))
 refine nl (X_ret (rj [ev es 5] hR_ ?_))
 rw [show refuseP o = 5 from by unfold refuseP; simp_all <;> omega]
 exact ⟨rfl, (bt hb_2 hb_7)⟩
theorem copied_any (A : Option Addr) (c : Nat) (xs : List At) (w : World) (hx : kAttr.C w A xs.length xs) (hn : xs.length ≤ 100000000) : Calls Tryz.prog 223 #[.slice A xs.length c] w fun e w' => ∃ A' c', e = .returned (.slice A' xs.length c') ∧ xs.length ≤ c' ∧ kAttr.R 57 w' w.heap.size (OkFrom w.heap.size) (.slice A' xs.length c') xs ∧ Below w.heap.size w w' := by
 have hpl : xs.length ≤ 9223372036854775807 := hx.2.1
 refine en Tryz.func223 rfl 5 [(0, aL A xs c)] (fun R_ hR_ => ?_)
 refine sg (xe0 1 [(0, aL A xs c)] ?_)
 refine nl (sg (xe0 1 [(3, aL A xs c)] ?_))
 refine XL_appendAll (c' := c) kAttr rfl rfl rfl w.heap.size 57 (.agg #[s0, i6 0, i6 0, s0]) 48 Tryz.underlying49 info57 rfl (by decide) (by omega) ([]) xs (by kernel_rfl) (Kd.R_nil kAttr 57 _ w.heap.size (OkFrom w.heap.size)) hx kAttr_KM (Nat.le_refl _) (by first | omega | (simp; omega)) ?_
 intro A_1 c_2 w_3 hr_4 hc_5 hg_6 hl_7 ha_8
 have he_9 : ([] ++ xs) = xs := List.nil_append _
 rw [he_9] at hr_4 ⊢
 refine xe0 1 [(2, aL A_1 xs c_2)] ?_
 refine nl (X_ret (rj [aL A_1 xs c_2] hR_ ?_))
 have hB_10 : Below w.heap.size w w_3 := (bgo (Below.refl _ _) hg_6 hl_7 (Nat.le_refl _))
 exact ⟨_, _, rfl, (RX.Kd.R_len hr_4).2, Kd.R_low hr_4 (Nat.le_refl _), hB_10⟩
theorem clone_any (A : Option Addr) (c : Nat) (xs : List At) (w : World) (hx : kAttr.C w A xs.length xs) (hn : xs.length ≤ 100000000) : Calls Tryz.prog 110 #[.slice A xs.length c] w fun e w' => ∃ A' c', e = .returned (.slice A' xs.length c') ∧ xs.length ≤ c' ∧ kAttr.R 57 w' w.heap.size (OkFrom w.heap.size) (.slice A' xs.length c') xs ∧ Below w.heap.size w w' := by
 have hpl : xs.length ≤ 9223372036854775807 := hx.2.1
 refine en Tryz.func110 rfl 8 [(0, aL A xs c)] (fun R_ hR_ => ?_)
 refine sg (xe0 1 [(0, aL A xs c)] ?_)
 refine nl (sq (sg (xr0 1 [(3, aL A xs c)] [] ?_)))
 by_cases c_1 : A = none
 ·refine xr 1 [(4, .as bT)] [(4, bT)] [3] [RunsAs Tryz.prog [(3, aL A xs c)] (Go.Op.binOp Go.BinOp.eql 49 (Go.Operand.tmp 3) (Go.Operand.const (Go.Value.slice none 0 0)) 49) 4 bT w] ⟨runs_bin rfl rfl rfl (by have h_ := Lib.run_eql_slice_nil (P := Tryz.prog) w 49 57 A xs.length c 0 0 Tryz.underlying49; rw [show A.isNone = true from by rw [c_1]; rfl] at h_; exact h_), trivial⟩ ?_
  refine nl (ct (sg (xe0 1 [(2, .slice none 0 0)] ?_)))
  refine nl (X_ret (rj [.slice none 0 0] hR_ ?_))
  obtain rfl : xs = [] := List.length_eq_zero_iff.1 (by have h_ := hx.2.2; rcases Nat.eq_zero_or_pos xs.length with h1_ | h1_; (· exact h1_); (· obtain ⟨ad, e_, _⟩ := h_ h1_; rw [c_1] at e_; cases e_))
  exact ⟨none, 0, rfl, Nat.le_refl _, Kd.R_nil _ _ _ _ _, (Below.refl _ _)⟩
 refine xr 1 [(4, .as bF)] [(4, bF)] [3] [RunsAs Tryz.prog [(3, aL A xs c)] (Go.Op.binOp Go.BinOp.eql 49 (Go.Operand.tmp 3) (Go.Operand.const (Go.Value.slice none 0 0)) 49) 4 bF w] ⟨runs_bin rfl rfl rfl (by have h_ := Lib.run_eql_slice_nil (P := Tryz.prog) w 49 57 A xs.length c 0 0 Tryz.underlying49; rw [show A.isNone = false from by cases hA_ : A with | none => exact absurd hA_ c_1 | some _ => rfl] at h_; exact h_), trivial⟩ ?_
 refine nl (cf (sk (sg (xw 1 [] [(5, .slice (some ⟨w.heap.size, 0, none⟩) 0 0)] [4] (w.alloc (.cells #[] 57)) [] trivial ?_))))
 obtain ⟨w_2, hw_6, hb_3, hk_4, hz_5⟩ := new_world w #[] 57
 rw [hw_6]
 refine xr0 1 [(6, aL A xs c)] [0] ?_
 have hr_7 := Kd.R_litB kAttr (W := w) (e := 57) (cs := #[]) [] hk_4 (repsAttr []) (Nat.le_of_ble_eq_true (by kernel_rfl))
 refine XL_appendAll (c' := c) kAttr rfl rfl rfl w.heap.size 57 (.agg #[s0, i6 0, i6 0, s0]) 48 Tryz.underlying49 info57 rfl (by decide) (by omega) ([]) xs (by kernel_rfl) hr_7 (Kd.C_below hx hb_3) kAttr_KM (hb_3).size (by first | omega | (simp; omega)) ?_
 intro A_8 c_9 w_10 hr_11 hc_12 hg_13 hl_14 ha_15
 have he_16 : ([] ++ xs) = xs := List.nil_append _
 rw [he_16] at hr_11 ⊢
 refine xe0 1 [(2, aL A_8 xs c_9)] ?_
 refine nl (X_ret (rj [aL A_8 xs c_9] hR_ ?_))
 exact ⟨_, _, rfl, (RX.Kd.R_len hr_11).2, Kd.R_low hr_11 (Nat.le_refl _), (bgo hb_3 hg_13 hl_14 (Nat.le_refl _))⟩
theorem kAttrs_R {w W w0 : World} {A : Option Addr} {n c : Nat} {xs : List At} (h : kAttr.R 57 w W.heap.size (OkFrom W.heap.size) (.slice A n c) xs) (hb : w0.heap.size ≤ W.heap.size) : kAttrs.M w w0.heap.size (OkFrom w0.heap.size) xs [.slice A n c] := ⟨_, rfl, Kd.R_low h hb⟩
theorem refuse_kind {o : OpA} (h : refuseP o = 0) : o.kind = 1 ∨ o.kind = 2 := by
 unfold refuseP at h
 by_cases h1 : o.kind ≠ 1 ∧ o.kind ≠ 2
 ·rw [if_pos h1] at h; cases h
 omega
theorem refuse_utf {o : OpA} (h : refuseP o = 0) : U.utf o.text ∧ (o.kind = 2 → plainErr o.vk o.vn o.vt = 0) ∧ chkA false o.attrs = 0 := by
 unfold refuseP at h
 split at h
 ·cases h
 split at h
 ·cases h
 split at h
 ·cases h
 split at h
 ·cases h
 split at h
 ·cases h
 rename_i h1
 have hu : U.utf o.text := by rw [U.uchk_eq] at h1; unfold U.utf; simpa using h1
 split at h
 ·rename_i h2; exact absurd h h2.2
 rename_i h2; exact ⟨hu, fun hk => Classical.byContradiction fun h3 => h2 ⟨hk, h3⟩, h⟩
set_option maxHeartbeats 2000000 in
theorem cof_any (o : OpA) (A : Option Addr) (c : Nat) (w : World) (hA : kAttr.C w A o.attrs.length o.attrs) (hz : opSz o) (hT : Tabs w) (es : List Addr) (hE : ErrsI w es) : Calls Tryz.prog 213 #[.agg (o7A o (.slice A o.attrs.length c))] w fun e w' => ∃ v, e = .returned (.tuple #[v, errV es (refuseP o)]) ∧ (refuseP o = 0 → kPiece.M w' w.heap.size (OkFrom w.heap.size) (pOf o) [v]) ∧ (refuseP o ≠ 0 → v = .nilIface) ∧ Below w.heap.size w w' := by
 have hz1 := hz.1
 have hz2 := hz.2.1
 have hz3 := hz.2.2.1
 refine en Tryz.func213 rfl 52 [(0, .agg (o7A o (aL A o.attrs c)))] (fun R_ hR_ => ?_)
 refine sg (xwe 1 [] [(1, pw w.heap.size 0)] (w.alloc (.cells (o7A o (aL A o.attrs c)) 102)) [] trivial ?_)
 obtain ⟨w_1, hw_5, hb_2, hk_3, hz_4⟩ := new_world w (o7A o (aL A o.attrs c)) 102
 rw [hw_5]
 refine xr0 2 [] [] ?_
 refine nl (sq (sg (xr 1 [(10, .load (.agg (o7A o (aL A o.attrs c))))] [(10, .agg (o7A o (aL A o.attrs c)))] [] [la 102 (⟨w.heap.size, 0, none⟩) (.agg (o7A o (aL A o.attrs c))) w_1] ⟨loadsB rfl rfl hk_3 0 ⟨by kernel_rfl, by kernel_rfl⟩, trivial⟩ ?_)))
 refine xc 222 ent222 [.agg (o7A o (aL A o.attrs c))] (refuse_any o _ _ _ (Kd.C_below hA hb_2) hz (hT.below hb_2) es (hE.below hb_2)) ?_
 rintro e w_6 ⟨rfl, hb_7⟩; refine ⟨_, rfl, ?_⟩
 refine xr0 1 [(4, errV es (refuseP o))] [10, 11] ?_
 refine nl (sg (xr0 1 [(12, errV es (refuseP o))] [] ?_))
 by_cases c_8 : (refuseP o) = 0
 ·rw [show errV es (refuseP o) = .nilIface from by rw [c_8]; rfl]
  refine xr0 1 [(4, .nilIface), (13, bF)] [12] ?_
  refine nl (cf (sk (sg (xe1 2 [(16, .load (aL A o.attrs c))] [(1, pw w.heap.size 0), (16, aL A o.attrs c)] (lc 49 (Blk.below hk_3 hb_7) 6) ?_))))
  refine xc 223 ent223 [aL A o.attrs c] (copied_any _ _ o.attrs _ (Kd.C_below hA (bt hb_2 hb_7)) (by omega)) ?_
  rintro e w_11 ⟨A_9, c_10, rfl, hl_13, hr_14, hb_12⟩; refine ⟨_, rfl, ?_⟩
  refine xw 2 [] [(5, pw w_11.heap.size 0), (18, .agg #[aL A_9 o.attrs c_10])] [16, 17] (w_11.alloc (.cells #[.slice none 0 0] 126)) [] trivial ?_
  obtain ⟨w_15, hw_19, hb_16, hk_17, hz_18⟩ := new_world w_11 #[.slice none 0 0] 126
  rw [hw_19]
  refine xst (.agg #[aL A_9 o.attrs c_10]) hk_17 0 #[aL A_9 o.attrs c_10] (fun w_20 hg_21 hk_22 hz_23 => ?_)
  refine nl (sq (sq (X_region ?_)))
  have hB_24 : Below w_1.heap.size w_1 w_20 := (bg (bt (bt hb_7 hb_12) hb_16) hg_21 ((bt hb_7 hb_12)).size)
  refine xr1 2 [(20, .load (i6 o.kind))] [(20, i6 o.kind)] [18] (lc 3 (Blk.below hk_3 hB_24) 0) ?_
  by_cases c_25 : o.kind = 1
  ·refine xr1 1 [(21, .eq bT)] [(21, bT)] [20] (bE c_25) ?_
   refine nl (ct (sg (xr1 2 [(24, .load (sT o.text))] [(24, sT o.text)] [21] (lc 9 (Blk.below hk_3 hB_24) 1) ?_)))
   have hB_26 : Below w.heap.size w w_20 := (bg (bt (bt (bt hb_2 hb_7) hb_12) hb_16) hg_21 ((bt (bt hb_2 hb_7) hb_12)).size)
   refine xc 224 ent224 [sT o.text] (len_any o.text _ (by omega) (hT.below hB_26) es (hE.a.below hB_26)) ?_
   rintro e w_27 ⟨rfl, hb_28⟩; refine ⟨_, rfl, ?_⟩
   rw [show U.lenP o.text = ((U.sc o.text).length, 0) from if_pos (refuse_utf c_8).1]
   refine xr0 5 [(6, i6 ((U.sc o.text).length : Int)), (7, .nilIface)] [24, 25] ?_
   refine nl (sq (sg (xe0 2 [(1, pw w.heap.size 0), (5, pw w_11.heap.size 0), (6, i6 ((U.sc o.text).length : Int)), (29, bF)] ?_)))
   refine nl (cf (sk (sg (xe 8 [(31, .load (.agg #[aL A_9 o.attrs c_10])), (33, .load (sT o.text))] [(2, .iface 249 (.agg #[.slice A_9 o.attrs.length c_10, sT o.text, i6 ((U.sc o.text).length : Int)])), (3, .nilIface)] [la 126 (⟨w_11.heap.size, 0, none⟩) (.agg #[aL A_9 o.attrs c_10]) w_27, _] ⟨loadsB rfl rfl (Blk.below hk_22 hb_28) 0 ⟨by kernel_rfl, by kernel_rfl⟩, lc 9 (Blk.below hk_3 (bt hB_24 hb_28)) 1, trivial⟩ ?_))))
   refine nl (X_ret (rj [.iface 249 (.agg #[.slice A_9 o.attrs.length c_10, sT o.text, i6 ((U.sc o.text).length : Int)]), .nilIface] hR_ ?_))
   have hB_29 : Below w_11.heap.size w_11 w_27 := (bt (bg hb_16 hg_21 (Nat.le_refl _)) hb_28)
   have hp0 : refuseP o = 0 := c_8
   have hkk : o.kind = 1 := c_25
   rw [hp0, pOf_ins hkk]
   exact ⟨_, rfl, fun _ => kPiece_Mins ⟨_, rfl, Kd.R_low (Kd.R_below hr_14 hB_29) ((bt hb_2 hb_7)).size⟩, fun h_ => absurd rfl h_, (bt hB_26 hb_28)⟩
  refine xr1 1 [(21, .eq bF)] [(21, bF)] [20] (bN c_25) ?_
  refine nl (cf (sk (sg (xr 2 [(39, .load (.agg #[i6 o.vk, i6 o.vn, sT o.vt]))] [(39, .agg #[i6 o.vk, i6 o.vn, sT o.vt])] [21] [la 48 (⟨w.heap.size, 2, none⟩) (.agg #[i6 o.vk, i6 o.vn, sT o.vt]) w_20] ⟨loadsB rfl rfl (Blk.below hk_3 hB_24) 2 ⟨by kernel_rfl, by kernel_rfl⟩, trivial⟩ ?_))))
  have hB_30 : Below w.heap.size w w_20 := (bg (bt (bt (bt hb_2 hb_7) hb_12) hb_16) hg_21 ((bt (bt hb_2 hb_7) hb_12)).size)
  refine xc 225 ent225 [.agg #[i6 o.vk, i6 o.vn, sT o.vt]] (vof_any o.vk o.vn o.vt _ (by omega) (hT.below hB_30) es (hE.a.below hB_30)) ?_
  rintro e w_31 ⟨rfl, hb_32⟩; refine ⟨_, rfl, ?_⟩
  have hk2 : o.kind = 2 := by have h_ := refuse_kind c_8; omega
  rw [if_pos ((refuse_utf c_8).2.1 hk2), (refuse_utf c_8).2.1 hk2]
  refine xr0 5 [(8, valV (o.vk, o.vn, o.vt)), (9, .nilIface)] [39, 40] ?_
  refine nl (sq (sg (xe0 2 [(1, pw w.heap.size 0), (5, pw w_11.heap.size 0), (8, valV (o.vk, o.vn, o.vt)), (9, .nilIface), (44, bF)] ?_)))
  refine nl (cf (sk (sq (X_region ?_))))
  by_cases c_33 : o.vk = 1
  ·rw [valV_1 (v := (o.vk, o.vn, o.vt)) c_33]
   refine xe 8 [(46, .load (.agg #[aL A_9 o.attrs c_10])), (48, .load (sT o.text))] [(2, .iface 253 (.agg #[.slice A_9 o.attrs.length c_10, sT o.text, .iface 296 (.bool (decide (o.vn = 1)))])), (3, .nilIface)] [la 126 (⟨w_11.heap.size, 0, none⟩) (.agg #[aL A_9 o.attrs c_10]) w_31, _] ⟨loadsB rfl rfl (Blk.below hk_22 hb_32) 0 ⟨by kernel_rfl, by kernel_rfl⟩, lc 9 (Blk.below hk_3 (bt hB_24 hb_32)) 1, trivial⟩ ?_
   refine nl (X_ret (rj [.iface 253 (.agg #[.slice A_9 o.attrs.length c_10, sT o.text, .iface 296 (.bool (decide (o.vn = 1)))]), .nilIface] hR_ ?_))
   have hB_34 : Below w_11.heap.size w_11 w_31 := (bt (bg hb_16 hg_21 (Nat.le_refl _)) hb_32)
   have hp0 : refuseP o = 0 := c_8
   have hkk : o.kind = 2 := hk2
   rw [hp0, pOf_emb hkk]
   exact ⟨_, rfl, fun _ => (by have h_ := kPiece_Memb (k := o.text) (v := (o.vk, o.vn, o.vt)) (kAttrs_R (Kd.R_below hr_14 hB_34) ((bt hb_2 hb_7)).size); rw [valV_1 (v := (o.vk, o.vn, o.vt)) c_33] at h_; exact h_), fun h_ => absurd rfl h_, (bt hB_30 hb_32)⟩
  by_cases c_35 : o.vk = 2
  ·rw [valV_2 (v := (o.vk, o.vn, o.vt)) c_33 c_35]
   refine xe 8 [(46, .load (.agg #[aL A_9 o.attrs c_10])), (48, .load (sT o.text))] [(2, .iface 253 (.agg #[.slice A_9 o.attrs.length c_10, sT o.text, .iface 297 (i6 o.vn)])), (3, .nilIface)] [la 126 (⟨w_11.heap.size, 0, none⟩) (.agg #[aL A_9 o.attrs c_10]) w_31, _] ⟨loadsB rfl rfl (Blk.below hk_22 hb_32) 0 ⟨by kernel_rfl, by kernel_rfl⟩, lc 9 (Blk.below hk_3 (bt hB_24 hb_32)) 1, trivial⟩ ?_
   refine nl (X_ret (rj [.iface 253 (.agg #[.slice A_9 o.attrs.length c_10, sT o.text, .iface 297 (i6 o.vn)]), .nilIface] hR_ ?_))
   have hB_36 : Below w_11.heap.size w_11 w_31 := (bt (bg hb_16 hg_21 (Nat.le_refl _)) hb_32)
   have hp0 : refuseP o = 0 := c_8
   have hkk : o.kind = 2 := hk2
   rw [hp0, pOf_emb hkk]
   exact ⟨_, rfl, fun _ => (by have h_ := kPiece_Memb (k := o.text) (v := (o.vk, o.vn, o.vt)) (kAttrs_R (Kd.R_below hr_14 hB_36) ((bt hb_2 hb_7)).size); rw [valV_2 (v := (o.vk, o.vn, o.vt)) c_33 c_35] at h_; exact h_), fun h_ => absurd rfl h_, (bt hB_30 hb_32)⟩
  by_cases c_37 : o.vk = 3
  ·rw [valV_3 (v := (o.vk, o.vn, o.vt)) c_33 c_35 c_37]
   refine xe 8 [(46, .load (.agg #[aL A_9 o.attrs c_10])), (48, .load (sT o.text))] [(2, .iface 253 (.agg #[.slice A_9 o.attrs.length c_10, sT o.text, .iface 298 (sT o.vt)])), (3, .nilIface)] [la 126 (⟨w_11.heap.size, 0, none⟩) (.agg #[aL A_9 o.attrs c_10]) w_31, _] ⟨loadsB rfl rfl (Blk.below hk_22 hb_32) 0 ⟨by kernel_rfl, by kernel_rfl⟩, lc 9 (Blk.below hk_3 (bt hB_24 hb_32)) 1, trivial⟩ ?_
   refine nl (X_ret (rj [.iface 253 (.agg #[.slice A_9 o.attrs.length c_10, sT o.text, .iface 298 (sT o.vt)]), .nilIface] hR_ ?_))
   have hB_38 : Below w_11.heap.size w_11 w_31 := (bt (bg hb_16 hg_21 (Nat.le_refl _)) hb_32)
   have hp0 : refuseP o = 0 := c_8
   have hkk : o.kind = 2 := hk2
   rw [hp0, pOf_emb hkk]
   exact ⟨_, rfl, fun _ => (by have h_ := kPiece_Memb (k := o.text) (v := (o.vk, o.vn, o.vt)) (kAttrs_R (Kd.R_below hr_14 hB_38) ((bt hb_2 hb_7)).size); rw [valV_3 (v := (o.vk, o.vn, o.vt)) c_33 c_35 c_37] at h_; exact h_), fun h_ => absurd rfl h_, (bt hB_30 hb_32)⟩
  rw [valV_0 (v := (o.vk, o.vn, o.vt)) c_33 c_35 c_37]
  refine xe 8 [(46, .load (.agg #[aL A_9 o.attrs c_10])), (48, .load (sT o.text))] [(2, .iface 253 (.agg #[.slice A_9 o.attrs.length c_10, sT o.text, .iface 300 (.agg #[])])), (3, .nilIface)] [la 126 (⟨w_11.heap.size, 0, none⟩) (.agg #[aL A_9 o.attrs c_10]) w_31, _] ⟨loadsB rfl rfl (Blk.below hk_22 hb_32) 0 ⟨by kernel_rfl, by kernel_rfl⟩, lc 9 (Blk.below hk_3 (bt hB_24 hb_32)) 1, trivial⟩ ?_
  refine nl (X_ret (rk [.iface 253 (.agg #[.slice A_9 o.attrs.length c_10, sT o.text, .iface 300 (.agg #[])]), .nilIface] (hR_ _ _ ?_)))
  have hB_39 : Below w_11.heap.size w_11 w_31 := (bt (bg hb_16 hg_21 (Nat.le_refl _)) hb_32)
  have hp0 : refuseP o = 0 := c_8
  have hkk : o.kind = 2 := hk2
  rw [hp0, pOf_emb hkk]
  exact ⟨_, rfl, fun _ => (by have h_ := kPiece_Memb (k := o.text) (v := (o.vk, o.vn, o.vt)) (kAttrs_R (Kd.R_below hr_14 hB_39) ((bt hb_2 hb_7)).size); rw [valV_0 (v := (o.vk, o.vn, o.vt)) c_33 c_35 c_37] at h_; exact h_), fun h_ => absurd rfl h_, (bt hB_30 hb_32)⟩
 rw [errV_pos es (refuseP o) (Nat.pos_of_ne_zero c_8)]
 refine xr0 1 [(4, .iface 301 (.pointer (some (errAt es (refuseP o))))), (13, bT)] [12] ?_
 refine nl (ct (sg (xe0 3 [(2, .nilIface), (3, .iface 301 (.pointer (some (errAt es (refuseP o)))))] ?_)))
 refine nl (X_ret (rj [.nilIface, .iface 301 (.pointer (some (errAt es (refuseP o))))] hR_ ?_))
 rw [← errV_pos es (refuseP o) (Nat.pos_of_ne_zero c_8)]
 exact ⟨_, rfl, fun h_ => absurd h_ c_8, fun _ => rfl, (bt hb_2 hb_7)⟩
set_option maxHeartbeats 2000000 in
theorem has_anyO (o : OpA) (A : Option Addr) (c : Nat) (w : World) (hA : kAttr.C w A o.attrs.length o.attrs) (hz : opSz o) : Calls Tryz.prog 212 #[.agg (o7A o (.slice A o.attrs.length c))] w fun e w' => e = .returned (.bool (hasP o)) ∧ Below w.heap.size w w' := by
 refine en Tryz.func212 rfl 45 [(0, .agg (o7A o (aL A o.attrs c)))] (fun R_ hR_ => ?_)
 refine sg (xwe 1 [] [(1, pw w.heap.size 0)] (w.alloc (.cells (o7A o (aL A o.attrs c)) 102)) [] trivial ?_)
 obtain ⟨w_1, hw_5, hb_2, hk_3, hz_4⟩ := new_world w (o7A o (aL A o.attrs c)) 102
 rw [hw_5]
 refine xr0 1 [] [] ?_
 refine nl (sq (X_still (by kernel_rfl) (by kernel_rfl) (fun wd_6 hb_7 hh_8 => ?_)))
 refine xse 3 [(6, .load (.agg #[i6 o.vk, i6 o.vn, sT o.vt]))] [(1, pw w.heap.size 0), (6, .agg #[i6 o.vk, i6 o.vn, sT o.vt]), (7, .agg #[i6 0, i6 0, s0])] [la 48 (⟨w.heap.size, 2, none⟩) (.agg #[i6 o.vk, i6 o.vn, sT o.vt]) wd_6] ⟨loadsB rfl rfl (Blk.below hk_3 hb_7) 2 ⟨by kernel_rfl, by kernel_rfl⟩, trivial⟩ ?_
 by_cases c_9 : (o.vk, o.vn, o.vt) = pl0
 ·refine xse 3 [(8, .as bT), (10, .load (i6 o.count))] [(1, pw w.heap.size 0), (8, bT), (10, i6 o.count)] [RunsAs Tryz.prog [(6, .agg #[i6 o.vk, i6 o.vn, sT o.vt]), (7, .agg #[i6 0, i6 0, s0])] (Go.Op.binOp Go.BinOp.eql 48 (Go.Operand.tmp 6) (Go.Operand.tmp 7) 48) 4 bT wd_6, _] ⟨runs_bin rfl rfl (run_eqGuard_agg _ _ _ _ _ _ _ (by kernel_rfl)) (by have h := plain_eqb (o.vk, o.vn, o.vt) pl0 wd_6; rw [show ple (o.vk, o.vn, o.vt) pl0 = true from (ple_iff _ _).2 c_9] at h; exact h), lc 3 (Blk.below hk_3 hb_7) 5, trivial⟩ ?_
  by_cases c_10 : o.count = 0
  ·refine xse 3 [(11, .eq bT)] [(1, pw w.heap.size 0), (3, bT), (4, bT)] [_] ⟨bE c_10, trivial⟩ ?_
   refine XS_nil ?_
   refine sq (sg (xr1 2 [(13, .load (i6 o.kind))] [(13, i6 o.kind)] [] (lc 3 (Blk.below hk_3 hb_7) 0) ?_))
   refine nl (bk (sq (X_region ?_)))
   by_cases c_11 : o.kind = 1
   ·refine xr1 2 [(15, .eq bT)] [(14, bT)] [] (bE c_11) ?_
    refine nl (ct (sg (xe0 5 [(2, bT)] ?_)))
    refine nl (X_ret (rj [bT] hR_ ?_))
    rw [show hasP o = true from by unfold hasP; simp_all]
    exact ⟨rfl, (bt hb_2 hb_7)⟩
   refine xr1 2 [(15, .eq bF)] [(14, bF)] [] (bN c_11) ?_
   refine nl (cf (sq (X_region ?_)))
   by_cases c_12 : o.kind = 2
   ·refine xr1 2 [(21, .eq bT)] [(20, bT)] [14] (bE c_12) ?_
    refine nl (ct (sg (xe0 2 [(2, bT)] ?_)))
    refine nl (X_ret (rj [bT] hR_ ?_))
    rw [show hasP o = true from by unfold hasP; simp_all]
    exact ⟨rfl, (bt hb_2 hb_7)⟩
   refine xr1 2 [(21, .eq bF)] [(20, bF)] [14] (bN c_12) ?_
   refine nl (cf (sq (X_region ?_)))
   by_cases c_13 : o.kind = 3
   ·refine xr1 2 [(24, .eq bT)] [(23, bT)] [4, 20] (bE c_13) ?_
    refine nl (ct (sg (xe1 4 [(28, .load (sT o.text))] [(26, bT), (28, sT o.text)] (lc 9 (Blk.below hk_3 hb_7) 1) ?_)))
    by_cases c_14 : o.text = (⟨#[]⟩ : ByteArray)
    ·refine xe 3 [(29, .eq bT)] [(2, bT)] [Value.bool (o.text.toList == (⟨#[]⟩ : ByteArray).toList) = bT] ⟨congrArg Value.bool (strEqT (c_14)), trivial⟩ ?_
     refine nl (X_ret (rj [bT] hR_ ?_))
     rw [show hasP o = true from by unfold hasP; simp_all]
     exact ⟨rfl, (bt hb_2 hb_7)⟩
    refine xe 3 [(29, .eq bF)] [(2, bF)] [Value.bool (o.text.toList == (⟨#[]⟩ : ByteArray).toList) = bF] ⟨congrArg Value.bool (strEqF (c_14)), trivial⟩ ?_
    refine nl (X_ret (rj [bF] hR_ ?_))
    rw [show hasP o = false from by unfold hasP; simp_all]
    exact ⟨rfl, (bt hb_2 hb_7)⟩
   refine xr1 2 [(24, .eq bF)] [(23, bF)] [4, 20] (bN c_13) ?_
   refine nl (cf (sq (X_region ?_)))
   by_cases c_15 : o.kind = 4
   ·refine xr1 2 [(32, .eq bT)] [(31, bT)] [13, 23] (bE c_15) ?_
    refine nl (ct (sg (xe1 4 [(36, .load (sT o.text))] [(1, pw w.heap.size 0), (34, bT), (36, sT o.text)] (lc 9 (Blk.below hk_3 hb_7) 1) ?_)))
    by_cases c_16 : o.text = (⟨#[]⟩ : ByteArray)
    ·refine xe 6 [(37, .eq bT), (41, .load (aL A o.attrs c))] [(39, bT), (42, i6 (o.attrs.length : Int))] [Value.bool (o.text.toList == (⟨#[]⟩ : ByteArray).toList) = bT, _] ⟨congrArg Value.bool (strEqT (c_16)), lc 49 (Blk.below hk_3 hb_7) 6, trivial⟩ ?_
     by_cases c_17 : (o.attrs.length : Int) = 0
     ·refine xe1 3 [(43, .eq bT)] [(2, bT)] (bE c_17) ?_
      refine nl (X_ret (rj [bT] hR_ ?_))
      rw [show hasP o = true from by unfold hasP; simp_all]
      exact ⟨rfl, (bt hb_2 hb_7)⟩
     refine xe1 3 [(43, .eq bF)] [(2, bF)] (bN c_17) ?_
     refine nl (X_ret (rj [bF] hR_ ?_))
     rw [show hasP o = false from by unfold hasP; simp_all]
     exact ⟨rfl, (bt hb_2 hb_7)⟩
    refine xe 9 [(37, .eq bF)] [(2, bF)] [Value.bool (o.text.toList == (⟨#[]⟩ : ByteArray).toList) = bF] ⟨congrArg Value.bool (strEqF (c_16)), trivial⟩ ?_
    refine nl (X_ret (rj [bF] hR_ ?_))
    rw [show hasP o = false from by unfold hasP; simp_all]
    exact ⟨rfl, (bt hb_2 hb_7)⟩
   refine xr1 2 [(32, .eq bF)] [(31, bF)] [13, 23] (bN c_15) ?_
   refine nl (cf (sk (sg (xe0 1 [(2, bF)] ?_))))
   refine nl (X_ret (rj [bF] hR_ ?_))
   rw [show hasP o = false from by unfold hasP; simp_all]
   exact ⟨rfl, (bt hb_2 hb_7)⟩
  refine xse 3 [(11, .eq bF)] [(1, pw w.heap.size 0), (3, bT), (4, bF)] [_] ⟨bN c_10, trivial⟩ ?_
  refine XS_nil ?_
  refine sq (sg (xr1 2 [(13, .load (i6 o.kind))] [(13, i6 o.kind)] [] (lc 3 (Blk.below hk_3 hb_7) 0) ?_))
  refine nl (bk (sq (X_region ?_)))
  by_cases c_18 : o.kind = 1
  ·refine xr1 2 [(15, .eq bT)] [(14, bT)] [] (bE c_18) ?_
   refine nl (ct (sg (xe0 5 [(2, bF)] ?_)))
   refine nl (X_ret (rj [bF] hR_ ?_))
   rw [show hasP o = false from by unfold hasP; simp_all]
   exact ⟨rfl, (bt hb_2 hb_7)⟩
  refine xr1 2 [(15, .eq bF)] [(14, bF)] [] (bN c_18) ?_
  refine nl (cf (sq (X_region ?_)))
  by_cases c_19 : o.kind = 2
  ·refine xr1 2 [(21, .eq bT)] [(20, bT)] [14] (bE c_19) ?_
   refine nl (ct (sg (xe0 2 [(2, bF)] ?_)))
   refine nl (X_ret (rj [bF] hR_ ?_))
   rw [show hasP o = false from by unfold hasP; simp_all]
   exact ⟨rfl, (bt hb_2 hb_7)⟩
  refine xr1 2 [(21, .eq bF)] [(20, bF)] [14] (bN c_19) ?_
  refine nl (cf (sq (X_region ?_)))
  by_cases c_20 : o.kind = 3
  ·refine xr1 2 [(24, .eq bT)] [(23, bT)] [4, 20] (bE c_20) ?_
   refine nl (ct (sg (xe1 4 [(28, .load (sT o.text))] [(26, bT), (28, sT o.text)] (lc 9 (Blk.below hk_3 hb_7) 1) ?_)))
   by_cases c_21 : o.text = (⟨#[]⟩ : ByteArray)
   ·refine xe 3 [(29, .eq bT)] [(2, bT)] [Value.bool (o.text.toList == (⟨#[]⟩ : ByteArray).toList) = bT] ⟨congrArg Value.bool (strEqT (c_21)), trivial⟩ ?_
    refine nl (X_ret (rj [bT] hR_ ?_))
    rw [show hasP o = true from by unfold hasP; simp_all]
    exact ⟨rfl, (bt hb_2 hb_7)⟩
   refine xe 3 [(29, .eq bF)] [(2, bF)] [Value.bool (o.text.toList == (⟨#[]⟩ : ByteArray).toList) = bF] ⟨congrArg Value.bool (strEqF (c_21)), trivial⟩ ?_
   refine nl (X_ret (rj [bF] hR_ ?_))
   rw [show hasP o = false from by unfold hasP; simp_all]
   exact ⟨rfl, (bt hb_2 hb_7)⟩
  refine xr1 2 [(24, .eq bF)] [(23, bF)] [4, 20] (bN c_20) ?_
  refine nl (cf (sq (X_region ?_)))
  by_cases c_22 : o.kind = 4
  ·refine xr1 2 [(32, .eq bT)] [(31, bT)] [13, 23] (bE c_22) ?_
   refine nl (ct (sg (xe1 4 [(36, .load (sT o.text))] [(1, pw w.heap.size 0), (34, bT), (36, sT o.text)] (lc 9 (Blk.below hk_3 hb_7) 1) ?_)))
   by_cases c_23 : o.text = (⟨#[]⟩ : ByteArray)
   ·refine xe 6 [(37, .eq bT), (41, .load (aL A o.attrs c))] [(39, bT), (42, i6 (o.attrs.length : Int))] [Value.bool (o.text.toList == (⟨#[]⟩ : ByteArray).toList) = bT, _] ⟨congrArg Value.bool (strEqT (c_23)), lc 49 (Blk.below hk_3 hb_7) 6, trivial⟩ ?_
    by_cases c_24 : (o.attrs.length : Int) = 0
    ·refine xe1 3 [(43, .eq bT)] [(2, bT)] (bE c_24) ?_
     refine nl (X_ret (rj [bT] hR_ ?_))
     rw [show hasP o = true from by unfold hasP; simp_all]
     exact ⟨rfl, (bt hb_2 hb_7)⟩
    refine xe1 3 [(43, .eq bF)] [(2, bF)] (bN c_24) ?_
    refine nl (X_ret (rj [bF] hR_ ?_))
    rw [show hasP o = false from by unfold hasP; simp_all]
    exact ⟨rfl, (bt hb_2 hb_7)⟩
   refine xe 9 [(37, .eq bF)] [(2, bF)] [Value.bool (o.text.toList == (⟨#[]⟩ : ByteArray).toList) = bF] ⟨congrArg Value.bool (strEqF (c_23)), trivial⟩ ?_
   refine nl (X_ret (rj [bF] hR_ ?_))
   rw [show hasP o = false from by unfold hasP; simp_all]
   exact ⟨rfl, (bt hb_2 hb_7)⟩
  refine xr1 2 [(32, .eq bF)] [(31, bF)] [13, 23] (bN c_22) ?_
  refine nl (cf (sk (sg (xe0 1 [(2, bF)] ?_))))
  refine nl (X_ret (rj [bF] hR_ ?_))
  rw [show hasP o = false from by unfold hasP; simp_all]
  exact ⟨rfl, (bt hb_2 hb_7)⟩
 refine xse 3 [(8, .as bF), (10, .load (i6 o.count))] [(1, pw w.heap.size 0), (8, bF), (10, i6 o.count)] [RunsAs Tryz.prog [(6, .agg #[i6 o.vk, i6 o.vn, sT o.vt]), (7, .agg #[i6 0, i6 0, s0])] (Go.Op.binOp Go.BinOp.eql 48 (Go.Operand.tmp 6) (Go.Operand.tmp 7) 48) 4 bF wd_6, _] ⟨runs_bin rfl rfl (run_eqGuard_agg _ _ _ _ _ _ _ (by kernel_rfl)) (by have h := plain_eqb (o.vk, o.vn, o.vt) pl0 wd_6; rw [show ple (o.vk, o.vn, o.vt) pl0 = false from Bool.eq_false_iff.2 (fun k => c_9 ((ple_iff _ _).1 k))] at h; exact h), lc 3 (Blk.below hk_3 hb_7) 5, trivial⟩ ?_
 by_cases c_25 : o.count = 0
 ·refine xse 3 [(11, .eq bT)] [(1, pw w.heap.size 0), (3, bF), (4, bT)] [_] ⟨bE c_25, trivial⟩ ?_
  refine XS_nil ?_
  refine sq (sg (xr1 2 [(13, .load (i6 o.kind))] [(13, i6 o.kind)] [] (lc 3 (Blk.below hk_3 hb_7) 0) ?_))
  refine nl (bk (sq (X_region ?_)))
  by_cases c_26 : o.kind = 1
  ·refine xr1 2 [(15, .eq bT)] [(14, bT)] [] (bE c_26) ?_
   refine nl (ct (sg (xe0 5 [(2, bF)] ?_)))
   refine nl (X_ret (rj [bF] hR_ ?_))
   rw [show hasP o = false from by unfold hasP; simp_all]
   exact ⟨rfl, (bt hb_2 hb_7)⟩
  refine xr1 2 [(15, .eq bF)] [(14, bF)] [] (bN c_26) ?_
  refine nl (cf (sq (X_region ?_)))
  by_cases c_27 : o.kind = 2
  ·refine xr1 2 [(21, .eq bT)] [(20, bT)] [14] (bE c_27) ?_
   refine nl (ct (sg (xe0 2 [(2, bT)] ?_)))
   refine nl (X_ret (rj [bT] hR_ ?_))
   rw [show hasP o = true from by unfold hasP; simp_all]
   exact ⟨rfl, (bt hb_2 hb_7)⟩
  refine xr1 2 [(21, .eq bF)] [(20, bF)] [14] (bN c_27) ?_
  refine nl (cf (sq (X_region ?_)))
  by_cases c_28 : o.kind = 3
  ·refine xr1 2 [(24, .eq bT)] [(23, bT)] [4, 20] (bE c_28) ?_
   refine nl (ct (sg (xe0 7 [(2, bF)] ?_)))
   refine nl (X_ret (rj [bF] hR_ ?_))
   rw [show hasP o = false from by unfold hasP; simp_all]
   exact ⟨rfl, (bt hb_2 hb_7)⟩
  refine xr1 2 [(24, .eq bF)] [(23, bF)] [4, 20] (bN c_28) ?_
  refine nl (cf (sq (X_region ?_)))
  by_cases c_29 : o.kind = 4
  ·refine xr1 2 [(32, .eq bT)] [(31, bT)] [13, 23] (bE c_29) ?_
   refine nl (ct (sg (xe0 13 [(2, bF)] ?_)))
   refine nl (X_ret (rj [bF] hR_ ?_))
   rw [show hasP o = false from by unfold hasP; simp_all]
   exact ⟨rfl, (bt hb_2 hb_7)⟩
  refine xr1 2 [(32, .eq bF)] [(31, bF)] [13, 23] (bN c_29) ?_
  refine nl (cf (sk (sg (xe0 1 [(2, bF)] ?_))))
  refine nl (X_ret (rj [bF] hR_ ?_))
  rw [show hasP o = false from by unfold hasP; simp_all]
  exact ⟨rfl, (bt hb_2 hb_7)⟩
 refine xse 3 [(11, .eq bF)] [(1, pw w.heap.size 0), (3, bF), (4, bF)] [_] ⟨bN c_25, trivial⟩ ?_
 refine XS_nil ?_
 refine sq (sg (xr1 2 [(13, .load (i6 o.kind))] [(13, i6 o.kind)] [] (lc 3 (Blk.below hk_3 hb_7) 0) ?_))
 refine nl (bk (sq (X_region ?_)))
 by_cases c_30 : o.kind = 1
 ·refine xr1 2 [(15, .eq bT)] [(14, bT)] [] (bE c_30) ?_
  refine nl (ct (sg (xe0 5 [(2, bF)] ?_)))
  refine nl (X_ret (rj [bF] hR_ ?_))
  rw [show hasP o = false from by unfold hasP; simp_all]
  exact ⟨rfl, (bt hb_2 hb_7)⟩
 refine xr1 2 [(15, .eq bF)] [(14, bF)] [] (bN c_30) ?_
 refine nl (cf (sq (X_region ?_)))
 by_cases c_31 : o.kind = 2
 ·refine xr1 2 [(21, .eq bT)] [(20, bT)] [14] (bE c_31) ?_
  refine nl (ct (sg (xe0 2 [(2, bF)] ?_)))
  refine nl (X_ret (rj [bF] hR_ ?_))
  rw [show hasP o = false from by unfold hasP; simp_all]
  exact ⟨rfl, (bt hb_2 hb_7)⟩
 refine xr1 2 [(21, .eq bF)] [(20, bF)] [14] (bN c_31) ?_
 refine nl (cf (sq (X_region ?_)))
 by_cases c_32 : o.kind = 3
 ·refine xr1 2 [(24, .eq bT)] [(23, bT)] [4, 20] (bE c_32) ?_
  refine nl (ct (sg (xe0 7 [(2, bF)] ?_)))
  refine nl (X_ret (rj [bF] hR_ ?_))
  rw [show hasP o = false from by unfold hasP; simp_all]
  exact ⟨rfl, (bt hb_2 hb_7)⟩
 refine xr1 2 [(24, .eq bF)] [(23, bF)] [4, 20] (bN c_32) ?_
 refine nl (cf (sq (X_region ?_)))
 by_cases c_33 : o.kind = 4
 ·refine xr1 2 [(32, .eq bT)] [(31, bT)] [13, 23] (bE c_33) ?_
  refine nl (ct (sg (xe0 13 [(2, bF)] ?_)))
  refine nl (X_ret (rj [bF] hR_ ?_))
  rw [show hasP o = false from by unfold hasP; simp_all]
  exact ⟨rfl, (bt hb_2 hb_7)⟩
 refine xr1 2 [(32, .eq bF)] [(31, bF)] [13, 23] (bN c_33) ?_
 refine nl (cf (sk (sg (xe0 1 [(2, bF)] ?_))))
 refine nl (X_ret (rj [bF] hR_ ?_))
 rw [show hasP o = false from by unfold hasP; simp_all]
 exact ⟨rfl, (bt hb_2 hb_7)⟩
theorem pErr_k3 {o : OpA} (h : hasP o = true) : o.kind = 1 ∨ o.kind = 2 ∨ o.kind = 3 ∨ o.kind = 4 := by
 unfold hasP at h
 by_cases a1 : o.kind = 1
 ·exact .inl a1
 by_cases a2 : o.kind = 2
 ·exact .inr (.inl a2)
 by_cases a3 : o.kind = 3
 ·exact .inr (.inr (.inl a3))
 by_cases a4 : o.kind = 4
 ·exact .inr (.inr (.inr a4))
 rw [if_neg a1, if_neg a2, if_neg a3, if_neg a4] at h; cases h
theorem pErr_small {o : OpA} (h : hasP o = true) (k1 : ¬ o.kind = 1) (k2 : ¬ o.kind = 2) : pErr o = if o.count < 1 then 9 else if 1099511627776 < o.count then 11 else if o.kind = 4 then 0 else chkA true o.attrs := by
 unfold pErr
 rw [if_neg (by rw [h]; decide), if_neg (by omega)]
theorem pErr_has {o : OpA} (h : hasP o = false) : pErr o = 9 := if_pos h
set_option maxHeartbeats 2000000 in
theorem piece_any (o : OpA) (A : Option Addr) (c : Nat) (w : World) (hA : kAttr.C w A o.attrs.length o.attrs) (hz : opSz o) (hT : Tabs w) (es : List Addr) (hE : ErrsO w es) : Calls Tryz.prog 186 #[.agg (o7A o (.slice A o.attrs.length c))] w fun e w' => ∃ v, e = .returned (.tuple #[v, errV es (pErr o)]) ∧ (pErr o = 0 → kPiece.M w' w.heap.size (OkFrom w.heap.size) (pOf o) [v]) ∧ (pErr o ≠ 0 → v = .nilIface) ∧ Below w.heap.size w w' := by
 have hz1 := hz.1
 have hz2 := hz.2.1
 have hz3 := hz.2.2.1
 refine en Tryz.func186 rfl 53 [(0, .agg (o7A o (aL A o.attrs c)))] (fun R_ hR_ => ?_)
 refine sg (xwe 1 [] [(1, pw w.heap.size 0)] (w.alloc (.cells (o7A o (aL A o.attrs c)) 102)) [] trivial ?_)
 obtain ⟨w_1, hw_5, hb_2, hk_3, hz_4⟩ := new_world w (o7A o (aL A o.attrs c)) 102
 rw [hw_5]
 refine xr0 2 [] [] ?_
 refine nl (sq (sg (xr 1 [(5, .load (.agg (o7A o (aL A o.attrs c))))] [(5, .agg (o7A o (aL A o.attrs c)))] [] [la 102 (⟨w.heap.size, 0, none⟩) (.agg (o7A o (aL A o.attrs c))) w_1] ⟨loadsB rfl rfl hk_3 0 ⟨by kernel_rfl, by kernel_rfl⟩, trivial⟩ ?_)))
 refine xc 212 ent212 [.agg (o7A o (aL A o.attrs c))] (has_anyO o _ _ _ (Kd.C_below hA hb_2) hz) ?_
 rintro e w_6 ⟨rfl, hb_7⟩; refine ⟨_, rfl, ?_⟩
 by_cases c_8 : hasP o = true
 ·rw [show (hasP o : Bool) = true from by simpa using c_8]
  refine xr0 1 [(7, bF)] [5, 6] ?_
  refine nl (cf (sk (sq (sg (xr1 2 [(10, .load (i6 o.kind))] [(10, i6 o.kind)] [7] (lc 3 (Blk.below hk_3 hb_7) 0) ?_)))))
  by_cases c_9 : o.kind = 1
  ·refine xr1 6 [(11, .eq bT)] [(16, bT)] [10] (bE c_9) ?_
   refine nl (ct (sg (xe 1 [(17, .load (.agg (o7A o (aL A o.attrs c))))] [(17, .agg (o7A o (aL A o.attrs c)))] [la 102 (⟨w.heap.size, 0, none⟩) (.agg (o7A o (aL A o.attrs c))) w_6] ⟨loadsB rfl rfl (Blk.below hk_3 hb_7) 0 ⟨by kernel_rfl, by kernel_rfl⟩, trivial⟩ ?_)))
   refine xc 213 ent213 [.agg (o7A o (aL A o.attrs c))] (cof_any o _ _ _ (Kd.C_below hA (bt hb_2 hb_7)) hz (hT.below (bt hb_2 hb_7)) es (hE.i.below (bt hb_2 hb_7))) ?_
   rintro e w_13 ⟨v_10, rfl, hM_11, hN_12, hb_14⟩; refine ⟨_, rfl, ?_⟩
   refine xe0 4 [(2, v_10), (3, errV es (refuseP o))] ?_
   refine nl (X_ret (rj [v_10, errV es (refuseP o)] hR_ ?_))
   have hpe : pErr o = refuseP o := by unfold pErr; simp_all
   rw [hpe]
   exact ⟨_, rfl, fun h_ => kPiece.M_mono (fun _ k_ => Nat.le_trans ((bt hb_2 hb_7)).size k_) (kPiece.M_lower ((bt hb_2 hb_7)).size (hM_11 h_)), hN_12, (bt (bt hb_2 hb_7) hb_14)⟩
  refine xr 4 [(11, .eq bF), (14, .load (i6 o.kind))] [(12, bF), (14, i6 o.kind)] [10] [_, _] ⟨bN c_9, lc 3 (Blk.below hk_3 hb_7) 0, trivial⟩ ?_
  by_cases c_15 : o.kind = 2
  ·refine xe1 2 [(15, .eq bT)] [(1, pw w.heap.size 0), (16, bT)] (bE c_15) ?_
   refine nl (ct (sg (xe 1 [(17, .load (.agg (o7A o (aL A o.attrs c))))] [(17, .agg (o7A o (aL A o.attrs c)))] [la 102 (⟨w.heap.size, 0, none⟩) (.agg (o7A o (aL A o.attrs c))) w_6] ⟨loadsB rfl rfl (Blk.below hk_3 hb_7) 0 ⟨by kernel_rfl, by kernel_rfl⟩, trivial⟩ ?_)))
   refine xc 213 ent213 [.agg (o7A o (aL A o.attrs c))] (cof_any o _ _ _ (Kd.C_below hA (bt hb_2 hb_7)) hz (hT.below (bt hb_2 hb_7)) es (hE.i.below (bt hb_2 hb_7))) ?_
   rintro e w_19 ⟨v_16, rfl, hM_17, hN_18, hb_20⟩; refine ⟨_, rfl, ?_⟩
   refine xe0 4 [(2, v_16), (3, errV es (refuseP o))] ?_
   refine nl (X_ret (rj [v_16, errV es (refuseP o)] hR_ ?_))
   have hpe : pErr o = refuseP o := by unfold pErr; simp_all
   rw [hpe]
   exact ⟨_, rfl, fun h_ => kPiece.M_mono (fun _ k_ => Nat.le_trans ((bt hb_2 hb_7)).size k_) (kPiece.M_lower ((bt hb_2 hb_7)).size (hM_17 h_)), hN_18, (bt (bt hb_2 hb_7) hb_20)⟩
  refine xe1 2 [(15, .eq bF)] [(1, pw w.heap.size 0), (16, bF)] (bN c_15) ?_
  refine nl (cf (sk (sq (bk (sg (xr1 2 [(23, .load (i6 o.count))] [(23, i6 o.count)] [16] (lc 3 (Blk.below hk_3 hb_7) 5) ?_))))))
  by_cases c_21 : o.count < 1
  ·refine xr1 2 [(24, .eq bT)] [(21, bT)] [23] (dT c_21) ?_
   refine nl (ct (sq (X_still (by kernel_rfl) (by kernel_rfl) (fun wd_22 hb_23 hh_24 => ?_))))
   refine xse 3 [(25, .load (ev es 9))] [(2, .nilIface), (3, ev es 9)] [la 35 (⟨0, 0, none⟩) (ev es 9) wd_22] ⟨loads1 rfl (((bt (bt hb_2 hb_7) hb_23).cell (World.block_lt_of_cell? _ _ (hE.load 9 0 (by decide) (by decide) rfl))).trans (hE.load 9 0 (by decide) (by decide) rfl)), trivial⟩ ?_
   refine XS_nil ?_
   refine X_ret (rj [.nilIface, ev es 9] hR_ ?_)
   have hpe : pErr o = 9 := by rw [pErr_small c_8 c_9 c_15]; first | (rw [if_pos (by omega)]; done) | (rw [if_neg (by omega), if_pos (by omega)]; done) | (rw [if_neg (by omega), if_neg (by omega), if_pos (by omega)]; done) | (rw [if_neg (by omega), if_neg (by omega), if_neg (by omega)] <;> assumption)
   rw [hpe]
   exact ⟨_, rfl, fun h_ => absurd h_ (by decide), fun _ => rfl, (bt (bt hb_2 hb_7) hb_23)⟩
  refine xr1 2 [(24, .eq bF)] [(21, bF)] [23] (dF c_21) ?_
  refine nl (cf (sg (xr1 2 [(28, .load (i6 o.count))] [(28, i6 o.count)] [21] (lc 3 (Blk.below hk_3 hb_7) 5) ?_)))
  by_cases c_25 : o.count > 1099511627776
  ·refine xr1 2 [(29, .eq bT)] [(26, bT)] [28] (dT c_25) ?_
   refine nl (ct (sq (X_still (by kernel_rfl) (by kernel_rfl) (fun wd_26 hb_27 hh_28 => ?_))))
   refine xse 3 [(30, .load (ev es 11))] [(2, .nilIface), (3, ev es 11)] [la 35 (⟨3, 0, none⟩) (ev es 11) wd_26] ⟨loads1 rfl (((bt (bt hb_2 hb_7) hb_27).cell (World.block_lt_of_cell? _ _ (hE.load 11 3 (by decide) (by decide) rfl))).trans (hE.load 11 3 (by decide) (by decide) rfl)), trivial⟩ ?_
   refine XS_nil ?_
   refine X_ret (rj [.nilIface, ev es 11] hR_ ?_)
   have hpe : pErr o = 11 := by rw [pErr_small c_8 c_9 c_15]; first | (rw [if_pos (by omega)]; done) | (rw [if_neg (by omega), if_pos (by omega)]; done) | (rw [if_neg (by omega), if_neg (by omega), if_pos (by omega)]; done) | (rw [if_neg (by omega), if_neg (by omega), if_neg (by omega)] <;> assumption)
   rw [hpe]
   exact ⟨_, rfl, fun h_ => absurd h_ (by decide), fun _ => rfl, (bt (bt hb_2 hb_7) hb_27)⟩
  refine xr1 2 [(29, .eq bF)] [(26, bF)] [28] (dF c_25) ?_
  refine nl (cf (sg (xr1 2 [(33, .load (i6 o.kind))] [(33, i6 o.kind)] [26] (lc 3 (Blk.below hk_3 hb_7) 0) ?_)))
  by_cases c_29 : o.kind = 4
  ·refine xe1 2 [(34, .eq bT)] [(1, pw w.heap.size 0), (31, bT)] (bE c_29) ?_
   refine nl (ct (sg (xe1 6 [(36, .load (i6 o.count))] [(2, .iface 133 (.agg #[i6 o.count])), (3, .nilIface)] (lc 3 (Blk.below hk_3 hb_7) 5) ?_)))
   refine nl (X_ret (rj [.iface 133 (.agg #[i6 o.count]), .nilIface] hR_ ?_))
   have hp0 : pErr o = 0 := by rw [pErr_small c_8 c_9 c_15]; first | (rw [if_pos (by omega)]; done) | (rw [if_neg (by omega), if_pos (by omega)]; done) | (rw [if_neg (by omega), if_neg (by omega), if_pos (by omega)]; done) | (rw [if_neg (by omega), if_neg (by omega), if_neg (by omega)] <;> assumption)
   have hkk : o.kind = 4 := c_29
   rw [hp0, pOf_del hkk]
   exact ⟨_, rfl, fun _ => kPiece_Mdel, fun h_ => absurd rfl h_, (bt hb_2 hb_7)⟩
  refine xe1 2 [(34, .eq bF)] [(1, pw w.heap.size 0), (31, bF)] (bN c_29) ?_
  refine nl (cf (sk (sq (sg (xr1 2 [(40, .load (aL A o.attrs c))] [(40, aL A o.attrs c)] [31] (lc 49 (Blk.below hk_3 hb_7) 6) ?_)))))
  refine xc 149 ent149 [.slice A o.attrs.length c, bT] (acheck_any _ _ o.attrs true _ (Kd.C_below hA (bt hb_2 hb_7)) hz.a (hT.below (bt hb_2 hb_7)) es (hE.i.a.below (bt hb_2 hb_7))) ?_
  rintro e w_30 ⟨rfl, hb_31⟩; refine ⟨_, rfl, ?_⟩
  refine xr0 1 [(4, errV es (chkA true o.attrs))] [40, 41] ?_
  refine nl (sg (xr0 1 [(42, errV es (chkA true o.attrs))] [] ?_))
  by_cases c_32 : (chkA true o.attrs) = 0
  ·rw [show errV es (chkA true o.attrs) = .nilIface from by rw [c_32]; rfl]
   refine xr0 1 [(4, .nilIface), (43, bF)] [42] ?_
   refine nl (cf (sk (sq (X_grow [] 10 (tf 0 10) (by kernel_rfl) (by kernel_rfl) (by kernel_rfl) (fun wd_33 hb_34 hh_35 => ?_)))))
   refine XB_run (fuel' := 6) (Below.refl _ _) [0, 1, 4, 5] [(46, .load (aL A o.attrs c)), (50, .load (i6 o.count))] [pw w.heap.size 6, .slice A o.attrs.length c, pw w.heap.size 5, i6 o.count] #[true, true, false, false, true, true, false, false, false, false] [(46, aL A o.attrs c), (50, i6 o.count)] (fun w_ => [la 49 (⟨w.heap.size, 6, none⟩) (aL A o.attrs c) w_, la 3 (⟨w.heap.size, 5, none⟩) (i6 o.count) w_]) (fun w_ hC_ => ⟨loads1 rfl (Blk.cell (Blk.below hk_3 (bt (bt (bt hb_7 hb_31) hb_34) hC_)) 6 _ rfl), loads1 rfl (Blk.cell (Blk.below hk_3 (bt (bt (bt hb_7 hb_31) hb_34) hC_)) 5 _ rfl), trivial⟩) ?_
   refine XB_mid (fuel' := 5) 2 #[true, true, true, false, true, true, false, false, false, false] _ rfl (by kernel_rfl) (by kernel_rfl) rfl ?_
   refine xc 110 ent110 [aL A o.attrs c] (clone_any _ _ o.attrs _ (Kd.C_below hA (bt (bt (bt hb_2 hb_7) hb_31) hb_34)) (by omega)) ?_
   rintro e w_38 ⟨A_36, c_37, rfl, hl_40, hr_41, hb_39⟩; refine ⟨_, rfl, ?_⟩
   refine nl ?_
   refine ⟨hb_39, ?_⟩
   refine XB_run (fuel' := 0) hb_39 [3, 6, 7, 8, 9] [] [.agg #[aL A_36 o.attrs c_37], .agg #[.slice A_36 o.attrs.length c_37, i6 o.count], .iface 128 (.agg #[.slice A_36 o.attrs.length c_37, i6 o.count]), .iface 128 (.agg #[.slice A_36 o.attrs.length c_37, i6 o.count]), .nilIface] (tf 10 0) [(2, .iface 128 (.agg #[.slice A_36 o.attrs.length c_37, i6 o.count])), (3, .nilIface)] (fun w_ => []) (fun w_ hC_ => trivial) ?_
   refine XB_done (by kernel_rfl) ?_
   refine X_ret (rj [.iface 128 (.agg #[.slice A_36 o.attrs.length c_37, i6 o.count]), .nilIface] hR_ ?_)
   have hB_42 : Below w.heap.size w w_38 := (bt (bt (bt (bt hb_2 hb_7) hb_31) hb_34) hb_39)
   have hp0 : pErr o = 0 := by rw [pErr_small c_8 c_9 c_15]; first | (rw [if_pos (by omega)]; done) | (rw [if_neg (by omega), if_pos (by omega)]; done) | (rw [if_neg (by omega), if_neg (by omega), if_pos (by omega)]; done) | (rw [if_neg (by omega), if_neg (by omega), if_neg (by omega)] <;> assumption)
   have hkk : o.kind = 3 := (by have h_ := pErr_k3 c_8; omega)
   rw [hp0, pOf_ret hkk]
   exact ⟨_, rfl, fun _ => kPiece_Mret ⟨_, rfl, Kd.R_low hr_41 ((bt (bt (bt hb_2 hb_7) hb_31) hb_34)).size⟩, fun h_ => absurd rfl h_, hB_42⟩
  rw [errV_pos es (chkA true o.attrs) (Nat.pos_of_ne_zero c_32)]
  refine xr0 1 [(4, .iface 301 (.pointer (some (errAt es (chkA true o.attrs))))), (43, bT)] [42] ?_
  refine nl (ct (sg (xe0 3 [(2, .nilIface), (3, .iface 301 (.pointer (some (errAt es (chkA true o.attrs)))))] ?_)))
  refine nl (X_ret (rj [.nilIface, .iface 301 (.pointer (some (errAt es (chkA true o.attrs))))] hR_ ?_))
  have hpe : pErr o = (chkA true o.attrs) := by rw [pErr_small c_8 c_9 c_15]; first | (rw [if_pos (by omega)]; done) | (rw [if_neg (by omega), if_pos (by omega)]; done) | (rw [if_neg (by omega), if_neg (by omega), if_pos (by omega)]; done) | (rw [if_neg (by omega), if_neg (by omega), if_neg (by omega)] <;> assumption)
  rw [hpe, errV_pos es _ (Nat.pos_of_ne_zero c_32)]
  exact ⟨_, rfl, fun h_ => absurd h_ c_32, fun _ => rfl, (bt (bt hb_2 hb_7) hb_31)⟩
 rw [show (hasP o : Bool) = false from by simpa using c_8]
 refine xr0 1 [(7, bT)] [5, 6] ?_
 refine nl (ct (sq (X_still (by kernel_rfl) (by kernel_rfl) (fun wd_43 hb_44 hh_45 => ?_))))
 refine xse 3 [(8, .load (ev es 9))] [(2, .nilIface), (3, ev es 9)] [la 35 (⟨0, 0, none⟩) (ev es 9) wd_43] ⟨loads1 rfl (((bt (bt hb_2 hb_7) hb_44).cell (World.block_lt_of_cell? _ _ (hE.load 9 0 (by decide) (by decide) rfl))).trans (hE.load 9 0 (by decide) (by decide) rfl)), trivial⟩ ?_
 refine XS_nil ?_
 refine X_ret (rj [.nilIface, ev es 9] hR_ ?_)
 have hp9 : pErr o = 9 := pErr_has (Bool.eq_false_iff.2 c_8)
 rw [hp9]
 exact ⟨_, rfl, fun h_ => absurd h_ (by decide), fun _ => rfl, (bt (bt hb_2 hb_7) hb_44)⟩
end Go.Proofs.YtgphmfnkeolbcaaGreatDoor
