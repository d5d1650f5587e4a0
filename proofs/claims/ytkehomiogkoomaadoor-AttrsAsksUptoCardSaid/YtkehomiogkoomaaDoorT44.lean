import Derived.Test.YtkehomiogkoomaaDoorT43
import Derived.Test.YtkehomiogkoomaaDoorO1
import Derived.Test.YtkehomiogkoomaaDoorPat
/- A key's value; going over a list's keys and values. Conditions: sizes, the tables of utf8, the errors' variables. -/
set_option linter.unusedVariables false
set_option linter.unusedSimpArgs false
set_option maxRecDepth 100000
namespace Go.Proofs.YtkehomiogkoomaaDoor
open Go Go.RowKit Go.Proofs.YtkehomiogkoomaaDoorW.PrintWords RX
theorem ent39 : Ent Tryd.prog 39 := ent_of Tryd.func39 (by kernel_rfl) rfl
theorem ent38 : Ent Tryd.prog 38 := ent_of Tryd.func38 (by kernel_rfl) rfl
theorem ent40 : Ent Tryd.prog 40 := ent_of Tryd.func40 (by kernel_rfl) rfl
theorem ent106 : Ent Tryd.prog 106 := ent_of Tryd.func106 (by kernel_rfl) rfl
theorem hvalue_any (k n : Int) (t : ByteArray) (w : World) : Calls Tryd.prog 39 #[.agg #[.int .i64 k, .int .i64 n, .string t]] w fun e w' => e = .returned (valV (k, n, t)) ∧ Below w.heap.size w w' := by
 refine RX.enter Tryd.func39 rfl 23 rfl [(0, .agg #[.int .i64 k, .int .i64 n, .string t])] rfl (by kernel_rfl) (fun R_ hR_ => ?_)
 refine sq (rg (xwe 1 [] [(1, pw w.heap.size 0)] (w.alloc (.cells #[.int .i64 k, .int .i64 n, .string t] 44)) [] trivial ?_))
 obtain ⟨w_1, hw_5, hb_2, hk_3, hz_4⟩ := new_world w #[.int .i64 k, .int .i64 n, .string t] 44
 rw [hw_5]
 refine xr0 1 [] [] ?_
 refine nl (sq (sq (rg (xr 2 [(4, .load (.int .i64 k))] [(4, .int .i64 k)] [] [LoadsAs Tryd.prog 3 (⟨w.heap.size, 0, none⟩) (.int .i64 k) w_1] ⟨loads1 rfl (Blk.cell hk_3 0 _ rfl), trivial⟩ ?_))))
 refine nl (bk (sq (X_region ?_)))
 by_cases c_6 : k = 1
 ·refine xr 2 [(6, .eq (.bool true))] [(5, .bool true)] [] [Value.bool (k == 1) = Value.bool true] ⟨congrArg Value.bool (beq_iff_eq.2 (c_6)), trivial⟩ ?_
  refine nl (ct (sq (rg (xe 2 [(8, .load (.int .i64 n))] [(8, .int .i64 n)] [LoadsAs Tryd.prog 2 (⟨w.heap.size, 1, none⟩) (.int .i64 n) w_1] ⟨loads1 rfl (Blk.cell hk_3 1 _ rfl), trivial⟩ ?_))))
  by_cases c_7 : n = 1
  ·refine xe 3 [(9, .eq (.bool true))] [(2, .iface 171 (.bool true))] [Value.bool (n == 1) = Value.bool true] ⟨congrArg Value.bool (beq_iff_eq.2 (c_7)), trivial⟩ ?_
   refine nl (X_ret (rk [.iface 171 (.bool true)] (hR_ _ _ ?_)))
   rw [show valV (k, n, t) = .iface 171 (.bool true) from by unfold valV; simp_all]
   exact ⟨rfl, hb_2⟩
  refine xe 3 [(9, .eq (.bool false))] [(2, .iface 171 (.bool false))] [Value.bool (n == 1) = Value.bool false] ⟨congrArg Value.bool (beq_eq_false_iff_ne.2 (c_7)), trivial⟩ ?_
  refine nl (X_ret (rk [.iface 171 (.bool false)] (hR_ _ _ ?_)))
  rw [show valV (k, n, t) = .iface 171 (.bool false) from by unfold valV; simp_all]
  exact ⟨rfl, hb_2⟩
 refine xr 2 [(6, .eq (.bool false))] [(5, .bool false)] [] [Value.bool (k == 1) = Value.bool false] ⟨congrArg Value.bool (beq_eq_false_iff_ne.2 (c_6)), trivial⟩ ?_
 refine nl (cf (sq (X_region ?_)))
 by_cases c_8 : k = 2
 ·refine xr 2 [(12, .eq (.bool true))] [(11, .bool true)] [5] [Value.bool (k == 2) = Value.bool true] ⟨congrArg Value.bool (beq_iff_eq.2 (c_8)), trivial⟩ ?_
  refine nl (ct (sq (rg (xe 4 [(14, .load (.int .i64 n))] [(2, .iface 172 (.int .i64 n))] [LoadsAs Tryd.prog 2 (⟨w.heap.size, 1, none⟩) (.int .i64 n) w_1] ⟨loads1 rfl (Blk.cell hk_3 1 _ rfl), trivial⟩ ?_))))
  refine nl (X_ret (rk [.iface 172 (.int .i64 n)] (hR_ _ _ ?_)))
  rw [show valV (k, n, t) = .iface 172 (.int .i64 n) from by unfold valV; simp_all]
  exact ⟨rfl, hb_2⟩
 refine xr 2 [(12, .eq (.bool false))] [(11, .bool false)] [5] [Value.bool (k == 2) = Value.bool false] ⟨congrArg Value.bool (beq_eq_false_iff_ne.2 (c_8)), trivial⟩ ?_
 refine nl (cf (sq (X_region ?_)))
 by_cases c_9 : k = 3
 ·refine xr 2 [(17, .eq (.bool true))] [(16, .bool true)] [4, 11] [Value.bool (k == 3) = Value.bool true] ⟨congrArg Value.bool (beq_iff_eq.2 (c_9)), trivial⟩ ?_
  refine nl (ct (sq (rg (xe 4 [(19, .load (.string t))] [(2, .iface 173 (.string t))] [LoadsAs Tryd.prog 9 (⟨w.heap.size, 2, none⟩) (.string t) w_1] ⟨loads1 rfl (Blk.cell hk_3 2 _ rfl), trivial⟩ ?_))))
  refine nl (X_ret (rk [.iface 173 (.string t)] (hR_ _ _ ?_)))
  rw [show valV (k, n, t) = .iface 173 (.string t) from by unfold valV; simp_all]
  exact ⟨rfl, hb_2⟩
 refine xr 2 [(17, .eq (.bool false))] [(16, .bool false)] [4, 11] [Value.bool (k == 3) = Value.bool false] ⟨congrArg Value.bool (beq_eq_false_iff_ne.2 (c_9)), trivial⟩ ?_
 refine nl (cf (sk (sq (rg (xe0 3 [(2, .iface 175 (.agg #[]))] ?_)))))
 refine nl (X_ret (rk [.iface 175 (.agg #[])] (hR_ _ _ ?_)))
 rw [show valV (k, n, t) = .iface 175 (.agg #[]) from by unfold valV; simp_all]
 exact ⟨rfl, hb_2⟩
theorem pairErr_plain {x : At} (h : pairErr x = 0) : plainErr x.2.1 x.2.2.1 x.2.2.2 = 0 := by
 unfold pairErr at h
 split at h
 ·cases h
 split at h
 ·cases h
 exact h
/-- a key's value, if a list is good and has it -/
noncomputable def getV (xs : List At) (k : ByteArray) : Value := if chkA true xs = 0 ∧ (get xs k).isSome = true then valV (gv xs k) else .nilIface
theorem get_none_of {xs : List At} {k : ByteArray} {i : Nat} (hP : Plc xs k i) (hn : ¬ (i < xs.length ∧ (xs.getD i at0).1 = k)) (hR : Ris xs) : get xs k = none := by
 refine get_end fun j hj e => ?_
 rcases Nat.lt_or_ge j i with h | h
 ·have := hP.lo j h
  rw [e, kl_irrefl] at this; cases this
 rcases Nat.eq_or_lt_of_le h with h2 | h2
 ·subst h2; exact hn ⟨hj, e⟩
 have h3 := hP.hi i (Nat.le_refl _) (by omega)
 have h4 := List.pairwise_iff_getElem.1 hR i j (by omega) hj h2
 rw [getD_at xs j hj] at e
 rw [getD_at xs i (by omega)] at h3
 have h5 : kl (xs[i]).1 (xs[j]).1 = true := h4
 rw [e, h3] at h5
 cases h5
theorem aget_any (A : Option Addr) (c : Nat) (xs : List At) (k : ByteArray) (w : World) (hx : kAttr.C w A xs.length xs) (hl : xs.length ≤ 1000000) (hsz : ∀ i, i < xs.length → (xs.getD i at0).1.size ≤ 9223372036854775807 ∧ (xs.getD i at0).2.2.2.size ≤ 9223372036854775807) (hT : Tabs w) (es : List Addr) (hE : ErrsA w es) :
  Calls Tryd.prog 38 #[.slice A xs.length c, .string k] w fun e w' => e = .returned (.tuple #[getV xs k, .bool (decide (chkA true xs = 0 ∧ (get xs k).isSome = true))]) ∧ Below w.heap.size w w' := by
 refine RX.enter Tryd.func38 rfl 33 rfl [(0, .slice A xs.length c), (1, .string k)] rfl (by kernel_rfl) (fun R_ hR_ => ?_)
 refine sq (rg (xe0 2 [(0, .slice A xs.length c), (1, .string k)] ?_))
 refine nl (sq (sq (rg (xr0 1 [(10, .slice A xs.length c)] [] ?_))))
 refine xc 32 ent32 [.slice A xs.length c, .bool true] (acheck_any _ _ xs true _ hx hsz (hT.below (Below.refl _ _)) es (hE.below (Below.refl _ _))) ?_
 rintro e w_1 ⟨rfl, hb_2⟩; refine ⟨_, rfl, ?_⟩
 by_cases c_3 : (chkA true xs) = 0
 ·rw [show errV es (chkA true xs) = .nilIface from by rw [c_3]; rfl]
  refine xr0 1 [(12, .bool false)] [10, 11] ?_
  refine nl (cf (sk (sq (rg (xr0 2 [(14, .slice A xs.length c), (15, .string k)] [1, 12] ?_)))))
  have hg := (chkA_good true xs).1 c_3
  refine xc 101 ent101 [.slice A xs.length c, .string k] (place_any _ _ xs k _ (Kd.C_below hx hb_2) (by omega) hg.2) ?_
  rintro e w_4 ⟨q, hP, rfl, hb_5⟩; refine ⟨_, rfl, ?_⟩
  have hqle := hP.le
  refine xr0 5 [(6, nv q), (7, .bool (decide (q < xs.length ∧ (xs.getD q at0).1 = k)))] [14, 15, 16] ?_
  refine nl (sq (sq (rg (xr0 1 [(19, .bool (decide (q < xs.length ∧ (xs.getD q at0).1 = k)))] [7] ?_))))
  by_cases c_6 : decide (q < xs.length ∧ (xs.getD q at0).1 = k) = true
  ·rw [show (decide (q < xs.length ∧ (xs.getD q at0).1 = k) : Bool) = true from by simpa using c_6]
   refine xe0 1 [(0, .slice A xs.length c), (6, nv q), (20, .bool false)] ?_
   refine nl (cf (sk (sq (X_region ?_))))
   obtain ⟨hq1, hq2⟩ := of_decide_eq_true c_6
   refine xe0 2 [(22, .slice A xs.length c), (23, nv q)] ?_
   obtain ⟨ad_7, ha_8, hc_9⟩ := Kd.atAttr (Kd.C_below hx (bt hb_2 hb_5)) (i := (q : Int)) (by omega) (by omega)
   replace hc_9 : CellsAt w_4 (ad_7.add ((q : Int).toNat * 4)) [.string ((xs.getD q at0).1), .int .i64 ((xs.getD q at0).2.1), .int .i64 ((xs.getD q at0).2.2.1), .string ((xs.getD q at0).2.2.2)] := hc_9
   refine xe 3 [(24, .idx ad_7), (26, .load (.agg #[.int .i64 ((xs.getD q at0).2.1), .int .i64 ((xs.getD q at0).2.2.1), .string ((xs.getD q at0).2.2.2)]))] [(26, .agg #[.int .i64 ((xs.getD q at0).2.1), .int .i64 ((xs.getD q at0).2.2.1), .string ((xs.getD q at0).2.2.2)])] [A = some ad_7, (0 : Int) ≤ (q : Int), (q : Int) < (xs.length : Int), LoadsAs Tryd.prog 44 ((ad_7.add ((q : Int).toNat * 4)).add 1) (.agg #[.int .i64 ((xs.getD q at0).2.1), .int .i64 ((xs.getD q at0).2.2.1), .string ((xs.getD q at0).2.2.2)]) w_4] ⟨ha_8, (by omega), (by omega), loadsE rfl rfl hc_9 1 ⟨by kernel_rfl, by kernel_rfl⟩, trivial⟩ ?_
   have hp0 : plainErr (xs.getD q at0).2.1 (xs.getD q at0).2.2.1 (xs.getD q at0).2.2.2 = 0 := pairErr_plain (hg.1 _ (by rw [getD_at xs q hq1]; exact List.getElem_mem hq1)).1
   refine xc 104 ent104 [.agg #[.int .i64 ((xs.getD q at0).2.1), .int .i64 ((xs.getD q at0).2.2.1), .string ((xs.getD q at0).2.2.2)]] (vof_any (xs.getD q at0).2.1 (xs.getD q at0).2.2.1 (xs.getD q at0).2.2.2 _ (hsz q hq1).2 (hT.below (bt hb_2 hb_5)) es (hE.below (bt hb_2 hb_5))) ?_
   rintro e w_10 ⟨rfl, hb_11⟩; refine ⟨_, rfl, ?_⟩
   rw [if_pos hp0, hp0]
   refine xe0 5 [(8, valV ((xs.getD q at0).2.1, (xs.getD q at0).2.2.1, (xs.getD q at0).2.2.2)), (9, .nilIface)] ?_
   refine nl (sq (X_still (by kernel_rfl) (by kernel_rfl) (fun wd_12 hb_13 hh_14 => ?_)))
   refine xse 5 [] [(4, valV ((xs.getD q at0).2.1, (xs.getD q at0).2.2.1, (xs.getD q at0).2.2.2)), (5, .bool true)] [] trivial ?_
   refine XS_nil ?_
   refine X_ret (rk [valV ((xs.getD q at0).2.1, (xs.getD q at0).2.2.1, (xs.getD q at0).2.2.2), .bool true] (hR_ _ _ ?_))
   have hgt := get_at hq1 (fun j hj e => by have h_ := hP.lo j hj; rw [e, kl_irrefl] at h_; cases h_) hq2
   rw [show getV xs k = valV (xs.getD q at0).2 from by unfold getV; rw [if_pos ⟨c_3, by rw [hgt]; rfl⟩]; unfold gv; rw [hgt]; rfl, show decide (chkA true xs = 0 ∧ (get xs k).isSome = true) = true from decide_eq_true ⟨c_3, by rw [hgt]; rfl⟩]
   exact ⟨rfl, (bt (bt (bt hb_2 hb_5) hb_11) hb_13)⟩
  rw [show (decide (q < xs.length ∧ (xs.getD q at0).1 = k) : Bool) = false from by simpa using c_6]
  refine xe0 1 [(0, .slice A xs.length c), (6, nv q), (20, .bool true)] ?_
  refine nl (ct (sq (rg (xe0 2 [(4, .nilIface), (5, .bool false)] ?_))))
  refine nl (X_ret (rk [.nilIface, .bool false] (hR_ _ _ ?_)))
  have hgt := get_none_of hP (fun h_ => c_6 (decide_eq_true h_)) hg.2
  rw [show getV xs k = .nilIface from if_neg fun h_ => by rw [hgt] at h_; exact absurd h_.2 (by decide), show decide (chkA true xs = 0 ∧ (get xs k).isSome = true) = false from decide_eq_false fun h_ => by rw [hgt] at h_; exact absurd h_.2 (by decide)]
  exact ⟨rfl, (bt hb_2 hb_5)⟩
 rw [errV_pos es (chkA true xs) (Nat.pos_of_ne_zero c_3)]
 refine xr0 1 [(12, .bool true)] [10, 11] ?_
 refine nl (ct (sq (rg (xe0 2 [(4, .nilIface), (5, .bool false)] ?_))))
 refine nl (X_ret (rk [.nilIface, .bool false] (hR_ _ _ ?_)))
 rw [show getV xs k = .nilIface from if_neg fun h_ => c_3 h_.1, show decide (chkA true xs = 0 ∧ (get xs k).isSome = true) = false from decide_eq_false fun h_ => c_3 h_.1]
 exact ⟨rfl, hb_2⟩
/-- what Each goes over -/
noncomputable def eachA (xs : List At) : List At := if chkA true xs = 0 then xs else []
theorem aeach_any (A : Option Addr) (c : Nat) (xs : List At) (w : World) (hx : kAttr.C w A xs.length xs) (hl : xs.length ≤ 1000000) (hsz : ∀ i, i < xs.length → (xs.getD i at0).1.size ≤ 9223372036854775807 ∧ (xs.getD i at0).2.2.2.size ≤ 9223372036854775807) (hT : Tabs w) (es : List Addr) (hE : ErrsA w es) :
  Calls Tryd.prog 40 #[.slice A xs.length c] w fun e w' => ∃ g A' c', e = .returned (.func (.func 106) #[] #[.pointer (some ⟨g, 0, none⟩)]) ∧ w.heap.size ≤ g ∧ RX.Blk w' g 45 #[.slice A' (eachA xs).length c'] ∧ kAttr.R 71 w' w.heap.size (OkFrom w.heap.size) (.slice A' (eachA xs).length c') (eachA xs) ∧ Below w.heap.size w w' := by
 refine RX.enter Tryd.func40 rfl 10 rfl [(0, .slice A xs.length c)] rfl (by kernel_rfl) (fun R_ hR_ => ?_)
 refine sq (rg (xe0 1 [(0, .slice A xs.length c)] ?_))
 refine nl (sq (rg (xw 1 [] [(3, pw w.heap.size 0)] [] (w.alloc (.cells #[.slice none 0 0] 45)) [] trivial ?_)))
 obtain ⟨w_1, hw_5, hb_2, hk_3, hz_4⟩ := new_world w #[.slice none 0 0] 45
 rw [hw_5]
 refine nl (sq (sq (rg (xr0 1 [(4, .slice A xs.length c)] [] ?_))))
 refine xc 32 ent32 [.slice A xs.length c, .bool true] (acheck_any _ _ xs true _ (Kd.C_below hx hb_2) hsz (hT.below hb_2) es (hE.below hb_2)) ?_
 rintro e w_6 ⟨rfl, hb_7⟩; refine ⟨_, rfl, ?_⟩
 by_cases c_8 : (chkA true xs) = 0
 ·rw [show errV es (chkA true xs) = .nilIface from by rw [c_8]; rfl]
  refine xr0 1 [(6, .bool true)] [4, 5] ?_
  refine nl (ct (rg (xr0 1 [(7, .slice A xs.length c)] [0, 6] ?_)))
  refine xc 105 ent105 [.slice A xs.length c] (clone_any _ _ xs _ (Kd.C_below hx (bt hb_2 hb_7)) (by omega)) ?_
  rintro e w_11 ⟨A_9, c_10, rfl, hl_13, hr_14, hb_12⟩; refine ⟨_, rfl, ?_⟩
  refine xst (.slice A_9 xs.length c_10) (Blk.below hk_3 (bt hb_7 hb_12)) 0 #[.slice A_9 xs.length c_10] (fun w_15 hg_16 hk_17 hz_18 => ?_)
  have hr_19 := Kd.R_off hr_14 (Blk.below hk_3 (bt hb_7 hb_12)) (by decide) hg_16
  refine nl (sq (rg (xe0 2 [(2, .func (.func 106) #[] #[pw w.heap.size 0])] ?_)))
  refine nl (X_ret (rk [.func (.func 106) #[] #[.pointer (some ⟨w.heap.size, 0, none⟩)]] (hR_ _ _ ?_)))
  have hB_20 : Below w.heap.size w w_15 := (bg (bt (bt hb_2 hb_7) hb_12) hg_16 (Nat.le_refl _))
  rw [show eachA xs = xs from if_pos c_8]
  exact ⟨_, _, _, rfl, (Nat.le_refl _), hk_17, (RX.Kd.R_low hr_19 ((bt hb_2 hb_7)).size), hB_20⟩
 rw [errV_pos es (chkA true xs) (Nat.pos_of_ne_zero c_8)]
 refine xr0 1 [(6, .bool false)] [4, 5] ?_
 refine nl (cf (sk (sq (rg (xe0 2 [(2, .func (.func 106) #[] #[pw w.heap.size 0])] ?_)))))
 refine nl (X_ret (rk [.func (.func 106) #[] #[.pointer (some ⟨w.heap.size, 0, none⟩)]] (hR_ _ _ ?_)))
 rw [show eachA xs = [] from if_neg c_8]
 exact ⟨_, none, 0, rfl, (Nat.le_refl _), (Blk.below hk_3 hb_7), Kd.R_nil _ _ _ _ _, (bt hb_2 hb_7)⟩
end Go.Proofs.YtkehomiogkoomaaDoor
