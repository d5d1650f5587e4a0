/- What values.Check, attrs.Check answer. Conditions: the tables of utf8, Errs. -/
import Derived.Test.YtgphmfnkeolbcaaDoorA1
import Derived.Test.YtgphmfnkeolbcaaDoorAn
import Derived.Test.YtgphmfnkeolbcaaDoorAt
set_option linter.unusedVariables false
set_option linter.unusedSimpArgs false
set_option maxRecDepth 100000
namespace Go.Proofs.YtgphmfnkeolbcaaDoor
open Go Go.RowKit Go.Proofs.YtgphmfnkeolbcaaDoorW.PrintWords RX
theorem ent75 : Ent Tryd.prog 75 := ent_of Tryd.func75 (by kernel_rfl) rfl
theorem ent51 : Ent Tryd.prog 51 := ent_of Tryd.func51 (by kernel_rfl) rfl
theorem ent74 : Ent Tryd.prog 74 := ent_of Tryd.func74 (by kernel_rfl) rfl
theorem ent54 : Ent Tryd.prog 54 := ent_of Tryd.func54 (by kernel_rfl) rfl
theorem info93 : (Tryd.prog.info? 93).map (fun i => (i.zero, i.size, i.bytes)) = some (some (.agg #[.string ByteArray.empty, .int .i64 0, .int .i64 0, .string ByteArray.empty]), 4, 48) := by kernel_rfl
def plainOk (k n : Int) (t : ByteArray) : Bool := decide ((k = 0 ∧ n = 0 ∧ t = ⟨#[]⟩) ∨ (k = 1 ∧ (n = 0 ∨ n = 1) ∧ t = ⟨#[]⟩) ∨ (k = 2 ∧ t = ⟨#[]⟩) ∨ (k = 3 ∧ n = 0))
def plainErr (k n : Int) (t : ByteArray) : Nat := if plainOk k n t = false then 5 else if (uchk t).2 = false then 1 else if 1048576 < t.size then 10 else 0
def pairErr (x : At) : Nat := if x.1 = ⟨#[]⟩ ∨ 64 < x.1.size then 6 else if (uchk x.1).2 = false then 1 else plainErr x.2.1 x.2.2.1 x.2.2.2
theorem null_any (x : At) (w : World) : Calls Tryd.prog 75 #[.agg #[.string x.1, .int .i64 x.2.1, .int .i64 x.2.2.1, .string x.2.2.2]] w fun e w' => e = .returned (.bool (decide (x.2.1 = 0))) ∧ Below w.heap.size w w' := by
 refine RX.enter Tryd.func75 rfl 7 rfl [(0, .agg #[.string x.1, .int .i64 x.2.1, .int .i64 x.2.2.1, .string x.2.2.2])] rfl (by kernel_rfl) (fun R_ hR_ => ?_)
 refine sq (rg (xwe 1 [] [(1, pw w.heap.size 0)] (w.alloc (.cells #[.string x.1, .int .i64 x.2.1, .int .i64 x.2.2.1, .string x.2.2.2] 93)) [] trivial ?_))
 obtain ⟨w_1, hw_5, hb_2, hk_3, hz_4⟩ := new_world w #[.string x.1, .int .i64 x.2.1, .int .i64 x.2.2.1, .string x.2.2.2] 93
 rw [hw_5]
 refine xr0 1 [] [] ?_
 refine nl (sq (rg (xe 3 [(5, .load (.int .i64 x.2.1))] [(5, .int .i64 x.2.1)] [LoadsAs Tryd.prog 3 (⟨w.heap.size, 1, none⟩) (.int .i64 x.2.1) w_1] ⟨loads1 rfl (Blk.cell hk_3 1 _ rfl), trivial⟩ ?_)))
 by_cases c_6 : x.2.1 = 0
 ·refine xe 2 [(6, .eq (.bool true))] [(2, .bool true)] [Value.bool (x.2.1 == 0) = Value.bool true] ⟨congrArg Value.bool (beq_iff_eq.2 (c_6)), trivial⟩ ?_
  refine nl (X_ret (rk [.bool true] (hR_ _ _ ?_)))
  rw [show (decide (x.2.1 = 0)) = true from decide_eq_true c_6]
  exact ⟨rfl, hb_2⟩
 refine xe 2 [(6, .eq (.bool false))] [(2, .bool false)] [Value.bool (x.2.1 == 0) = Value.bool false] ⟨congrArg Value.bool (beq_eq_false_iff_ne.2 (c_6)), trivial⟩ ?_
 refine nl (X_ret (rk [.bool false] (hR_ _ _ ?_)))
 rw [show (decide (x.2.1 = 0)) = false from decide_eq_false c_6]
 exact ⟨rfl, hb_2⟩
theorem vcheck_any (k n : Int) (t : ByteArray) (w : World) (hs : t.size ≤ 9223372036854775807) (hT : Tabs w) (es : List Addr) (hE : ErrsA w es) : Calls Tryd.prog 51 #[.agg #[.int .i64 k, .int .i64 n, .string t]] w fun e w' => e = .returned (errV es (plainErr k n t)) ∧ Below w.heap.size w w' := by
 refine RX.enter Tryd.func51 rfl 63 rfl [(0, .agg #[.int .i64 k, .int .i64 n, .string t])] rfl (by kernel_rfl) (fun R_ hR_ => ?_)
 refine sq (rg (xwe 1 [] [(1, pw w.heap.size 0)] (w.alloc (.cells #[.int .i64 k, .int .i64 n, .string t] 41)) [] trivial ?_))
 obtain ⟨w_1, hw_5, hb_2, hk_3, hz_4⟩ := new_world w #[.int .i64 k, .int .i64 n, .string t] 41
 rw [hw_5]
 refine xr0 1 [] [] ?_
 refine nl (sq (X_still (by kernel_rfl) (by kernel_rfl) (fun wd_6 hb_7 hh_8 => ?_)))
 refine xse 2 [(9, .load (.int .i64 n))] [(1, .pointer (some ⟨w.heap.size, 0, none⟩)), (9, .int .i64 n)] [LoadsAs Tryd.prog 2 (⟨w.heap.size, 1, none⟩) (.int .i64 n) wd_6] ⟨loads1 rfl (Blk.cell (Blk.below hk_3 hb_7) 1 _ rfl), trivial⟩ ?_
 by_cases c_9 : n = 0
 ·refine xse 3 [(10, .eq (.bool false)), (12, .load (.string t))] [(1, .pointer (some ⟨w.heap.size, 0, none⟩)), (10, .bool false), (12, .string t)] [Value.bool (n != 0) = Value.bool false, LoadsAs Tryd.prog 9 (⟨w.heap.size, 2, none⟩) (.string t) wd_6] ⟨congrArg Value.bool (bneF (c_9)), loads1 rfl (Blk.cell (Blk.below hk_3 hb_7) 2 _ rfl), trivial⟩ ?_
  by_cases c_10 : t = (⟨#[]⟩ : ByteArray)
  ·refine xse 3 [(13, .eq (.bool false))] [(1, .pointer (some ⟨w.heap.size, 0, none⟩)), (3, .bool false), (4, .bool false)] [Value.bool (!t.toList == (⟨#[]⟩ : ByteArray).toList) = Value.bool false] ⟨congrArg Value.bool (strNeF (c_10)), trivial⟩ ?_
   refine XS_nil ?_
   refine sq (rg (xr0 1 [(5, .bool false)] [] ?_))
   refine nl (X_join (ι := Bool) (fun ok => [(1, .pointer (some ⟨w.heap.size, 0, none⟩)), (5, .bool ok)]) (fun ok wj => ok = plainOk k n t ∧ Below wd_6.heap.size wd_6 wj) ?_ ?_)
   ·refine sq (rg (xr 2 [(15, .load (.int .i64 k))] [(15, .int .i64 k)] [] [LoadsAs Tryd.prog 3 (⟨w.heap.size, 0, none⟩) (.int .i64 k) wd_6] ⟨loads1 rfl (Blk.cell (Blk.below hk_3 hb_7) 0 _ rfl), trivial⟩ ?_))
    refine nl (bk (sq (X_region ?_)))
    by_cases c_11 : k = 0
    ·refine xr 2 [(17, .eq (.bool true))] [(16, .bool true)] [] [Value.bool (k == 0) = Value.bool true] ⟨congrArg Value.bool (beq_iff_eq.2 (c_11)), trivial⟩ ?_
     refine nl (ct (rg (xr0 7 [(5, .bool true)] [3, 4, 15, 16] ?_)))
     refine nl ?_
     exact ⟨true, by kernel_rfl, ⟨(decide_eq_true (by simp_all)).symm, (Below.refl _ _)⟩⟩
    refine xr 2 [(17, .eq (.bool false))] [(16, .bool false)] [] [Value.bool (k == 0) = Value.bool false] ⟨congrArg Value.bool (beq_eq_false_iff_ne.2 (c_11)), trivial⟩ ?_
    refine nl (cf (sq (X_region ?_)))
    by_cases c_12 : k = 1
    ·refine xr 2 [(25, .eq (.bool true))] [(24, .bool true)] [16] [Value.bool (k == 1) = Value.bool true] ⟨congrArg Value.bool (beq_iff_eq.2 (c_12)), trivial⟩ ?_
     refine nl (ct (rg (xr 13 [(27, .load (.int .i64 n)), (28, .eq (.bool true))] [(5, .bool true)] [3, 4, 15, 24] [LoadsAs Tryd.prog 2 (⟨w.heap.size, 1, none⟩) (.int .i64 n) wd_6, Value.bool (n == 0) = Value.bool true] ⟨loads1 rfl (Blk.cell (Blk.below hk_3 hb_7) 1 _ rfl), congrArg Value.bool (beq_iff_eq.2 (c_9)), trivial⟩ ?_)))
     refine nl ?_
     exact ⟨true, by kernel_rfl, ⟨(decide_eq_true (by simp_all)).symm, (Below.refl _ _)⟩⟩
    refine xr 2 [(25, .eq (.bool false))] [(24, .bool false)] [16] [Value.bool (k == 1) = Value.bool false] ⟨congrArg Value.bool (beq_eq_false_iff_ne.2 (c_12)), trivial⟩ ?_
    refine nl (cf (sq (X_region ?_)))
    by_cases c_13 : k = 2
    ·refine xr 2 [(39, .eq (.bool true))] [(38, .bool true)] [24] [Value.bool (k == 2) = Value.bool true] ⟨congrArg Value.bool (beq_iff_eq.2 (c_13)), trivial⟩ ?_
     refine nl (ct (rg (xe0 3 [(1, pw w.heap.size 0), (5, .bool true)] ?_)))
     refine nl ?_
     exact ⟨true, by kernel_rfl, ⟨(decide_eq_true (by simp_all)).symm, (Below.refl _ _)⟩⟩
    refine xr 2 [(39, .eq (.bool false))] [(38, .bool false)] [24] [Value.bool (k == 2) = Value.bool false] ⟨congrArg Value.bool (beq_eq_false_iff_ne.2 (c_13)), trivial⟩ ?_
    refine nl (cf (sq (X_region ?_)))
    by_cases c_14 : k = 3
    ·refine xe 2 [(43, .eq (.bool true))] [(1, pw w.heap.size 0), (3, .bool false), (5, .bool false), (42, .bool true)] [Value.bool (k == 3) = Value.bool true] ⟨congrArg Value.bool (beq_iff_eq.2 (c_14)), trivial⟩ ?_
     refine nl (ct (rg (xr0 3 [(5, .bool true)] [3, 42] ?_)))
     refine nl ?_
     exact ⟨true, by kernel_rfl, ⟨(decide_eq_true (by simp_all)).symm, (Below.refl _ _)⟩⟩
    refine xe 2 [(43, .eq (.bool false))] [(1, pw w.heap.size 0), (3, .bool false), (5, .bool false), (42, .bool false)] [Value.bool (k == 3) = Value.bool false] ⟨congrArg Value.bool (beq_eq_false_iff_ne.2 (c_14)), trivial⟩ ?_
    refine nl (cf (X_skip ?_))
    exact ⟨false, by kernel_rfl, ⟨(decide_eq_false (by simp_all)).symm, (Below.refl _ _)⟩⟩
   rintro ok wj ⟨hok, HBj⟩
   refine sq (sq (rg (xr0 1 [(46, .bool ok)] [5] ?_)))
   by_cases c_15 : ok = true
   ·rw [show (ok : Bool) = true from by simpa using c_15]
    refine xr0 1 [(47, .bool false)] [46] ?_
    refine nl (cf (sk (sq (sq (rg (xr 2 [(51, .load (.string t))] [(51, .string t)] [47] [LoadsAs Tryd.prog 9 (⟨w.heap.size, 2, none⟩) (.string t) wj] ⟨loads1 rfl (Blk.cell (Blk.below hk_3 (bt hb_7 HBj)) 2 _ rfl), trivial⟩ ?_))))))
    refine xc 50 ent50 [.string t] (scheck_any t _ (by omega) (hT.below (bt (bt hb_2 hb_7) HBj)) es (hE.below (bt (bt hb_2 hb_7) HBj))) ?_
    rintro e w_16 ⟨rfl, hb_17⟩; refine ⟨_, rfl, ?_⟩
    refine xr0 5 [(7, errV es (if (uchk t).2 then 0 else 1))] [51, 52] ?_
    refine nl (sq (rg (xr0 1 [(55, errV es (if (uchk t).2 then 0 else 1))] [7] ?_)))
    by_cases c_18 : (if (uchk t).2 then 0 else 1) = 0
    ·rw [show errV es (if (uchk t).2 then 0 else 1) = .nilIface from by rw [c_18]; rfl]
     refine xe0 1 [(1, pw w.heap.size 0), (56, .bool false)] ?_
     refine nl (cf (sk (sq (sq (rg (xe 3 [(59, .load (.string t))] [(60, .int .i64 (t.size : Int))] [LoadsAs Tryd.prog 9 (⟨w.heap.size, 2, none⟩) (.string t) w_16] ⟨loads1 rfl (Blk.cell (Blk.below hk_3 (bt (bt hb_7 HBj) hb_17)) 2 _ rfl), trivial⟩ ?_))))))
     by_cases c_19 : (t.size : Int) > 1048576
     ·refine xe 1 [(61, .eq (.bool true))] [(61, .bool true)] [Value.bool (decide ((t.size : Int) > 1048576)) = Value.bool true] ⟨congrArg Value.bool (decide_eq_true (c_19)), trivial⟩ ?_
      refine nl (ct (sq (rg (xe 2 [(62, .load (.iface 164 (.pointer (some (errAt es 10)))))] [(2, .iface 164 (.pointer (some (errAt es 10))))] [LoadsAs Tryd.prog 30 (⟨10, 0, none⟩) (.iface 164 (.pointer (some (errAt es 10)))) w_16] ⟨loads1 rfl (((bt (bt (bt hb_2 hb_7) HBj) hb_17).cell (World.block_lt_of_cell? _ _ (hE.load 10 10 (by decide) (by decide) rfl))).trans (hE.load 10 10 (by decide) (by decide) rfl)), trivial⟩ ?_))))
      refine nl (X_ret (rk [.iface 164 (.pointer (some (errAt es 10)))] (hR_ _ _ ?_)))
      rw [show plainErr k n t = 10 from by unfold plainErr; simp_all <;> omega]
      exact ⟨rfl, (bt (bt (bt hb_2 hb_7) HBj) hb_17)⟩
     refine xe 1 [(61, .eq (.bool false))] [(61, .bool false)] [Value.bool (decide ((t.size : Int) > 1048576)) = Value.bool false] ⟨congrArg Value.bool (decide_eq_false (c_19)), trivial⟩ ?_
     refine nl (cf (sk (sq (rg (xe0 1 [(2, .nilIface)] ?_)))))
     refine nl (X_ret (rk [.nilIface] (hR_ _ _ ?_)))
     rw [show plainErr k n t = 0 from by unfold plainErr; simp_all <;> omega]
     exact ⟨rfl, (bt (bt (bt hb_2 hb_7) HBj) hb_17)⟩
    rw [errV_pos es (if (uchk t).2 then 0 else 1) (Nat.pos_of_ne_zero c_18)]
    refine xe0 1 [(1, pw w.heap.size 0), (56, .bool true)] ?_
    refine nl (ct (sq (rg (xe 2 [(57, .load (.iface 164 (.pointer (some (errAt es 1)))))] [(2, .iface 164 (.pointer (some (errAt es 1))))] [LoadsAs Tryd.prog 30 (⟨2, 0, none⟩) (.iface 164 (.pointer (some (errAt es 1)))) w_16] ⟨loads1 rfl (((bt (bt (bt hb_2 hb_7) HBj) hb_17).cell (World.block_lt_of_cell? _ _ (hE.load 1 2 (by decide) (by decide) rfl))).trans (hE.load 1 2 (by decide) (by decide) rfl)), trivial⟩ ?_))))
    refine nl (X_ret (rk [.iface 164 (.pointer (some (errAt es 1)))] (hR_ _ _ ?_)))
    rw [show plainErr k n t = 1 from by unfold plainErr; simp_all <;> omega]
    exact ⟨rfl, (bt (bt (bt hb_2 hb_7) HBj) hb_17)⟩
   rw [show (ok : Bool) = false from by simpa using c_15]
   refine xr0 1 [(47, .bool true)] [46] ?_
   refine nl (ct (sq (rg (xe 2 [(48, .load (.iface 164 (.pointer (some (errAt es 5)))))] [(2, .iface 164 (.pointer (some (errAt es 5))))] [LoadsAs Tryd.prog 30 (⟨6, 0, none⟩) (.iface 164 (.pointer (some (errAt es 5)))) wj] ⟨loads1 rfl (((bt (bt hb_2 hb_7) HBj).cell (World.block_lt_of_cell? _ _ (hE.load 5 6 (by decide) (by decide) rfl))).trans (hE.load 5 6 (by decide) (by decide) rfl)), trivial⟩ ?_))))
   refine nl (X_ret (rk [.iface 164 (.pointer (some (errAt es 5)))] (hR_ _ _ ?_)))
   rw [show plainErr k n t = 5 from by unfold plainErr; simp_all <;> omega]
   exact ⟨rfl, (bt (bt hb_2 hb_7) HBj)⟩
  refine xse 3 [(13, .eq (.bool true))] [(1, .pointer (some ⟨w.heap.size, 0, none⟩)), (3, .bool false), (4, .bool true)] [Value.bool (!t.toList == (⟨#[]⟩ : ByteArray).toList) = Value.bool true] ⟨congrArg Value.bool (strNeT (c_10)), trivial⟩ ?_
  refine XS_nil ?_
  refine sq (rg (xr0 1 [(5, .bool false)] [] ?_))
  refine nl (X_join (ι := Bool) (fun ok => [(1, .pointer (some ⟨w.heap.size, 0, none⟩)), (5, .bool ok)]) (fun ok wj => ok = plainOk k n t ∧ Below wd_6.heap.size wd_6 wj) ?_ ?_)
  ·refine sq (rg (xr 2 [(15, .load (.int .i64 k))] [(15, .int .i64 k)] [] [LoadsAs Tryd.prog 3 (⟨w.heap.size, 0, none⟩) (.int .i64 k) wd_6] ⟨loads1 rfl (Blk.cell (Blk.below hk_3 hb_7) 0 _ rfl), trivial⟩ ?_))
   refine nl (bk (sq (X_region ?_)))
   by_cases c_20 : k = 0
   ·refine xr 2 [(17, .eq (.bool true))] [(16, .bool true)] [] [Value.bool (k == 0) = Value.bool true] ⟨congrArg Value.bool (beq_iff_eq.2 (c_20)), trivial⟩ ?_
    refine nl (ct (rg (xr0 7 [] [3, 4, 15, 16] ?_)))
    refine nl ?_
    exact ⟨false, by kernel_rfl, ⟨(decide_eq_false (by simp_all)).symm, (Below.refl _ _)⟩⟩
   refine xr 2 [(17, .eq (.bool false))] [(16, .bool false)] [] [Value.bool (k == 0) = Value.bool false] ⟨congrArg Value.bool (beq_eq_false_iff_ne.2 (c_20)), trivial⟩ ?_
   refine nl (cf (sq (X_region ?_)))
   by_cases c_21 : k = 1
   ·refine xr 2 [(25, .eq (.bool true))] [(24, .bool true)] [16] [Value.bool (k == 1) = Value.bool true] ⟨congrArg Value.bool (beq_iff_eq.2 (c_21)), trivial⟩ ?_
    refine nl (ct (rg (xr 13 [(27, .load (.int .i64 n)), (28, .eq (.bool true))] [] [3, 4, 15, 24] [LoadsAs Tryd.prog 2 (⟨w.heap.size, 1, none⟩) (.int .i64 n) wd_6, Value.bool (n == 0) = Value.bool true] ⟨loads1 rfl (Blk.cell (Blk.below hk_3 hb_7) 1 _ rfl), congrArg Value.bool (beq_iff_eq.2 (c_9)), trivial⟩ ?_)))
    refine nl ?_
    exact ⟨false, by kernel_rfl, ⟨(decide_eq_false (by simp_all)).symm, (Below.refl _ _)⟩⟩
   refine xr 2 [(25, .eq (.bool false))] [(24, .bool false)] [16] [Value.bool (k == 1) = Value.bool false] ⟨congrArg Value.bool (beq_eq_false_iff_ne.2 (c_21)), trivial⟩ ?_
   refine nl (cf (sq (X_region ?_)))
   by_cases c_22 : k = 2
   ·refine xr 2 [(39, .eq (.bool true))] [(38, .bool true)] [24] [Value.bool (k == 2) = Value.bool true] ⟨congrArg Value.bool (beq_iff_eq.2 (c_22)), trivial⟩ ?_
    refine nl (ct (rg (xe0 3 [(1, pw w.heap.size 0), (5, .bool false)] ?_)))
    refine nl ?_
    exact ⟨false, by kernel_rfl, ⟨(decide_eq_false (by simp_all)).symm, (Below.refl _ _)⟩⟩
   refine xr 2 [(39, .eq (.bool false))] [(38, .bool false)] [24] [Value.bool (k == 2) = Value.bool false] ⟨congrArg Value.bool (beq_eq_false_iff_ne.2 (c_22)), trivial⟩ ?_
   refine nl (cf (sq (X_region ?_)))
   by_cases c_23 : k = 3
   ·refine xe 2 [(43, .eq (.bool true))] [(1, pw w.heap.size 0), (3, .bool false), (5, .bool false), (42, .bool true)] [Value.bool (k == 3) = Value.bool true] ⟨congrArg Value.bool (beq_iff_eq.2 (c_23)), trivial⟩ ?_
    refine nl (ct (rg (xr0 3 [(5, .bool true)] [3, 42] ?_)))
    refine nl ?_
    exact ⟨true, by kernel_rfl, ⟨(decide_eq_true (by simp_all)).symm, (Below.refl _ _)⟩⟩
   refine xe 2 [(43, .eq (.bool false))] [(1, pw w.heap.size 0), (3, .bool false), (5, .bool false), (42, .bool false)] [Value.bool (k == 3) = Value.bool false] ⟨congrArg Value.bool (beq_eq_false_iff_ne.2 (c_23)), trivial⟩ ?_
   refine nl (cf (X_skip ?_))
   exact ⟨false, by kernel_rfl, ⟨(decide_eq_false (by simp_all)).symm, (Below.refl _ _)⟩⟩
  rintro ok wj ⟨hok, HBj⟩
  refine sq (sq (rg (xr0 1 [(46, .bool ok)] [5] ?_)))
  by_cases c_24 : ok = true
  ·rw [show (ok : Bool) = true from by simpa using c_24]
   refine xr0 1 [(47, .bool false)] [46] ?_
   refine nl (cf (sk (sq (sq (rg (xr 2 [(51, .load (.string t))] [(51, .string t)] [47] [LoadsAs Tryd.prog 9 (⟨w.heap.size, 2, none⟩) (.string t) wj] ⟨loads1 rfl (Blk.cell (Blk.below hk_3 (bt hb_7 HBj)) 2 _ rfl), trivial⟩ ?_))))))
   refine xc 50 ent50 [.string t] (scheck_any t _ (by omega) (hT.below (bt (bt hb_2 hb_7) HBj)) es (hE.below (bt (bt hb_2 hb_7) HBj))) ?_
   rintro e w_25 ⟨rfl, hb_26⟩; refine ⟨_, rfl, ?_⟩
   refine xr0 5 [(7, errV es (if (uchk t).2 then 0 else 1))] [51, 52] ?_
   refine nl (sq (rg (xr0 1 [(55, errV es (if (uchk t).2 then 0 else 1))] [7] ?_)))
   by_cases c_27 : (if (uchk t).2 then 0 else 1) = 0
   ·rw [show errV es (if (uchk t).2 then 0 else 1) = .nilIface from by rw [c_27]; rfl]
    refine xe0 1 [(1, pw w.heap.size 0), (56, .bool false)] ?_
    refine nl (cf (sk (sq (sq (rg (xe 3 [(59, .load (.string t))] [(60, .int .i64 (t.size : Int))] [LoadsAs Tryd.prog 9 (⟨w.heap.size, 2, none⟩) (.string t) w_25] ⟨loads1 rfl (Blk.cell (Blk.below hk_3 (bt (bt hb_7 HBj) hb_26)) 2 _ rfl), trivial⟩ ?_))))))
    by_cases c_28 : (t.size : Int) > 1048576
    ·refine xe 1 [(61, .eq (.bool true))] [(61, .bool true)] [Value.bool (decide ((t.size : Int) > 1048576)) = Value.bool true] ⟨congrArg Value.bool (decide_eq_true (c_28)), trivial⟩ ?_
     refine nl (ct (sq (rg (xe 2 [(62, .load (.iface 164 (.pointer (some (errAt es 10)))))] [(2, .iface 164 (.pointer (some (errAt es 10))))] [LoadsAs Tryd.prog 30 (⟨10, 0, none⟩) (.iface 164 (.pointer (some (errAt es 10)))) w_25] ⟨loads1 rfl (((bt (bt (bt hb_2 hb_7) HBj) hb_26).cell (World.block_lt_of_cell? _ _ (hE.load 10 10 (by decide) (by decide) rfl))).trans (hE.load 10 10 (by decide) (by decide) rfl)), trivial⟩ ?_))))
     refine nl (X_ret (rk [.iface 164 (.pointer (some (errAt es 10)))] (hR_ _ _ ?_)))
     rw [show plainErr k n t = 10 from by unfold plainErr; simp_all <;> omega]
     exact ⟨rfl, (bt (bt (bt hb_2 hb_7) HBj) hb_26)⟩
    refine xe 1 [(61, .eq (.bool false))] [(61, .bool false)] [Value.bool (decide ((t.size : Int) > 1048576)) = Value.bool false] ⟨congrArg Value.bool (decide_eq_false (c_28)), trivial⟩ ?_
    refine nl (cf (sk (sq (rg (xe0 1 [(2, .nilIface)] ?_)))))
    refine nl (X_ret (rk [.nilIface] (hR_ _ _ ?_)))
    rw [show plainErr k n t = 0 from by unfold plainErr; simp_all <;> omega]
    exact ⟨rfl, (bt (bt (bt hb_2 hb_7) HBj) hb_26)⟩
   rw [errV_pos es (if (uchk t).2 then 0 else 1) (Nat.pos_of_ne_zero c_27)]
   refine xe0 1 [(1, pw w.heap.size 0), (56, .bool true)] ?_
   refine nl (ct (sq (rg (xe 2 [(57, .load (.iface 164 (.pointer (some (errAt es 1)))))] [(2, .iface 164 (.pointer (some (errAt es 1))))] [LoadsAs Tryd.prog 30 (⟨2, 0, none⟩) (.iface 164 (.pointer (some (errAt es 1)))) w_25] ⟨loads1 rfl (((bt (bt (bt hb_2 hb_7) HBj) hb_26).cell (World.block_lt_of_cell? _ _ (hE.load 1 2 (by decide) (by decide) rfl))).trans (hE.load 1 2 (by decide) (by decide) rfl)), trivial⟩ ?_))))
   refine nl (X_ret (rk [.iface 164 (.pointer (some (errAt es 1)))] (hR_ _ _ ?_)))
   rw [show plainErr k n t = 1 from by unfold plainErr; simp_all <;> omega]
   exact ⟨rfl, (bt (bt (bt hb_2 hb_7) HBj) hb_26)⟩
  rw [show (ok : Bool) = false from by simpa using c_24]
  refine xr0 1 [(47, .bool true)] [46] ?_
  refine nl (ct (sq (rg (xe 2 [(48, .load (.iface 164 (.pointer (some (errAt es 5)))))] [(2, .iface 164 (.pointer (some (errAt es 5))))] [LoadsAs Tryd.prog 30 (⟨6, 0, none⟩) (.iface 164 (.pointer (some (errAt es 5)))) wj] ⟨loads1 rfl (((bt (bt hb_2 hb_7) HBj).cell (World.block_lt_of_cell? _ _ (hE.load 5 6 (by decide) (by decide) rfl))).trans (hE.load 5 6 (by decide) (by decide) rfl)), trivial⟩ ?_))))
  refine nl (X_ret (rk [.iface 164 (.pointer (some (errAt es 5)))] (hR_ _ _ ?_)))
  rw [show plainErr k n t = 5 from by unfold plainErr; simp_all <;> omega]
  exact ⟨rfl, (bt (bt hb_2 hb_7) HBj)⟩
 refine xse 3 [(10, .eq (.bool true)), (12, .load (.string t))] [(1, .pointer (some ⟨w.heap.size, 0, none⟩)), (10, .bool true), (12, .string t)] [Value.bool (n != 0) = Value.bool true, LoadsAs Tryd.prog 9 (⟨w.heap.size, 2, none⟩) (.string t) wd_6] ⟨congrArg Value.bool (bneT (c_9)), loads1 rfl (Blk.cell (Blk.below hk_3 hb_7) 2 _ rfl), trivial⟩ ?_
 by_cases c_29 : t = (⟨#[]⟩ : ByteArray)
 ·refine xse 3 [(13, .eq (.bool false))] [(1, .pointer (some ⟨w.heap.size, 0, none⟩)), (3, .bool true), (4, .bool false)] [Value.bool (!t.toList == (⟨#[]⟩ : ByteArray).toList) = Value.bool false] ⟨congrArg Value.bool (strNeF (c_29)), trivial⟩ ?_
  refine XS_nil ?_
  refine sq (rg (xr0 1 [(5, .bool false)] [] ?_))
  refine nl (X_join (ι := Bool) (fun ok => [(1, .pointer (some ⟨w.heap.size, 0, none⟩)), (5, .bool ok)]) (fun ok wj => ok = plainOk k n t ∧ Below wd_6.heap.size wd_6 wj) ?_ ?_)
  ·refine sq (rg (xr 2 [(15, .load (.int .i64 k))] [(15, .int .i64 k)] [] [LoadsAs Tryd.prog 3 (⟨w.heap.size, 0, none⟩) (.int .i64 k) wd_6] ⟨loads1 rfl (Blk.cell (Blk.below hk_3 hb_7) 0 _ rfl), trivial⟩ ?_))
   refine nl (bk (sq (X_region ?_)))
   by_cases c_30 : k = 0
   ·refine xr 2 [(17, .eq (.bool true))] [(16, .bool true)] [] [Value.bool (k == 0) = Value.bool true] ⟨congrArg Value.bool (beq_iff_eq.2 (c_30)), trivial⟩ ?_
    refine nl (ct (rg (xr0 7 [] [3, 4, 15, 16] ?_)))
    refine nl ?_
    exact ⟨false, by kernel_rfl, ⟨(decide_eq_false (by simp_all)).symm, (Below.refl _ _)⟩⟩
   refine xr 2 [(17, .eq (.bool false))] [(16, .bool false)] [] [Value.bool (k == 0) = Value.bool false] ⟨congrArg Value.bool (beq_eq_false_iff_ne.2 (c_30)), trivial⟩ ?_
   refine nl (cf (sq (X_region ?_)))
   by_cases c_31 : k = 1
   ·refine xr 2 [(25, .eq (.bool true))] [(24, .bool true)] [16] [Value.bool (k == 1) = Value.bool true] ⟨congrArg Value.bool (beq_iff_eq.2 (c_31)), trivial⟩ ?_
    refine nl (ct (rg (xr 6 [(27, .load (.int .i64 n)), (28, .eq (.bool false)), (31, .load (.int .i64 n))] [(29, .bool false), (31, .int .i64 n)] [3, 5, 15, 24] [LoadsAs Tryd.prog 2 (⟨w.heap.size, 1, none⟩) (.int .i64 n) wd_6, Value.bool (n == 0) = Value.bool false, LoadsAs Tryd.prog 2 (⟨w.heap.size, 1, none⟩) (.int .i64 n) wd_6] ⟨loads1 rfl (Blk.cell (Blk.below hk_3 hb_7) 1 _ rfl), congrArg Value.bool (beq_eq_false_iff_ne.2 (c_9)), loads1 rfl (Blk.cell (Blk.below hk_3 hb_7) 1 _ rfl), trivial⟩ ?_)))
    by_cases c_32 : n = 1
    ·refine xe 7 [(32, .eq (.bool true))] [(1, pw w.heap.size 0), (5, .bool true)] [Value.bool (n == 1) = Value.bool true] ⟨congrArg Value.bool (beq_iff_eq.2 (c_32)), trivial⟩ ?_
     refine nl ?_
     exact ⟨true, by kernel_rfl, ⟨(decide_eq_true (by simp_all)).symm, (Below.refl _ _)⟩⟩
    refine xe 7 [(32, .eq (.bool false))] [(1, pw w.heap.size 0), (5, .bool false)] [Value.bool (n == 1) = Value.bool false] ⟨congrArg Value.bool (beq_eq_false_iff_ne.2 (c_32)), trivial⟩ ?_
    refine nl ?_
    exact ⟨false, by kernel_rfl, ⟨(decide_eq_false (by simp_all)).symm, (Below.refl _ _)⟩⟩
   refine xr 2 [(25, .eq (.bool false))] [(24, .bool false)] [16] [Value.bool (k == 1) = Value.bool false] ⟨congrArg Value.bool (beq_eq_false_iff_ne.2 (c_31)), trivial⟩ ?_
   refine nl (cf (sq (X_region ?_)))
   by_cases c_33 : k = 2
   ·refine xr 2 [(39, .eq (.bool true))] [(38, .bool true)] [24] [Value.bool (k == 2) = Value.bool true] ⟨congrArg Value.bool (beq_iff_eq.2 (c_33)), trivial⟩ ?_
    refine nl (ct (rg (xe0 3 [(1, pw w.heap.size 0), (5, .bool true)] ?_)))
    refine nl ?_
    exact ⟨true, by kernel_rfl, ⟨(decide_eq_true (by simp_all)).symm, (Below.refl _ _)⟩⟩
   refine xr 2 [(39, .eq (.bool false))] [(38, .bool false)] [24] [Value.bool (k == 2) = Value.bool false] ⟨congrArg Value.bool (beq_eq_false_iff_ne.2 (c_33)), trivial⟩ ?_
   refine nl (cf (sq (X_region ?_)))
   by_cases c_34 : k = 3
   ·refine xe 2 [(43, .eq (.bool true))] [(1, pw w.heap.size 0), (3, .bool true), (5, .bool false), (42, .bool true)] [Value.bool (k == 3) = Value.bool true] ⟨congrArg Value.bool (beq_iff_eq.2 (c_34)), trivial⟩ ?_
    refine nl (ct (rg (xr0 3 [] [3, 42] ?_)))
    refine nl ?_
    exact ⟨false, by kernel_rfl, ⟨(decide_eq_false (by simp_all)).symm, (Below.refl _ _)⟩⟩
   refine xe 2 [(43, .eq (.bool false))] [(1, pw w.heap.size 0), (3, .bool true), (5, .bool false), (42, .bool false)] [Value.bool (k == 3) = Value.bool false] ⟨congrArg Value.bool (beq_eq_false_iff_ne.2 (c_34)), trivial⟩ ?_
   refine nl (cf (X_skip ?_))
   exact ⟨false, by kernel_rfl, ⟨(decide_eq_false (by simp_all)).symm, (Below.refl _ _)⟩⟩
  rintro ok wj ⟨hok, HBj⟩
  refine sq (sq (rg (xr0 1 [(46, .bool ok)] [5] ?_)))
  by_cases c_35 : ok = true
  ·rw [show (ok : Bool) = true from by simpa using c_35]
   refine xr0 1 [(47, .bool false)] [46] ?_
   refine nl (cf (sk (sq (sq (rg (xr 2 [(51, .load (.string t))] [(51, .string t)] [47] [LoadsAs Tryd.prog 9 (⟨w.heap.size, 2, none⟩) (.string t) wj] ⟨loads1 rfl (Blk.cell (Blk.below hk_3 (bt hb_7 HBj)) 2 _ rfl), trivial⟩ ?_))))))
   refine xc 50 ent50 [.string t] (scheck_any t _ (by omega) (hT.below (bt (bt hb_2 hb_7) HBj)) es (hE.below (bt (bt hb_2 hb_7) HBj))) ?_
   rintro e w_36 ⟨rfl, hb_37⟩; refine ⟨_, rfl, ?_⟩
   refine xr0 5 [(7, errV es (if (uchk t).2 then 0 else 1))] [51, 52] ?_
   refine nl (sq (rg (xr0 1 [(55, errV es (if (uchk t).2 then 0 else 1))] [7] ?_)))
   by_cases c_38 : (if (uchk t).2 then 0 else 1) = 0
   ·rw [show errV es (if (uchk t).2 then 0 else 1) = .nilIface from by rw [c_38]; rfl]
    refine xe0 1 [(1, pw w.heap.size 0), (56, .bool false)] ?_
    refine nl (cf (sk (sq (sq (rg (xe 3 [(59, .load (.string t))] [(60, .int .i64 (t.size : Int))] [LoadsAs Tryd.prog 9 (⟨w.heap.size, 2, none⟩) (.string t) w_36] ⟨loads1 rfl (Blk.cell (Blk.below hk_3 (bt (bt hb_7 HBj) hb_37)) 2 _ rfl), trivial⟩ ?_))))))
    by_cases c_39 : (t.size : Int) > 1048576
    ·refine xe 1 [(61, .eq (.bool true))] [(61, .bool true)] [Value.bool (decide ((t.size : Int) > 1048576)) = Value.bool true] ⟨congrArg Value.bool (decide_eq_true (c_39)), trivial⟩ ?_
     refine nl (ct (sq (rg (xe 2 [(62, .load (.iface 164 (.pointer (some (errAt es 10)))))] [(2, .iface 164 (.pointer (some (errAt es 10))))] [LoadsAs Tryd.prog 30 (⟨10, 0, none⟩) (.iface 164 (.pointer (some (errAt es 10)))) w_36] ⟨loads1 rfl (((bt (bt (bt hb_2 hb_7) HBj) hb_37).cell (World.block_lt_of_cell? _ _ (hE.load 10 10 (by decide) (by decide) rfl))).trans (hE.load 10 10 (by decide) (by decide) rfl)), trivial⟩ ?_))))
     refine nl (X_ret (rk [.iface 164 (.pointer (some (errAt es 10)))] (hR_ _ _ ?_)))
     rw [show plainErr k n t = 10 from by unfold plainErr; simp_all <;> omega]
     exact ⟨rfl, (bt (bt (bt hb_2 hb_7) HBj) hb_37)⟩
    refine xe 1 [(61, .eq (.bool false))] [(61, .bool false)] [Value.bool (decide ((t.size : Int) > 1048576)) = Value.bool false] ⟨congrArg Value.bool (decide_eq_false (c_39)), trivial⟩ ?_
    refine nl (cf (sk (sq (rg (xe0 1 [(2, .nilIface)] ?_)))))
    refine nl (X_ret (rk [.nilIface] (hR_ _ _ ?_)))
    rw [show plainErr k n t = 0 from by unfold plainErr; simp_all <;> omega]
    exact ⟨rfl, (bt (bt (bt hb_2 hb_7) HBj) hb_37)⟩
   rw [errV_pos es (if (uchk t).2 then 0 else 1) (Nat.pos_of_ne_zero c_38)]
   refine xe0 1 [(1, pw w.heap.size 0), (56, .bool true)] ?_
   refine nl (ct (sq (rg (xe 2 [(57, .load (.iface 164 (.pointer (some (errAt es 1)))))] [(2, .iface 164 (.pointer (some (errAt es 1))))] [LoadsAs Tryd.prog 30 (⟨2, 0, none⟩) (.iface 164 (.pointer (some (errAt es 1)))) w_36] ⟨loads1 rfl (((bt (bt (bt hb_2 hb_7) HBj) hb_37).cell (World.block_lt_of_cell? _ _ (hE.load 1 2 (by decide) (by decide) rfl))).trans (hE.load 1 2 (by decide) (by decide) rfl)), trivial⟩ ?_))))
   refine nl (X_ret (rk [.iface 164 (.pointer (some (errAt es 1)))] (hR_ _ _ ?_)))
   rw [show plainErr k n t = 1 from by unfold plainErr; simp_all <;> omega]
   exact ⟨rfl, (bt (bt (bt hb_2 hb_7) HBj) hb_37)⟩
  rw [show (ok : Bool) = false from by simpa using c_35]
  refine xr0 1 [(47, .bool true)] [46] ?_
  refine nl (ct (sq (rg (xe 2 [(48, .load (.iface 164 (.pointer (some (errAt es 5)))))] [(2, .iface 164 (.pointer (some (errAt es 5))))] [LoadsAs Tryd.prog 30 (⟨6, 0, none⟩) (.iface 164 (.pointer (some (errAt es 5)))) wj] ⟨loads1 rfl (((bt (bt hb_2 hb_7) HBj).cell (World.block_lt_of_cell? _ _ (hE.load 5 6 (by decide) (by decide) rfl))).trans (hE.load 5 6 (by decide) (by decide) rfl)), trivial⟩ ?_))))
  refine nl (X_ret (rk [.iface 164 (.pointer (some (errAt es 5)))] (hR_ _ _ ?_)))
  rw [show plainErr k n t = 5 from by unfold plainErr; simp_all <;> omega]
  exact ⟨rfl, (bt (bt hb_2 hb_7) HBj)⟩
 refine xse 3 [(13, .eq (.bool true))] [(1, .pointer (some ⟨w.heap.size, 0, none⟩)), (3, .bool true), (4, .bool true)] [Value.bool (!t.toList == (⟨#[]⟩ : ByteArray).toList) = Value.bool true] ⟨congrArg Value.bool (strNeT (c_29)), trivial⟩ ?_
 refine XS_nil ?_
 refine sq (rg (xr0 1 [(5, .bool false)] [] ?_))
 refine nl (X_join (ι := Bool) (fun ok => [(1, .pointer (some ⟨w.heap.size, 0, none⟩)), (5, .bool ok)]) (fun ok wj => ok = plainOk k n t ∧ Below wd_6.heap.size wd_6 wj) ?_ ?_)
 ·refine sq (rg (xr 2 [(15, .load (.int .i64 k))] [(15, .int .i64 k)] [] [LoadsAs Tryd.prog 3 (⟨w.heap.size, 0, none⟩) (.int .i64 k) wd_6] ⟨loads1 rfl (Blk.cell (Blk.below hk_3 hb_7) 0 _ rfl), trivial⟩ ?_))
  refine nl (bk (sq (X_region ?_)))
  by_cases c_40 : k = 0
  ·refine xr 2 [(17, .eq (.bool true))] [(16, .bool true)] [] [Value.bool (k == 0) = Value.bool true] ⟨congrArg Value.bool (beq_iff_eq.2 (c_40)), trivial⟩ ?_
   refine nl (ct (rg (xr0 7 [] [3, 4, 15, 16] ?_)))
   refine nl ?_
   exact ⟨false, by kernel_rfl, ⟨(decide_eq_false (by simp_all)).symm, (Below.refl _ _)⟩⟩
  refine xr 2 [(17, .eq (.bool false))] [(16, .bool false)] [] [Value.bool (k == 0) = Value.bool false] ⟨congrArg Value.bool (beq_eq_false_iff_ne.2 (c_40)), trivial⟩ ?_
  refine nl (cf (sq (X_region ?_)))
  by_cases c_41 : k = 1
  ·refine xr 2 [(25, .eq (.bool true))] [(24, .bool true)] [16] [Value.bool (k == 1) = Value.bool true] ⟨congrArg Value.bool (beq_iff_eq.2 (c_41)), trivial⟩ ?_
   refine nl (ct (rg (xr 6 [(27, .load (.int .i64 n)), (28, .eq (.bool false)), (31, .load (.int .i64 n))] [(29, .bool false), (31, .int .i64 n)] [3, 5, 15, 24] [LoadsAs Tryd.prog 2 (⟨w.heap.size, 1, none⟩) (.int .i64 n) wd_6, Value.bool (n == 0) = Value.bool false, LoadsAs Tryd.prog 2 (⟨w.heap.size, 1, none⟩) (.int .i64 n) wd_6] ⟨loads1 rfl (Blk.cell (Blk.below hk_3 hb_7) 1 _ rfl), congrArg Value.bool (beq_eq_false_iff_ne.2 (c_9)), loads1 rfl (Blk.cell (Blk.below hk_3 hb_7) 1 _ rfl), trivial⟩ ?_)))
   by_cases c_42 : n = 1
   ·refine xe 7 [(32, .eq (.bool true))] [(1, pw w.heap.size 0), (5, .bool false)] [Value.bool (n == 1) = Value.bool true] ⟨congrArg Value.bool (beq_iff_eq.2 (c_42)), trivial⟩ ?_
    refine nl ?_
    exact ⟨false, by kernel_rfl, ⟨(decide_eq_false (by simp_all)).symm, (Below.refl _ _)⟩⟩
   refine xe 7 [(32, .eq (.bool false))] [(1, pw w.heap.size 0), (5, .bool false)] [Value.bool (n == 1) = Value.bool false] ⟨congrArg Value.bool (beq_eq_false_iff_ne.2 (c_42)), trivial⟩ ?_
   refine nl ?_
   exact ⟨false, by kernel_rfl, ⟨(decide_eq_false (by simp_all)).symm, (Below.refl _ _)⟩⟩
  refine xr 2 [(25, .eq (.bool false))] [(24, .bool false)] [16] [Value.bool (k == 1) = Value.bool false] ⟨congrArg Value.bool (beq_eq_false_iff_ne.2 (c_41)), trivial⟩ ?_
  refine nl (cf (sq (X_region ?_)))
  by_cases c_43 : k = 2
  ·refine xr 2 [(39, .eq (.bool true))] [(38, .bool true)] [24] [Value.bool (k == 2) = Value.bool true] ⟨congrArg Value.bool (beq_iff_eq.2 (c_43)), trivial⟩ ?_
   refine nl (ct (rg (xe0 3 [(1, pw w.heap.size 0), (5, .bool false)] ?_)))
   refine nl ?_
   exact ⟨false, by kernel_rfl, ⟨(decide_eq_false (by simp_all)).symm, (Below.refl _ _)⟩⟩
  refine xr 2 [(39, .eq (.bool false))] [(38, .bool false)] [24] [Value.bool (k == 2) = Value.bool false] ⟨congrArg Value.bool (beq_eq_false_iff_ne.2 (c_43)), trivial⟩ ?_
  refine nl (cf (sq (X_region ?_)))
  by_cases c_44 : k = 3
  ·refine xe 2 [(43, .eq (.bool true))] [(1, pw w.heap.size 0), (3, .bool true), (5, .bool false), (42, .bool true)] [Value.bool (k == 3) = Value.bool true] ⟨congrArg Value.bool (beq_iff_eq.2 (c_44)), trivial⟩ ?_
   refine nl (ct (rg (xr0 3 [] [3, 42] ?_)))
   refine nl ?_
   exact ⟨false, by kernel_rfl, ⟨(decide_eq_false (by simp_all)).symm, (Below.refl _ _)⟩⟩
  refine xe 2 [(43, .eq (.bool false))] [(1, pw w.heap.size 0), (3, .bool true), (5, .bool false), (42, .bool false)] [Value.bool (k == 3) = Value.bool false] ⟨congrArg Value.bool (beq_eq_false_iff_ne.2 (c_44)), trivial⟩ ?_
  refine nl (cf (X_skip ?_))
  exact ⟨false, by kernel_rfl, ⟨(decide_eq_false (by simp_all)).symm, (Below.refl _ _)⟩⟩
 rintro ok wj ⟨hok, HBj⟩
 refine sq (sq (rg (xr0 1 [(46, .bool ok)] [5] ?_)))
 by_cases c_45 : ok = true
 ·rw [show (ok : Bool) = true from by simpa using c_45]
  refine xr0 1 [(47, .bool false)] [46] ?_
  refine nl (cf (sk (sq (sq (rg (xr 2 [(51, .load (.string t))] [(51, .string t)] [47] [LoadsAs Tryd.prog 9 (⟨w.heap.size, 2, none⟩) (.string t) wj] ⟨loads1 rfl (Blk.cell (Blk.below hk_3 (bt hb_7 HBj)) 2 _ rfl), trivial⟩ ?_))))))
  refine xc 50 ent50 [.string t] (scheck_any t _ (by omega) (hT.below (bt (bt hb_2 hb_7) HBj)) es (hE.below (bt (bt hb_2 hb_7) HBj))) ?_
  rintro e w_46 ⟨rfl, hb_47⟩; refine ⟨_, rfl, ?_⟩
  refine xr0 5 [(7, errV es (if (uchk t).2 then 0 else 1))] [51, 52] ?_
  refine nl (sq (rg (xr0 1 [(55, errV es (if (uchk t).2 then 0 else 1))] [7] ?_)))
  by_cases c_48 : (if (uchk t).2 then 0 else 1) = 0
  ·rw [show errV es (if (uchk t).2 then 0 else 1) = .nilIface from by rw [c_48]; rfl]
   refine xe0 1 [(1, pw w.heap.size 0), (56, .bool false)] ?_
   refine nl (cf (sk (sq (sq (rg (xe 3 [(59, .load (.string t))] [(60, .int .i64 (t.size : Int))] [LoadsAs Tryd.prog 9 (⟨w.heap.size, 2, none⟩) (.string t) w_46] ⟨loads1 rfl (Blk.cell (Blk.below hk_3 (bt (bt hb_7 HBj) hb_47)) 2 _ rfl), trivial⟩ ?_))))))
   by_cases c_49 : (t.size : Int) > 1048576
   ·refine xe 1 [(61, .eq (.bool true))] [(61, .bool true)] [Value.bool (decide ((t.size : Int) > 1048576)) = Value.bool true] ⟨congrArg Value.bool (decide_eq_true (c_49)), trivial⟩ ?_
    refine nl (ct (sq (rg (xe 2 [(62, .load (.iface 164 (.pointer (some (errAt es 10)))))] [(2, .iface 164 (.pointer (some (errAt es 10))))] [LoadsAs Tryd.prog 30 (⟨10, 0, none⟩) (.iface 164 (.pointer (some (errAt es 10)))) w_46] ⟨loads1 rfl (((bt (bt (bt hb_2 hb_7) HBj) hb_47).cell (World.block_lt_of_cell? _ _ (hE.load 10 10 (by decide) (by decide) rfl))).trans (hE.load 10 10 (by decide) (by decide) rfl)), trivial⟩ ?_))))
    refine nl (X_ret (rk [.iface 164 (.pointer (some (errAt es 10)))] (hR_ _ _ ?_)))
    rw [show plainErr k n t = 10 from by unfold plainErr; simp_all <;> omega]
    exact ⟨rfl, (bt (bt (bt hb_2 hb_7) HBj) hb_47)⟩
   refine xe 1 [(61, .eq (.bool false))] [(61, .bool false)] [Value.bool (decide ((t.size : Int) > 1048576)) = Value.bool false] ⟨congrArg Value.bool (decide_eq_false (c_49)), trivial⟩ ?_
   refine nl (cf (sk (sq (rg (xe0 1 [(2, .nilIface)] ?_)))))
   refine nl (X_ret (rk [.nilIface] (hR_ _ _ ?_)))
   rw [show plainErr k n t = 0 from by unfold plainErr; simp_all <;> omega]
   exact ⟨rfl, (bt (bt (bt hb_2 hb_7) HBj) hb_47)⟩
  rw [errV_pos es (if (uchk t).2 then 0 else 1) (Nat.pos_of_ne_zero c_48)]
  refine xe0 1 [(1, pw w.heap.size 0), (56, .bool true)] ?_
  refine nl (ct (sq (rg (xe 2 [(57, .load (.iface 164 (.pointer (some (errAt es 1)))))] [(2, .iface 164 (.pointer (some (errAt es 1))))] [LoadsAs Tryd.prog 30 (⟨2, 0, none⟩) (.iface 164 (.pointer (some (errAt es 1)))) w_46] ⟨loads1 rfl (((bt (bt (bt hb_2 hb_7) HBj) hb_47).cell (World.block_lt_of_cell? _ _ (hE.load 1 2 (by decide) (by decide) rfl))).trans (hE.load 1 2 (by decide) (by decide) rfl)), trivial⟩ ?_))))
  refine nl (X_ret (rk [.iface 164 (.pointer (some (errAt es 1)))] (hR_ _ _ ?_)))
  rw [show plainErr k n t = 1 from by unfold plainErr; simp_all <;> omega]
  exact ⟨rfl, (bt (bt (bt hb_2 hb_7) HBj) hb_47)⟩
 rw [show (ok : Bool) = false from by simpa using c_45]
 refine xr0 1 [(47, .bool true)] [46] ?_
 refine nl (ct (sq (rg (xe 2 [(48, .load (.iface 164 (.pointer (some (errAt es 5)))))] [(2, .iface 164 (.pointer (some (errAt es 5))))] [LoadsAs Tryd.prog 30 (⟨6, 0, none⟩) (.iface 164 (.pointer (some (errAt es 5)))) wj] ⟨loads1 rfl (((bt (bt hb_2 hb_7) HBj).cell (World.block_lt_of_cell? _ _ (hE.load 5 6 (by decide) (by decide) rfl))).trans (hE.load 5 6 (by decide) (by decide) rfl)), trivial⟩ ?_))))
 refine nl (X_ret (rk [.iface 164 (.pointer (some (errAt es 5)))] (hR_ _ _ ?_)))
 rw [show plainErr k n t = 5 from by unfold plainErr; simp_all <;> omega]
 exact ⟨rfl, (bt (bt hb_2 hb_7) HBj)⟩
theorem pair_any (x : At) (w : World) (h1 : x.1.size ≤ 9223372036854775807) (h2 : x.2.2.2.size ≤ 9223372036854775807) (hT : Tabs w) (es : List Addr) (hE : ErrsA w es) : Calls Tryd.prog 74 #[.agg #[.string x.1, .int .i64 x.2.1, .int .i64 x.2.2.1, .string x.2.2.2]] w fun e w' => e = .returned (errV es (pairErr x)) ∧ Below w.heap.size w w' := by
 refine RX.enter Tryd.func74 rfl 27 rfl [(0, .agg #[.string x.1, .int .i64 x.2.1, .int .i64 x.2.2.1, .string x.2.2.2])] rfl (by kernel_rfl) (fun R_ hR_ => ?_)
 refine sq (rg (xwe 1 [] [(1, pw w.heap.size 0)] (w.alloc (.cells #[.string x.1, .int .i64 x.2.1, .int .i64 x.2.2.1, .string x.2.2.2] 93)) [] trivial ?_))
 obtain ⟨w_1, hw_5, hb_2, hk_3, hz_4⟩ := new_world w #[.string x.1, .int .i64 x.2.1, .int .i64 x.2.2.1, .string x.2.2.2] 93
 rw [hw_5]
 refine xr0 1 [] [] ?_
 refine nl (sq (sq (rg (xr 2 [(6, .load (.string x.1))] [(6, .string x.1)] [] [LoadsAs Tryd.prog 9 (⟨w.heap.size, 0, none⟩) (.string x.1) w_1] ⟨loads1 rfl (Blk.cell hk_3 0 _ rfl), trivial⟩ ?_))))
 by_cases c_6 : x.1 = (⟨#[]⟩ : ByteArray)
 ·refine xr 7 [(7, .eq (.bool true))] [(13, .bool true)] [6] [Value.bool (x.1.toList == (⟨#[]⟩ : ByteArray).toList) = Value.bool true] ⟨congrArg Value.bool (strEqT (c_6)), trivial⟩ ?_
  refine nl (ct (sq (rg (xe 2 [(14, .load (.iface 164 (.pointer (some (errAt es 6)))))] [(2, .iface 164 (.pointer (some (errAt es 6))))] [LoadsAs Tryd.prog 30 (⟨7, 0, none⟩) (.iface 164 (.pointer (some (errAt es 6)))) w_1] ⟨loads1 rfl ((hb_2.cell (World.block_lt_of_cell? _ _ (hE.load 6 7 (by decide) (by decide) rfl))).trans (hE.load 6 7 (by decide) (by decide) rfl)), trivial⟩ ?_))))
  refine nl (X_ret (rk [.iface 164 (.pointer (some (errAt es 6)))] (hR_ _ _ ?_)))
  rw [show pairErr x = 6 from by unfold pairErr; simp_all <;> omega]
  exact ⟨rfl, hb_2⟩
 refine xr 5 [(7, .eq (.bool false)), (10, .load (.string x.1))] [(8, .bool false), (11, .int .i64 (x.1.size : Int))] [6] [Value.bool (x.1.toList == (⟨#[]⟩ : ByteArray).toList) = Value.bool false, LoadsAs Tryd.prog 9 (⟨w.heap.size, 0, none⟩) (.string x.1) w_1] ⟨congrArg Value.bool (strEqF (c_6)), loads1 rfl (Blk.cell hk_3 0 _ rfl), trivial⟩ ?_
 by_cases c_7 : (x.1.size : Int) > 64
 ·refine xr 2 [(12, .eq (.bool true))] [(13, .bool true)] [8, 11] [Value.bool (decide ((x.1.size : Int) > 64)) = Value.bool true] ⟨congrArg Value.bool (decide_eq_true (c_7)), trivial⟩ ?_
  refine nl (ct (sq (rg (xe 2 [(14, .load (.iface 164 (.pointer (some (errAt es 6)))))] [(2, .iface 164 (.pointer (some (errAt es 6))))] [LoadsAs Tryd.prog 30 (⟨7, 0, none⟩) (.iface 164 (.pointer (some (errAt es 6)))) w_1] ⟨loads1 rfl ((hb_2.cell (World.block_lt_of_cell? _ _ (hE.load 6 7 (by decide) (by decide) rfl))).trans (hE.load 6 7 (by decide) (by decide) rfl)), trivial⟩ ?_))))
  refine nl (X_ret (rk [.iface 164 (.pointer (some (errAt es 6)))] (hR_ _ _ ?_)))
  rw [show pairErr x = 6 from by unfold pairErr; simp_all <;> omega]
  exact ⟨rfl, hb_2⟩
 refine xr 2 [(12, .eq (.bool false))] [(13, .bool false)] [8, 11] [Value.bool (decide ((x.1.size : Int) > 64)) = Value.bool false] ⟨congrArg Value.bool (decide_eq_false (c_7)), trivial⟩ ?_
 refine nl (cf (sk (sq (sq (rg (xr 2 [(17, .load (.string x.1))] [(17, .string x.1)] [13] [LoadsAs Tryd.prog 9 (⟨w.heap.size, 0, none⟩) (.string x.1) w_1] ⟨loads1 rfl (Blk.cell hk_3 0 _ rfl), trivial⟩ ?_))))))
 refine xc 50 ent50 [.string x.1] (scheck_any x.1 _ (by omega) (hT.below hb_2) es (hE.below hb_2)) ?_
 rintro e w_8 ⟨rfl, hb_9⟩; refine ⟨_, rfl, ?_⟩
 refine xe0 5 [(1, pw w.heap.size 0), (4, errV es (if (uchk x.1).2 then 0 else 1))] ?_
 refine nl (sq (rg (xr0 1 [(21, errV es (if (uchk x.1).2 then 0 else 1))] [] ?_)))
 by_cases c_10 : (if (uchk x.1).2 then 0 else 1) = 0
 ·rw [show errV es (if (uchk x.1).2 then 0 else 1) = .nilIface from by rw [c_10]; rfl]
  refine xr0 1 [(4, .nilIface), (22, .bool false)] [21] ?_
  refine nl (cf (sk (sq (rg (xe 2 [(25, .load (.agg #[.int .i64 x.2.1, .int .i64 x.2.2.1, .string x.2.2.2]))] [(25, .agg #[.int .i64 x.2.1, .int .i64 x.2.2.1, .string x.2.2.2])] [LoadsAs Tryd.prog 41 (⟨w.heap.size, 1, none⟩) (.agg #[.int .i64 x.2.1, .int .i64 x.2.2.1, .string x.2.2.2]) w_8] ⟨loadsB rfl rfl (Blk.below hk_3 hb_9) 1 ⟨by kernel_rfl, by kernel_rfl⟩, trivial⟩ ?_)))))
  refine xc 51 ent51 [.agg #[.int .i64 x.2.1, .int .i64 x.2.2.1, .string x.2.2.2]] (vcheck_any x.2.1 x.2.2.1 x.2.2.2 _ (by omega) (hT.below (bt hb_2 hb_9)) es (hE.below (bt hb_2 hb_9))) ?_
  rintro e w_11 ⟨rfl, hb_12⟩; refine ⟨_, rfl, ?_⟩
  refine xe0 1 [(2, errV es (plainErr x.2.1 x.2.2.1 x.2.2.2))] ?_
  refine nl (X_ret (rk [errV es (plainErr x.2.1 x.2.2.1 x.2.2.2)] (hR_ _ _ ?_)))
  rw [show pairErr x = (plainErr x.2.1 x.2.2.1 x.2.2.2) from by unfold pairErr; simp_all <;> omega]
  exact ⟨rfl, (bt (bt hb_2 hb_9) hb_12)⟩
 rw [errV_pos es (if (uchk x.1).2 then 0 else 1) (Nat.pos_of_ne_zero c_10)]
 refine xr0 1 [(4, .iface 164 (.pointer (some (errAt es (if (uchk x.1).2 then 0 else 1))))), (22, .bool true)] [21] ?_
 refine nl (ct (sq (rg (xe0 2 [(2, .iface 164 (.pointer (some (errAt es (if (uchk x.1).2 then 0 else 1)))))] ?_))))
 refine nl (X_ret (rk [.iface 164 (.pointer (some (errAt es (if (uchk x.1).2 then 0 else 1))))] (hR_ _ _ ?_)))
 rw [show pairErr x = (if (uchk x.1).2 then 0 else 1) from by unfold pairErr; simp_all <;> omega, errV_pos es _ (Nat.pos_of_ne_zero c_10)]
 exact ⟨rfl, (bt hb_2 hb_9)⟩
def attrAt (nulls : Bool) (xs : List At) (i : Nat) : Nat := if pairErr (xs.getD i at0) ≠ 0 then pairErr (xs.getD i at0) else if (xs.getD i at0).2.1 = 0 ∧ nulls = false then 7
 else if 0 < i ∧ (Op.bytesLess (xs.getD i at0).1.toList (xs.getD (i - 1) at0).1.toList || (xs.getD i at0).1.toList == (xs.getD (i - 1) at0).1.toList) = true then 8 else 0
def chkUpto (nulls : Bool) (xs : List At) : Nat → Nat
 | 0 => 0
 | n + 1 => if chkUpto nulls xs n ≠ 0 then chkUpto nulls xs n else attrAt nulls xs n
def chkA (nulls : Bool) (xs : List At) : Nat := chkUpto nulls xs xs.length
theorem chkUpto_stop (nulls : Bool) (xs : List At) (i : Nat) (h0 : chkUpto nulls xs i = 0) (h1 : attrAt nulls xs i ≠ 0) : ∀ k, chkUpto nulls xs (i + 1 + k) = attrAt nulls xs i
 | 0 => by show (if chkUpto nulls xs i ≠ 0 then _ else _) = _; rw [if_neg (by omega)]
 | k + 1 => by
  have ih := chkUpto_stop nulls xs i h0 h1 k
  show (if chkUpto nulls xs (i + 1 + k) ≠ 0 then chkUpto nulls xs (i + 1 + k) else _) = _
  rw [if_pos (by rw [ih]; exact h1), ih]
theorem chkA_stop (nulls : Bool) (xs : List At) (i : Nat) (hi : i < xs.length) (h0 : chkUpto nulls xs i = 0) (h1 : attrAt nulls xs i ≠ 0) : chkA nulls xs = attrAt nulls xs i := by
 have := chkUpto_stop nulls xs i h0 h1 (xs.length - (i + 1))
 rw [show i + 1 + (xs.length - (i + 1)) = xs.length from by omega] at this
 exact this
theorem chkUpto_succ (nulls : Bool) (xs : List At) (i : Nat) (h0 : chkUpto nulls xs i = 0) (h1 : attrAt nulls xs i = 0) : chkUpto nulls xs (i + 1) = 0 := by
 show (if chkUpto nulls xs i ≠ 0 then _ else _) = 0
 rw [if_neg (by omega), h1]
theorem acheck_any (A : Option Addr) (c : Nat) (xs : List At) (nulls : Bool) (w : World) (hx : kAttr.C w A xs.length xs) (hsz : ∀ i, i < xs.length → (xs.getD i at0).1.size ≤ 9223372036854775807 ∧ (xs.getD i at0).2.2.2.size ≤ 9223372036854775807) (hT : Tabs w) (es : List Addr) (hE : ErrsA w es) :
  Calls Tryd.prog 54 #[.slice A xs.length c, .bool nulls] w fun e w' => e = .returned (errV es (chkA nulls xs)) ∧ Below w.heap.size w w' := by
 have hpl : xs.length ≤ 9223372036854775807 := hx.2.1
 refine RX.enter Tryd.func54 rfl 42 rfl [(0, .slice A xs.length c), (1, .bool nulls)] rfl (by kernel_rfl) (fun R_ hR_ => ?_)
 refine sq (rg (xe0 1 [(0, .slice A xs.length c), (1, .bool nulls)] ?_))
 refine nl (sq (sq (rg (xr0 3 [(8, .slice A xs.length c), (9, .int .i64 (xs.length : Int)), (10, .int .i64 0)] [] ?_))))
 refine nl (bk (X_loop (ι := Nat) (fun i => [(0, .slice A xs.length c), (1, .bool nulls), (8, .slice A xs.length c), (9, .int .i64 (xs.length : Int)), (10, .int .i64 (i : Int))]) (fun i wl => i ≤ xs.length ∧ chkUpto nulls xs i = 0 ∧ Below w.heap.size w wl) (fun i => xs.length - i) 0 ⟨by omega, rfl, (Below.refl _ _)⟩ (by kernel_rfl) ?_))
 rintro i wl ⟨hi, h0, HB⟩
 have hz : ((i : Int) - 1).toNat = i - 1 := by omega
 refine sq (X_region ?_)
 by_cases c_1 : (i : Int) < (xs.length : Int)
 ·refine xr 1 [(11, .eq (.bool true))] [(11, .bool true)] [] [Value.bool (decide ((i : Int) < (xs.length : Int))) = Value.bool true] ⟨congrArg Value.bool (decide_eq_true (c_1)), trivial⟩ ?_
  refine nl (sq (ct (sk (sq (bk (sq (rg (xr0 1 [(12, nv i)] [11] ?_))))))))
  obtain ⟨ad_2, ha_3, hc_4⟩ := Kd.atAttr (Kd.C_below hx HB) (i := (i : Int)) (by omega) (by omega)
  replace hc_4 : CellsAt wl (ad_2.add ((i : Int).toNat * 4)) [.string ((xs.getD i at0).1), .int .i64 ((xs.getD i at0).2.1), .int .i64 ((xs.getD i at0).2.2.1), .string ((xs.getD i at0).2.2.2)] := hc_4
  refine xw 3 [(13, .idx ad_2), (14, .load (.agg #[.string ((xs.getD i at0).1), .int .i64 ((xs.getD i at0).2.1), .int .i64 ((xs.getD i at0).2.2.1), .string ((xs.getD i at0).2.2.2)]))] [(6, pw wl.heap.size 0), (14, .agg #[.string ((xs.getD i at0).1), .int .i64 ((xs.getD i at0).2.1), .int .i64 ((xs.getD i at0).2.2.1), .string ((xs.getD i at0).2.2.2)])] [] (wl.alloc (.cells #[.string ByteArray.empty, .int .i64 0, .int .i64 0, .string ByteArray.empty] 93)) [A = some ad_2, (0 : Int) ≤ (i : Int), (i : Int) < (xs.length : Int), LoadsAs Tryd.prog 93 (ad_2.add ((i : Int).toNat * 4)) (.agg #[.string ((xs.getD i at0).1), .int .i64 ((xs.getD i at0).2.1), .int .i64 ((xs.getD i at0).2.2.1), .string ((xs.getD i at0).2.2.2)]) wl] ⟨ha_3, (by omega), (by omega), loadsE rfl rfl hc_4 0 ⟨by kernel_rfl, by kernel_rfl⟩, trivial⟩ ?_
  obtain ⟨w_5, hw_9, hb_6, hk_7, hz_8⟩ := new_world wl #[.string ByteArray.empty, .int .i64 0, .int .i64 0, .string ByteArray.empty] 93
  rw [hw_9]
  refine xr0 1 [(5, nv i)] [12] ?_
  refine xst (.agg #[.string ((xs.getD i at0).1), .int .i64 ((xs.getD i at0).2.1), .int .i64 ((xs.getD i at0).2.2.1), .string ((xs.getD i at0).2.2.2)]) hk_7 0 #[.string ((xs.getD i at0).1), .int .i64 ((xs.getD i at0).2.1), .int .i64 ((xs.getD i at0).2.2.1), .string ((xs.getD i at0).2.2.2)] (fun w_10 hg_11 hk_12 hz_13 => ?_)
  refine nl (sq (sq (rg (xr 1 [(15, .load (.agg #[.string ((xs.getD i at0).1), .int .i64 ((xs.getD i at0).2.1), .int .i64 ((xs.getD i at0).2.2.1), .string ((xs.getD i at0).2.2.2)]))] [(15, .agg #[.string ((xs.getD i at0).1), .int .i64 ((xs.getD i at0).2.1), .int .i64 ((xs.getD i at0).2.2.1), .string ((xs.getD i at0).2.2.2)])] [14] [LoadsAs Tryd.prog 93 (⟨wl.heap.size, 0, none⟩) (.agg #[.string ((xs.getD i at0).1), .int .i64 ((xs.getD i at0).2.1), .int .i64 ((xs.getD i at0).2.2.1), .string ((xs.getD i at0).2.2.2)]) w_10] ⟨loadsB rfl rfl hk_12 0 ⟨by kernel_rfl, by kernel_rfl⟩, trivial⟩ ?_))))
  refine xc 74 ent74 [.agg #[.string ((xs.getD i at0).1), .int .i64 ((xs.getD i at0).2.1), .int .i64 ((xs.getD i at0).2.2.1), .string ((xs.getD i at0).2.2.2)]] (pair_any (xs.getD i at0) _ (hsz i (by omega)).1 (hsz i (by omega)).2 (hT.below (bg (bt HB hb_6) hg_11 (HB).size)) es (hE.below (bg (bt HB hb_6) hg_11 (HB).size))) ?_
  rintro e w_14 ⟨rfl, hb_15⟩; refine ⟨_, rfl, ?_⟩
  refine xe0 1 [(0, .slice A xs.length c), (1, .bool nulls), (5, nv i), (6, pw wl.heap.size 0), (7, errV es (pairErr (xs.getD i at0))), (8, .slice A xs.length c), (9, .int .i64 (xs.length : Int)), (10, nv i)] ?_
  refine nl (sq (rg (xr0 1 [(17, errV es (pairErr (xs.getD i at0)))] [] ?_)))
  by_cases c_16 : (pairErr (xs.getD i at0)) = 0
  ·rw [show errV es (pairErr (xs.getD i at0)) = .nilIface from by rw [c_16]; rfl]
   refine xr0 1 [(7, .nilIface), (18, .bool false)] [17] ?_
   refine nl (cf (sk (sq (sq (rg (xr 1 [(20, .load (.agg #[.string ((xs.getD i at0).1), .int .i64 ((xs.getD i at0).2.1), .int .i64 ((xs.getD i at0).2.2.1), .string ((xs.getD i at0).2.2.2)]))] [(20, .agg #[.string ((xs.getD i at0).1), .int .i64 ((xs.getD i at0).2.1), .int .i64 ((xs.getD i at0).2.2.1), .string ((xs.getD i at0).2.2.2)])] [7, 18] [LoadsAs Tryd.prog 93 (⟨wl.heap.size, 0, none⟩) (.agg #[.string ((xs.getD i at0).1), .int .i64 ((xs.getD i at0).2.1), .int .i64 ((xs.getD i at0).2.2.1), .string ((xs.getD i at0).2.2.2)]) w_14] ⟨loadsB rfl rfl (Blk.below hk_12 hb_15) 0 ⟨by kernel_rfl, by kernel_rfl⟩, trivial⟩ ?_))))))
   refine xc 75 ent75 [.agg #[.string ((xs.getD i at0).1), .int .i64 ((xs.getD i at0).2.1), .int .i64 ((xs.getD i at0).2.2.1), .string ((xs.getD i at0).2.2.2)]] (null_any (xs.getD i at0) _) ?_
   rintro e w_17 ⟨rfl, hb_18⟩; refine ⟨_, rfl, ?_⟩
   refine xr0 1 [(22, .bool (decide ((xs.getD i at0).2.1 = 0)))] [20, 21] ?_
   by_cases c_19 : decide ((xs.getD i at0).2.1 = 0) = true
   ·rw [show (decide ((xs.getD i at0).2.1 = 0) : Bool) = true from by simpa using c_19]
    refine xr0 1 [(22, .bool true), (23, .bool nulls)] [] ?_
    by_cases c_20 : nulls = true
    ·rw [show (nulls : Bool) = true from by simpa using c_20]
     refine xe0 2 [(0, .slice A xs.length c), (1, .bool true), (5, nv i), (6, pw wl.heap.size 0), (8, .slice A xs.length c), (9, .int .i64 (xs.length : Int)), (10, nv i), (25, .bool false)] ?_
     refine nl (cf (sk (sq (X_still (by kernel_rfl) (by kernel_rfl) (fun wd_21 hb_22 hh_23 => ?_)))))
     refine xse 1 [] [(0, .slice A xs.length c), (1, .bool true), (5, .int .i64 (i : Int)), (6, .pointer (some ⟨wl.heap.size, 0, none⟩)), (8, .slice A xs.length c), (9, .int .i64 (xs.length : Int)), (10, .int .i64 (i : Int)), (27, .int .i64 (i : Int))] [] trivial ?_
     by_cases c_24 : (i : Int) > 0
     ·refine xse 7 [(28, .eq (.bool true)), (31, .load (.string ((xs.getD i at0).1))), (34, .eq (.int .i64 ((i : Int) - 1)))] [(0, .slice A xs.length c), (1, .bool true), (8, .slice A xs.length c), (9, .int .i64 (xs.length : Int)), (10, .int .i64 (i : Int)), (29, .bool true), (31, .string ((xs.getD i at0).1)), (32, .slice A xs.length c), (34, .int .i64 ((i : Int) - 1))] [Value.bool (decide ((i : Int) > 0)) = Value.bool true, LoadsAs Tryd.prog 9 (⟨wl.heap.size, 0, none⟩) (.string ((xs.getD i at0).1)) wd_21, Value.int .i64 (IntKind.i64.wrap ((i : Int) - 1)) = Value.int .i64 ((i : Int) - 1)] ⟨congrArg Value.bool (decide_eq_true (c_24)), loads1 rfl (Blk.cell (Blk.below hk_12 (bt (bt hb_15 hb_18) hb_22)) 0 _ rfl), wr_i64 (by omega) (by omega), trivial⟩ ?_
      have hB_25 : Below w.heap.size w wd_21 := (bt (bt (bt (bg (bt HB hb_6) hg_11 (HB).size) hb_15) hb_18) hb_22)
      obtain ⟨ad_26, ha_27, hc_28⟩ := Kd.atAttr (Kd.C_below hx hB_25) (i := (i : Int) - 1) (by omega) (by omega)
      replace hc_28 : CellsAt wd_21 (ad_26.add (((i : Int) - 1).toNat * 4)) [.string ((xs.getD ((i : Int) - 1).toNat at0).1), .int .i64 ((xs.getD ((i : Int) - 1).toNat at0).2.1), .int .i64 ((xs.getD ((i : Int) - 1).toNat at0).2.2.1), .string ((xs.getD ((i : Int) - 1).toNat at0).2.2.2)] := hc_28
      refine xse 3 [(35, .idx ad_26), (37, .load (.string ((xs.getD ((i : Int) - 1).toNat at0).1)))] [(0, .slice A xs.length c), (1, .bool true), (8, .slice A xs.length c), (9, .int .i64 (xs.length : Int)), (10, .int .i64 (i : Int)), (29, .bool true), (31, .string ((xs.getD i at0).1)), (37, .string ((xs.getD ((i : Int) - 1).toNat at0).1))] [A = some ad_26, (0 : Int) ≤ (i : Int) - 1, (i : Int) - 1 < (xs.length : Int), LoadsAs Tryd.prog 9 (ad_26.add (((i : Int) - 1).toNat * 4)) (.string ((xs.getD ((i : Int) - 1).toNat at0).1)) wd_21] ⟨ha_27, (by omega), (by omega), loads1 rfl (elem_cell hc_28 0 _ rfl), trivial⟩ ?_
      by_cases c_29 : ((Op.bytesLess ((xs.getD i at0).1).toList ((xs.getD ((i : Int) - 1).toNat at0).1).toList || (((xs.getD i at0).1).toList == ((xs.getD ((i : Int) - 1).toNat at0).1).toList))) = true
      ·refine xse 2 [(38, .eq (.bool true))] [(0, .slice A xs.length c), (1, .bool true), (8, .slice A xs.length c), (9, .int .i64 (xs.length : Int)), (10, .int .i64 (i : Int)), (39, .bool true)] [Value.bool ((Op.bytesLess ((xs.getD i at0).1).toList ((xs.getD ((i : Int) - 1).toNat at0).1).toList || (((xs.getD i at0).1).toList == ((xs.getD ((i : Int) - 1).toNat at0).1).toList))) = Value.bool true] ⟨congrArg Value.bool (c_29), trivial⟩ ?_
       refine XS_nil ?_
       refine ct (sq (rg (xe 2 [(40, .load (.iface 164 (.pointer (some (errAt es 8)))))] [(4, .iface 164 (.pointer (some (errAt es 8))))] [LoadsAs Tryd.prog 30 (⟨9, 0, none⟩) (.iface 164 (.pointer (some (errAt es 8)))) wd_21] ⟨loads1 rfl ((hB_25.cell (World.block_lt_of_cell? _ _ (hE.load 8 9 (by decide) (by decide) rfl))).trans (hE.load 8 9 (by decide) (by decide) rfl)), trivial⟩ ?_)))
       refine nl (X_ret (rk [.iface 164 (.pointer (some (errAt es 8)))] (hR_ _ _ ?_)))
       (try simp only [hz] at *)
       have he : attrAt nulls xs i = 8 := by unfold attrAt; simp_all <;> omega
       rw [chkA_stop nulls xs i (by omega) h0 (by rw [he]; decide), he]
       exact ⟨rfl, hB_25⟩
      refine xse 2 [(38, .eq (.bool false))] [(0, .slice A xs.length c), (1, .bool true), (8, .slice A xs.length c), (9, .int .i64 (xs.length : Int)), (10, .int .i64 (i : Int)), (39, .bool false)] [Value.bool ((Op.bytesLess ((xs.getD i at0).1).toList ((xs.getD ((i : Int) - 1).toNat at0).1).toList || (((xs.getD i at0).1).toList == ((xs.getD ((i : Int) - 1).toNat at0).1).toList))) = Value.bool false] ⟨congrArg Value.bool (Bool.eq_false_iff.2 (c_29)), trivial⟩ ?_
      refine XS_nil ?_
      refine cf (sk (rg (xr 2 [(41, .eq (.int .i64 ((i : Int) + 1)))] [(10, .int .i64 ((i : Int) + 1))] [39] [Value.int .i64 (IntKind.i64.wrap ((i : Int) + 1)) = Value.int .i64 ((i : Int) + 1)] ⟨wr_i64 (by omega) (by omega), trivial⟩ ?_)))
      refine nl ?_
      refine ⟨(i + 1), by kernel_rfl, ?_, ?_⟩
      ·obtain rfl : nulls = true := c_20
       (try simp only [hz] at *)
       exact ⟨by omega, chkUpto_succ _ _ _ h0 (by unfold attrAt; simp_all <;> omega), hB_25⟩
      (try dsimp only); omega
     refine xse 12 [(28, .eq (.bool false))] [(0, .slice A xs.length c), (1, .bool true), (8, .slice A xs.length c), (9, .int .i64 (xs.length : Int)), (10, .int .i64 (i : Int)), (39, .bool false)] [Value.bool (decide ((i : Int) > 0)) = Value.bool false] ⟨congrArg Value.bool (decide_eq_false (c_24)), trivial⟩ ?_
     refine XS_nil ?_
     refine cf (sk (rg (xr 2 [(41, .eq (.int .i64 ((i : Int) + 1)))] [(10, .int .i64 ((i : Int) + 1))] [39] [Value.int .i64 (IntKind.i64.wrap ((i : Int) + 1)) = Value.int .i64 ((i : Int) + 1)] ⟨wr_i64 (by omega) (by omega), trivial⟩ ?_)))
     refine nl ?_
     have hB_30 : Below w.heap.size w wd_21 := (bt (bt (bt (bg (bt HB hb_6) hg_11 (HB).size) hb_15) hb_18) hb_22)
     refine ⟨(i + 1), by kernel_rfl, ?_, ?_⟩
     ·obtain rfl : nulls = true := c_20
      (try simp only [hz] at *)
      exact ⟨by omega, chkUpto_succ _ _ _ h0 (by unfold attrAt; simp_all <;> omega), hB_30⟩
     (try dsimp only); omega
    rw [show (nulls : Bool) = false from by simpa using c_20]
    refine xe0 2 [(0, .slice A xs.length c), (1, .bool false), (5, nv i), (6, pw wl.heap.size 0), (8, .slice A xs.length c), (9, .int .i64 (xs.length : Int)), (10, nv i), (25, .bool true)] ?_
    refine nl (ct (sq (X_region ?_)))
    have hB_31 : Below w.heap.size w w_17 := (bt (bt (bg (bt HB hb_6) hg_11 (HB).size) hb_15) hb_18)
    refine xe 2 [(26, .load (.iface 164 (.pointer (some (errAt es 7)))))] [(4, .iface 164 (.pointer (some (errAt es 7))))] [LoadsAs Tryd.prog 30 (⟨8, 0, none⟩) (.iface 164 (.pointer (some (errAt es 7)))) w_17] ⟨loads1 rfl ((hB_31.cell (World.block_lt_of_cell? _ _ (hE.load 7 8 (by decide) (by decide) rfl))).trans (hE.load 7 8 (by decide) (by decide) rfl)), trivial⟩ ?_
    refine nl (X_ret (rk [.iface 164 (.pointer (some (errAt es 7)))] (hR_ _ _ ?_)))
    (try simp only [hz] at *)
    have he : attrAt nulls xs i = 7 := by unfold attrAt; simp_all <;> omega
    rw [chkA_stop nulls xs i (by omega) h0 (by rw [he]; decide), he]
    exact ⟨rfl, hB_31⟩
   rw [show (decide ((xs.getD i at0).2.1 = 0) : Bool) = false from by simpa using c_19]
   refine xr0 3 [(25, .bool false)] [22] ?_
   refine nl (cf (sk (sq (X_still (by kernel_rfl) (by kernel_rfl) (fun wd_32 hb_33 hh_34 => ?_)))))
   refine xse 1 [] [(0, .slice A xs.length c), (1, .bool nulls), (5, .int .i64 (i : Int)), (6, .pointer (some ⟨wl.heap.size, 0, none⟩)), (8, .slice A xs.length c), (9, .int .i64 (xs.length : Int)), (10, .int .i64 (i : Int)), (27, .int .i64 (i : Int))] [] trivial ?_
   by_cases c_35 : (i : Int) > 0
   ·refine xse 7 [(28, .eq (.bool true)), (31, .load (.string ((xs.getD i at0).1))), (34, .eq (.int .i64 ((i : Int) - 1)))] [(0, .slice A xs.length c), (1, .bool nulls), (8, .slice A xs.length c), (9, .int .i64 (xs.length : Int)), (10, .int .i64 (i : Int)), (29, .bool true), (31, .string ((xs.getD i at0).1)), (32, .slice A xs.length c), (34, .int .i64 ((i : Int) - 1))] [Value.bool (decide ((i : Int) > 0)) = Value.bool true, LoadsAs Tryd.prog 9 (⟨wl.heap.size, 0, none⟩) (.string ((xs.getD i at0).1)) wd_32, Value.int .i64 (IntKind.i64.wrap ((i : Int) - 1)) = Value.int .i64 ((i : Int) - 1)] ⟨congrArg Value.bool (decide_eq_true (c_35)), loads1 rfl (Blk.cell (Blk.below hk_12 (bt (bt hb_15 hb_18) hb_33)) 0 _ rfl), wr_i64 (by omega) (by omega), trivial⟩ ?_
    have hB_36 : Below w.heap.size w wd_32 := (bt (bt (bt (bg (bt HB hb_6) hg_11 (HB).size) hb_15) hb_18) hb_33)
    obtain ⟨ad_37, ha_38, hc_39⟩ := Kd.atAttr (Kd.C_below hx hB_36) (i := (i : Int) - 1) (by omega) (by omega)
    replace hc_39 : CellsAt wd_32 (ad_37.add (((i : Int) - 1).toNat * 4)) [.string ((xs.getD ((i : Int) - 1).toNat at0).1), .int .i64 ((xs.getD ((i : Int) - 1).toNat at0).2.1), .int .i64 ((xs.getD ((i : Int) - 1).toNat at0).2.2.1), .string ((xs.getD ((i : Int) - 1).toNat at0).2.2.2)] := hc_39
    refine xse 3 [(35, .idx ad_37), (37, .load (.string ((xs.getD ((i : Int) - 1).toNat at0).1)))] [(0, .slice A xs.length c), (1, .bool nulls), (8, .slice A xs.length c), (9, .int .i64 (xs.length : Int)), (10, .int .i64 (i : Int)), (29, .bool true), (31, .string ((xs.getD i at0).1)), (37, .string ((xs.getD ((i : Int) - 1).toNat at0).1))] [A = some ad_37, (0 : Int) ≤ (i : Int) - 1, (i : Int) - 1 < (xs.length : Int), LoadsAs Tryd.prog 9 (ad_37.add (((i : Int) - 1).toNat * 4)) (.string ((xs.getD ((i : Int) - 1).toNat at0).1)) wd_32] ⟨ha_38, (by omega), (by omega), loads1 rfl (elem_cell hc_39 0 _ rfl), trivial⟩ ?_
    by_cases c_40 : ((Op.bytesLess ((xs.getD i at0).1).toList ((xs.getD ((i : Int) - 1).toNat at0).1).toList || (((xs.getD i at0).1).toList == ((xs.getD ((i : Int) - 1).toNat at0).1).toList))) = true
    ·refine xse 2 [(38, .eq (.bool true))] [(0, .slice A xs.length c), (1, .bool nulls), (8, .slice A xs.length c), (9, .int .i64 (xs.length : Int)), (10, .int .i64 (i : Int)), (39, .bool true)] [Value.bool ((Op.bytesLess ((xs.getD i at0).1).toList ((xs.getD ((i : Int) - 1).toNat at0).1).toList || (((xs.getD i at0).1).toList == ((xs.getD ((i : Int) - 1).toNat at0).1).toList))) = Value.bool true] ⟨congrArg Value.bool (c_40), trivial⟩ ?_
     refine XS_nil ?_
     refine ct (sq (rg (xe 2 [(40, .load (.iface 164 (.pointer (some (errAt es 8)))))] [(4, .iface 164 (.pointer (some (errAt es 8))))] [LoadsAs Tryd.prog 30 (⟨9, 0, none⟩) (.iface 164 (.pointer (some (errAt es 8)))) wd_32] ⟨loads1 rfl ((hB_36.cell (World.block_lt_of_cell? _ _ (hE.load 8 9 (by decide) (by decide) rfl))).trans (hE.load 8 9 (by decide) (by decide) rfl)), trivial⟩ ?_)))
     refine nl (X_ret (rk [.iface 164 (.pointer (some (errAt es 8)))] (hR_ _ _ ?_)))
     (try simp only [hz] at *)
     have he : attrAt nulls xs i = 8 := by unfold attrAt; simp_all <;> omega
     rw [chkA_stop nulls xs i (by omega) h0 (by rw [he]; decide), he]
     exact ⟨rfl, hB_36⟩
    refine xse 2 [(38, .eq (.bool false))] [(0, .slice A xs.length c), (1, .bool nulls), (8, .slice A xs.length c), (9, .int .i64 (xs.length : Int)), (10, .int .i64 (i : Int)), (39, .bool false)] [Value.bool ((Op.bytesLess ((xs.getD i at0).1).toList ((xs.getD ((i : Int) - 1).toNat at0).1).toList || (((xs.getD i at0).1).toList == ((xs.getD ((i : Int) - 1).toNat at0).1).toList))) = Value.bool false] ⟨congrArg Value.bool (Bool.eq_false_iff.2 (c_40)), trivial⟩ ?_
    refine XS_nil ?_
    refine cf (sk (rg (xr 2 [(41, .eq (.int .i64 ((i : Int) + 1)))] [(10, .int .i64 ((i : Int) + 1))] [39] [Value.int .i64 (IntKind.i64.wrap ((i : Int) + 1)) = Value.int .i64 ((i : Int) + 1)] ⟨wr_i64 (by omega) (by omega), trivial⟩ ?_)))
    refine nl ?_
    refine ⟨(i + 1), by kernel_rfl, ?_, ?_⟩
    ·(try simp only [hz] at *)
     exact ⟨by omega, chkUpto_succ _ _ _ h0 (by unfold attrAt; simp_all <;> omega), hB_36⟩
    (try dsimp only); omega
   refine xse 12 [(28, .eq (.bool false))] [(0, .slice A xs.length c), (1, .bool nulls), (8, .slice A xs.length c), (9, .int .i64 (xs.length : Int)), (10, .int .i64 (i : Int)), (39, .bool false)] [Value.bool (decide ((i : Int) > 0)) = Value.bool false] ⟨congrArg Value.bool (decide_eq_false (c_35)), trivial⟩ ?_
   refine XS_nil ?_
   refine cf (sk (rg (xr 2 [(41, .eq (.int .i64 ((i : Int) + 1)))] [(10, .int .i64 ((i : Int) + 1))] [39] [Value.int .i64 (IntKind.i64.wrap ((i : Int) + 1)) = Value.int .i64 ((i : Int) + 1)] ⟨wr_i64 (by omega) (by omega), trivial⟩ ?_)))
   refine nl ?_
   have hB_41 : Below w.heap.size w wd_32 := (bt (bt (bt (bg (bt HB hb_6) hg_11 (HB).size) hb_15) hb_18) hb_33)
   refine ⟨(i + 1), by kernel_rfl, ?_, ?_⟩
   ·(try simp only [hz] at *)
    exact ⟨by omega, chkUpto_succ _ _ _ h0 (by unfold attrAt; simp_all <;> omega), hB_41⟩
   (try dsimp only); omega
  rw [errV_pos es (pairErr (xs.getD i at0)) (Nat.pos_of_ne_zero c_16)]
  refine xr0 1 [(7, .iface 164 (.pointer (some (errAt es (pairErr (xs.getD i at0)))))), (18, .bool true)] [17] ?_
  refine nl (ct (sq (rg (xe0 2 [(4, .iface 164 (.pointer (some (errAt es (pairErr (xs.getD i at0))))))] ?_))))
  refine nl (X_ret (rk [.iface 164 (.pointer (some (errAt es (pairErr (xs.getD i at0)))))] (hR_ _ _ ?_)))
  have hB_42 : Below w.heap.size w w_14 := (bt (bg (bt HB hb_6) hg_11 (HB).size) hb_15)
  (try simp only [hz] at *)
  have he : attrAt nulls xs i = (pairErr (xs.getD i at0)) := by unfold attrAt; simp_all <;> omega
  rw [chkA_stop nulls xs i (by omega) h0 (by rw [he]; exact c_16), he, errV_pos es _ (Nat.pos_of_ne_zero c_16)]
  exact ⟨rfl, hB_42⟩
 refine xr 1 [(11, .eq (.bool false))] [(11, .bool false)] [] [Value.bool (decide ((i : Int) < (xs.length : Int))) = Value.bool false] ⟨congrArg Value.bool (decide_eq_false (c_1)), trivial⟩ ?_
 refine nl (sq (cf (X_exit (sq (rg (xe0 1 [(4, .nilIface)] ?_))))))
 refine nl (X_ret (rk [.nilIface] (hR_ _ _ ?_)))
 rw [show chkA nulls xs = 0 from by unfold chkA; rw [show xs.length = i from by omega]; exact h0]
 exact ⟨rfl, HB⟩
end Go.Proofs.YtgphmfnkeolbcaaDoor
