/- What values.Of, content.Of, slices.Clone, ops.piece answer. Conditions: sizes, the tables of utf8, the errors' variables. -/
import Derived.Lib.SliceRun
import Derived.Test.YtgphmfnkeolbcaaDoorOpsP
import Derived.Test.YtgphmfnkeolbcaaDoorB1
import Derived.Test.YtgphmfnkeolbcaaDoorOp2
import Derived.Test.YtgphmfnkeolbcaaDoorAn2
import Derived.Test.YtgphmfnkeolbcaaDoorWEqStruct
set_option linter.unusedVariables false
set_option linter.unusedSimpArgs false
set_option maxRecDepth 100000
namespace Go.Proofs.YtgphmfnkeolbcaaDoor
open Go Go.RowKit Go.Proofs.YtgphmfnkeolbcaaDoorW.PrintWords RX
theorem ent90 : Ent Tryd.prog 90 := ent_of Tryd.func90 (by kernel_rfl) rfl
theorem ent86 : Ent Tryd.prog 86 := ent_of Tryd.func86 (by kernel_rfl) rfl
theorem ent53 : Ent Tryd.prog 53 := ent_of Tryd.func53 (by kernel_rfl) rfl
theorem ent83 : Ent Tryd.prog 83 := ent_of Tryd.func83 (by kernel_rfl) rfl
theorem ent84 : Ent Tryd.prog 84 := ent_of Tryd.func84 (by kernel_rfl) rfl
theorem ent79 : Ent Tryd.prog 79 := ent_of Tryd.func79 (by kernel_rfl) rfl
theorem ent47 : Ent Tryd.prog 47 := ent_of Tryd.func47 (by kernel_rfl) rfl
theorem ent82 : Ent Tryd.prog 82 := ent_of Tryd.func82 (by kernel_rfl) rfl
theorem ent78 : Ent Tryd.prog 78 := ent_of Tryd.func78 (by kernel_rfl) rfl
abbrev ErrsI (w : World) (es : List Addr) : Prop := ErrsOn [1, 5, 6, 7, 8, 9, 10] w es
abbrev ErrsO (w : World) (es : List Addr) : Prop := ErrsOn [1, 5, 6, 7, 8, 9, 10, 11] w es
theorem ErrsI.a {w : World} {es : List Addr} (h : ErrsI w es) : ErrsA w es := h.sub (by decide)
theorem ErrsO.i {w : World} {es : List Addr} (h : ErrsO w es) : ErrsI w es := h.sub (by decide)
def ple (x y : Pl) : Bool := (x.1 == y.1) && ((x.2.1 == y.2.1) && (x.2.2.toList == y.2.2.toList))
theorem ple_iff (x y : Pl) : ple x y = true ↔ x = y := by
 obtain ⟨a, b, c⟩ := x
 obtain ⟨a', b', c'⟩ := y
 simp only [ple, Bool.and_eq_true, beq_iff_eq, Prod.mk.injEq]
 exact ⟨fun ⟨h1, h2, h3⟩ => ⟨h1, h2, bytes_ext h3⟩, fun ⟨h1, h2, h3⟩ => ⟨h1, h2, by rw [h3]⟩⟩
theorem plain_neq (x y : Pl) (w : World) : (binOp .neq 41 (.agg #[.int .i64 x.1, .int .i64 x.2.1, .string x.2.2]) (.agg #[.int .i64 y.1, .int .i64 y.2.1, .string y.2.2])).run Tryd.prog w = .ok (.bool (!(ple x y))) w := by
 have h : (Op.equalIn 10000 41 (.agg #[.int .i64 x.1, .int .i64 x.2.1, .string x.2.2]) (.agg #[.int .i64 y.1, .int .i64 y.2.1, .string y.2.2])).run Tryd.prog w = .ok (ple x y) w := by
  refine eqA_of (d := 9999) Tryd.underlying41 (by kernel_rfl) ?_
  exact eqf_cons (a := .int .i64 x.1) (b := .int .i64 y.1) rfl (by kernel_rfl) (by kernel_rfl) (run_equalIn_int _ _ _ _ _ _ _ Tryd.underlying3) (eqf_cons (a := .int .i64 x.2.1) (b := .int .i64 y.2.1) rfl (by kernel_rfl) (by kernel_rfl) (run_equalIn_int _ _ _ _ _ _ _ Tryd.underlying2) (eqf_last (a := .string x.2.2) (b := .string y.2.2) rfl (by kernel_rfl) (by kernel_rfl) (run_equalIn_string _ _ _ _ _ Tryd.underlying9)))
 rw [run_neq_struct]
 show ((Op.equalIn 10000 41 _ _).run Tryd.prog w).andThen _ = _
 rw [h]; rfl
theorem plain_eqb (x y : Pl) (w : World) : (binOp .eql 41 (.agg #[.int .i64 x.1, .int .i64 x.2.1, .string x.2.2]) (.agg #[.int .i64 y.1, .int .i64 y.2.1, .string y.2.2])).run Tryd.prog w = .ok (.bool (ple x y)) w := by
 have h : (Op.equalIn 10000 41 (.agg #[.int .i64 x.1, .int .i64 x.2.1, .string x.2.2]) (.agg #[.int .i64 y.1, .int .i64 y.2.1, .string y.2.2])).run Tryd.prog w = .ok (ple x y) w := by
  refine eqA_of (d := 9999) Tryd.underlying41 (by kernel_rfl) ?_
  exact eqf_cons (a := .int .i64 x.1) (b := .int .i64 y.1) rfl (by kernel_rfl) (by kernel_rfl) (run_equalIn_int _ _ _ _ _ _ _ Tryd.underlying3) (eqf_cons (a := .int .i64 x.2.1) (b := .int .i64 y.2.1) rfl (by kernel_rfl) (by kernel_rfl) (run_equalIn_int _ _ _ _ _ _ _ Tryd.underlying2) (eqf_last (a := .string x.2.2) (b := .string y.2.2) rfl (by kernel_rfl) (by kernel_rfl) (run_equalIn_string _ _ _ _ _ Tryd.underlying9)))
 rw [run_eql_struct]
 show ((Op.equalIn 10000 41 _ _).run Tryd.prog w).andThen _ = _
 rw [h]; rfl
theorem valV_1 {v : Pl} (h : v.1 = 1) : valV v = .iface 158 (.bool (decide (v.2.1 = 1))) := if_pos h
theorem valV_2 {v : Pl} (h1 : v.1 ≠ 1) (h : v.1 = 2) : valV v = .iface 159 (.int .i64 v.2.1) := by unfold valV; rw [if_neg h1, if_pos h]
theorem valV_3 {v : Pl} (h1 : v.1 ≠ 1) (h2 : v.1 ≠ 2) (h : v.1 = 3) : valV v = .iface 160 (.string v.2.2) := by unfold valV; rw [if_neg h1, if_neg h2, if_pos h]
theorem valV_0 {v : Pl} (h1 : v.1 ≠ 1) (h2 : v.1 ≠ 2) (h3 : v.1 ≠ 3) : valV v = .iface 162 (.agg #[]) := by unfold valV; rw [if_neg h1, if_neg h2, if_neg h3]
theorem value_any (k n : Int) (t : ByteArray) (w : World) : Calls Tryd.prog 90 #[.agg #[.int .i64 k, .int .i64 n, .string t]] w fun e w' => e = .returned (valV (k, n, t)) ∧ Below w.heap.size w w' := by
 refine RX.enter Tryd.func90 rfl 23 rfl [(0, .agg #[.int .i64 k, .int .i64 n, .string t])] rfl (by kernel_rfl) (fun R_ hR_ => ?_)
 refine sq (rg (xwe 1 [] [(1, pw w.heap.size 0)] (w.alloc (.cells #[.int .i64 k, .int .i64 n, .string t] 41)) [] trivial ?_))
 obtain ⟨w_1, hw_5, hb_2, hk_3, hz_4⟩ := new_world w #[.int .i64 k, .int .i64 n, .string t] 41
 rw [hw_5]
 refine xr0 1 [] [] ?_
 refine nl (sq (sq (rg (xr 2 [(4, .load (.int .i64 k))] [(4, .int .i64 k)] [] [LoadsAs Tryd.prog 3 (⟨w.heap.size, 0, none⟩) (.int .i64 k) w_1] ⟨loads1 rfl (Blk.cell hk_3 0 _ rfl), trivial⟩ ?_))))
 refine nl (bk (sq (X_region ?_)))
 by_cases c_6 : k = 1
 ·refine xr 2 [(6, .eq (.bool true))] [(5, .bool true)] [] [Value.bool (k == 1) = Value.bool true] ⟨congrArg Value.bool (beq_iff_eq.2 (c_6)), trivial⟩ ?_
  refine nl (ct (sq (rg (xe 2 [(8, .load (.int .i64 n))] [(8, .int .i64 n)] [LoadsAs Tryd.prog 2 (⟨w.heap.size, 1, none⟩) (.int .i64 n) w_1] ⟨loads1 rfl (Blk.cell hk_3 1 _ rfl), trivial⟩ ?_))))
  by_cases c_7 : n = 1
  ·refine xe 3 [(9, .eq (.bool true))] [(2, .iface 158 (.bool true))] [Value.bool (n == 1) = Value.bool true] ⟨congrArg Value.bool (beq_iff_eq.2 (c_7)), trivial⟩ ?_
   refine nl (X_ret (rk [.iface 158 (.bool true)] (hR_ _ _ ?_)))
   rw [show valV (k, n, t) = .iface 158 (.bool true) from by unfold valV; simp_all]
   exact ⟨rfl, hb_2⟩
  refine xe 3 [(9, .eq (.bool false))] [(2, .iface 158 (.bool false))] [Value.bool (n == 1) = Value.bool false] ⟨congrArg Value.bool (beq_eq_false_iff_ne.2 (c_7)), trivial⟩ ?_
  refine nl (X_ret (rk [.iface 158 (.bool false)] (hR_ _ _ ?_)))
  rw [show valV (k, n, t) = .iface 158 (.bool false) from by unfold valV; simp_all]
  exact ⟨rfl, hb_2⟩
 refine xr 2 [(6, .eq (.bool false))] [(5, .bool false)] [] [Value.bool (k == 1) = Value.bool false] ⟨congrArg Value.bool (beq_eq_false_iff_ne.2 (c_6)), trivial⟩ ?_
 refine nl (cf (sq (X_region ?_)))
 by_cases c_8 : k = 2
 ·refine xr 2 [(12, .eq (.bool true))] [(11, .bool true)] [5] [Value.bool (k == 2) = Value.bool true] ⟨congrArg Value.bool (beq_iff_eq.2 (c_8)), trivial⟩ ?_
  refine nl (ct (sq (rg (xe 4 [(14, .load (.int .i64 n))] [(2, .iface 159 (.int .i64 n))] [LoadsAs Tryd.prog 2 (⟨w.heap.size, 1, none⟩) (.int .i64 n) w_1] ⟨loads1 rfl (Blk.cell hk_3 1 _ rfl), trivial⟩ ?_))))
  refine nl (X_ret (rk [.iface 159 (.int .i64 n)] (hR_ _ _ ?_)))
  rw [show valV (k, n, t) = .iface 159 (.int .i64 n) from by unfold valV; simp_all]
  exact ⟨rfl, hb_2⟩
 refine xr 2 [(12, .eq (.bool false))] [(11, .bool false)] [5] [Value.bool (k == 2) = Value.bool false] ⟨congrArg Value.bool (beq_eq_false_iff_ne.2 (c_8)), trivial⟩ ?_
 refine nl (cf (sq (X_region ?_)))
 by_cases c_9 : k = 3
 ·refine xr 2 [(17, .eq (.bool true))] [(16, .bool true)] [4, 11] [Value.bool (k == 3) = Value.bool true] ⟨congrArg Value.bool (beq_iff_eq.2 (c_9)), trivial⟩ ?_
  refine nl (ct (sq (rg (xe 4 [(19, .load (.string t))] [(2, .iface 160 (.string t))] [LoadsAs Tryd.prog 9 (⟨w.heap.size, 2, none⟩) (.string t) w_1] ⟨loads1 rfl (Blk.cell hk_3 2 _ rfl), trivial⟩ ?_))))
  refine nl (X_ret (rk [.iface 160 (.string t)] (hR_ _ _ ?_)))
  rw [show valV (k, n, t) = .iface 160 (.string t) from by unfold valV; simp_all]
  exact ⟨rfl, hb_2⟩
 refine xr 2 [(17, .eq (.bool false))] [(16, .bool false)] [4, 11] [Value.bool (k == 3) = Value.bool false] ⟨congrArg Value.bool (beq_eq_false_iff_ne.2 (c_9)), trivial⟩ ?_
 refine nl (cf (sk (sq (rg (xe0 3 [(2, .iface 162 (.agg #[]))] ?_)))))
 refine nl (X_ret (rk [.iface 162 (.agg #[])] (hR_ _ _ ?_)))
 rw [show valV (k, n, t) = .iface 162 (.agg #[]) from by unfold valV; simp_all]
 exact ⟨rfl, hb_2⟩
theorem vof_any (k n : Int) (t : ByteArray) (w : World) (hs : t.size ≤ 9223372036854775807) (hT : Tabs w) (es : List Addr) (hE : ErrsA w es) : Calls Tryd.prog 86 #[.agg #[.int .i64 k, .int .i64 n, .string t]] w fun e w' => e = .returned (.tuple #[if plainErr k n t = 0 then valV (k, n, t) else .nilIface, errV es (plainErr k n t)]) ∧ Below w.heap.size w w' := by
 refine RX.enter Tryd.func86 rfl 12 rfl [(0, .agg #[.int .i64 k, .int .i64 n, .string t])] rfl (by kernel_rfl) (fun R_ hR_ => ?_)
 refine sq (rg (xwe 1 [] [(1, pw w.heap.size 0)] (w.alloc (.cells #[.int .i64 k, .int .i64 n, .string t] 41)) [] trivial ?_))
 obtain ⟨w_1, hw_5, hb_2, hk_3, hz_4⟩ := new_world w #[.int .i64 k, .int .i64 n, .string t] 41
 rw [hw_5]
 refine xr0 2 [] [] ?_
 refine nl (sq (sq (rg (xr 1 [(5, .load (.agg #[.int .i64 k, .int .i64 n, .string t]))] [(5, .agg #[.int .i64 k, .int .i64 n, .string t])] [] [LoadsAs Tryd.prog 41 (⟨w.heap.size, 0, none⟩) (.agg #[.int .i64 k, .int .i64 n, .string t]) w_1] ⟨loadsB rfl rfl hk_3 0 ⟨by kernel_rfl, by kernel_rfl⟩, trivial⟩ ?_))))
 refine xc 51 ent51 [.agg #[.int .i64 k, .int .i64 n, .string t]] (vcheck_any k n t _ (by omega) (hT.below hb_2) es (hE.below hb_2)) ?_
 rintro e w_6 ⟨rfl, hb_7⟩; refine ⟨_, rfl, ?_⟩
 refine xr0 1 [(4, errV es (plainErr k n t))] [5, 6] ?_
 refine nl (sq (rg (xr0 1 [(7, errV es (plainErr k n t))] [] ?_)))
 by_cases c_8 : (plainErr k n t) = 0
 ·rw [show errV es (plainErr k n t) = .nilIface from by rw [c_8]; rfl]
  refine xr0 1 [(4, .nilIface), (8, .bool false)] [7] ?_
  refine nl (cf (sk (sq (rg (xe 1 [(10, .load (.agg #[.int .i64 k, .int .i64 n, .string t]))] [(10, .agg #[.int .i64 k, .int .i64 n, .string t])] [LoadsAs Tryd.prog 41 (⟨w.heap.size, 0, none⟩) (.agg #[.int .i64 k, .int .i64 n, .string t]) w_6] ⟨loadsB rfl rfl (Blk.below hk_3 hb_7) 0 ⟨by kernel_rfl, by kernel_rfl⟩, trivial⟩ ?_)))))
  refine xc 90 ent90 [.agg #[.int .i64 k, .int .i64 n, .string t]] (value_any k n t _) ?_
  rintro e w_9 ⟨rfl, hb_10⟩; refine ⟨_, rfl, ?_⟩
  refine xe0 2 [(2, valV (k, n, t)), (3, .nilIface)] ?_
  refine nl (X_ret (rk [valV (k, n, t), .nilIface] (hR_ _ _ ?_)))
  rw [if_pos c_8, c_8]
  exact ⟨rfl, (bt (bt hb_2 hb_7) hb_10)⟩
 rw [errV_pos es (plainErr k n t) (Nat.pos_of_ne_zero c_8)]
 refine xr0 1 [(4, .iface 164 (.pointer (some (errAt es (plainErr k n t))))), (8, .bool true)] [7] ?_
 refine nl (ct (sq (rg (xe0 3 [(2, .nilIface), (3, .iface 164 (.pointer (some (errAt es (plainErr k n t)))))] ?_))))
 refine nl (X_ret (rk [.nilIface, .iface 164 (.pointer (some (errAt es (plainErr k n t))))] (hR_ _ _ ?_)))
 rw [if_neg c_8, errV_pos es _ (Nat.pos_of_ne_zero c_8)]
 exact ⟨rfl, (bt hb_2 hb_7)⟩
theorem vsame_any (x y : Pl) (w : World) : Calls Tryd.prog 53 #[.agg #[.int .i64 x.1, .int .i64 x.2.1, .string x.2.2], .agg #[.int .i64 y.1, .int .i64 y.2.1, .string y.2.2]] w fun e w' => e = .returned (.bool (decide (x = y))) ∧ Below w.heap.size w w' := by
 refine RX.enter Tryd.func53 rfl 8 rfl [(0, .agg #[.int .i64 x.1, .int .i64 x.2.1, .string x.2.2]), (1, .agg #[.int .i64 y.1, .int .i64 y.2.1, .string y.2.2])] rfl (by kernel_rfl) (fun R_ hR_ => ?_)
 refine sq (rg (xwe 1 [] [(1, .agg #[.int .i64 y.1, .int .i64 y.2.1, .string y.2.2]), (2, pw w.heap.size 0)] (w.alloc (.cells #[.int .i64 x.1, .int .i64 x.2.1, .string x.2.2] 41)) [] trivial ?_))
 obtain ⟨w_1, hw_5, hb_2, hk_3, hz_4⟩ := new_world w #[.int .i64 x.1, .int .i64 x.2.1, .string x.2.2] 41
 rw [hw_5]
 refine xw 1 [] [(3, pw w_1.heap.size 0)] [1] (w_1.alloc (.cells #[.int .i64 y.1, .int .i64 y.2.1, .string y.2.2] 41)) [] trivial ?_
 obtain ⟨w_6, hw_10, hb_7, hk_8, hz_9⟩ := new_world w_1 #[.int .i64 y.1, .int .i64 y.2.1, .string y.2.2] 41
 rw [hw_10]
 refine xr0 1 [] [] ?_
 refine nl (sq (rg (xe 2 [(5, .load (.agg #[.int .i64 x.1, .int .i64 x.2.1, .string x.2.2])), (6, .load (.agg #[.int .i64 y.1, .int .i64 y.2.1, .string y.2.2]))] [(5, .agg #[.int .i64 x.1, .int .i64 x.2.1, .string x.2.2]), (6, .agg #[.int .i64 y.1, .int .i64 y.2.1, .string y.2.2])] [LoadsAs Tryd.prog 41 (⟨w.heap.size, 0, none⟩) (.agg #[.int .i64 x.1, .int .i64 x.2.1, .string x.2.2]) w_6, LoadsAs Tryd.prog 41 (⟨w_1.heap.size, 0, none⟩) (.agg #[.int .i64 y.1, .int .i64 y.2.1, .string y.2.2]) w_6] ⟨loadsB rfl rfl (Blk.below hk_3 hb_7) 0 ⟨by kernel_rfl, by kernel_rfl⟩, loadsB rfl rfl hk_8 0 ⟨by kernel_rfl, by kernel_rfl⟩, trivial⟩ ?_)))
 by_cases c_11 : (x.1, x.2.1, x.2.2) = (y.1, y.2.1, y.2.2)
 ·refine xe 2 [(7, .as (.bool true))] [(4, .bool true)] [RunsAs Tryd.prog [(5, .agg #[.int .i64 x.1, .int .i64 x.2.1, .string x.2.2]), (6, .agg #[.int .i64 y.1, .int .i64 y.2.1, .string y.2.2])] (Go.Op.binOp Go.BinOp.eql 41 (Go.Operand.tmp 5) (Go.Operand.tmp 6) 41) 4 (.bool true) w_6] ⟨runs_bin rfl rfl (run_eqGuard_agg _ _ _ _ _ _ _ (by kernel_rfl)) (by have h := plain_eqb (x.1, x.2.1, x.2.2) (y.1, y.2.1, y.2.2) w_6; rw [show ple (x.1, x.2.1, x.2.2) (y.1, y.2.1, y.2.2) = true from (ple_iff _ _).2 c_11] at h; exact h), trivial⟩ ?_
  refine nl (X_ret (rk [.bool true] (hR_ _ _ ?_)))
  rw [show decide (x = y) = true from decide_eq_true c_11]
  exact ⟨rfl, (bt hb_2 hb_7)⟩
 refine xe 2 [(7, .as (.bool false))] [(4, .bool false)] [RunsAs Tryd.prog [(5, .agg #[.int .i64 x.1, .int .i64 x.2.1, .string x.2.2]), (6, .agg #[.int .i64 y.1, .int .i64 y.2.1, .string y.2.2])] (Go.Op.binOp Go.BinOp.eql 41 (Go.Operand.tmp 5) (Go.Operand.tmp 6) 41) 4 (.bool false) w_6] ⟨runs_bin rfl rfl (run_eqGuard_agg _ _ _ _ _ _ _ (by kernel_rfl)) (by have h := plain_eqb (x.1, x.2.1, x.2.2) (y.1, y.2.1, y.2.2) w_6; rw [show ple (x.1, x.2.1, x.2.2) (y.1, y.2.1, y.2.2) = false from Bool.eq_false_iff.2 (fun k => c_11 ((ple_iff _ _).1 k))] at h; exact h), trivial⟩ ?_
 refine nl (X_ret (rk [.bool false] (hR_ _ _ ?_)))
 rw [show decide (x = y) = false from decide_eq_false c_11]
 exact ⟨rfl, (bt hb_2 hb_7)⟩
theorem opSz.a {o : OpA} (h : opSz o) : ∀ i, i < o.attrs.length → (o.attrs.getD i at0).1.size ≤ 9223372036854775807 ∧ (o.attrs.getD i at0).2.2.2.size ≤ 9223372036854775807 := fun i hi => by have := h.2.2.2 i hi; omega
set_option maxHeartbeats 2000000 in
theorem refuse_any (o : OpA) (A : Option Addr) (c : Nat) (w : World) (hA : kAttr.C w A o.attrs.length o.attrs) (hz : opSz o) (hT : Tabs w) (es : List Addr) (hE : ErrsI w es) : Calls Tryd.prog 83 #[.agg (o7A o (.slice A o.attrs.length c))] w fun e w' => e = .returned (errV es (refuseP o)) ∧ Below w.heap.size w w' := by
 have hz1 := hz.1
 have hz2 := hz.2.1
 refine RX.enter Tryd.func83 rfl 72 rfl [(0, .agg (o7A o (.slice A o.attrs.length c)))] rfl (by kernel_rfl) (fun R_ hR_ => ?_)
 refine sq (rg (xwe 1 [] [(1, pw w.heap.size 0)] (w.alloc (.cells (o7A o (.slice A o.attrs.length c)) 59)) [] trivial ?_))
 obtain ⟨w_1, hw_5, hb_2, hk_3, hz_4⟩ := new_world w (o7A o (.slice A o.attrs.length c)) 59
 rw [hw_5]
 refine xr0 1 [] [] ?_
 refine nl (sq (X_still (by kernel_rfl) (by kernel_rfl) (fun wd_6 hb_7 hh_8 => ?_)))
 refine xse 2 [(9, .load (.int .i64 o.kind))] [(1, .pointer (some ⟨w.heap.size, 0, none⟩)), (9, .int .i64 o.kind)] [LoadsAs Tryd.prog 3 (⟨w.heap.size, 0, none⟩) (.int .i64 o.kind) wd_6] ⟨loads1 rfl (Blk.cell (Blk.below hk_3 hb_7) 0 _ rfl), trivial⟩ ?_
 by_cases c_9 : o.kind = 1
 ·refine xse 3 [(10, .eq (.bool true)), (12, .load (.int .i64 o.kind))] [(1, .pointer (some ⟨w.heap.size, 0, none⟩)), (10, .bool true), (12, .int .i64 o.kind)] [Value.bool (o.kind == 1) = Value.bool true, LoadsAs Tryd.prog 3 (⟨w.heap.size, 0, none⟩) (.int .i64 o.kind) wd_6] ⟨congrArg Value.bool (beq_iff_eq.2 (c_9)), loads1 rfl (Blk.cell (Blk.below hk_3 hb_7) 0 _ rfl), trivial⟩ ?_
  by_cases c_10 : o.kind = 2
  ·refine xse 3 [(13, .eq (.bool true))] [(1, .pointer (some ⟨w.heap.size, 0, none⟩)), (3, .bool true), (4, .bool true)] [Value.bool (o.kind == 2) = Value.bool true] ⟨congrArg Value.bool (beq_iff_eq.2 (c_10)), trivial⟩ ?_
   refine XS_nil ?_
   refine sq (bk (sq (rg (xr0 7 [(14, .bool false)] [] ?_))))
   refine nl (cf (sq (sq (rg (xr 2 [(24, .load (.int .i64 o.count))] [(24, .int .i64 o.count)] [14] [LoadsAs Tryd.prog 3 (⟨w.heap.size, 5, none⟩) (.int .i64 o.count) wd_6] ⟨loads1 rfl (Blk.cell (Blk.below hk_3 hb_7) 5 _ rfl), trivial⟩ ?_)))))
   by_cases c_11 : o.count = 0
   ·refine xr 2 [(25, .eq (.bool false))] [(22, .bool false)] [24] [Value.bool (o.count != 0) = Value.bool false] ⟨congrArg Value.bool (bneF (c_11)), trivial⟩ ?_
    refine nl (cf (rg (xr 4 [(29, .load (.string o.text))] [(27, .bool true), (29, .string o.text)] [3, 22] [LoadsAs Tryd.prog 9 (⟨w.heap.size, 1, none⟩) (.string o.text) wd_6] ⟨loads1 rfl (Blk.cell (Blk.below hk_3 hb_7) 1 _ rfl), trivial⟩ ?_)))
    by_cases c_12 : o.text = (⟨#[]⟩ : ByteArray)
    ·refine xr 9 [(30, .eq (.bool true))] [(22, .bool true)] [27, 29] [Value.bool (o.text.toList == (⟨#[]⟩ : ByteArray).toList) = Value.bool true] ⟨congrArg Value.bool (strEqT (c_12)), trivial⟩ ?_
     refine nl (ct (sq (rg (xe 2 [(38, .load (.iface 164 (.pointer (some (errAt es 9)))))] [(2, .iface 164 (.pointer (some (errAt es 9))))] [LoadsAs Tryd.prog 30 (⟨1, 0, none⟩) (.iface 164 (.pointer (some (errAt es 9)))) wd_6] ⟨loads1 rfl (((bt hb_2 hb_7).cell (World.block_lt_of_cell? _ _ (hE.load 9 1 (by decide) (by decide) rfl))).trans (hE.load 9 1 (by decide) (by decide) rfl)), trivial⟩ ?_))))
     refine nl (X_ret (rk [.iface 164 (.pointer (some (errAt es 9)))] (hR_ _ _ ?_)))
     rw [show refuseP o = 9 from by unfold refuseP; simp_all <;> omega]
     exact ⟨rfl, (bt hb_2 hb_7)⟩
    refine xr 5 [(30, .eq (.bool false)), (33, .load (.agg #[.int .i64 o.vk, .int .i64 o.vn, .string o.vt]))] [(31, .bool false), (33, .agg #[.int .i64 o.vk, .int .i64 o.vn, .string o.vt]), (34, .agg #[.int .i64 0, .int .i64 0, .string ByteArray.empty])] [29] [Value.bool (o.text.toList == (⟨#[]⟩ : ByteArray).toList) = Value.bool false, LoadsAs Tryd.prog 41 (⟨w.heap.size, 2, none⟩) (.agg #[.int .i64 o.vk, .int .i64 o.vn, .string o.vt]) wd_6] ⟨congrArg Value.bool (strEqF (c_12)), loadsB rfl rfl (Blk.below hk_3 hb_7) 2 ⟨by kernel_rfl, by kernel_rfl⟩, trivial⟩ ?_
    by_cases c_13 : (o.vk, o.vn, o.vt) = pl0
    ·refine xe 4 [(35, .as (.bool false))] [(1, pw w.heap.size 0), (4, .bool true), (22, .bool false)] [RunsAs Tryd.prog [(33, .agg #[.int .i64 o.vk, .int .i64 o.vn, .string o.vt]), (34, .agg #[.int .i64 0, .int .i64 0, .string ByteArray.empty])] (Go.Op.binOp Go.BinOp.neq 41 (Go.Operand.tmp 33) (Go.Operand.tmp 34) 41) 4 (.bool false) wd_6] ⟨runs_bin rfl rfl (run_eqGuard_agg _ _ _ _ _ _ _ (by kernel_rfl)) (by have h := plain_neq (o.vk, o.vn, o.vt) pl0 wd_6; rw [show ple (o.vk, o.vn, o.vt) pl0 = true from (ple_iff _ _).2 c_13] at h; exact h), trivial⟩ ?_
     refine nl (cf (sq (rg (xr 9 [(43, .load (.string o.text)), (44, .eq (.bool false)), (47, .load (.string o.text))] [(41, .bool true), (45, .bool false), (48, .int .i64 (o.text.size : Int))] [22] [LoadsAs Tryd.prog 9 (⟨w.heap.size, 1, none⟩) (.string o.text) wd_6, Value.bool (o.text.toList == (⟨#[]⟩ : ByteArray).toList) = Value.bool false, LoadsAs Tryd.prog 9 (⟨w.heap.size, 1, none⟩) (.string o.text) wd_6] ⟨loads1 rfl (Blk.cell (Blk.below hk_3 hb_7) 1 _ rfl), congrArg Value.bool (strEqF (c_12)), loads1 rfl (Blk.cell (Blk.below hk_3 hb_7) 1 _ rfl), trivial⟩ ?_))))
     by_cases c_14 : (o.text.size : Int) > 64
     ·refine xr 4 [(49, .eq (.bool true))] [(39, .bool true)] [41, 45, 48] [Value.bool (decide ((o.text.size : Int) > 64)) = Value.bool true] ⟨congrArg Value.bool (decide_eq_true (c_14)), trivial⟩ ?_
      refine nl (ct (sq (rg (xe 2 [(52, .load (.iface 164 (.pointer (some (errAt es 6)))))] [(2, .iface 164 (.pointer (some (errAt es 6))))] [LoadsAs Tryd.prog 30 (⟨7, 0, none⟩) (.iface 164 (.pointer (some (errAt es 6)))) wd_6] ⟨loads1 rfl (((bt hb_2 hb_7).cell (World.block_lt_of_cell? _ _ (hE.load 6 7 (by decide) (by decide) rfl))).trans (hE.load 6 7 (by decide) (by decide) rfl)), trivial⟩ ?_))))
      refine nl (X_ret (rk [.iface 164 (.pointer (some (errAt es 6)))] (hR_ _ _ ?_)))
      rw [show refuseP o = 6 from by unfold refuseP; simp_all <;> omega]
      exact ⟨rfl, (bt hb_2 hb_7)⟩
     refine xr 4 [(49, .eq (.bool false))] [(39, .bool false)] [41, 45, 48] [Value.bool (decide ((o.text.size : Int) > 64)) = Value.bool false] ⟨congrArg Value.bool (decide_eq_false (c_14)), trivial⟩ ?_
     refine nl (cf (sk (sq (sq (rg (xr 2 [(55, .load (.string o.text))] [(55, .string o.text)] [39] [LoadsAs Tryd.prog 9 (⟨w.heap.size, 1, none⟩) (.string o.text) wd_6] ⟨loads1 rfl (Blk.cell (Blk.below hk_3 hb_7) 1 _ rfl), trivial⟩ ?_))))))
     refine xc 50 ent50 [.string o.text] (scheck_any o.text _ (by omega) (hT.below (bt hb_2 hb_7)) es (hE.a.below (bt hb_2 hb_7))) ?_
     rintro e w_15 ⟨rfl, hb_16⟩; refine ⟨_, rfl, ?_⟩
     refine xr0 5 [(6, errV es (if (uchk o.text).2 then 0 else 1))] [55, 56] ?_
     refine nl (sq (rg (xr0 1 [(59, errV es (if (uchk o.text).2 then 0 else 1))] [6] ?_)))
     by_cases c_17 : (if (uchk o.text).2 then 0 else 1) = 0
     ·rw [show errV es (if (uchk o.text).2 then 0 else 1) = .nilIface from by rw [c_17]; rfl]
      refine xe0 1 [(1, pw w.heap.size 0), (4, .bool true), (60, .bool false)] ?_
      refine nl (cf (sk (sq (sq (rg (xr0 1 [(62, .bool true)] [4, 60] ?_))))))
      refine nl (ct (sq (rg (xr 2 [(64, .load (.agg #[.int .i64 o.vk, .int .i64 o.vn, .string o.vt]))] [(64, .agg #[.int .i64 o.vk, .int .i64 o.vn, .string o.vt])] [62] [LoadsAs Tryd.prog 41 (⟨w.heap.size, 2, none⟩) (.agg #[.int .i64 o.vk, .int .i64 o.vn, .string o.vt]) w_15] ⟨loadsB rfl rfl (Blk.below hk_3 (bt hb_7 hb_16)) 2 ⟨by kernel_rfl, by kernel_rfl⟩, trivial⟩ ?_))))
      refine xc 51 ent51 [.agg #[.int .i64 o.vk, .int .i64 o.vn, .string o.vt]] (vcheck_any o.vk o.vn o.vt _ (by omega) (hT.below (bt (bt hb_2 hb_7) hb_16)) es (hE.a.below (bt (bt hb_2 hb_7) hb_16))) ?_
      rintro e w_18 ⟨rfl, hb_19⟩; refine ⟨_, rfl, ?_⟩
      refine xr0 1 [(7, errV es (plainErr o.vk o.vn o.vt))] [64, 65] ?_
      refine nl (sq (rg (xr0 1 [(66, errV es (plainErr o.vk o.vn o.vt))] [] ?_)))
      by_cases c_20 : (plainErr o.vk o.vn o.vt) = 0
      ·rw [show errV es (plainErr o.vk o.vn o.vt) = .nilIface from by rw [c_20]; rfl]
       refine xr0 1 [(7, .nilIface), (67, .bool false)] [66] ?_
       refine nl (cf (sk (sq (rg (xe 2 [(70, .load (.slice A o.attrs.length c))] [(70, .slice A o.attrs.length c)] [LoadsAs Tryd.prog 42 (⟨w.heap.size, 6, none⟩) (.slice A o.attrs.length c) w_18] ⟨loads1 rfl (Blk.cell (Blk.below hk_3 (bt (bt hb_7 hb_16) hb_19)) 6 _ rfl), trivial⟩ ?_)))))
       refine xc 54 ent54 [.slice A o.attrs.length c, .bool false] (acheck_any _ _ o.attrs false _ (Kd.C_below hA (bt (bt (bt hb_2 hb_7) hb_16) hb_19)) hz.a (hT.below (bt (bt (bt hb_2 hb_7) hb_16) hb_19)) es (hE.a.below (bt (bt (bt hb_2 hb_7) hb_16) hb_19))) ?_
       rintro e w_21 ⟨rfl, hb_22⟩; refine ⟨_, rfl, ?_⟩
       refine xe0 1 [(2, errV es (chkA false o.attrs))] ?_
       refine nl (X_ret (rk [errV es (chkA false o.attrs)] (hR_ _ _ ?_)))
       have hB_23 : Below w.heap.size w w_21 := (bt (bt (bt (bt hb_2 hb_7) hb_16) hb_19) hb_22)
       rw [show refuseP o = (chkA false o.attrs) from by unfold refuseP; simp_all <;> omega]
       exact ⟨rfl, hB_23⟩
      rw [errV_pos es (plainErr o.vk o.vn o.vt) (Nat.pos_of_ne_zero c_20)]
      refine xr0 1 [(7, .iface 164 (.pointer (some (errAt es (plainErr o.vk o.vn o.vt))))), (67, .bool true)] [66] ?_
      refine nl (ct (sq (rg (xe0 2 [(2, .iface 164 (.pointer (some (errAt es (plainErr o.vk o.vn o.vt)))))] ?_))))
      refine nl (X_ret (rk [.iface 164 (.pointer (some (errAt es (plainErr o.vk o.vn o.vt))))] (hR_ _ _ ?_)))
      rw [show refuseP o = (plainErr o.vk o.vn o.vt) from by unfold refuseP; simp_all <;> omega, errV_pos es _ (Nat.pos_of_ne_zero c_20)]
      exact ⟨rfl, (bt (bt (bt hb_2 hb_7) hb_16) hb_19)⟩
     rw [errV_pos es (if (uchk o.text).2 then 0 else 1) (Nat.pos_of_ne_zero c_17)]
     refine xe0 1 [(1, pw w.heap.size 0), (4, .bool true), (60, .bool true)] ?_
     refine nl (ct (sq (rg (xe 2 [(61, .load (.iface 164 (.pointer (some (errAt es 1)))))] [(2, .iface 164 (.pointer (some (errAt es 1))))] [LoadsAs Tryd.prog 30 (⟨2, 0, none⟩) (.iface 164 (.pointer (some (errAt es 1)))) w_15] ⟨loads1 rfl (((bt (bt hb_2 hb_7) hb_16).cell (World.block_lt_of_cell? _ _ (hE.load 1 2 (by decide) (by decide) rfl))).trans (hE.load 1 2 (by decide) (by decide) rfl)), trivial⟩ ?_))))
     refine nl (X_ret (rk [.iface 164 (.pointer (some (errAt es 1)))] (hR_ _ _ ?_)))
     rw [show refuseP o = 1 from by unfold refuseP; simp_all <;> omega]
     exact ⟨rfl, (bt (bt hb_2 hb_7) hb_16)⟩
    refine xe 4 [(35, .as (.bool true))] [(1, pw w.heap.size 0), (4, .bool true), (22, .bool true)] [RunsAs Tryd.prog [(33, .agg #[.int .i64 o.vk, .int .i64 o.vn, .string o.vt]), (34, .agg #[.int .i64 0, .int .i64 0, .string ByteArray.empty])] (Go.Op.binOp Go.BinOp.neq 41 (Go.Operand.tmp 33) (Go.Operand.tmp 34) 41) 4 (.bool true) wd_6] ⟨runs_bin rfl rfl (run_eqGuard_agg _ _ _ _ _ _ _ (by kernel_rfl)) (by have h := plain_neq (o.vk, o.vn, o.vt) pl0 wd_6; rw [show ple (o.vk, o.vn, o.vt) pl0 = false from Bool.eq_false_iff.2 (fun k => c_13 ((ple_iff _ _).1 k))] at h; exact h), trivial⟩ ?_
    refine nl (ct (sq (rg (xe 2 [(38, .load (.iface 164 (.pointer (some (errAt es 9)))))] [(2, .iface 164 (.pointer (some (errAt es 9))))] [LoadsAs Tryd.prog 30 (⟨1, 0, none⟩) (.iface 164 (.pointer (some (errAt es 9)))) wd_6] ⟨loads1 rfl (((bt hb_2 hb_7).cell (World.block_lt_of_cell? _ _ (hE.load 9 1 (by decide) (by decide) rfl))).trans (hE.load 9 1 (by decide) (by decide) rfl)), trivial⟩ ?_))))
    refine nl (X_ret (rk [.iface 164 (.pointer (some (errAt es 9)))] (hR_ _ _ ?_)))
    rw [show refuseP o = 9 from by unfold refuseP; simp_all <;> omega]
    exact ⟨rfl, (bt hb_2 hb_7)⟩
   refine xr 2 [(25, .eq (.bool true))] [(22, .bool true)] [24] [Value.bool (o.count != 0) = Value.bool true] ⟨congrArg Value.bool (bneT (c_11)), trivial⟩ ?_
   refine nl (ct (sk (ct (sq (rg (xe 2 [(38, .load (.iface 164 (.pointer (some (errAt es 9)))))] [(2, .iface 164 (.pointer (some (errAt es 9))))] [LoadsAs Tryd.prog 30 (⟨1, 0, none⟩) (.iface 164 (.pointer (some (errAt es 9)))) wd_6] ⟨loads1 rfl (((bt hb_2 hb_7).cell (World.block_lt_of_cell? _ _ (hE.load 9 1 (by decide) (by decide) rfl))).trans (hE.load 9 1 (by decide) (by decide) rfl)), trivial⟩ ?_))))))
   refine nl (X_ret (rk [.iface 164 (.pointer (some (errAt es 9)))] (hR_ _ _ ?_)))
   rw [show refuseP o = 9 from by unfold refuseP; simp_all <;> omega]
   exact ⟨rfl, (bt hb_2 hb_7)⟩
  refine xse 3 [(13, .eq (.bool false))] [(1, .pointer (some ⟨w.heap.size, 0, none⟩)), (3, .bool true), (4, .bool false)] [Value.bool (o.kind == 2) = Value.bool false] ⟨congrArg Value.bool (beq_eq_false_iff_ne.2 (c_10)), trivial⟩ ?_
  refine XS_nil ?_
  refine sq (bk (sq (rg (xr0 7 [(14, .bool false)] [] ?_))))
  refine nl (cf (sq (sq (rg (xr 2 [(24, .load (.int .i64 o.count))] [(24, .int .i64 o.count)] [14] [LoadsAs Tryd.prog 3 (⟨w.heap.size, 5, none⟩) (.int .i64 o.count) wd_6] ⟨loads1 rfl (Blk.cell (Blk.below hk_3 hb_7) 5 _ rfl), trivial⟩ ?_)))))
  by_cases c_24 : o.count = 0
  ·refine xr 2 [(25, .eq (.bool false))] [(22, .bool false)] [24] [Value.bool (o.count != 0) = Value.bool false] ⟨congrArg Value.bool (bneF (c_24)), trivial⟩ ?_
   refine nl (cf (rg (xr 4 [(29, .load (.string o.text))] [(27, .bool true), (29, .string o.text)] [3, 22] [LoadsAs Tryd.prog 9 (⟨w.heap.size, 1, none⟩) (.string o.text) wd_6] ⟨loads1 rfl (Blk.cell (Blk.below hk_3 hb_7) 1 _ rfl), trivial⟩ ?_)))
   by_cases c_25 : o.text = (⟨#[]⟩ : ByteArray)
   ·refine xr 9 [(30, .eq (.bool true))] [(22, .bool true)] [27, 29] [Value.bool (o.text.toList == (⟨#[]⟩ : ByteArray).toList) = Value.bool true] ⟨congrArg Value.bool (strEqT (c_25)), trivial⟩ ?_
    refine nl (ct (sq (rg (xe 2 [(38, .load (.iface 164 (.pointer (some (errAt es 9)))))] [(2, .iface 164 (.pointer (some (errAt es 9))))] [LoadsAs Tryd.prog 30 (⟨1, 0, none⟩) (.iface 164 (.pointer (some (errAt es 9)))) wd_6] ⟨loads1 rfl (((bt hb_2 hb_7).cell (World.block_lt_of_cell? _ _ (hE.load 9 1 (by decide) (by decide) rfl))).trans (hE.load 9 1 (by decide) (by decide) rfl)), trivial⟩ ?_))))
    refine nl (X_ret (rk [.iface 164 (.pointer (some (errAt es 9)))] (hR_ _ _ ?_)))
    rw [show refuseP o = 9 from by unfold refuseP; simp_all <;> omega]
    exact ⟨rfl, (bt hb_2 hb_7)⟩
   refine xr 5 [(30, .eq (.bool false)), (33, .load (.agg #[.int .i64 o.vk, .int .i64 o.vn, .string o.vt]))] [(31, .bool false), (33, .agg #[.int .i64 o.vk, .int .i64 o.vn, .string o.vt]), (34, .agg #[.int .i64 0, .int .i64 0, .string ByteArray.empty])] [29] [Value.bool (o.text.toList == (⟨#[]⟩ : ByteArray).toList) = Value.bool false, LoadsAs Tryd.prog 41 (⟨w.heap.size, 2, none⟩) (.agg #[.int .i64 o.vk, .int .i64 o.vn, .string o.vt]) wd_6] ⟨congrArg Value.bool (strEqF (c_25)), loadsB rfl rfl (Blk.below hk_3 hb_7) 2 ⟨by kernel_rfl, by kernel_rfl⟩, trivial⟩ ?_
   by_cases c_26 : (o.vk, o.vn, o.vt) = pl0
   ·refine xe 4 [(35, .as (.bool false))] [(1, pw w.heap.size 0), (4, .bool false), (22, .bool false)] [RunsAs Tryd.prog [(33, .agg #[.int .i64 o.vk, .int .i64 o.vn, .string o.vt]), (34, .agg #[.int .i64 0, .int .i64 0, .string ByteArray.empty])] (Go.Op.binOp Go.BinOp.neq 41 (Go.Operand.tmp 33) (Go.Operand.tmp 34) 41) 4 (.bool false) wd_6] ⟨runs_bin rfl rfl (run_eqGuard_agg _ _ _ _ _ _ _ (by kernel_rfl)) (by have h := plain_neq (o.vk, o.vn, o.vt) pl0 wd_6; rw [show ple (o.vk, o.vn, o.vt) pl0 = true from (ple_iff _ _).2 c_26] at h; exact h), trivial⟩ ?_
    refine nl (cf (sq (rg (xr0 13 [(39, .bool false)] [22] ?_))))
    refine nl (cf (sk (sq (sq (rg (xr 2 [(55, .load (.string o.text))] [(55, .string o.text)] [39] [LoadsAs Tryd.prog 9 (⟨w.heap.size, 1, none⟩) (.string o.text) wd_6] ⟨loads1 rfl (Blk.cell (Blk.below hk_3 hb_7) 1 _ rfl), trivial⟩ ?_))))))
    refine xc 50 ent50 [.string o.text] (scheck_any o.text _ (by omega) (hT.below (bt hb_2 hb_7)) es (hE.a.below (bt hb_2 hb_7))) ?_
    rintro e w_27 ⟨rfl, hb_28⟩; refine ⟨_, rfl, ?_⟩
    refine xr0 5 [(6, errV es (if (uchk o.text).2 then 0 else 1))] [55, 56] ?_
    refine nl (sq (rg (xr0 1 [(59, errV es (if (uchk o.text).2 then 0 else 1))] [6] ?_)))
    by_cases c_29 : (if (uchk o.text).2 then 0 else 1) = 0
    ·rw [show errV es (if (uchk o.text).2 then 0 else 1) = .nilIface from by rw [c_29]; rfl]
     refine xr0 1 [(60, .bool false)] [59] ?_
     refine nl (cf (sk (sq (sq (rg (xe0 1 [(1, pw w.heap.size 0), (62, .bool false)] ?_))))))
     refine nl (cf (sk (sq (rg (xe 2 [(70, .load (.slice A o.attrs.length c))] [(70, .slice A o.attrs.length c)] [LoadsAs Tryd.prog 42 (⟨w.heap.size, 6, none⟩) (.slice A o.attrs.length c) w_27] ⟨loads1 rfl (Blk.cell (Blk.below hk_3 (bt hb_7 hb_28)) 6 _ rfl), trivial⟩ ?_)))))
     refine xc 54 ent54 [.slice A o.attrs.length c, .bool false] (acheck_any _ _ o.attrs false _ (Kd.C_below hA (bt (bt hb_2 hb_7) hb_28)) hz.a (hT.below (bt (bt hb_2 hb_7) hb_28)) es (hE.a.below (bt (bt hb_2 hb_7) hb_28))) ?_
     rintro e w_30 ⟨rfl, hb_31⟩; refine ⟨_, rfl, ?_⟩
     refine xe0 1 [(2, errV es (chkA false o.attrs))] ?_
     refine nl (X_ret (rk [errV es (chkA false o.attrs)] (hR_ _ _ ?_)))
     rw [show refuseP o = (chkA false o.attrs) from by unfold refuseP; simp_all <;> omega]
     exact ⟨rfl, (bt (bt (bt hb_2 hb_7) hb_28) hb_31)⟩
    rw [errV_pos es (if (uchk o.text).2 then 0 else 1) (Nat.pos_of_ne_zero c_29)]
    refine xr0 1 [(60, .bool true)] [59] ?_
    refine nl (ct (sq (rg (xe 2 [(61, .load (.iface 164 (.pointer (some (errAt es 1)))))] [(2, .iface 164 (.pointer (some (errAt es 1))))] [LoadsAs Tryd.prog 30 (⟨2, 0, none⟩) (.iface 164 (.pointer (some (errAt es 1)))) w_27] ⟨loads1 rfl (((bt (bt hb_2 hb_7) hb_28).cell (World.block_lt_of_cell? _ _ (hE.load 1 2 (by decide) (by decide) rfl))).trans (hE.load 1 2 (by decide) (by decide) rfl)), trivial⟩ ?_))))
    refine nl (X_ret (rk [.iface 164 (.pointer (some (errAt es 1)))] (hR_ _ _ ?_)))
    rw [show refuseP o = 1 from by unfold refuseP; simp_all <;> omega]
    exact ⟨rfl, (bt (bt hb_2 hb_7) hb_28)⟩
   refine xe 4 [(35, .as (.bool true))] [(1, pw w.heap.size 0), (4, .bool false), (22, .bool true)] [RunsAs Tryd.prog [(33, .agg #[.int .i64 o.vk, .int .i64 o.vn, .string o.vt]), (34, .agg #[.int .i64 0, .int .i64 0, .string ByteArray.empty])] (Go.Op.binOp Go.BinOp.neq 41 (Go.Operand.tmp 33) (Go.Operand.tmp 34) 41) 4 (.bool true) wd_6] ⟨runs_bin rfl rfl (run_eqGuard_agg _ _ _ _ _ _ _ (by kernel_rfl)) (by have h := plain_neq (o.vk, o.vn, o.vt) pl0 wd_6; rw [show ple (o.vk, o.vn, o.vt) pl0 = false from Bool.eq_false_iff.2 (fun k => c_26 ((ple_iff _ _).1 k))] at h; exact h), trivial⟩ ?_
   refine nl (ct (sq (rg (xe 2 [(38, .load (.iface 164 (.pointer (some (errAt es 9)))))] [(2, .iface 164 (.pointer (some (errAt es 9))))] [LoadsAs Tryd.prog 30 (⟨1, 0, none⟩) (.iface 164 (.pointer (some (errAt es 9)))) wd_6] ⟨loads1 rfl (((bt hb_2 hb_7).cell (World.block_lt_of_cell? _ _ (hE.load 9 1 (by decide) (by decide) rfl))).trans (hE.load 9 1 (by decide) (by decide) rfl)), trivial⟩ ?_))))
   refine nl (X_ret (rk [.iface 164 (.pointer (some (errAt es 9)))] (hR_ _ _ ?_)))
   rw [show refuseP o = 9 from by unfold refuseP; simp_all <;> omega]
   exact ⟨rfl, (bt hb_2 hb_7)⟩
  refine xr 2 [(25, .eq (.bool true))] [(22, .bool true)] [24] [Value.bool (o.count != 0) = Value.bool true] ⟨congrArg Value.bool (bneT (c_24)), trivial⟩ ?_
  refine nl (ct (sk (ct (sq (rg (xe 2 [(38, .load (.iface 164 (.pointer (some (errAt es 9)))))] [(2, .iface 164 (.pointer (some (errAt es 9))))] [LoadsAs Tryd.prog 30 (⟨1, 0, none⟩) (.iface 164 (.pointer (some (errAt es 9)))) wd_6] ⟨loads1 rfl (((bt hb_2 hb_7).cell (World.block_lt_of_cell? _ _ (hE.load 9 1 (by decide) (by decide) rfl))).trans (hE.load 9 1 (by decide) (by decide) rfl)), trivial⟩ ?_))))))
  refine nl (X_ret (rk [.iface 164 (.pointer (some (errAt es 9)))] (hR_ _ _ ?_)))
  rw [show refuseP o = 9 from by unfold refuseP; simp_all <;> omega]
  exact ⟨rfl, (bt hb_2 hb_7)⟩
 refine xse 3 [(10, .eq (.bool false)), (12, .load (.int .i64 o.kind))] [(1, .pointer (some ⟨w.heap.size, 0, none⟩)), (10, .bool false), (12, .int .i64 o.kind)] [Value.bool (o.kind == 1) = Value.bool false, LoadsAs Tryd.prog 3 (⟨w.heap.size, 0, none⟩) (.int .i64 o.kind) wd_6] ⟨congrArg Value.bool (beq_eq_false_iff_ne.2 (c_9)), loads1 rfl (Blk.cell (Blk.below hk_3 hb_7) 0 _ rfl), trivial⟩ ?_
 by_cases c_32 : o.kind = 2
 ·refine xse 3 [(13, .eq (.bool true))] [(1, .pointer (some ⟨w.heap.size, 0, none⟩)), (3, .bool false), (4, .bool true)] [Value.bool (o.kind == 2) = Value.bool true] ⟨congrArg Value.bool (beq_iff_eq.2 (c_32)), trivial⟩ ?_
  refine XS_nil ?_
  refine sq (bk (sq (rg (xr0 7 [(14, .bool false)] [] ?_))))
  refine nl (cf (sq (sq (rg (xr 2 [(24, .load (.int .i64 o.count))] [(24, .int .i64 o.count)] [14] [LoadsAs Tryd.prog 3 (⟨w.heap.size, 5, none⟩) (.int .i64 o.count) wd_6] ⟨loads1 rfl (Blk.cell (Blk.below hk_3 hb_7) 5 _ rfl), trivial⟩ ?_)))))
  by_cases c_33 : o.count = 0
  ·refine xr 2 [(25, .eq (.bool false))] [(22, .bool false)] [24] [Value.bool (o.count != 0) = Value.bool false] ⟨congrArg Value.bool (bneF (c_33)), trivial⟩ ?_
   refine nl (cf (rg (xr0 13 [] [3] ?_)))
   refine nl (cf (sq (rg (xr 4 [(43, .load (.string o.text))] [(41, .bool true), (43, .string o.text)] [22] [LoadsAs Tryd.prog 9 (⟨w.heap.size, 1, none⟩) (.string o.text) wd_6] ⟨loads1 rfl (Blk.cell (Blk.below hk_3 hb_7) 1 _ rfl), trivial⟩ ?_))))
   by_cases c_34 : o.text = (⟨#[]⟩ : ByteArray)
   ·refine xe 9 [(44, .eq (.bool true))] [(1, pw w.heap.size 0), (4, .bool true), (39, .bool true)] [Value.bool (o.text.toList == (⟨#[]⟩ : ByteArray).toList) = Value.bool true] ⟨congrArg Value.bool (strEqT (c_34)), trivial⟩ ?_
    refine nl (ct (sq (rg (xe 2 [(52, .load (.iface 164 (.pointer (some (errAt es 6)))))] [(2, .iface 164 (.pointer (some (errAt es 6))))] [LoadsAs Tryd.prog 30 (⟨7, 0, none⟩) (.iface 164 (.pointer (some (errAt es 6)))) wd_6] ⟨loads1 rfl (((bt hb_2 hb_7).cell (World.block_lt_of_cell? _ _ (hE.load 6 7 (by decide) (by decide) rfl))).trans (hE.load 6 7 (by decide) (by decide) rfl)), trivial⟩ ?_))))
    refine nl (X_ret (rk [.iface 164 (.pointer (some (errAt es 6)))] (hR_ _ _ ?_)))
    rw [show refuseP o = 6 from by unfold refuseP; simp_all <;> omega]
    exact ⟨rfl, (bt hb_2 hb_7)⟩
   refine xe 5 [(44, .eq (.bool false)), (47, .load (.string o.text))] [(1, pw w.heap.size 0), (4, .bool true), (41, .bool true), (45, .bool false), (48, .int .i64 (o.text.size : Int))] [Value.bool (o.text.toList == (⟨#[]⟩ : ByteArray).toList) = Value.bool false, LoadsAs Tryd.prog 9 (⟨w.heap.size, 1, none⟩) (.string o.text) wd_6] ⟨congrArg Value.bool (strEqF (c_34)), loads1 rfl (Blk.cell (Blk.below hk_3 hb_7) 1 _ rfl), trivial⟩ ?_
   by_cases c_35 : (o.text.size : Int) > 64
   ·refine xr 4 [(49, .eq (.bool true))] [(39, .bool true)] [41, 45, 48] [Value.bool (decide ((o.text.size : Int) > 64)) = Value.bool true] ⟨congrArg Value.bool (decide_eq_true (c_35)), trivial⟩ ?_
    refine nl (ct (sq (rg (xe 2 [(52, .load (.iface 164 (.pointer (some (errAt es 6)))))] [(2, .iface 164 (.pointer (some (errAt es 6))))] [LoadsAs Tryd.prog 30 (⟨7, 0, none⟩) (.iface 164 (.pointer (some (errAt es 6)))) wd_6] ⟨loads1 rfl (((bt hb_2 hb_7).cell (World.block_lt_of_cell? _ _ (hE.load 6 7 (by decide) (by decide) rfl))).trans (hE.load 6 7 (by decide) (by decide) rfl)), trivial⟩ ?_))))
    refine nl (X_ret (rk [.iface 164 (.pointer (some (errAt es 6)))] (hR_ _ _ ?_)))
    rw [show refuseP o = 6 from by unfold refuseP; simp_all <;> omega]
    exact ⟨rfl, (bt hb_2 hb_7)⟩
   refine xr 4 [(49, .eq (.bool false))] [(39, .bool false)] [41, 45, 48] [Value.bool (decide ((o.text.size : Int) > 64)) = Value.bool false] ⟨congrArg Value.bool (decide_eq_false (c_35)), trivial⟩ ?_
   refine nl (cf (sk (sq (sq (rg (xr 2 [(55, .load (.string o.text))] [(55, .string o.text)] [39] [LoadsAs Tryd.prog 9 (⟨w.heap.size, 1, none⟩) (.string o.text) wd_6] ⟨loads1 rfl (Blk.cell (Blk.below hk_3 hb_7) 1 _ rfl), trivial⟩ ?_))))))
   refine xc 50 ent50 [.string o.text] (scheck_any o.text _ (by omega) (hT.below (bt hb_2 hb_7)) es (hE.a.below (bt hb_2 hb_7))) ?_
   rintro e w_36 ⟨rfl, hb_37⟩; refine ⟨_, rfl, ?_⟩
   refine xr0 5 [(6, errV es (if (uchk o.text).2 then 0 else 1))] [55, 56] ?_
   refine nl (sq (rg (xr0 1 [(59, errV es (if (uchk o.text).2 then 0 else 1))] [6] ?_)))
   by_cases c_38 : (if (uchk o.text).2 then 0 else 1) = 0
   ·rw [show errV es (if (uchk o.text).2 then 0 else 1) = .nilIface from by rw [c_38]; rfl]
    refine xr0 1 [(60, .bool false)] [59] ?_
    refine nl (cf (sk (sq (sq (rg (xe0 1 [(1, pw w.heap.size 0), (62, .bool true)] ?_))))))
    refine nl (ct (sq (rg (xr 2 [(64, .load (.agg #[.int .i64 o.vk, .int .i64 o.vn, .string o.vt]))] [(64, .agg #[.int .i64 o.vk, .int .i64 o.vn, .string o.vt])] [62] [LoadsAs Tryd.prog 41 (⟨w.heap.size, 2, none⟩) (.agg #[.int .i64 o.vk, .int .i64 o.vn, .string o.vt]) w_36] ⟨loadsB rfl rfl (Blk.below hk_3 (bt hb_7 hb_37)) 2 ⟨by kernel_rfl, by kernel_rfl⟩, trivial⟩ ?_))))
    refine xc 51 ent51 [.agg #[.int .i64 o.vk, .int .i64 o.vn, .string o.vt]] (vcheck_any o.vk o.vn o.vt _ (by omega) (hT.below (bt (bt hb_2 hb_7) hb_37)) es (hE.a.below (bt (bt hb_2 hb_7) hb_37))) ?_
    rintro e w_39 ⟨rfl, hb_40⟩; refine ⟨_, rfl, ?_⟩
    refine xr0 1 [(7, errV es (plainErr o.vk o.vn o.vt))] [64, 65] ?_
    refine nl (sq (rg (xr0 1 [(66, errV es (plainErr o.vk o.vn o.vt))] [] ?_)))
    by_cases c_41 : (plainErr o.vk o.vn o.vt) = 0
    ·rw [show errV es (plainErr o.vk o.vn o.vt) = .nilIface from by rw [c_41]; rfl]
     refine xr0 1 [(7, .nilIface), (67, .bool false)] [66] ?_
     refine nl (cf (sk (sq (rg (xe 2 [(70, .load (.slice A o.attrs.length c))] [(70, .slice A o.attrs.length c)] [LoadsAs Tryd.prog 42 (⟨w.heap.size, 6, none⟩) (.slice A o.attrs.length c) w_39] ⟨loads1 rfl (Blk.cell (Blk.below hk_3 (bt (bt hb_7 hb_37) hb_40)) 6 _ rfl), trivial⟩ ?_)))))
     refine xc 54 ent54 [.slice A o.attrs.length c, .bool false] (acheck_any _ _ o.attrs false _ (Kd.C_below hA (bt (bt (bt hb_2 hb_7) hb_37) hb_40)) hz.a (hT.below (bt (bt (bt hb_2 hb_7) hb_37) hb_40)) es (hE.a.below (bt (bt (bt hb_2 hb_7) hb_37) hb_40))) ?_
     rintro e w_42 ⟨rfl, hb_43⟩; refine ⟨_, rfl, ?_⟩
     refine xe0 1 [(2, errV es (chkA false o.attrs))] ?_
     refine nl (X_ret (rk [errV es (chkA false o.attrs)] (hR_ _ _ ?_)))
     have hB_44 : Below w.heap.size w w_42 := (bt (bt (bt (bt hb_2 hb_7) hb_37) hb_40) hb_43)
     rw [show refuseP o = (chkA false o.attrs) from by unfold refuseP; simp_all <;> omega]
     exact ⟨rfl, hB_44⟩
    rw [errV_pos es (plainErr o.vk o.vn o.vt) (Nat.pos_of_ne_zero c_41)]
    refine xr0 1 [(7, .iface 164 (.pointer (some (errAt es (plainErr o.vk o.vn o.vt))))), (67, .bool true)] [66] ?_
    refine nl (ct (sq (rg (xe0 2 [(2, .iface 164 (.pointer (some (errAt es (plainErr o.vk o.vn o.vt)))))] ?_))))
    refine nl (X_ret (rk [.iface 164 (.pointer (some (errAt es (plainErr o.vk o.vn o.vt))))] (hR_ _ _ ?_)))
    rw [show refuseP o = (plainErr o.vk o.vn o.vt) from by unfold refuseP; simp_all <;> omega, errV_pos es _ (Nat.pos_of_ne_zero c_41)]
    exact ⟨rfl, (bt (bt (bt hb_2 hb_7) hb_37) hb_40)⟩
   rw [errV_pos es (if (uchk o.text).2 then 0 else 1) (Nat.pos_of_ne_zero c_38)]
   refine xr0 1 [(60, .bool true)] [59] ?_
   refine nl (ct (sq (rg (xe 2 [(61, .load (.iface 164 (.pointer (some (errAt es 1)))))] [(2, .iface 164 (.pointer (some (errAt es 1))))] [LoadsAs Tryd.prog 30 (⟨2, 0, none⟩) (.iface 164 (.pointer (some (errAt es 1)))) w_36] ⟨loads1 rfl (((bt (bt hb_2 hb_7) hb_37).cell (World.block_lt_of_cell? _ _ (hE.load 1 2 (by decide) (by decide) rfl))).trans (hE.load 1 2 (by decide) (by decide) rfl)), trivial⟩ ?_))))
   refine nl (X_ret (rk [.iface 164 (.pointer (some (errAt es 1)))] (hR_ _ _ ?_)))
   rw [show refuseP o = 1 from by unfold refuseP; simp_all <;> omega]
   exact ⟨rfl, (bt (bt hb_2 hb_7) hb_37)⟩
  refine xr 2 [(25, .eq (.bool true))] [(22, .bool true)] [24] [Value.bool (o.count != 0) = Value.bool true] ⟨congrArg Value.bool (bneT (c_33)), trivial⟩ ?_
  refine nl (ct (sk (ct (sq (rg (xe 2 [(38, .load (.iface 164 (.pointer (some (errAt es 9)))))] [(2, .iface 164 (.pointer (some (errAt es 9))))] [LoadsAs Tryd.prog 30 (⟨1, 0, none⟩) (.iface 164 (.pointer (some (errAt es 9)))) wd_6] ⟨loads1 rfl (((bt hb_2 hb_7).cell (World.block_lt_of_cell? _ _ (hE.load 9 1 (by decide) (by decide) rfl))).trans (hE.load 9 1 (by decide) (by decide) rfl)), trivial⟩ ?_))))))
  refine nl (X_ret (rk [.iface 164 (.pointer (some (errAt es 9)))] (hR_ _ _ ?_)))
  rw [show refuseP o = 9 from by unfold refuseP; simp_all <;> omega]
  exact ⟨rfl, (bt hb_2 hb_7)⟩
 refine xse 3 [(13, .eq (.bool false))] [(1, .pointer (some ⟨w.heap.size, 0, none⟩)), (3, .bool false), (4, .bool false)] [Value.bool (o.kind == 2) = Value.bool false] ⟨congrArg Value.bool (beq_eq_false_iff_ne.2 (c_32)), trivial⟩ ?_
 refine XS_nil ?_
 refine sq (bk (sq (rg (xr0 7 [(14, .bool true)] [] ?_))))
 refine nl (ct (sq (rg (xe 2 [(21, .load (.iface 164 (.pointer (some (errAt es 5)))))] [(2, .iface 164 (.pointer (some (errAt es 5))))] [LoadsAs Tryd.prog 30 (⟨6, 0, none⟩) (.iface 164 (.pointer (some (errAt es 5)))) wd_6] ⟨loads1 rfl (((bt hb_2 hb_7).cell (World.block_lt_of_cell? _ _ (hE.load 5 6 (by decide) (by decide) rfl))).trans (hE.load 5 6 (by decide) (by decide) rfl)), trivial⟩ ?_))))
 refine nl (X_ret (rk [.iface 164 (.pointer (some (errAt es 5)))] (hR_ _ _ ?_)))
 rw [show refuseP o = 5 from by unfold refuseP; simp_all <;> omega]
 exact ⟨rfl, (bt hb_2 hb_7)⟩
theorem copied_any (A : Option Addr) (c : Nat) (xs : List At) (w : World) (hx : kAttr.C w A xs.length xs) (hn : xs.length ≤ 100000000) : Calls Tryd.prog 84 #[.slice A xs.length c] w fun e w' => ∃ A' c', e = .returned (.slice A' xs.length c') ∧ xs.length ≤ c' ∧ kAttr.R 93 w' w.heap.size (OkFrom w.heap.size) (.slice A' xs.length c') xs ∧ Below w.heap.size w w' := by
 have hpl : xs.length ≤ 9223372036854775807 := hx.2.1
 refine RX.enter Tryd.func84 rfl 5 rfl [(0, .slice A xs.length c)] rfl (by kernel_rfl) (fun R_ hR_ => ?_)
 refine sq (rg (xe0 1 [(0, .slice A xs.length c)] ?_))
 refine nl (sq (rg (xe0 1 [(3, .slice A xs.length c)] ?_)))
 refine XL_appendAll (c' := c) kAttr rfl rfl rfl w.heap.size 93 (.agg #[.string ByteArray.empty, .int .i64 0, .int .i64 0, .string ByteArray.empty]) 48 Tryd.underlying42 info93 rfl (by decide) (by omega) ([]) xs (by kernel_rfl) (Kd.R_nil kAttr 93 _ w.heap.size (OkFrom w.heap.size)) hx kAttr_KM (Nat.le_refl _) (by first | omega | (simp; omega)) ?_
 intro A_1 c_2 w_3 hr_4 hc_5 hg_6 hl_7 ha_8
 have he_9 : ([] ++ xs) = xs := List.nil_append _
 rw [he_9] at hr_4 ⊢
 refine xe0 1 [(2, .slice A_1 xs.length c_2)] ?_
 refine nl (X_ret (rk [.slice A_1 xs.length c_2] (hR_ _ _ ?_)))
 have hB_10 : Below w.heap.size w w_3 := (bgo (Below.refl _ _) hg_6 hl_7 (Nat.le_refl _))
 exact ⟨_, _, rfl, (RX.Kd.R_len hr_4).2, Kd.R_low hr_4 (Nat.le_refl _), hB_10⟩
theorem clone_any (A : Option Addr) (c : Nat) (xs : List At) (w : World) (hx : kAttr.C w A xs.length xs) (hn : xs.length ≤ 100000000) : Calls Tryd.prog 47 #[.slice A xs.length c] w fun e w' => ∃ A' c', e = .returned (.slice A' xs.length c') ∧ xs.length ≤ c' ∧ kAttr.R 93 w' w.heap.size (OkFrom w.heap.size) (.slice A' xs.length c') xs ∧ Below w.heap.size w w' := by
 have hpl : xs.length ≤ 9223372036854775807 := hx.2.1
 refine RX.enter Tryd.func47 rfl 8 rfl [(0, .slice A xs.length c)] rfl (by kernel_rfl) (fun R_ hR_ => ?_)
 refine sq (rg (xe0 1 [(0, .slice A xs.length c)] ?_))
 refine nl (sq (sq (rg (xr0 1 [(3, .slice A xs.length c)] [] ?_))))
 by_cases c_1 : A = none
 ·refine xr 1 [(4, .as (.bool true))] [(4, .bool true)] [3] [RunsAs Tryd.prog [(3, .slice A xs.length c)] (Go.Op.binOp Go.BinOp.eql 42 (Go.Operand.tmp 3) (Go.Operand.const (Go.Value.slice none 0 0)) 42) 4 (.bool true) w] ⟨runs_bin rfl rfl rfl (by have h_ := Lib.run_eql_slice_nil (P := Tryd.prog) w 42 93 A xs.length c 0 0 Tryd.underlying42; rw [show A.isNone = true from by rw [c_1]; rfl] at h_; exact h_), trivial⟩ ?_
  refine nl (ct (sq (rg (xe0 1 [(2, .slice none 0 0)] ?_))))
  refine nl (X_ret (rk [.slice none 0 0] (hR_ _ _ ?_)))
  obtain rfl : xs = [] := List.length_eq_zero_iff.1 (by have h_ := hx.2.2; rcases Nat.eq_zero_or_pos xs.length with h1_ | h1_; (· exact h1_); (· obtain ⟨ad, e_, _⟩ := h_ h1_; rw [c_1] at e_; cases e_))
  exact ⟨none, 0, rfl, Nat.le_refl _, Kd.R_nil _ _ _ _ _, (Below.refl _ _)⟩
 refine xr 1 [(4, .as (.bool false))] [(4, .bool false)] [3] [RunsAs Tryd.prog [(3, .slice A xs.length c)] (Go.Op.binOp Go.BinOp.eql 42 (Go.Operand.tmp 3) (Go.Operand.const (Go.Value.slice none 0 0)) 42) 4 (.bool false) w] ⟨runs_bin rfl rfl rfl (by have h_ := Lib.run_eql_slice_nil (P := Tryd.prog) w 42 93 A xs.length c 0 0 Tryd.underlying42; rw [show A.isNone = false from by cases hA_ : A with | none => exact absurd hA_ c_1 | some _ => rfl] at h_; exact h_), trivial⟩ ?_
 refine nl (cf (sk (sq (rg (xw 1 [] [(5, .slice (some ⟨w.heap.size, 0, none⟩) 0 0)] [4] (w.alloc (.cells #[] 93)) [] trivial ?_)))))
 obtain ⟨w_2, hw_6, hb_3, hk_4, hz_5⟩ := new_world w #[] 93
 rw [hw_6]
 refine xr0 1 [(6, .slice A xs.length c)] [0] ?_
 have hr_7 := Kd.R_litB kAttr (W := w) (e := 93) (cs := #[]) [] hk_4 (repsAttr []) (Nat.le_of_ble_eq_true (by kernel_rfl))
 refine XL_appendAll (c' := c) kAttr rfl rfl rfl w.heap.size 93 (.agg #[.string ByteArray.empty, .int .i64 0, .int .i64 0, .string ByteArray.empty]) 48 Tryd.underlying42 info93 rfl (by decide) (by omega) ([]) xs (by kernel_rfl) hr_7 (Kd.C_below hx hb_3) kAttr_KM (hb_3).size (by first | omega | (simp; omega)) ?_
 intro A_8 c_9 w_10 hr_11 hc_12 hg_13 hl_14 ha_15
 have he_16 : ([] ++ xs) = xs := List.nil_append _
 rw [he_16] at hr_11 ⊢
 refine xe0 1 [(2, .slice A_8 xs.length c_9)] ?_
 refine nl (X_ret (rk [.slice A_8 xs.length c_9] (hR_ _ _ ?_)))
 exact ⟨_, _, rfl, (RX.Kd.R_len hr_11).2, Kd.R_low hr_11 (Nat.le_refl _), (bgo hb_3 hg_13 hl_14 (Nat.le_refl _))⟩
theorem kAttrs_R {w W w0 : World} {A : Option Addr} {n c : Nat} {xs : List At} (h : kAttr.R 93 w W.heap.size (OkFrom W.heap.size) (.slice A n c) xs) (hb : w0.heap.size ≤ W.heap.size) : kAttrs.M w w0.heap.size (OkFrom w0.heap.size) xs [.slice A n c] := ⟨_, rfl, Kd.R_low h hb⟩
theorem refuse_kind {o : OpA} (h : refuseP o = 0) : o.kind = 1 ∨ o.kind = 2 := by
 unfold refuseP at h
 by_cases h1 : o.kind ≠ 1 ∧ o.kind ≠ 2
 ·rw [if_pos h1] at h; cases h
 omega
theorem refuse_utf {o : OpA} (h : refuseP o = 0) : U.utf o.text ∧ (o.kind = 2 → plainErr o.vk o.vn o.vt = 0) ∧ chkA false o.attrs = 0 := by
 unfold refuseP at h
 split at h
 ·cases h
 split at h
 ·cases h
 split at h
 ·cases h
 split at h
 ·cases h
 split at h
 ·cases h
 rename_i h1
 have hu : U.utf o.text := by rw [U.uchk_eq] at h1; unfold U.utf; simpa using h1
 split at h
 ·rename_i h2; exact absurd h h2.2
 rename_i h2; exact ⟨hu, fun hk => Classical.byContradiction fun h3 => h2 ⟨hk, h3⟩, h⟩
set_option maxHeartbeats 2000000 in
theorem cof_any (o : OpA) (A : Option Addr) (c : Nat) (w : World) (hA : kAttr.C w A o.attrs.length o.attrs) (hz : opSz o) (hT : Tabs w) (es : List Addr) (hE : ErrsI w es) : Calls Tryd.prog 79 #[.agg (o7A o (.slice A o.attrs.length c))] w fun e w' => ∃ v, e = .returned (.tuple #[v, errV es (refuseP o)]) ∧ (refuseP o = 0 → kPiece.M w' w.heap.size (OkFrom w.heap.size) (pOf o) [v]) ∧ (refuseP o ≠ 0 → v = .nilIface) ∧ Below w.heap.size w w' := by
 have hz1 := hz.1
 have hz2 := hz.2.1
 have hz3 := hz.2.2.1
 refine RX.enter Tryd.func79 rfl 52 rfl [(0, .agg (o7A o (.slice A o.attrs.length c)))] rfl (by kernel_rfl) (fun R_ hR_ => ?_)
 refine sq (rg (xwe 1 [] [(1, pw w.heap.size 0)] (w.alloc (.cells (o7A o (.slice A o.attrs.length c)) 59)) [] trivial ?_))
 obtain ⟨w_1, hw_5, hb_2, hk_3, hz_4⟩ := new_world w (o7A o (.slice A o.attrs.length c)) 59
 rw [hw_5]
 refine xr0 2 [] [] ?_
 refine nl (sq (sq (rg (xr 1 [(10, .load (.agg (o7A o (.slice A o.attrs.length c))))] [(10, .agg (o7A o (.slice A o.attrs.length c)))] [] [LoadsAs Tryd.prog 59 (⟨w.heap.size, 0, none⟩) (.agg (o7A o (.slice A o.attrs.length c))) w_1] ⟨loadsB rfl rfl hk_3 0 ⟨by kernel_rfl, by kernel_rfl⟩, trivial⟩ ?_))))
 refine xc 83 ent83 [.agg (o7A o (.slice A o.attrs.length c))] (refuse_any o _ _ _ (Kd.C_below hA hb_2) hz (hT.below hb_2) es (hE.below hb_2)) ?_
 rintro e w_6 ⟨rfl, hb_7⟩; refine ⟨_, rfl, ?_⟩
 refine xr0 1 [(4, errV es (refuseP o))] [10, 11] ?_
 refine nl (sq (rg (xr0 1 [(12, errV es (refuseP o))] [] ?_)))
 by_cases c_8 : (refuseP o) = 0
 ·rw [show errV es (refuseP o) = .nilIface from by rw [c_8]; rfl]
  refine xr0 1 [(4, .nilIface), (13, .bool false)] [12] ?_
  refine nl (cf (sk (sq (rg (xe 2 [(16, .load (.slice A o.attrs.length c))] [(1, pw w.heap.size 0), (16, .slice A o.attrs.length c)] [LoadsAs Tryd.prog 42 (⟨w.heap.size, 6, none⟩) (.slice A o.attrs.length c) w_6] ⟨loads1 rfl (Blk.cell (Blk.below hk_3 hb_7) 6 _ rfl), trivial⟩ ?_)))))
  refine xc 84 ent84 [.slice A o.attrs.length c] (copied_any _ _ o.attrs _ (Kd.C_below hA (bt hb_2 hb_7)) (by omega)) ?_
  rintro e w_11 ⟨A_9, c_10, rfl, hl_13, hr_14, hb_12⟩; refine ⟨_, rfl, ?_⟩
  refine xw 2 [] [(5, pw w_11.heap.size 0), (18, .agg #[.slice A_9 o.attrs.length c_10])] [16, 17] (w_11.alloc (.cells #[.slice none 0 0] 99)) [] trivial ?_
  obtain ⟨w_15, hw_19, hb_16, hk_17, hz_18⟩ := new_world w_11 #[.slice none 0 0] 99
  rw [hw_19]
  refine xst (.agg #[.slice A_9 o.attrs.length c_10]) hk_17 0 #[.slice A_9 o.attrs.length c_10] (fun w_20 hg_21 hk_22 hz_23 => ?_)
  refine nl (sq (sq (X_region ?_)))
  have hB_24 : Below w_1.heap.size w_1 w_20 := (bg (bt (bt hb_7 hb_12) hb_16) hg_21 ((bt hb_7 hb_12)).size)
  refine xr 2 [(20, .load (.int .i64 o.kind))] [(20, .int .i64 o.kind)] [18] [LoadsAs Tryd.prog 3 (⟨w.heap.size, 0, none⟩) (.int .i64 o.kind) w_20] ⟨loads1 rfl (Blk.cell (Blk.below hk_3 hB_24) 0 _ rfl), trivial⟩ ?_
  by_cases c_25 : o.kind = 1
  ·refine xr 1 [(21, .eq (.bool true))] [(21, .bool true)] [20] [Value.bool (o.kind == 1) = Value.bool true] ⟨congrArg Value.bool (beq_iff_eq.2 (c_25)), trivial⟩ ?_
   refine nl (ct (sq (rg (xr 2 [(24, .load (.string o.text))] [(24, .string o.text)] [21] [LoadsAs Tryd.prog 9 (⟨w.heap.size, 1, none⟩) (.string o.text) w_20] ⟨loads1 rfl (Blk.cell (Blk.below hk_3 hB_24) 1 _ rfl), trivial⟩ ?_))))
   have hB_26 : Below w.heap.size w w_20 := (bg (bt (bt (bt hb_2 hb_7) hb_12) hb_16) hg_21 ((bt (bt hb_2 hb_7) hb_12)).size)
   refine xc 85 ent85 [.string o.text] (len_any o.text _ (by omega) (hT.below hB_26) es (hE.a.below hB_26)) ?_
   rintro e w_27 ⟨rfl, hb_28⟩; refine ⟨_, rfl, ?_⟩
   rw [show U.lenP o.text = ((U.sc o.text).length, 0) from if_pos (refuse_utf c_8).1]
   refine xr0 5 [(6, .int .i64 ((U.sc o.text).length : Int)), (7, .nilIface)] [24, 25] ?_
   refine nl (sq (sq (rg (xe0 2 [(1, pw w.heap.size 0), (5, pw w_11.heap.size 0), (6, .int .i64 ((U.sc o.text).length : Int)), (29, .bool false)] ?_))))
   refine nl (cf (sk (sq (rg (xe 8 [(31, .load (.agg #[.slice A_9 o.attrs.length c_10])), (33, .load (.string o.text))] [(2, .iface 139 (.agg #[.slice A_9 o.attrs.length c_10, .string o.text, .int .i64 ((U.sc o.text).length : Int)])), (3, .nilIface)] [LoadsAs Tryd.prog 99 (⟨w_11.heap.size, 0, none⟩) (.agg #[.slice A_9 o.attrs.length c_10]) w_27, LoadsAs Tryd.prog 9 (⟨w.heap.size, 1, none⟩) (.string o.text) w_27] ⟨loadsB rfl rfl (Blk.below hk_22 hb_28) 0 ⟨by kernel_rfl, by kernel_rfl⟩, loads1 rfl (Blk.cell (Blk.below hk_3 (bt hB_24 hb_28)) 1 _ rfl), trivial⟩ ?_)))))
   refine nl (X_ret (rk [.iface 139 (.agg #[.slice A_9 o.attrs.length c_10, .string o.text, .int .i64 ((U.sc o.text).length : Int)]), .nilIface] (hR_ _ _ ?_)))
   have hB_29 : Below w_11.heap.size w_11 w_27 := (bt (bg hb_16 hg_21 (Nat.le_refl _)) hb_28)
   have hp0 : refuseP o = 0 := c_8
   have hkk : o.kind = 1 := c_25
   rw [hp0, pOf_ins hkk]
   exact ⟨_, rfl, fun _ => kPiece_Mins ⟨_, rfl, Kd.R_low (Kd.R_below hr_14 hB_29) ((bt hb_2 hb_7)).size⟩, fun h_ => absurd rfl h_, (bt hB_26 hb_28)⟩
  refine xr 1 [(21, .eq (.bool false))] [(21, .bool false)] [20] [Value.bool (o.kind == 1) = Value.bool false] ⟨congrArg Value.bool (beq_eq_false_iff_ne.2 (c_25)), trivial⟩ ?_
  refine nl (cf (sk (sq (rg (xr 2 [(39, .load (.agg #[.int .i64 o.vk, .int .i64 o.vn, .string o.vt]))] [(39, .agg #[.int .i64 o.vk, .int .i64 o.vn, .string o.vt])] [21] [LoadsAs Tryd.prog 41 (⟨w.heap.size, 2, none⟩) (.agg #[.int .i64 o.vk, .int .i64 o.vn, .string o.vt]) w_20] ⟨loadsB rfl rfl (Blk.below hk_3 hB_24) 2 ⟨by kernel_rfl, by kernel_rfl⟩, trivial⟩ ?_)))))
  have hB_30 : Below w.heap.size w w_20 := (bg (bt (bt (bt hb_2 hb_7) hb_12) hb_16) hg_21 ((bt (bt hb_2 hb_7) hb_12)).size)
  refine xc 86 ent86 [.agg #[.int .i64 o.vk, .int .i64 o.vn, .string o.vt]] (vof_any o.vk o.vn o.vt _ (by omega) (hT.below hB_30) es (hE.a.below hB_30)) ?_
  rintro e w_31 ⟨rfl, hb_32⟩; refine ⟨_, rfl, ?_⟩
  have hk2 : o.kind = 2 := by have h_ := refuse_kind c_8; omega
  rw [if_pos ((refuse_utf c_8).2.1 hk2), (refuse_utf c_8).2.1 hk2]
  refine xr0 5 [(8, valV (o.vk, o.vn, o.vt)), (9, .nilIface)] [39, 40] ?_
  refine nl (sq (sq (rg (xe0 2 [(1, pw w.heap.size 0), (5, pw w_11.heap.size 0), (8, valV (o.vk, o.vn, o.vt)), (9, .nilIface), (44, .bool false)] ?_))))
  refine nl (cf (sk (sq (X_region ?_))))
  by_cases c_33 : o.vk = 1
  ·rw [valV_1 (v := (o.vk, o.vn, o.vt)) c_33]
   refine xe 8 [(46, .load (.agg #[.slice A_9 o.attrs.length c_10])), (48, .load (.string o.text))] [(2, .iface 143 (.agg #[.slice A_9 o.attrs.length c_10, .string o.text, .iface 158 (.bool (decide (o.vn = 1)))])), (3, .nilIface)] [LoadsAs Tryd.prog 99 (⟨w_11.heap.size, 0, none⟩) (.agg #[.slice A_9 o.attrs.length c_10]) w_31, LoadsAs Tryd.prog 9 (⟨w.heap.size, 1, none⟩) (.string o.text) w_31] ⟨loadsB rfl rfl (Blk.below hk_22 hb_32) 0 ⟨by kernel_rfl, by kernel_rfl⟩, loads1 rfl (Blk.cell (Blk.below hk_3 (bt hB_24 hb_32)) 1 _ rfl), trivial⟩ ?_
   refine nl (X_ret (rk [.iface 143 (.agg #[.slice A_9 o.attrs.length c_10, .string o.text, .iface 158 (.bool (decide (o.vn = 1)))]), .nilIface] (hR_ _ _ ?_)))
   have hB_34 : Below w_11.heap.size w_11 w_31 := (bt (bg hb_16 hg_21 (Nat.le_refl _)) hb_32)
   have hp0 : refuseP o = 0 := c_8
   have hkk : o.kind = 2 := hk2
   rw [hp0, pOf_emb hkk]
   exact ⟨_, rfl, fun _ => (by have h_ := kPiece_Memb (k := o.text) (v := (o.vk, o.vn, o.vt)) (kAttrs_R (Kd.R_below hr_14 hB_34) ((bt hb_2 hb_7)).size); rw [valV_1 (v := (o.vk, o.vn, o.vt)) c_33] at h_; exact h_), fun h_ => absurd rfl h_, (bt hB_30 hb_32)⟩
  by_cases c_35 : o.vk = 2
  ·rw [valV_2 (v := (o.vk, o.vn, o.vt)) c_33 c_35]
   refine xe 8 [(46, .load (.agg #[.slice A_9 o.attrs.length c_10])), (48, .load (.string o.text))] [(2, .iface 143 (.agg #[.slice A_9 o.attrs.length c_10, .string o.text, .iface 159 (.int .i64 o.vn)])), (3, .nilIface)] [LoadsAs Tryd.prog 99 (⟨w_11.heap.size, 0, none⟩) (.agg #[.slice A_9 o.attrs.length c_10]) w_31, LoadsAs Tryd.prog 9 (⟨w.heap.size, 1, none⟩) (.string o.text) w_31] ⟨loadsB rfl rfl (Blk.below hk_22 hb_32) 0 ⟨by kernel_rfl, by kernel_rfl⟩, loads1 rfl (Blk.cell (Blk.below hk_3 (bt hB_24 hb_32)) 1 _ rfl), trivial⟩ ?_
   refine nl (X_ret (rk [.iface 143 (.agg #[.slice A_9 o.attrs.length c_10, .string o.text, .iface 159 (.int .i64 o.vn)]), .nilIface] (hR_ _ _ ?_)))
   have hB_36 : Below w_11.heap.size w_11 w_31 := (bt (bg hb_16 hg_21 (Nat.le_refl _)) hb_32)
   have hp0 : refuseP o = 0 := c_8
   have hkk : o.kind = 2 := hk2
   rw [hp0, pOf_emb hkk]
   exact ⟨_, rfl, fun _ => (by have h_ := kPiece_Memb (k := o.text) (v := (o.vk, o.vn, o.vt)) (kAttrs_R (Kd.R_below hr_14 hB_36) ((bt hb_2 hb_7)).size); rw [valV_2 (v := (o.vk, o.vn, o.vt)) c_33 c_35] at h_; exact h_), fun h_ => absurd rfl h_, (bt hB_30 hb_32)⟩
  by_cases c_37 : o.vk = 3
  ·rw [valV_3 (v := (o.vk, o.vn, o.vt)) c_33 c_35 c_37]
   refine xe 8 [(46, .load (.agg #[.slice A_9 o.attrs.length c_10])), (48, .load (.string o.text))] [(2, .iface 143 (.agg #[.slice A_9 o.attrs.length c_10, .string o.text, .iface 160 (.string o.vt)])), (3, .nilIface)] [LoadsAs Tryd.prog 99 (⟨w_11.heap.size, 0, none⟩) (.agg #[.slice A_9 o.attrs.length c_10]) w_31, LoadsAs Tryd.prog 9 (⟨w.heap.size, 1, none⟩) (.string o.text) w_31] ⟨loadsB rfl rfl (Blk.below hk_22 hb_32) 0 ⟨by kernel_rfl, by kernel_rfl⟩, loads1 rfl (Blk.cell (Blk.below hk_3 (bt hB_24 hb_32)) 1 _ rfl), trivial⟩ ?_
   refine nl (X_ret (rk [.iface 143 (.agg #[.slice A_9 o.attrs.length c_10, .string o.text, .iface 160 (.string o.vt)]), .nilIface] (hR_ _ _ ?_)))
   have hB_38 : Below w_11.heap.size w_11 w_31 := (bt (bg hb_16 hg_21 (Nat.le_refl _)) hb_32)
   have hp0 : refuseP o = 0 := c_8
   have hkk : o.kind = 2 := hk2
   rw [hp0, pOf_emb hkk]
   exact ⟨_, rfl, fun _ => (by have h_ := kPiece_Memb (k := o.text) (v := (o.vk, o.vn, o.vt)) (kAttrs_R (Kd.R_below hr_14 hB_38) ((bt hb_2 hb_7)).size); rw [valV_3 (v := (o.vk, o.vn, o.vt)) c_33 c_35 c_37] at h_; exact h_), fun h_ => absurd rfl h_, (bt hB_30 hb_32)⟩
  rw [valV_0 (v := (o.vk, o.vn, o.vt)) c_33 c_35 c_37]
  refine xe 8 [(46, .load (.agg #[.slice A_9 o.attrs.length c_10])), (48, .load (.string o.text))] [(2, .iface 143 (.agg #[.slice A_9 o.attrs.length c_10, .string o.text, .iface 162 (.agg #[])])), (3, .nilIface)] [LoadsAs Tryd.prog 99 (⟨w_11.heap.size, 0, none⟩) (.agg #[.slice A_9 o.attrs.length c_10]) w_31, LoadsAs Tryd.prog 9 (⟨w.heap.size, 1, none⟩) (.string o.text) w_31] ⟨loadsB rfl rfl (Blk.below hk_22 hb_32) 0 ⟨by kernel_rfl, by kernel_rfl⟩, loads1 rfl (Blk.cell (Blk.below hk_3 (bt hB_24 hb_32)) 1 _ rfl), trivial⟩ ?_
  refine nl (X_ret (rk [.iface 143 (.agg #[.slice A_9 o.attrs.length c_10, .string o.text, .iface 162 (.agg #[])]), .nilIface] (hR_ _ _ ?_)))
  have hB_39 : Below w_11.heap.size w_11 w_31 := (bt (bg hb_16 hg_21 (Nat.le_refl _)) hb_32)
  have hp0 : refuseP o = 0 := c_8
  have hkk : o.kind = 2 := hk2
  rw [hp0, pOf_emb hkk]
  exact ⟨_, rfl, fun _ => (by have h_ := kPiece_Memb (k := o.text) (v := (o.vk, o.vn, o.vt)) (kAttrs_R (Kd.R_below hr_14 hB_39) ((bt hb_2 hb_7)).size); rw [valV_0 (v := (o.vk, o.vn, o.vt)) c_33 c_35 c_37] at h_; exact h_), fun h_ => absurd rfl h_, (bt hB_30 hb_32)⟩
 rw [errV_pos es (refuseP o) (Nat.pos_of_ne_zero c_8)]
 refine xr0 1 [(4, .iface 164 (.pointer (some (errAt es (refuseP o))))), (13, .bool true)] [12] ?_
 refine nl (ct (sq (rg (xe0 3 [(2, .nilIface), (3, .iface 164 (.pointer (some (errAt es (refuseP o)))))] ?_))))
 refine nl (X_ret (rk [.nilIface, .iface 164 (.pointer (some (errAt es (refuseP o))))] (hR_ _ _ ?_)))
 rw [← errV_pos es (refuseP o) (Nat.pos_of_ne_zero c_8)]
 exact ⟨_, rfl, fun h_ => absurd h_ c_8, fun _ => rfl, (bt hb_2 hb_7)⟩
set_option maxHeartbeats 2000000 in
theorem has_anyO (o : OpA) (A : Option Addr) (c : Nat) (w : World) (hA : kAttr.C w A o.attrs.length o.attrs) (hz : opSz o) : Calls Tryd.prog 82 #[.agg (o7A o (.slice A o.attrs.length c))] w fun e w' => e = .returned (.bool (hasP o)) ∧ Below w.heap.size w w' := by
 refine RX.enter Tryd.func82 rfl 45 rfl [(0, .agg (o7A o (.slice A o.attrs.length c)))] rfl (by kernel_rfl) (fun R_ hR_ => ?_)
 refine sq (rg (xwe 1 [] [(1, pw w.heap.size 0)] (w.alloc (.cells (o7A o (.slice A o.attrs.length c)) 59)) [] trivial ?_))
 obtain ⟨w_1, hw_5, hb_2, hk_3, hz_4⟩ := new_world w (o7A o (.slice A o.attrs.length c)) 59
 rw [hw_5]
 refine xr0 1 [] [] ?_
 refine nl (sq (X_still (by kernel_rfl) (by kernel_rfl) (fun wd_6 hb_7 hh_8 => ?_)))
 refine xse 3 [(6, .load (.agg #[.int .i64 o.vk, .int .i64 o.vn, .string o.vt]))] [(1, .pointer (some ⟨w.heap.size, 0, none⟩)), (6, .agg #[.int .i64 o.vk, .int .i64 o.vn, .string o.vt]), (7, .agg #[.int .i64 0, .int .i64 0, .string ByteArray.empty])] [LoadsAs Tryd.prog 41 (⟨w.heap.size, 2, none⟩) (.agg #[.int .i64 o.vk, .int .i64 o.vn, .string o.vt]) wd_6] ⟨loadsB rfl rfl (Blk.below hk_3 hb_7) 2 ⟨by kernel_rfl, by kernel_rfl⟩, trivial⟩ ?_
 by_cases c_9 : (o.vk, o.vn, o.vt) = pl0
 ·refine xse 3 [(8, .as (.bool true)), (10, .load (.int .i64 o.count))] [(1, .pointer (some ⟨w.heap.size, 0, none⟩)), (8, .bool true), (10, .int .i64 o.count)] [RunsAs Tryd.prog [(6, .agg #[.int .i64 o.vk, .int .i64 o.vn, .string o.vt]), (7, .agg #[.int .i64 0, .int .i64 0, .string ByteArray.empty])] (Go.Op.binOp Go.BinOp.eql 41 (Go.Operand.tmp 6) (Go.Operand.tmp 7) 41) 4 (.bool true) wd_6, LoadsAs Tryd.prog 3 (⟨w.heap.size, 5, none⟩) (.int .i64 o.count) wd_6] ⟨runs_bin rfl rfl (run_eqGuard_agg _ _ _ _ _ _ _ (by kernel_rfl)) (by have h := plain_eqb (o.vk, o.vn, o.vt) pl0 wd_6; rw [show ple (o.vk, o.vn, o.vt) pl0 = true from (ple_iff _ _).2 c_9] at h; exact h), loads1 rfl (Blk.cell (Blk.below hk_3 hb_7) 5 _ rfl), trivial⟩ ?_
  by_cases c_10 : o.count = 0
  ·refine xse 3 [(11, .eq (.bool true))] [(1, .pointer (some ⟨w.heap.size, 0, none⟩)), (3, .bool true), (4, .bool true)] [Value.bool (o.count == 0) = Value.bool true] ⟨congrArg Value.bool (beq_iff_eq.2 (c_10)), trivial⟩ ?_
   refine XS_nil ?_
   refine sq (sq (rg (xr 2 [(13, .load (.int .i64 o.kind))] [(13, .int .i64 o.kind)] [] [LoadsAs Tryd.prog 3 (⟨w.heap.size, 0, none⟩) (.int .i64 o.kind) wd_6] ⟨loads1 rfl (Blk.cell (Blk.below hk_3 hb_7) 0 _ rfl), trivial⟩ ?_)))
   refine nl (bk (sq (X_region ?_)))
   by_cases c_11 : o.kind = 1
   ·refine xr 2 [(15, .eq (.bool true))] [(14, .bool true)] [] [Value.bool (o.kind == 1) = Value.bool true] ⟨congrArg Value.bool (beq_iff_eq.2 (c_11)), trivial⟩ ?_
    refine nl (ct (sq (rg (xe0 5 [(2, .bool true)] ?_))))
    refine nl (X_ret (rk [.bool true] (hR_ _ _ ?_)))
    rw [show hasP o = true from by unfold hasP; simp_all]
    exact ⟨rfl, (bt hb_2 hb_7)⟩
   refine xr 2 [(15, .eq (.bool false))] [(14, .bool false)] [] [Value.bool (o.kind == 1) = Value.bool false] ⟨congrArg Value.bool (beq_eq_false_iff_ne.2 (c_11)), trivial⟩ ?_
   refine nl (cf (sq (X_region ?_)))
   by_cases c_12 : o.kind = 2
   ·refine xr 2 [(21, .eq (.bool true))] [(20, .bool true)] [14] [Value.bool (o.kind == 2) = Value.bool true] ⟨congrArg Value.bool (beq_iff_eq.2 (c_12)), trivial⟩ ?_
    refine nl (ct (sq (rg (xe0 2 [(2, .bool true)] ?_))))
    refine nl (X_ret (rk [.bool true] (hR_ _ _ ?_)))
    rw [show hasP o = true from by unfold hasP; simp_all]
    exact ⟨rfl, (bt hb_2 hb_7)⟩
   refine xr 2 [(21, .eq (.bool false))] [(20, .bool false)] [14] [Value.bool (o.kind == 2) = Value.bool false] ⟨congrArg Value.bool (beq_eq_false_iff_ne.2 (c_12)), trivial⟩ ?_
   refine nl (cf (sq (X_region ?_)))
   by_cases c_13 : o.kind = 3
   ·refine xr 2 [(24, .eq (.bool true))] [(23, .bool true)] [4, 20] [Value.bool (o.kind == 3) = Value.bool true] ⟨congrArg Value.bool (beq_iff_eq.2 (c_13)), trivial⟩ ?_
    refine nl (ct (sq (rg (xe 4 [(28, .load (.string o.text))] [(26, .bool true), (28, .string o.text)] [LoadsAs Tryd.prog 9 (⟨w.heap.size, 1, none⟩) (.string o.text) wd_6] ⟨loads1 rfl (Blk.cell (Blk.below hk_3 hb_7) 1 _ rfl), trivial⟩ ?_))))
    by_cases c_14 : o.text = (⟨#[]⟩ : ByteArray)
    ·refine xe 3 [(29, .eq (.bool true))] [(2, .bool true)] [Value.bool (o.text.toList == (⟨#[]⟩ : ByteArray).toList) = Value.bool true] ⟨congrArg Value.bool (strEqT (c_14)), trivial⟩ ?_
     refine nl (X_ret (rk [.bool true] (hR_ _ _ ?_)))
     rw [show hasP o = true from by unfold hasP; simp_all]
     exact ⟨rfl, (bt hb_2 hb_7)⟩
    refine xe 3 [(29, .eq (.bool false))] [(2, .bool false)] [Value.bool (o.text.toList == (⟨#[]⟩ : ByteArray).toList) = Value.bool false] ⟨congrArg Value.bool (strEqF (c_14)), trivial⟩ ?_
    refine nl (X_ret (rk [.bool false] (hR_ _ _ ?_)))
    rw [show hasP o = false from by unfold hasP; simp_all]
    exact ⟨rfl, (bt hb_2 hb_7)⟩
   refine xr 2 [(24, .eq (.bool false))] [(23, .bool false)] [4, 20] [Value.bool (o.kind == 3) = Value.bool false] ⟨congrArg Value.bool (beq_eq_false_iff_ne.2 (c_13)), trivial⟩ ?_
   refine nl (cf (sq (X_region ?_)))
   by_cases c_15 : o.kind = 4
   ·refine xr 2 [(32, .eq (.bool true))] [(31, .bool true)] [13, 23] [Value.bool (o.kind == 4) = Value.bool true] ⟨congrArg Value.bool (beq_iff_eq.2 (c_15)), trivial⟩ ?_
    refine nl (ct (sq (rg (xe 4 [(36, .load (.string o.text))] [(1, pw w.heap.size 0), (34, .bool true), (36, .string o.text)] [LoadsAs Tryd.prog 9 (⟨w.heap.size, 1, none⟩) (.string o.text) wd_6] ⟨loads1 rfl (Blk.cell (Blk.below hk_3 hb_7) 1 _ rfl), trivial⟩ ?_))))
    by_cases c_16 : o.text = (⟨#[]⟩ : ByteArray)
    ·refine xe 6 [(37, .eq (.bool true)), (41, .load (.slice A o.attrs.length c))] [(39, .bool true), (42, .int .i64 (o.attrs.length : Int))] [Value.bool (o.text.toList == (⟨#[]⟩ : ByteArray).toList) = Value.bool true, LoadsAs Tryd.prog 42 (⟨w.heap.size, 6, none⟩) (.slice A o.attrs.length c) wd_6] ⟨congrArg Value.bool (strEqT (c_16)), loads1 rfl (Blk.cell (Blk.below hk_3 hb_7) 6 _ rfl), trivial⟩ ?_
     by_cases c_17 : (o.attrs.length : Int) = 0
     ·refine xe 3 [(43, .eq (.bool true))] [(2, .bool true)] [Value.bool ((o.attrs.length : Int) == 0) = Value.bool true] ⟨congrArg Value.bool (beq_iff_eq.2 (c_17)), trivial⟩ ?_
      refine nl (X_ret (rk [.bool true] (hR_ _ _ ?_)))
      rw [show hasP o = true from by unfold hasP; simp_all]
      exact ⟨rfl, (bt hb_2 hb_7)⟩
     refine xe 3 [(43, .eq (.bool false))] [(2, .bool false)] [Value.bool ((o.attrs.length : Int) == 0) = Value.bool false] ⟨congrArg Value.bool (beq_eq_false_iff_ne.2 (c_17)), trivial⟩ ?_
     refine nl (X_ret (rk [.bool false] (hR_ _ _ ?_)))
     rw [show hasP o = false from by unfold hasP; simp_all]
     exact ⟨rfl, (bt hb_2 hb_7)⟩
    refine xe 9 [(37, .eq (.bool false))] [(2, .bool false)] [Value.bool (o.text.toList == (⟨#[]⟩ : ByteArray).toList) = Value.bool false] ⟨congrArg Value.bool (strEqF (c_16)), trivial⟩ ?_
    refine nl (X_ret (rk [.bool false] (hR_ _ _ ?_)))
    rw [show hasP o = false from by unfold hasP; simp_all]
    exact ⟨rfl, (bt hb_2 hb_7)⟩
   refine xr 2 [(32, .eq (.bool false))] [(31, .bool false)] [13, 23] [Value.bool (o.kind == 4) = Value.bool false] ⟨congrArg Value.bool (beq_eq_false_iff_ne.2 (c_15)), trivial⟩ ?_
   refine nl (cf (sk (sq (rg (xe0 1 [(2, .bool false)] ?_)))))
   refine nl (X_ret (rk [.bool false] (hR_ _ _ ?_)))
   rw [show hasP o = false from by unfold hasP; simp_all]
   exact ⟨rfl, (bt hb_2 hb_7)⟩
  refine xse 3 [(11, .eq (.bool false))] [(1, .pointer (some ⟨w.heap.size, 0, none⟩)), (3, .bool true), (4, .bool false)] [Value.bool (o.count == 0) = Value.bool false] ⟨congrArg Value.bool (beq_eq_false_iff_ne.2 (c_10)), trivial⟩ ?_
  refine XS_nil ?_
  refine sq (sq (rg (xr 2 [(13, .load (.int .i64 o.kind))] [(13, .int .i64 o.kind)] [] [LoadsAs Tryd.prog 3 (⟨w.heap.size, 0, none⟩) (.int .i64 o.kind) wd_6] ⟨loads1 rfl (Blk.cell (Blk.below hk_3 hb_7) 0 _ rfl), trivial⟩ ?_)))
  refine nl (bk (sq (X_region ?_)))
  by_cases c_18 : o.kind = 1
  ·refine xr 2 [(15, .eq (.bool true))] [(14, .bool true)] [] [Value.bool (o.kind == 1) = Value.bool true] ⟨congrArg Value.bool (beq_iff_eq.2 (c_18)), trivial⟩ ?_
   refine nl (ct (sq (rg (xe0 5 [(2, .bool false)] ?_))))
   refine nl (X_ret (rk [.bool false] (hR_ _ _ ?_)))
   rw [show hasP o = false from by unfold hasP; simp_all]
   exact ⟨rfl, (bt hb_2 hb_7)⟩
  refine xr 2 [(15, .eq (.bool false))] [(14, .bool false)] [] [Value.bool (o.kind == 1) = Value.bool false] ⟨congrArg Value.bool (beq_eq_false_iff_ne.2 (c_18)), trivial⟩ ?_
  refine nl (cf (sq (X_region ?_)))
  by_cases c_19 : o.kind = 2
  ·refine xr 2 [(21, .eq (.bool true))] [(20, .bool true)] [14] [Value.bool (o.kind == 2) = Value.bool true] ⟨congrArg Value.bool (beq_iff_eq.2 (c_19)), trivial⟩ ?_
   refine nl (ct (sq (rg (xe0 2 [(2, .bool false)] ?_))))
   refine nl (X_ret (rk [.bool false] (hR_ _ _ ?_)))
   rw [show hasP o = false from by unfold hasP; simp_all]
   exact ⟨rfl, (bt hb_2 hb_7)⟩
  refine xr 2 [(21, .eq (.bool false))] [(20, .bool false)] [14] [Value.bool (o.kind == 2) = Value.bool false] ⟨congrArg Value.bool (beq_eq_false_iff_ne.2 (c_19)), trivial⟩ ?_
  refine nl (cf (sq (X_region ?_)))
  by_cases c_20 : o.kind = 3
  ·refine xr 2 [(24, .eq (.bool true))] [(23, .bool true)] [4, 20] [Value.bool (o.kind == 3) = Value.bool true] ⟨congrArg Value.bool (beq_iff_eq.2 (c_20)), trivial⟩ ?_
   refine nl (ct (sq (rg (xe 4 [(28, .load (.string o.text))] [(26, .bool true), (28, .string o.text)] [LoadsAs Tryd.prog 9 (⟨w.heap.size, 1, none⟩) (.string o.text) wd_6] ⟨loads1 rfl (Blk.cell (Blk.below hk_3 hb_7) 1 _ rfl), trivial⟩ ?_))))
   by_cases c_21 : o.text = (⟨#[]⟩ : ByteArray)
   ·refine xe 3 [(29, .eq (.bool true))] [(2, .bool true)] [Value.bool (o.text.toList == (⟨#[]⟩ : ByteArray).toList) = Value.bool true] ⟨congrArg Value.bool (strEqT (c_21)), trivial⟩ ?_
    refine nl (X_ret (rk [.bool true] (hR_ _ _ ?_)))
    rw [show hasP o = true from by unfold hasP; simp_all]
    exact ⟨rfl, (bt hb_2 hb_7)⟩
   refine xe 3 [(29, .eq (.bool false))] [(2, .bool false)] [Value.bool (o.text.toList == (⟨#[]⟩ : ByteArray).toList) = Value.bool false] ⟨congrArg Value.bool (strEqF (c_21)), trivial⟩ ?_
   refine nl (X_ret (rk [.bool false] (hR_ _ _ ?_)))
   rw [show hasP o = false from by unfold hasP; simp_all]
   exact ⟨rfl, (bt hb_2 hb_7)⟩
  refine xr 2 [(24, .eq (.bool false))] [(23, .bool false)] [4, 20] [Value.bool (o.kind == 3) = Value.bool false] ⟨congrArg Value.bool (beq_eq_false_iff_ne.2 (c_20)), trivial⟩ ?_
  refine nl (cf (sq (X_region ?_)))
  by_cases c_22 : o.kind = 4
  ·refine xr 2 [(32, .eq (.bool true))] [(31, .bool true)] [13, 23] [Value.bool (o.kind == 4) = Value.bool true] ⟨congrArg Value.bool (beq_iff_eq.2 (c_22)), trivial⟩ ?_
   refine nl (ct (sq (rg (xe 4 [(36, .load (.string o.text))] [(1, pw w.heap.size 0), (34, .bool true), (36, .string o.text)] [LoadsAs Tryd.prog 9 (⟨w.heap.size, 1, none⟩) (.string o.text) wd_6] ⟨loads1 rfl (Blk.cell (Blk.below hk_3 hb_7) 1 _ rfl), trivial⟩ ?_))))
   by_cases c_23 : o.text = (⟨#[]⟩ : ByteArray)
   ·refine xe 6 [(37, .eq (.bool true)), (41, .load (.slice A o.attrs.length c))] [(39, .bool true), (42, .int .i64 (o.attrs.length : Int))] [Value.bool (o.text.toList == (⟨#[]⟩ : ByteArray).toList) = Value.bool true, LoadsAs Tryd.prog 42 (⟨w.heap.size, 6, none⟩) (.slice A o.attrs.length c) wd_6] ⟨congrArg Value.bool (strEqT (c_23)), loads1 rfl (Blk.cell (Blk.below hk_3 hb_7) 6 _ rfl), trivial⟩ ?_
    by_cases c_24 : (o.attrs.length : Int) = 0
    ·refine xe 3 [(43, .eq (.bool true))] [(2, .bool true)] [Value.bool ((o.attrs.length : Int) == 0) = Value.bool true] ⟨congrArg Value.bool (beq_iff_eq.2 (c_24)), trivial⟩ ?_
     refine nl (X_ret (rk [.bool true] (hR_ _ _ ?_)))
     rw [show hasP o = true from by unfold hasP; simp_all]
     exact ⟨rfl, (bt hb_2 hb_7)⟩
    refine xe 3 [(43, .eq (.bool false))] [(2, .bool false)] [Value.bool ((o.attrs.length : Int) == 0) = Value.bool false] ⟨congrArg Value.bool (beq_eq_false_iff_ne.2 (c_24)), trivial⟩ ?_
    refine nl (X_ret (rk [.bool false] (hR_ _ _ ?_)))
    rw [show hasP o = false from by unfold hasP; simp_all]
    exact ⟨rfl, (bt hb_2 hb_7)⟩
   refine xe 9 [(37, .eq (.bool false))] [(2, .bool false)] [Value.bool (o.text.toList == (⟨#[]⟩ : ByteArray).toList) = Value.bool false] ⟨congrArg Value.bool (strEqF (c_23)), trivial⟩ ?_
   refine nl (X_ret (rk [.bool false] (hR_ _ _ ?_)))
   rw [show hasP o = false from by unfold hasP; simp_all]
   exact ⟨rfl, (bt hb_2 hb_7)⟩
  refine xr 2 [(32, .eq (.bool false))] [(31, .bool false)] [13, 23] [Value.bool (o.kind == 4) = Value.bool false] ⟨congrArg Value.bool (beq_eq_false_iff_ne.2 (c_22)), trivial⟩ ?_
  refine nl (cf (sk (sq (rg (xe0 1 [(2, .bool false)] ?_)))))
  refine nl (X_ret (rk [.bool false] (hR_ _ _ ?_)))
  rw [show hasP o = false from by unfold hasP; simp_all]
  exact ⟨rfl, (bt hb_2 hb_7)⟩
 refine xse 3 [(8, .as (.bool false)), (10, .load (.int .i64 o.count))] [(1, .pointer (some ⟨w.heap.size, 0, none⟩)), (8, .bool false), (10, .int .i64 o.count)] [RunsAs Tryd.prog [(6, .agg #[.int .i64 o.vk, .int .i64 o.vn, .string o.vt]), (7, .agg #[.int .i64 0, .int .i64 0, .string ByteArray.empty])] (Go.Op.binOp Go.BinOp.eql 41 (Go.Operand.tmp 6) (Go.Operand.tmp 7) 41) 4 (.bool false) wd_6, LoadsAs Tryd.prog 3 (⟨w.heap.size, 5, none⟩) (.int .i64 o.count) wd_6] ⟨runs_bin rfl rfl (run_eqGuard_agg _ _ _ _ _ _ _ (by kernel_rfl)) (by have h := plain_eqb (o.vk, o.vn, o.vt) pl0 wd_6; rw [show ple (o.vk, o.vn, o.vt) pl0 = false from Bool.eq_false_iff.2 (fun k => c_9 ((ple_iff _ _).1 k))] at h; exact h), loads1 rfl (Blk.cell (Blk.below hk_3 hb_7) 5 _ rfl), trivial⟩ ?_
 by_cases c_25 : o.count = 0
 ·refine xse 3 [(11, .eq (.bool true))] [(1, .pointer (some ⟨w.heap.size, 0, none⟩)), (3, .bool false), (4, .bool true)] [Value.bool (o.count == 0) = Value.bool true] ⟨congrArg Value.bool (beq_iff_eq.2 (c_25)), trivial⟩ ?_
  refine XS_nil ?_
  refine sq (sq (rg (xr 2 [(13, .load (.int .i64 o.kind))] [(13, .int .i64 o.kind)] [] [LoadsAs Tryd.prog 3 (⟨w.heap.size, 0, none⟩) (.int .i64 o.kind) wd_6] ⟨loads1 rfl (Blk.cell (Blk.below hk_3 hb_7) 0 _ rfl), trivial⟩ ?_)))
  refine nl (bk (sq (X_region ?_)))
  by_cases c_26 : o.kind = 1
  ·refine xr 2 [(15, .eq (.bool true))] [(14, .bool true)] [] [Value.bool (o.kind == 1) = Value.bool true] ⟨congrArg Value.bool (beq_iff_eq.2 (c_26)), trivial⟩ ?_
   refine nl (ct (sq (rg (xe0 5 [(2, .bool false)] ?_))))
   refine nl (X_ret (rk [.bool false] (hR_ _ _ ?_)))
   rw [show hasP o = false from by unfold hasP; simp_all]
   exact ⟨rfl, (bt hb_2 hb_7)⟩
  refine xr 2 [(15, .eq (.bool false))] [(14, .bool false)] [] [Value.bool (o.kind == 1) = Value.bool false] ⟨congrArg Value.bool (beq_eq_false_iff_ne.2 (c_26)), trivial⟩ ?_
  refine nl (cf (sq (X_region ?_)))
  by_cases c_27 : o.kind = 2
  ·refine xr 2 [(21, .eq (.bool true))] [(20, .bool true)] [14] [Value.bool (o.kind == 2) = Value.bool true] ⟨congrArg Value.bool (beq_iff_eq.2 (c_27)), trivial⟩ ?_
   refine nl (ct (sq (rg (xe0 2 [(2, .bool true)] ?_))))
   refine nl (X_ret (rk [.bool true] (hR_ _ _ ?_)))
   rw [show hasP o = true from by unfold hasP; simp_all]
   exact ⟨rfl, (bt hb_2 hb_7)⟩
  refine xr 2 [(21, .eq (.bool false))] [(20, .bool false)] [14] [Value.bool (o.kind == 2) = Value.bool false] ⟨congrArg Value.bool (beq_eq_false_iff_ne.2 (c_27)), trivial⟩ ?_
  refine nl (cf (sq (X_region ?_)))
  by_cases c_28 : o.kind = 3
  ·refine xr 2 [(24, .eq (.bool true))] [(23, .bool true)] [4, 20] [Value.bool (o.kind == 3) = Value.bool true] ⟨congrArg Value.bool (beq_iff_eq.2 (c_28)), trivial⟩ ?_
   refine nl (ct (sq (rg (xe0 7 [(2, .bool false)] ?_))))
   refine nl (X_ret (rk [.bool false] (hR_ _ _ ?_)))
   rw [show hasP o = false from by unfold hasP; simp_all]
   exact ⟨rfl, (bt hb_2 hb_7)⟩
  refine xr 2 [(24, .eq (.bool false))] [(23, .bool false)] [4, 20] [Value.bool (o.kind == 3) = Value.bool false] ⟨congrArg Value.bool (beq_eq_false_iff_ne.2 (c_28)), trivial⟩ ?_
  refine nl (cf (sq (X_region ?_)))
  by_cases c_29 : o.kind = 4
  ·refine xr 2 [(32, .eq (.bool true))] [(31, .bool true)] [13, 23] [Value.bool (o.kind == 4) = Value.bool true] ⟨congrArg Value.bool (beq_iff_eq.2 (c_29)), trivial⟩ ?_
   refine nl (ct (sq (rg (xe0 13 [(2, .bool false)] ?_))))
   refine nl (X_ret (rk [.bool false] (hR_ _ _ ?_)))
   rw [show hasP o = false from by unfold hasP; simp_all]
   exact ⟨rfl, (bt hb_2 hb_7)⟩
  refine xr 2 [(32, .eq (.bool false))] [(31, .bool false)] [13, 23] [Value.bool (o.kind == 4) = Value.bool false] ⟨congrArg Value.bool (beq_eq_false_iff_ne.2 (c_29)), trivial⟩ ?_
  refine nl (cf (sk (sq (rg (xe0 1 [(2, .bool false)] ?_)))))
  refine nl (X_ret (rk [.bool false] (hR_ _ _ ?_)))
  rw [show hasP o = false from by unfold hasP; simp_all]
  exact ⟨rfl, (bt hb_2 hb_7)⟩
 refine xse 3 [(11, .eq (.bool false))] [(1, .pointer (some ⟨w.heap.size, 0, none⟩)), (3, .bool false), (4, .bool false)] [Value.bool (o.count == 0) = Value.bool false] ⟨congrArg Value.bool (beq_eq_false_iff_ne.2 (c_25)), trivial⟩ ?_
 refine XS_nil ?_
 refine sq (sq (rg (xr 2 [(13, .load (.int .i64 o.kind))] [(13, .int .i64 o.kind)] [] [LoadsAs Tryd.prog 3 (⟨w.heap.size, 0, none⟩) (.int .i64 o.kind) wd_6] ⟨loads1 rfl (Blk.cell (Blk.below hk_3 hb_7) 0 _ rfl), trivial⟩ ?_)))
 refine nl (bk (sq (X_region ?_)))
 by_cases c_30 : o.kind = 1
 ·refine xr 2 [(15, .eq (.bool true))] [(14, .bool true)] [] [Value.bool (o.kind == 1) = Value.bool true] ⟨congrArg Value.bool (beq_iff_eq.2 (c_30)), trivial⟩ ?_
  refine nl (ct (sq (rg (xe0 5 [(2, .bool false)] ?_))))
  refine nl (X_ret (rk [.bool false] (hR_ _ _ ?_)))
  rw [show hasP o = false from by unfold hasP; simp_all]
  exact ⟨rfl, (bt hb_2 hb_7)⟩
 refine xr 2 [(15, .eq (.bool false))] [(14, .bool false)] [] [Value.bool (o.kind == 1) = Value.bool false] ⟨congrArg Value.bool (beq_eq_false_iff_ne.2 (c_30)), trivial⟩ ?_
 refine nl (cf (sq (X_region ?_)))
 by_cases c_31 : o.kind = 2
 ·refine xr 2 [(21, .eq (.bool true))] [(20, .bool true)] [14] [Value.bool (o.kind == 2) = Value.bool true] ⟨congrArg Value.bool (beq_iff_eq.2 (c_31)), trivial⟩ ?_
  refine nl (ct (sq (rg (xe0 2 [(2, .bool false)] ?_))))
  refine nl (X_ret (rk [.bool false] (hR_ _ _ ?_)))
  rw [show hasP o = false from by unfold hasP; simp_all]
  exact ⟨rfl, (bt hb_2 hb_7)⟩
 refine xr 2 [(21, .eq (.bool false))] [(20, .bool false)] [14] [Value.bool (o.kind == 2) = Value.bool false] ⟨congrArg Value.bool (beq_eq_false_iff_ne.2 (c_31)), trivial⟩ ?_
 refine nl (cf (sq (X_region ?_)))
 by_cases c_32 : o.kind = 3
 ·refine xr 2 [(24, .eq (.bool true))] [(23, .bool true)] [4, 20] [Value.bool (o.kind == 3) = Value.bool true] ⟨congrArg Value.bool (beq_iff_eq.2 (c_32)), trivial⟩ ?_
  refine nl (ct (sq (rg (xe0 7 [(2, .bool false)] ?_))))
  refine nl (X_ret (rk [.bool false] (hR_ _ _ ?_)))
  rw [show hasP o = false from by unfold hasP; simp_all]
  exact ⟨rfl, (bt hb_2 hb_7)⟩
 refine xr 2 [(24, .eq (.bool false))] [(23, .bool false)] [4, 20] [Value.bool (o.kind == 3) = Value.bool false] ⟨congrArg Value.bool (beq_eq_false_iff_ne.2 (c_32)), trivial⟩ ?_
 refine nl (cf (sq (X_region ?_)))
 by_cases c_33 : o.kind = 4
 ·refine xr 2 [(32, .eq (.bool true))] [(31, .bool true)] [13, 23] [Value.bool (o.kind == 4) = Value.bool true] ⟨congrArg Value.bool (beq_iff_eq.2 (c_33)), trivial⟩ ?_
  refine nl (ct (sq (rg (xe0 13 [(2, .bool false)] ?_))))
  refine nl (X_ret (rk [.bool false] (hR_ _ _ ?_)))
  rw [show hasP o = false from by unfold hasP; simp_all]
  exact ⟨rfl, (bt hb_2 hb_7)⟩
 refine xr 2 [(32, .eq (.bool false))] [(31, .bool false)] [13, 23] [Value.bool (o.kind == 4) = Value.bool false] ⟨congrArg Value.bool (beq_eq_false_iff_ne.2 (c_33)), trivial⟩ ?_
 refine nl (cf (sk (sq (rg (xe0 1 [(2, .bool false)] ?_)))))
 refine nl (X_ret (rk [.bool false] (hR_ _ _ ?_)))
 rw [show hasP o = false from by unfold hasP; simp_all]
 exact ⟨rfl, (bt hb_2 hb_7)⟩
theorem pErr_k3 {o : OpA} (h : hasP o = true) : o.kind = 1 ∨ o.kind = 2 ∨ o.kind = 3 ∨ o.kind = 4 := by
 unfold hasP at h
 by_cases a1 : o.kind = 1
 ·exact .inl a1
 by_cases a2 : o.kind = 2
 ·exact .inr (.inl a2)
 by_cases a3 : o.kind = 3
 ·exact .inr (.inr (.inl a3))
 by_cases a4 : o.kind = 4
 ·exact .inr (.inr (.inr a4))
 rw [if_neg a1, if_neg a2, if_neg a3, if_neg a4] at h; cases h
theorem pErr_small {o : OpA} (h : hasP o = true) (k1 : ¬ o.kind = 1) (k2 : ¬ o.kind = 2) : pErr o = if o.count < 1 then 9 else if 1099511627776 < o.count then 11 else if o.kind = 4 then 0 else chkA true o.attrs := by
 unfold pErr
 rw [if_neg (by rw [h]; decide), if_neg (by omega)]
theorem pErr_has {o : OpA} (h : hasP o = false) : pErr o = 9 := if_pos h
set_option maxHeartbeats 2000000 in
theorem piece_any (o : OpA) (A : Option Addr) (c : Nat) (w : World) (hA : kAttr.C w A o.attrs.length o.attrs) (hz : opSz o) (hT : Tabs w) (es : List Addr) (hE : ErrsO w es) : Calls Tryd.prog 78 #[.agg (o7A o (.slice A o.attrs.length c))] w fun e w' => ∃ v, e = .returned (.tuple #[v, errV es (pErr o)]) ∧ (pErr o = 0 → kPiece.M w' w.heap.size (OkFrom w.heap.size) (pOf o) [v]) ∧ (pErr o ≠ 0 → v = .nilIface) ∧ Below w.heap.size w w' := by
 have hz1 := hz.1
 have hz2 := hz.2.1
 have hz3 := hz.2.2.1
 refine RX.enter Tryd.func78 rfl 53 rfl [(0, .agg (o7A o (.slice A o.attrs.length c)))] rfl (by kernel_rfl) (fun R_ hR_ => ?_)
 refine sq (rg (xwe 1 [] [(1, pw w.heap.size 0)] (w.alloc (.cells (o7A o (.slice A o.attrs.length c)) 59)) [] trivial ?_))
 obtain ⟨w_1, hw_5, hb_2, hk_3, hz_4⟩ := new_world w (o7A o (.slice A o.attrs.length c)) 59
 rw [hw_5]
 refine xr0 2 [] [] ?_
 refine nl (sq (sq (rg (xr 1 [(5, .load (.agg (o7A o (.slice A o.attrs.length c))))] [(5, .agg (o7A o (.slice A o.attrs.length c)))] [] [LoadsAs Tryd.prog 59 (⟨w.heap.size, 0, none⟩) (.agg (o7A o (.slice A o.attrs.length c))) w_1] ⟨loadsB rfl rfl hk_3 0 ⟨by kernel_rfl, by kernel_rfl⟩, trivial⟩ ?_))))
 refine xc 82 ent82 [.agg (o7A o (.slice A o.attrs.length c))] (has_anyO o _ _ _ (Kd.C_below hA hb_2) hz) ?_
 rintro e w_6 ⟨rfl, hb_7⟩; refine ⟨_, rfl, ?_⟩
 by_cases c_8 : hasP o = true
 ·rw [show (hasP o : Bool) = true from by simpa using c_8]
  refine xr0 1 [(7, .bool false)] [5, 6] ?_
  refine nl (cf (sk (sq (sq (rg (xr 2 [(10, .load (.int .i64 o.kind))] [(10, .int .i64 o.kind)] [7] [LoadsAs Tryd.prog 3 (⟨w.heap.size, 0, none⟩) (.int .i64 o.kind) w_6] ⟨loads1 rfl (Blk.cell (Blk.below hk_3 hb_7) 0 _ rfl), trivial⟩ ?_))))))
  by_cases c_9 : o.kind = 1
  ·refine xr 6 [(11, .eq (.bool true))] [(16, .bool true)] [10] [Value.bool (o.kind == 1) = Value.bool true] ⟨congrArg Value.bool (beq_iff_eq.2 (c_9)), trivial⟩ ?_
   refine nl (ct (sq (rg (xe 1 [(17, .load (.agg (o7A o (.slice A o.attrs.length c))))] [(17, .agg (o7A o (.slice A o.attrs.length c)))] [LoadsAs Tryd.prog 59 (⟨w.heap.size, 0, none⟩) (.agg (o7A o (.slice A o.attrs.length c))) w_6] ⟨loadsB rfl rfl (Blk.below hk_3 hb_7) 0 ⟨by kernel_rfl, by kernel_rfl⟩, trivial⟩ ?_))))
   refine xc 79 ent79 [.agg (o7A o (.slice A o.attrs.length c))] (cof_any o _ _ _ (Kd.C_below hA (bt hb_2 hb_7)) hz (hT.below (bt hb_2 hb_7)) es (hE.i.below (bt hb_2 hb_7))) ?_
   rintro e w_13 ⟨v_10, rfl, hM_11, hN_12, hb_14⟩; refine ⟨_, rfl, ?_⟩
   refine xe0 4 [(2, v_10), (3, errV es (refuseP o))] ?_
   refine nl (X_ret (rk [v_10, errV es (refuseP o)] (hR_ _ _ ?_)))
   have hpe : pErr o = refuseP o := by unfold pErr; simp_all
   rw [hpe]
   exact ⟨_, rfl, fun h_ => kPiece.M_mono (fun _ k_ => Nat.le_trans ((bt hb_2 hb_7)).size k_) (kPiece.M_lower ((bt hb_2 hb_7)).size (hM_11 h_)), hN_12, (bt (bt hb_2 hb_7) hb_14)⟩
  refine xr 4 [(11, .eq (.bool false)), (14, .load (.int .i64 o.kind))] [(12, .bool false), (14, .int .i64 o.kind)] [10] [Value.bool (o.kind == 1) = Value.bool false, LoadsAs Tryd.prog 3 (⟨w.heap.size, 0, none⟩) (.int .i64 o.kind) w_6] ⟨congrArg Value.bool (beq_eq_false_iff_ne.2 (c_9)), loads1 rfl (Blk.cell (Blk.below hk_3 hb_7) 0 _ rfl), trivial⟩ ?_
  by_cases c_15 : o.kind = 2
  ·refine xe 2 [(15, .eq (.bool true))] [(1, pw w.heap.size 0), (16, .bool true)] [Value.bool (o.kind == 2) = Value.bool true] ⟨congrArg Value.bool (beq_iff_eq.2 (c_15)), trivial⟩ ?_
   refine nl (ct (sq (rg (xe 1 [(17, .load (.agg (o7A o (.slice A o.attrs.length c))))] [(17, .agg (o7A o (.slice A o.attrs.length c)))] [LoadsAs Tryd.prog 59 (⟨w.heap.size, 0, none⟩) (.agg (o7A o (.slice A o.attrs.length c))) w_6] ⟨loadsB rfl rfl (Blk.below hk_3 hb_7) 0 ⟨by kernel_rfl, by kernel_rfl⟩, trivial⟩ ?_))))
   refine xc 79 ent79 [.agg (o7A o (.slice A o.attrs.length c))] (cof_any o _ _ _ (Kd.C_below hA (bt hb_2 hb_7)) hz (hT.below (bt hb_2 hb_7)) es (hE.i.below (bt hb_2 hb_7))) ?_
   rintro e w_19 ⟨v_16, rfl, hM_17, hN_18, hb_20⟩; refine ⟨_, rfl, ?_⟩
   refine xe0 4 [(2, v_16), (3, errV es (refuseP o))] ?_
   refine nl (X_ret (rk [v_16, errV es (refuseP o)] (hR_ _ _ ?_)))
   have hpe : pErr o = refuseP o := by unfold pErr; simp_all
   rw [hpe]
   exact ⟨_, rfl, fun h_ => kPiece.M_mono (fun _ k_ => Nat.le_trans ((bt hb_2 hb_7)).size k_) (kPiece.M_lower ((bt hb_2 hb_7)).size (hM_17 h_)), hN_18, (bt (bt hb_2 hb_7) hb_20)⟩
  refine xe 2 [(15, .eq (.bool false))] [(1, pw w.heap.size 0), (16, .bool false)] [Value.bool (o.kind == 2) = Value.bool false] ⟨congrArg Value.bool (beq_eq_false_iff_ne.2 (c_15)), trivial⟩ ?_
  refine nl (cf (sk (sq (bk (sq (rg (xr 2 [(23, .load (.int .i64 o.count))] [(23, .int .i64 o.count)] [16] [LoadsAs Tryd.prog 3 (⟨w.heap.size, 5, none⟩) (.int .i64 o.count) w_6] ⟨loads1 rfl (Blk.cell (Blk.below hk_3 hb_7) 5 _ rfl), trivial⟩ ?_)))))))
  by_cases c_21 : o.count < 1
  ·refine xr 2 [(24, .eq (.bool true))] [(21, .bool true)] [23] [Value.bool (decide (o.count < 1)) = Value.bool true] ⟨congrArg Value.bool (decide_eq_true (c_21)), trivial⟩ ?_
   refine nl (ct (sq (X_still (by kernel_rfl) (by kernel_rfl) (fun wd_22 hb_23 hh_24 => ?_))))
   refine xse 3 [(25, .load (.iface 164 (.pointer (some (errAt es 9)))))] [(2, .nilIface), (3, .iface 164 (.pointer (some (errAt es 9))))] [LoadsAs Tryd.prog 30 (⟨1, 0, none⟩) (.iface 164 (.pointer (some (errAt es 9)))) wd_22] ⟨loads1 rfl (((bt (bt hb_2 hb_7) hb_23).cell (World.block_lt_of_cell? _ _ (hE.load 9 1 (by decide) (by decide) rfl))).trans (hE.load 9 1 (by decide) (by decide) rfl)), trivial⟩ ?_
   refine XS_nil ?_
   refine X_ret (rk [.nilIface, .iface 164 (.pointer (some (errAt es 9)))] (hR_ _ _ ?_))
   have hpe : pErr o = 9 := by rw [pErr_small c_8 c_9 c_15]; first | (rw [if_pos (by omega)]; done) | (rw [if_neg (by omega), if_pos (by omega)]; done) | (rw [if_neg (by omega), if_neg (by omega), if_pos (by omega)]; done) | (rw [if_neg (by omega), if_neg (by omega), if_neg (by omega)] <;> assumption)
   rw [hpe]
   exact ⟨_, rfl, fun h_ => absurd h_ (by decide), fun _ => rfl, (bt (bt hb_2 hb_7) hb_23)⟩
  refine xr 2 [(24, .eq (.bool false))] [(21, .bool false)] [23] [Value.bool (decide (o.count < 1)) = Value.bool false] ⟨congrArg Value.bool (decide_eq_false (c_21)), trivial⟩ ?_
  refine nl (cf (sq (rg (xr 2 [(28, .load (.int .i64 o.count))] [(28, .int .i64 o.count)] [21] [LoadsAs Tryd.prog 3 (⟨w.heap.size, 5, none⟩) (.int .i64 o.count) w_6] ⟨loads1 rfl (Blk.cell (Blk.below hk_3 hb_7) 5 _ rfl), trivial⟩ ?_))))
  by_cases c_25 : o.count > 1099511627776
  ·refine xr 2 [(29, .eq (.bool true))] [(26, .bool true)] [28] [Value.bool (decide (o.count > 1099511627776)) = Value.bool true] ⟨congrArg Value.bool (decide_eq_true (c_25)), trivial⟩ ?_
   refine nl (ct (sq (X_still (by kernel_rfl) (by kernel_rfl) (fun wd_26 hb_27 hh_28 => ?_))))
   refine xse 3 [(30, .load (.iface 164 (.pointer (some (errAt es 11)))))] [(2, .nilIface), (3, .iface 164 (.pointer (some (errAt es 11))))] [LoadsAs Tryd.prog 30 (⟨11, 0, none⟩) (.iface 164 (.pointer (some (errAt es 11)))) wd_26] ⟨loads1 rfl (((bt (bt hb_2 hb_7) hb_27).cell (World.block_lt_of_cell? _ _ (hE.load 11 11 (by decide) (by decide) rfl))).trans (hE.load 11 11 (by decide) (by decide) rfl)), trivial⟩ ?_
   refine XS_nil ?_
   refine X_ret (rk [.nilIface, .iface 164 (.pointer (some (errAt es 11)))] (hR_ _ _ ?_))
   have hpe : pErr o = 11 := by rw [pErr_small c_8 c_9 c_15]; first | (rw [if_pos (by omega)]; done) | (rw [if_neg (by omega), if_pos (by omega)]; done) | (rw [if_neg (by omega), if_neg (by omega), if_pos (by omega)]; done) | (rw [if_neg (by omega), if_neg (by omega), if_neg (by omega)] <;> assumption)
   rw [hpe]
   exact ⟨_, rfl, fun h_ => absurd h_ (by decide), fun _ => rfl, (bt (bt hb_2 hb_7) hb_27)⟩
  refine xr 2 [(29, .eq (.bool false))] [(26, .bool false)] [28] [Value.bool (decide (o.count > 1099511627776)) = Value.bool false] ⟨congrArg Value.bool (decide_eq_false (c_25)), trivial⟩ ?_
  refine nl (cf (sq (rg (xr 2 [(33, .load (.int .i64 o.kind))] [(33, .int .i64 o.kind)] [26] [LoadsAs Tryd.prog 3 (⟨w.heap.size, 0, none⟩) (.int .i64 o.kind) w_6] ⟨loads1 rfl (Blk.cell (Blk.below hk_3 hb_7) 0 _ rfl), trivial⟩ ?_))))
  by_cases c_29 : o.kind = 4
  ·refine xe 2 [(34, .eq (.bool true))] [(1, pw w.heap.size 0), (31, .bool true)] [Value.bool (o.kind == 4) = Value.bool true] ⟨congrArg Value.bool (beq_iff_eq.2 (c_29)), trivial⟩ ?_
   refine nl (ct (sq (rg (xe 6 [(36, .load (.int .i64 o.count))] [(2, .iface 103 (.agg #[.int .i64 o.count])), (3, .nilIface)] [LoadsAs Tryd.prog 3 (⟨w.heap.size, 5, none⟩) (.int .i64 o.count) w_6] ⟨loads1 rfl (Blk.cell (Blk.below hk_3 hb_7) 5 _ rfl), trivial⟩ ?_))))
   refine nl (X_ret (rk [.iface 103 (.agg #[.int .i64 o.count]), .nilIface] (hR_ _ _ ?_)))
   have hp0 : pErr o = 0 := by rw [pErr_small c_8 c_9 c_15]; first | (rw [if_pos (by omega)]; done) | (rw [if_neg (by omega), if_pos (by omega)]; done) | (rw [if_neg (by omega), if_neg (by omega), if_pos (by omega)]; done) | (rw [if_neg (by omega), if_neg (by omega), if_neg (by omega)] <;> assumption)
   have hkk : o.kind = 4 := c_29
   rw [hp0, pOf_del hkk]
   exact ⟨_, rfl, fun _ => kPiece_Mdel, fun h_ => absurd rfl h_, (bt hb_2 hb_7)⟩
  refine xe 2 [(34, .eq (.bool false))] [(1, pw w.heap.size 0), (31, .bool false)] [Value.bool (o.kind == 4) = Value.bool false] ⟨congrArg Value.bool (beq_eq_false_iff_ne.2 (c_29)), trivial⟩ ?_
  refine nl (cf (sk (sq (sq (rg (xr 2 [(40, .load (.slice A o.attrs.length c))] [(40, .slice A o.attrs.length c)] [31] [LoadsAs Tryd.prog 42 (⟨w.heap.size, 6, none⟩) (.slice A o.attrs.length c) w_6] ⟨loads1 rfl (Blk.cell (Blk.below hk_3 hb_7) 6 _ rfl), trivial⟩ ?_))))))
  refine xc 54 ent54 [.slice A o.attrs.length c, .bool true] (acheck_any _ _ o.attrs true _ (Kd.C_below hA (bt hb_2 hb_7)) hz.a (hT.below (bt hb_2 hb_7)) es (hE.i.a.below (bt hb_2 hb_7))) ?_
  rintro e w_30 ⟨rfl, hb_31⟩; refine ⟨_, rfl, ?_⟩
  refine xr0 1 [(4, errV es (chkA true o.attrs))] [40, 41] ?_
  refine nl (sq (rg (xr0 1 [(42, errV es (chkA true o.attrs))] [] ?_)))
  by_cases c_32 : (chkA true o.attrs) = 0
  ·rw [show errV es (chkA true o.attrs) = .nilIface from by rw [c_32]; rfl]
   refine xr0 1 [(4, .nilIface), (43, .bool false)] [42] ?_
   refine nl (cf (sk (sq (X_grow [] 10 #[false, false, false, false, false, false, false, false, false, false] (by kernel_rfl) (by kernel_rfl) (by kernel_rfl) (fun wd_33 hb_34 hh_35 => ?_)))))
   refine XB_run (fuel' := 6) (Below.refl _ _) [0, 1, 4, 5] [(46, .load (.slice A o.attrs.length c)), (50, .load (.int .i64 o.count))] [.pointer (some ⟨w.heap.size, 6, none⟩), .slice A o.attrs.length c, .pointer (some ⟨w.heap.size, 5, none⟩), .int .i64 o.count] #[true, true, false, false, true, true, false, false, false, false] [(46, .slice A o.attrs.length c), (50, .int .i64 o.count)] (fun w_ => [LoadsAs Tryd.prog 42 (⟨w.heap.size, 6, none⟩) (.slice A o.attrs.length c) w_, LoadsAs Tryd.prog 3 (⟨w.heap.size, 5, none⟩) (.int .i64 o.count) w_]) (fun _ _ _ _ h => h) (fun w_ => by kernel_rfl) rfl (fun w_ hC_ => ⟨loads1 rfl (Blk.cell (Blk.below hk_3 (bt (bt (bt hb_7 hb_31) hb_34) hC_)) 6 _ rfl), loads1 rfl (Blk.cell (Blk.below hk_3 (bt (bt (bt hb_7 hb_31) hb_34) hC_)) 5 _ rfl), trivial⟩) ?_
   refine XB_mid (fuel' := 5) 2 #[true, true, true, false, true, true, false, false, false, false] _ rfl (by kernel_rfl) (by kernel_rfl) rfl ?_
   refine xc 47 ent47 [.slice A o.attrs.length c] (clone_any _ _ o.attrs _ (Kd.C_below hA (bt (bt (bt hb_2 hb_7) hb_31) hb_34)) (by omega)) ?_
   rintro e w_38 ⟨A_36, c_37, rfl, hl_40, hr_41, hb_39⟩; refine ⟨_, rfl, ?_⟩
   refine nl ?_
   refine ⟨hb_39, ?_⟩
   refine XB_run (fuel' := 0) hb_39 [3, 6, 7, 8, 9] [] [.agg #[.slice A_36 o.attrs.length c_37], .agg #[.slice A_36 o.attrs.length c_37, .int .i64 o.count], .iface 101 (.agg #[.slice A_36 o.attrs.length c_37, .int .i64 o.count]), .iface 101 (.agg #[.slice A_36 o.attrs.length c_37, .int .i64 o.count]), .nilIface] #[true, true, true, true, true, true, true, true, true, true] [(2, .iface 101 (.agg #[.slice A_36 o.attrs.length c_37, .int .i64 o.count])), (3, .nilIface)] (fun w_ => []) (fun _ _ _ _ h => h) (fun w_ => by kernel_rfl) rfl (fun w_ hC_ => trivial) ?_
   refine XB_done (by kernel_rfl) ?_
   refine X_ret (rk [.iface 101 (.agg #[.slice A_36 o.attrs.length c_37, .int .i64 o.count]), .nilIface] (hR_ _ _ ?_))
   have hB_42 : Below w.heap.size w w_38 := (bt (bt (bt (bt hb_2 hb_7) hb_31) hb_34) hb_39)
   have hp0 : pErr o = 0 := by rw [pErr_small c_8 c_9 c_15]; first | (rw [if_pos (by omega)]; done) | (rw [if_neg (by omega), if_pos (by omega)]; done) | (rw [if_neg (by omega), if_neg (by omega), if_pos (by omega)]; done) | (rw [if_neg (by omega), if_neg (by omega), if_neg (by omega)] <;> assumption)
   have hkk : o.kind = 3 := (by have h_ := pErr_k3 c_8; omega)
   rw [hp0, pOf_ret hkk]
   exact ⟨_, rfl, fun _ => kPiece_Mret ⟨_, rfl, Kd.R_low hr_41 ((bt (bt (bt hb_2 hb_7) hb_31) hb_34)).size⟩, fun h_ => absurd rfl h_, hB_42⟩
  rw [errV_pos es (chkA true o.attrs) (Nat.pos_of_ne_zero c_32)]
  refine xr0 1 [(4, .iface 164 (.pointer (some (errAt es (chkA true o.attrs))))), (43, .bool true)] [42] ?_
  refine nl (ct (sq (rg (xe0 3 [(2, .nilIface), (3, .iface 164 (.pointer (some (errAt es (chkA true o.attrs)))))] ?_))))
  refine nl (X_ret (rk [.nilIface, .iface 164 (.pointer (some (errAt es (chkA true o.attrs))))] (hR_ _ _ ?_)))
  have hpe : pErr o = (chkA true o.attrs) := by rw [pErr_small c_8 c_9 c_15]; first | (rw [if_pos (by omega)]; done) | (rw [if_neg (by omega), if_pos (by omega)]; done) | (rw [if_neg (by omega), if_neg (by omega), if_pos (by omega)]; done) | (rw [if_neg (by omega), if_neg (by omega), if_neg (by omega)] <;> assumption)
  rw [hpe, errV_pos es _ (Nat.pos_of_ne_zero c_32)]
  exact ⟨_, rfl, fun h_ => absurd h_ c_32, fun _ => rfl, (bt (bt hb_2 hb_7) hb_31)⟩
 rw [show (hasP o : Bool) = false from by simpa using c_8]
 refine xr0 1 [(7, .bool true)] [5, 6] ?_
 refine nl (ct (sq (X_still (by kernel_rfl) (by kernel_rfl) (fun wd_43 hb_44 hh_45 => ?_))))
 refine xse 3 [(8, .load (.iface 164 (.pointer (some (errAt es 9)))))] [(2, .nilIface), (3, .iface 164 (.pointer (some (errAt es 9))))] [LoadsAs Tryd.prog 30 (⟨1, 0, none⟩) (.iface 164 (.pointer (some (errAt es 9)))) wd_43] ⟨loads1 rfl (((bt (bt hb_2 hb_7) hb_44).cell (World.block_lt_of_cell? _ _ (hE.load 9 1 (by decide) (by decide) rfl))).trans (hE.load 9 1 (by decide) (by decide) rfl)), trivial⟩ ?_
 refine XS_nil ?_
 refine X_ret (rk [.nilIface, .iface 164 (.pointer (some (errAt es 9)))] (hR_ _ _ ?_))
 have hp9 : pErr o = 9 := pErr_has (Bool.eq_false_iff.2 c_8)
 rw [hp9]
 exact ⟨_, rfl, fun h_ => absurd h_ (by decide), fun _ => rfl, (bt (bt hb_2 hb_7) hb_44)⟩
end Go.Proofs.YtgphmfnkeolbcaaDoor
