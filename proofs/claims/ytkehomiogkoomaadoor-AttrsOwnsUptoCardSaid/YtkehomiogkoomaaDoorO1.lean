import Derived.Lib.SliceRun
import Derived.Test.YtkehomiogkoomaaDoorB1
import Derived.Test.YtkehomiogkoomaaDoorOp2
import Derived.Test.YtkehomiogkoomaaDoorAn2
import Derived.Test.YtkehomiogkoomaaDoorWEqStruct
/- What values.Of, content.Of, slices.Clone, ops.piece answer. Conditions: sizes, the tables of utf8, the errors' variables. -/
set_option linter.unusedVariables false
set_option linter.unusedSimpArgs false
set_option maxRecDepth 100000
namespace Go.Proofs.YtkehomiogkoomaaDoor
open Go Go.RowKit Go.Proofs.YtkehomiogkoomaaDoorW.PrintWords RX
theorem ent152 : Ent Tryd.prog 152 := ent_of Tryd.func152 (by kernel_rfl) rfl
theorem ent104 : Ent Tryd.prog 104 := ent_of Tryd.func104 (by kernel_rfl) rfl
theorem ent105 : Ent Tryd.prog 105 := ent_of Tryd.func105 (by kernel_rfl) rfl
abbrev ErrsI (w : World) (es : List Addr) : Prop := ErrsOn [1, 5, 6, 7, 8, 9, 10] w es
abbrev ErrsO (w : World) (es : List Addr) : Prop := ErrsOn [1, 5, 6, 7, 8, 9, 10, 11] w es
theorem ErrsI.a {w : World} {es : List Addr} (h : ErrsI w es) : ErrsA w es := h.sub (by decide)
theorem ErrsO.i {w : World} {es : List Addr} (h : ErrsO w es) : ErrsI w es := h.sub (by decide)
theorem value_any (k n : Int) (t : ByteArray) (w : World) : Calls Tryd.prog 152 #[.agg #[.int .i64 k, .int .i64 n, .string t]] w fun e w' => e = .returned (valV (k, n, t)) ∧ Below w.heap.size w w' := by
 refine RX.enter Tryd.func152 rfl 23 rfl [(0, .agg #[.int .i64 k, .int .i64 n, .string t])] rfl (by kernel_rfl) (fun R_ hR_ => ?_)
 refine sq (rg (xwe 1 [] [(1, pw w.heap.size 0)] (w.alloc (.cells #[.int .i64 k, .int .i64 n, .string t] 44)) [] trivial ?_))
 obtain ⟨w_1, hw_5, hb_2, hk_3, hz_4⟩ := new_world w #[.int .i64 k, .int .i64 n, .string t] 44
 rw [hw_5]
 refine xr0 1 [] [] ?_
 refine nl (sq (sq (rg (xr 2 [(4, .load (.int .i64 k))] [(4, .int .i64 k)] [] [LoadsAs Tryd.prog 3 (⟨w.heap.size, 0, none⟩) (.int .i64 k) w_1] ⟨loads1 rfl (Blk.cell hk_3 0 _ rfl), trivial⟩ ?_))))
 refine nl (bk (sq (X_region ?_)))
 by_cases c_6 : k = 1
 ·refine xr 2 [(6, .eq (.bool true))] [(5, .bool true)] [] [Value.bool (k == 1) = Value.bool true] ⟨congrArg Value.bool (beq_iff_eq.2 (c_6)), trivial⟩ ?_
  refine nl (ct (sq (rg (xe 2 [(8, .load (.int .i64 n))] [(8, .int .i64 n)] [LoadsAs Tryd.prog 2 (⟨w.heap.size, 1, none⟩) (.int .i64 n) w_1] ⟨loads1 rfl (Blk.cell hk_3 1 _ rfl), trivial⟩ ?_))))
  by_cases c_7 : n = 1
  ·refine xe 3 [(9, .eq (.bool true))] [(2, .iface 171 (.bool true))] [Value.bool (n == 1) = Value.bool true] ⟨congrArg Value.bool (beq_iff_eq.2 (c_7)), trivial⟩ ?_
   refine nl (X_ret (rk [.iface 171 (.bool true)] (hR_ _ _ ?_)))
   rw [show valV (k, n, t) = .iface 171 (.bool true) from by unfold valV; simp_all]
   exact ⟨rfl, hb_2⟩
  refine xe 3 [(9, .eq (.bool false))] [(2, .iface 171 (.bool false))] [Value.bool (n == 1) = Value.bool false] ⟨congrArg Value.bool (beq_eq_false_iff_ne.2 (c_7)), trivial⟩ ?_
  refine nl (X_ret (rk [.iface 171 (.bool false)] (hR_ _ _ ?_)))
  rw [show valV (k, n, t) = .iface 171 (.bool false) from by unfold valV; simp_all]
  exact ⟨rfl, hb_2⟩
 refine xr 2 [(6, .eq (.bool false))] [(5, .bool false)] [] [Value.bool (k == 1) = Value.bool false] ⟨congrArg Value.bool (beq_eq_false_iff_ne.2 (c_6)), trivial⟩ ?_
 refine nl (cf (sq (X_region ?_)))
 by_cases c_8 : k = 2
 ·refine xr 2 [(12, .eq (.bool true))] [(11, .bool true)] [5] [Value.bool (k == 2) = Value.bool true] ⟨congrArg Value.bool (beq_iff_eq.2 (c_8)), trivial⟩ ?_
  refine nl (ct (sq (rg (xe 4 [(14, .load (.int .i64 n))] [(2, .iface 172 (.int .i64 n))] [LoadsAs Tryd.prog 2 (⟨w.heap.size, 1, none⟩) (.int .i64 n) w_1] ⟨loads1 rfl (Blk.cell hk_3 1 _ rfl), trivial⟩ ?_))))
  refine nl (X_ret (rk [.iface 172 (.int .i64 n)] (hR_ _ _ ?_)))
  rw [show valV (k, n, t) = .iface 172 (.int .i64 n) from by unfold valV; simp_all]
  exact ⟨rfl, hb_2⟩
 refine xr 2 [(12, .eq (.bool false))] [(11, .bool false)] [5] [Value.bool (k == 2) = Value.bool false] ⟨congrArg Value.bool (beq_eq_false_iff_ne.2 (c_8)), trivial⟩ ?_
 refine nl (cf (sq (X_region ?_)))
 by_cases c_9 : k = 3
 ·refine xr 2 [(17, .eq (.bool true))] [(16, .bool true)] [4, 11] [Value.bool (k == 3) = Value.bool true] ⟨congrArg Value.bool (beq_iff_eq.2 (c_9)), trivial⟩ ?_
  refine nl (ct (sq (rg (xe 4 [(19, .load (.string t))] [(2, .iface 173 (.string t))] [LoadsAs Tryd.prog 9 (⟨w.heap.size, 2, none⟩) (.string t) w_1] ⟨loads1 rfl (Blk.cell hk_3 2 _ rfl), trivial⟩ ?_))))
  refine nl (X_ret (rk [.iface 173 (.string t)] (hR_ _ _ ?_)))
  rw [show valV (k, n, t) = .iface 173 (.string t) from by unfold valV; simp_all]
  exact ⟨rfl, hb_2⟩
 refine xr 2 [(17, .eq (.bool false))] [(16, .bool false)] [4, 11] [Value.bool (k == 3) = Value.bool false] ⟨congrArg Value.bool (beq_eq_false_iff_ne.2 (c_9)), trivial⟩ ?_
 refine nl (cf (sk (sq (rg (xe0 3 [(2, .iface 175 (.agg #[]))] ?_)))))
 refine nl (X_ret (rk [.iface 175 (.agg #[])] (hR_ _ _ ?_)))
 rw [show valV (k, n, t) = .iface 175 (.agg #[]) from by unfold valV; simp_all]
 exact ⟨rfl, hb_2⟩
theorem vof_any (k n : Int) (t : ByteArray) (w : World) (hs : t.size ≤ 9223372036854775807) (hT : Tabs w) (es : List Addr) (hE : ErrsA w es) : Calls Tryd.prog 104 #[.agg #[.int .i64 k, .int .i64 n, .string t]] w fun e w' => e = .returned (.tuple #[if plainErr k n t = 0 then valV (k, n, t) else .nilIface, errV es (plainErr k n t)]) ∧ Below w.heap.size w w' := by
 refine RX.enter Tryd.func104 rfl 12 rfl [(0, .agg #[.int .i64 k, .int .i64 n, .string t])] rfl (by kernel_rfl) (fun R_ hR_ => ?_)
 refine sq (rg (xwe 1 [] [(1, pw w.heap.size 0)] (w.alloc (.cells #[.int .i64 k, .int .i64 n, .string t] 44)) [] trivial ?_))
 obtain ⟨w_1, hw_5, hb_2, hk_3, hz_4⟩ := new_world w #[.int .i64 k, .int .i64 n, .string t] 44
 rw [hw_5]
 refine xr0 2 [] [] ?_
 refine nl (sq (sq (rg (xr 1 [(5, .load (.agg #[.int .i64 k, .int .i64 n, .string t]))] [(5, .agg #[.int .i64 k, .int .i64 n, .string t])] [] [LoadsAs Tryd.prog 44 (⟨w.heap.size, 0, none⟩) (.agg #[.int .i64 k, .int .i64 n, .string t]) w_1] ⟨loadsB rfl rfl hk_3 0 ⟨by kernel_rfl, by kernel_rfl⟩, trivial⟩ ?_))))
 refine xc 131 ent131 [.agg #[.int .i64 k, .int .i64 n, .string t]] (vcheck_any k n t _ (by omega) (hT.below hb_2) es (hE.below hb_2)) ?_
 rintro e w_6 ⟨rfl, hb_7⟩; refine ⟨_, rfl, ?_⟩
 refine xr0 1 [(4, errV es (plainErr k n t))] [5, 6] ?_
 refine nl (sq (rg (xr0 1 [(7, errV es (plainErr k n t))] [] ?_)))
 by_cases c_8 : (plainErr k n t) = 0
 ·rw [show errV es (plainErr k n t) = .nilIface from by rw [c_8]; rfl]
  refine xr0 1 [(4, .nilIface), (8, .bool false)] [7] ?_
  refine nl (cf (sk (sq (rg (xe 1 [(10, .load (.agg #[.int .i64 k, .int .i64 n, .string t]))] [(10, .agg #[.int .i64 k, .int .i64 n, .string t])] [LoadsAs Tryd.prog 44 (⟨w.heap.size, 0, none⟩) (.agg #[.int .i64 k, .int .i64 n, .string t]) w_6] ⟨loadsB rfl rfl (Blk.below hk_3 hb_7) 0 ⟨by kernel_rfl, by kernel_rfl⟩, trivial⟩ ?_)))))
  refine xc 152 ent152 [.agg #[.int .i64 k, .int .i64 n, .string t]] (value_any k n t _) ?_
  rintro e w_9 ⟨rfl, hb_10⟩; refine ⟨_, rfl, ?_⟩
  refine xe0 2 [(2, valV (k, n, t)), (3, .nilIface)] ?_
  refine nl (X_ret (rk [valV (k, n, t), .nilIface] (hR_ _ _ ?_)))
  rw [if_pos c_8, c_8]
  exact ⟨rfl, (bt (bt hb_2 hb_7) hb_10)⟩
 rw [errV_pos es (plainErr k n t) (Nat.pos_of_ne_zero c_8)]
 refine xr0 1 [(4, .iface 235 (.pointer (some (errAt es (plainErr k n t))))), (8, .bool true)] [7] ?_
 refine nl (ct (sq (rg (xe0 3 [(2, .nilIface), (3, .iface 235 (.pointer (some (errAt es (plainErr k n t)))))] ?_))))
 refine nl (X_ret (rk [.nilIface, .iface 235 (.pointer (some (errAt es (plainErr k n t))))] (hR_ _ _ ?_)))
 rw [if_neg c_8, errV_pos es _ (Nat.pos_of_ne_zero c_8)]
 exact ⟨rfl, (bt hb_2 hb_7)⟩
theorem opSz.a {o : OpA} (h : opSz o) : ∀ i, i < o.attrs.length → (o.attrs.getD i at0).1.size ≤ 9223372036854775807 ∧ (o.attrs.getD i at0).2.2.2.size ≤ 9223372036854775807 := fun i hi => by have := h.2.2.2 i hi; omega
theorem clone_any (A : Option Addr) (c : Nat) (xs : List At) (w : World) (hx : kAttr.C w A xs.length xs) (hn : xs.length ≤ 100000000) : Calls Tryd.prog 105 #[.slice A xs.length c] w fun e w' => ∃ A' c', e = .returned (.slice A' xs.length c') ∧ xs.length ≤ c' ∧ kAttr.R 71 w' w.heap.size (OkFrom w.heap.size) (.slice A' xs.length c') xs ∧ Below w.heap.size w w' := by
 have hpl : xs.length ≤ 9223372036854775807 := hx.2.1
 refine RX.enter Tryd.func105 rfl 8 rfl [(0, .slice A xs.length c)] rfl (by kernel_rfl) (fun R_ hR_ => ?_)
 refine sq (rg (xe0 1 [(0, .slice A xs.length c)] ?_))
 refine nl (sq (sq (rg (xr0 1 [(3, .slice A xs.length c)] [] ?_))))
 by_cases c_1 : A = none
 ·refine xr 1 [(4, .as (.bool true))] [(4, .bool true)] [3] [RunsAs Tryd.prog [(3, .slice A xs.length c)] (Go.Op.binOp Go.BinOp.eql 45 (Go.Operand.tmp 3) (Go.Operand.const (Go.Value.slice none 0 0)) 45) 4 (.bool true) w] ⟨runs_bin rfl rfl rfl (by have h_ := Lib.run_eql_slice_nil (P := Tryd.prog) w 45 71 A xs.length c 0 0 Tryd.underlying45; rw [show A.isNone = true from by rw [c_1]; rfl] at h_; exact h_), trivial⟩ ?_
  refine nl (ct (sq (rg (xe0 1 [(2, .slice none 0 0)] ?_))))
  refine nl (X_ret (rk [.slice none 0 0] (hR_ _ _ ?_)))
  obtain rfl : xs = [] := List.length_eq_zero_iff.1 (by have h_ := hx.2.2; rcases Nat.eq_zero_or_pos xs.length with h1_ | h1_; (· exact h1_); (· obtain ⟨ad, e_, _⟩ := h_ h1_; rw [c_1] at e_; cases e_))
  exact ⟨none, 0, rfl, Nat.le_refl _, Kd.R_nil _ _ _ _ _, (Below.refl _ _)⟩
 refine xr 1 [(4, .as (.bool false))] [(4, .bool false)] [3] [RunsAs Tryd.prog [(3, .slice A xs.length c)] (Go.Op.binOp Go.BinOp.eql 45 (Go.Operand.tmp 3) (Go.Operand.const (Go.Value.slice none 0 0)) 45) 4 (.bool false) w] ⟨runs_bin rfl rfl rfl (by have h_ := Lib.run_eql_slice_nil (P := Tryd.prog) w 45 71 A xs.length c 0 0 Tryd.underlying45; rw [show A.isNone = false from by cases hA_ : A with | none => exact absurd hA_ c_1 | some _ => rfl] at h_; exact h_), trivial⟩ ?_
 refine nl (cf (sk (sq (rg (xw 1 [] [(5, .slice (some ⟨w.heap.size, 0, none⟩) 0 0)] [4] (w.alloc (.cells #[] 71)) [] trivial ?_)))))
 obtain ⟨w_2, hw_6, hb_3, hk_4, hz_5⟩ := new_world w #[] 71
 rw [hw_6]
 refine xr0 1 [(6, .slice A xs.length c)] [0] ?_
 have hr_7 := Kd.R_litB kAttr (W := w) (e := 71) (cs := #[]) [] hk_4 (repsAttr []) (Nat.le_of_ble_eq_true (by kernel_rfl))
 refine XL_appendAll (c' := c) kAttr rfl rfl rfl w.heap.size 71 (.agg #[.string ByteArray.empty, .int .i64 0, .int .i64 0, .string ByteArray.empty]) 48 Tryd.underlying45 info71 rfl (by decide) (by omega) ([]) xs (by kernel_rfl) hr_7 (Kd.C_below hx hb_3) kAttr_KM (hb_3).size (by first | omega | (simp; omega)) ?_
 intro A_8 c_9 w_10 hr_11 hc_12 hg_13 hl_14 ha_15
 have he_16 : ([] ++ xs) = xs := List.nil_append _
 rw [he_16] at hr_11 ⊢
 refine xe0 1 [(2, .slice A_8 xs.length c_9)] ?_
 refine nl (X_ret (rk [.slice A_8 xs.length c_9] (hR_ _ _ ?_)))
 exact ⟨_, _, rfl, (RX.Kd.R_len hr_11).2, Kd.R_low hr_11 (Nat.le_refl _), (bgo hb_3 hg_13 hl_14 (Nat.le_refl _))⟩
end Go.Proofs.YtkehomiogkoomaaDoor
