import Derived.Test.YtkehomiogkoomaaDoorT5
import Derived.Test.YtkehomiogkoomaaDoorR1
import Derived.Test.YtkehomiogkoomaaDoorMk
/- The reference of layer build: single operations, lengths. Conditions: sizes, the tables of utf8, the errors' variables. -/
set_option linter.unusedVariables false
set_option linter.unusedSimpArgs false
set_option maxRecDepth 100000
namespace Go.Proofs.YtkehomiogkoomaaDoor
open Go Go.RowKit Go.Proofs.YtkehomiogkoomaaDoorW.PrintWords RX
theorem ent28 : Ent Tryd.prog 28 := ent_of Tryd.func28 (by kernel_rfl) rfl
theorem ent51 : Ent Tryd.prog 51 := ent_of Tryd.func51 (by kernel_rfl) rfl
theorem ent50 : Ent Tryd.prog 50 := ent_of Tryd.func50 (by kernel_rfl) rfl
theorem ent65 : Ent Tryd.prog 65 := ent_of Tryd.func65 (by kernel_rfl) rfl
theorem ent118 : Ent Tryd.prog 118 := ent_of Tryd.func118 (by kernel_rfl) rfl
theorem ent160 : Ent Tryd.prog 160 := ent_of Tryd.func160 (by kernel_rfl) rfl
theorem ent125 : Ent Tryd.prog 125 := ent_of Tryd.func125 (by kernel_rfl) rfl
theorem ent26 : Ent Tryd.prog 26 := ent_of Tryd.func26 (by kernel_rfl) rfl
theorem ent29 : Ent Tryd.prog 29 := ent_of Tryd.func29 (by kernel_rfl) rfl
def insO (o : OpA) : Prop := o.kind = 1 ∨ o.kind = 2
instance (o : OpA) : Decidable (insO o) := by unfold insO; exact inferInstance
theorem r6ins_any (o : OpA) (A : Option Addr) (c : Nat) (w : World) (hA : kAttr.C w A o.attrs.length o.attrs) : Calls Tryd.prog 28 #[.agg #[.int .i64 o.kind, .string o.text, .int .i64 o.vk, .int .i64 o.vn, .string o.vt, .int .i64 o.count, .slice A o.attrs.length c]] w fun e w' => e = .returned (.bool (decide (insO o))) ∧ Below w.heap.size w w' := by
 refine RX.enter Tryd.func28 rfl 11 rfl [(0, .agg #[.int .i64 o.kind, .string o.text, .int .i64 o.vk, .int .i64 o.vn, .string o.vt, .int .i64 o.count, .slice A o.attrs.length c])] rfl (by kernel_rfl) (fun R_ hR_ => ?_)
 refine sq (rg (xwe 1 [] [(1, pw w.heap.size 0)] (w.alloc (.cells #[.int .i64 o.kind, .string o.text, .int .i64 o.vk, .int .i64 o.vn, .string o.vt, .int .i64 o.count, .slice A o.attrs.length c] 47)) [] trivial ?_))
 obtain ⟨w_1, hw_5, hb_2, hk_3, hz_4⟩ := new_world w #[.int .i64 o.kind, .string o.text, .int .i64 o.vk, .int .i64 o.vn, .string o.vt, .int .i64 o.count, .slice A o.attrs.length c] 47
 rw [hw_5]
 refine xr0 1 [] [] ?_
 refine nl (sq (rg (xr 2 [(4, .load (.int .i64 o.kind))] [(4, .int .i64 o.kind)] [] [LoadsAs Tryd.prog 3 (⟨w.heap.size, 0, none⟩) (.int .i64 o.kind) w_1] ⟨loads1 rfl (Blk.cell hk_3 0 _ rfl), trivial⟩ ?_)))
 by_cases c_6 : o.kind = 1
 ·refine xe 7 [(5, .eq (.bool true))] [(2, .bool true)] [Value.bool (o.kind == 1) = Value.bool true] ⟨congrArg Value.bool (beq_iff_eq.2 (c_6)), trivial⟩ ?_
  refine nl (X_ret (rk [.bool true] (hR_ _ _ ?_)))
  rw [show decide (insO o) = true from decide_eq_true (by unfold insO; omega)]
  exact ⟨rfl, hb_2⟩
 refine xe 4 [(5, .eq (.bool false)), (8, .load (.int .i64 o.kind))] [(6, .bool false), (8, .int .i64 o.kind)] [Value.bool (o.kind == 1) = Value.bool false, LoadsAs Tryd.prog 3 (⟨w.heap.size, 0, none⟩) (.int .i64 o.kind) w_1] ⟨congrArg Value.bool (beq_eq_false_iff_ne.2 (c_6)), loads1 rfl (Blk.cell hk_3 0 _ rfl), trivial⟩ ?_
 by_cases c_7 : o.kind = 2
 ·refine xe 3 [(9, .eq (.bool true))] [(2, .bool true)] [Value.bool (o.kind == 2) = Value.bool true] ⟨congrArg Value.bool (beq_iff_eq.2 (c_7)), trivial⟩ ?_
  refine nl (X_ret (rk [.bool true] (hR_ _ _ ?_)))
  rw [show decide (insO o) = true from decide_eq_true (by unfold insO; omega)]
  exact ⟨rfl, hb_2⟩
 refine xe 3 [(9, .eq (.bool false))] [(2, .bool false)] [Value.bool (o.kind == 2) = Value.bool false] ⟨congrArg Value.bool (beq_eq_false_iff_ne.2 (c_7)), trivial⟩ ?_
 refine nl (X_ret (rk [.bool false] (hR_ _ _ ?_)))
 rw [show decide (insO o) = false from decide_eq_false (by unfold insO; omega)]
 exact ⟨rfl, hb_2⟩
theorem r6plain_any (o : OpA) (A : Option Addr) (c : Nat) (w : World) (hA : kAttr.C w A o.attrs.length o.attrs) : Calls Tryd.prog 118 #[.agg #[.int .i64 o.kind, .string o.text, .int .i64 o.vk, .int .i64 o.vn, .string o.vt, .int .i64 o.count, .slice A o.attrs.length c]] w fun e w' => e = .returned (.bool (decide (plainR o))) ∧ Below w.heap.size w w' := by
 refine RX.enter Tryd.func118 rfl 12 rfl [(0, .agg #[.int .i64 o.kind, .string o.text, .int .i64 o.vk, .int .i64 o.vn, .string o.vt, .int .i64 o.count, .slice A o.attrs.length c])] rfl (by kernel_rfl) (fun R_ hR_ => ?_)
 refine sq (rg (xwe 1 [] [(1, pw w.heap.size 0)] (w.alloc (.cells #[.int .i64 o.kind, .string o.text, .int .i64 o.vk, .int .i64 o.vn, .string o.vt, .int .i64 o.count, .slice A o.attrs.length c] 47)) [] trivial ?_))
 obtain ⟨w_1, hw_5, hb_2, hk_3, hz_4⟩ := new_world w #[.int .i64 o.kind, .string o.text, .int .i64 o.vk, .int .i64 o.vn, .string o.vt, .int .i64 o.count, .slice A o.attrs.length c] 47
 rw [hw_5]
 refine xr0 1 [] [] ?_
 refine nl (sq (rg (xr 2 [(4, .load (.int .i64 o.kind))] [(4, .int .i64 o.kind)] [] [LoadsAs Tryd.prog 3 (⟨w.heap.size, 0, none⟩) (.int .i64 o.kind) w_1] ⟨loads1 rfl (Blk.cell hk_3 0 _ rfl), trivial⟩ ?_)))
 by_cases c_6 : o.kind = 3
 ·refine xe 5 [(5, .eq (.bool true)), (8, .load (.slice A o.attrs.length c))] [(6, .bool true), (9, .int .i64 (o.attrs.length : Int))] [Value.bool (o.kind == 3) = Value.bool true, LoadsAs Tryd.prog 45 (⟨w.heap.size, 6, none⟩) (.slice A o.attrs.length c) w_1] ⟨congrArg Value.bool (beq_iff_eq.2 (c_6)), loads1 rfl (Blk.cell hk_3 6 _ rfl), trivial⟩ ?_
  by_cases c_7 : (o.attrs.length : Int) = 0
  ·refine xe 3 [(10, .eq (.bool true))] [(2, .bool true)] [Value.bool ((o.attrs.length : Int) == 0) = Value.bool true] ⟨congrArg Value.bool (beq_iff_eq.2 (c_7)), trivial⟩ ?_
   refine nl (X_ret (rk [.bool true] (hR_ _ _ ?_)))
   rw [show decide (plainR o) = true from decide_eq_true (by unfold plainR; omega)]
   exact ⟨rfl, hb_2⟩
  refine xe 3 [(10, .eq (.bool false))] [(2, .bool false)] [Value.bool ((o.attrs.length : Int) == 0) = Value.bool false] ⟨congrArg Value.bool (beq_eq_false_iff_ne.2 (c_7)), trivial⟩ ?_
  refine nl (X_ret (rk [.bool false] (hR_ _ _ ?_)))
  rw [show decide (plainR o) = false from decide_eq_false (by unfold plainR; omega)]
  exact ⟨rfl, hb_2⟩
 refine xe 8 [(5, .eq (.bool false))] [(2, .bool false)] [Value.bool (o.kind == 3) = Value.bool false] ⟨congrArg Value.bool (beq_eq_false_iff_ne.2 (c_6)), trivial⟩ ?_
 refine nl (X_ret (rk [.bool false] (hR_ _ _ ?_)))
 rw [show decide (plainR o) = false from decide_eq_false (by unfold plainR; omega)]
 exact ⟨rfl, hb_2⟩
theorem r6len_any (o : OpA) (A : Option Addr) (c : Nat) (w : World) (hA : kAttr.C w A o.attrs.length o.attrs) (hu : o.kind = 1 → U.utf o.text) (hz : opSz o) : Calls Tryd.prog 51 #[.agg #[.int .i64 o.kind, .string o.text, .int .i64 o.vk, .int .i64 o.vn, .string o.vt, .int .i64 o.count, .slice A o.attrs.length c]] w fun e w' => e = .returned (.int .i64 (opLen o)) ∧ Below w.heap.size w w' := by
 have hz1 := hz.1
 have hscl := U.sc_le o.text
 refine RX.enter Tryd.func51 rfl 20 rfl [(0, .agg #[.int .i64 o.kind, .string o.text, .int .i64 o.vk, .int .i64 o.vn, .string o.vt, .int .i64 o.count, .slice A o.attrs.length c])] rfl (by kernel_rfl) (fun R_ hR_ => ?_)
 refine sq (rg (xwe 1 [] [(1, pw w.heap.size 0)] (w.alloc (.cells #[.int .i64 o.kind, .string o.text, .int .i64 o.vk, .int .i64 o.vn, .string o.vt, .int .i64 o.count, .slice A o.attrs.length c] 47)) [] trivial ?_))
 obtain ⟨w_1, hw_5, hb_2, hk_3, hz_4⟩ := new_world w #[.int .i64 o.kind, .string o.text, .int .i64 o.vk, .int .i64 o.vn, .string o.vt, .int .i64 o.count, .slice A o.attrs.length c] 47
 rw [hw_5]
 refine xr0 1 [] [] ?_
 refine nl (sq (sq (rg (xr 2 [(5, .load (.int .i64 o.kind))] [(5, .int .i64 o.kind)] [] [LoadsAs Tryd.prog 3 (⟨w.heap.size, 0, none⟩) (.int .i64 o.kind) w_1] ⟨loads1 rfl (Blk.cell hk_3 0 _ rfl), trivial⟩ ?_))))
 refine nl (bk (sq (X_region ?_)))
 by_cases c_6 : o.kind = 1
 ·refine xr 2 [(7, .eq (.bool true))] [(6, .bool true)] [] [Value.bool (o.kind == 1) = Value.bool true] ⟨congrArg Value.bool (beq_iff_eq.2 (c_6)), trivial⟩ ?_
  refine nl (ct (sq (rg (xr0 1 [(3, .int .i64 0)] [5, 6] ?_))))
  refine nl (sq (sq (rg (xr 2 [(9, .load (.string o.text))] [(9, .string o.text)] [1] [LoadsAs Tryd.prog 9 (⟨w.heap.size, 1, none⟩) (.string o.text) w_1] ⟨loads1 rfl (Blk.cell hk_3 1 _ rfl), trivial⟩ ?_))))
  refine XL_range (s := o.text) rfl rfl rfl Tryd.underlying9 rfl (fun w_7 hb_8 hi_9 => ?_)
  refine nl (X_block ?_)
  have hut := hu (by omega)
  refine X_loop (ι := Nat) (fun i => [(3, .int .i64 (i : Int)), (10, .pointer (some ⟨w_1.heap.size, 0, none⟩))]) (fun i wl => i ≤ (U.sc o.text).length ∧ wl.heap[w_1.heap.size]? = some (.stringIter o.text (U.pl o.text i)) ∧ Below w.heap.size w wl) (fun i => (U.sc o.text).length - i) 0 ⟨by omega, by rw [U.pl_zero]; exact hi_9, (bt hb_2 hb_8)⟩ (by kernel_rfl) ?_
  rintro i wl ⟨hi, hit, HB⟩
  refine sq (rg (XL_next (s := o.text) (g := w_1.heap.size) (pos := (U.pl o.text i)) rfl rfl rfl rfl hit ?_ ?_))
  ·intro hp_10 w_11 hg_12 hi_13
   refine xr0 1 [(12, .bool true)] [11] ?_
   refine nl (sq (ct (sk (bk (X_region ?_)))))
   refine xr 3 [(14, .eq (.int .i64 ((i + 1 : Nat) : Int)))] [(3, .int .i64 ((i + 1 : Nat) : Int))] [12] [Value.int .i64 (IntKind.i64.wrap ((i : Int) + 1)) = Value.int .i64 ((i + 1 : Nat) : Int)] ⟨(by rw [show (i : Int) + 1 = ((i + 1 : Nat) : Int) from by omega]; exact wr_i64 (by omega) (by omega)), trivial⟩ ?_
   refine nl ?_
   have hlt := (U.pl_lt_iff hut i hi).1 hp_10
   refine ⟨(i + 1), by kernel_rfl, ?_, ?_⟩
   ·have hst := U.pl_step hut i hlt
    have hdc : (Utf8.decode o.text (U.pl o.text i)).2 = (U.enc (U.sc o.text)[i]).length := by rw [hst.1]
    rw [hdc, ← hst.2.1] at hi_13
    exact ⟨by omega, hi_13, (bg HB hg_12 (hb_2).size)⟩
   (try dsimp only); omega
  intro hp_14
  refine xr0 1 [(12, .bool false)] [11] ?_
  refine nl (sq (cf (X_exit (sq (rg (xe0 2 [(2, nv i)] ?_))))))
  refine nl (X_ret (rk [.int .i64 (i : Int)] (hR_ _ _ ?_)))
  have hend : i = (U.sc o.text).length := by have h_ := mt (U.pl_lt_iff hut i hi).2 hp_14; omega
  rw [show opLen o = (i : Int) from by unfold opLen; rw [if_pos (by omega), hend]]
  exact ⟨rfl, HB⟩
 refine xr 2 [(7, .eq (.bool false))] [(6, .bool false)] [] [Value.bool (o.kind == 1) = Value.bool false] ⟨congrArg Value.bool (beq_eq_false_iff_ne.2 (c_6)), trivial⟩ ?_
 refine nl (cf (sq (X_region ?_)))
 by_cases c_15 : o.kind = 2
 ·refine xr 2 [(17, .eq (.bool true))] [(16, .bool true)] [5, 6] [Value.bool (o.kind == 2) = Value.bool true] ⟨congrArg Value.bool (beq_iff_eq.2 (c_15)), trivial⟩ ?_
  refine nl (ct (sq (rg (xe0 1 [(2, .int .i64 1)] ?_))))
  refine nl (X_ret (rk [.int .i64 1] (hR_ _ _ ?_)))
  rw [show opLen o = 1 from by unfold opLen; rw [if_neg (by omega), if_pos (by omega)]]
  exact ⟨rfl, hb_2⟩
 refine xr 2 [(17, .eq (.bool false))] [(16, .bool false)] [5, 6] [Value.bool (o.kind == 2) = Value.bool false] ⟨congrArg Value.bool (beq_eq_false_iff_ne.2 (c_15)), trivial⟩ ?_
 refine nl (cf (sk (sq (rg (xe 3 [(19, .load (.int .i64 o.count))] [(2, .int .i64 o.count)] [LoadsAs Tryd.prog 3 (⟨w.heap.size, 5, none⟩) (.int .i64 o.count) w_1] ⟨loads1 rfl (Blk.cell hk_3 5 _ rfl), trivial⟩ ?_)))))
 refine nl (X_ret (rk [.int .i64 o.count] (hR_ _ _ ?_)))
 rw [show opLen o = o.count from by unfold opLen; rw [if_neg (by omega), if_neg (by omega)]]
 exact ⟨rfl, hb_2⟩
theorem r6sameOp_any (a b : OpA) (A B : Option Addr) (c d : Nat) (w : World) (hA : kAttr.C w A a.attrs.length a.attrs) (hB : kAttr.C w B b.attrs.length b.attrs) : Calls Tryd.prog 50 #[.agg #[.int .i64 a.kind, .string a.text, .int .i64 a.vk, .int .i64 a.vn, .string a.vt, .int .i64 a.count, .slice A a.attrs.length c], .agg #[.int .i64 b.kind, .string b.text, .int .i64 b.vk, .int .i64 b.vn, .string b.vt, .int .i64 b.count, .slice B b.attrs.length d]] w fun e w' => e = .returned (.bool (opEqP a b)) ∧ Below w.heap.size w w' := by
 refine RX.enter Tryd.func50 rfl 38 rfl [(0, .agg #[.int .i64 a.kind, .string a.text, .int .i64 a.vk, .int .i64 a.vn, .string a.vt, .int .i64 a.count, .slice A a.attrs.length c]), (1, .agg #[.int .i64 b.kind, .string b.text, .int .i64 b.vk, .int .i64 b.vn, .string b.vt, .int .i64 b.count, .slice B b.attrs.length d])] rfl (by kernel_rfl) (fun R_ hR_ => ?_)
 refine sq (rg (xwe 1 [] [(1, .agg #[.int .i64 b.kind, .string b.text, .int .i64 b.vk, .int .i64 b.vn, .string b.vt, .int .i64 b.count, .slice B b.attrs.length d]), (2, pw w.heap.size 0)] (w.alloc (.cells #[.int .i64 a.kind, .string a.text, .int .i64 a.vk, .int .i64 a.vn, .string a.vt, .int .i64 a.count, .slice A a.attrs.length c] 47)) [] trivial ?_))
 obtain ⟨w_1, hw_5, hb_2, hk_3, hz_4⟩ := new_world w #[.int .i64 a.kind, .string a.text, .int .i64 a.vk, .int .i64 a.vn, .string a.vt, .int .i64 a.count, .slice A a.attrs.length c] 47
 rw [hw_5]
 refine xw 1 [] [(3, pw w_1.heap.size 0)] [1] (w_1.alloc (.cells #[.int .i64 b.kind, .string b.text, .int .i64 b.vk, .int .i64 b.vn, .string b.vt, .int .i64 b.count, .slice B b.attrs.length d] 47)) [] trivial ?_
 obtain ⟨w_6, hw_10, hb_7, hk_8, hz_9⟩ := new_world w_1 #[.int .i64 b.kind, .string b.text, .int .i64 b.vk, .int .i64 b.vn, .string b.vt, .int .i64 b.count, .slice B b.attrs.length d] 47
 rw [hw_10]
 refine xr0 1 [] [] ?_
 refine nl (sq (rg (xr 4 [(6, .load (.int .i64 a.kind)), (8, .load (.int .i64 b.kind))] [(6, .int .i64 a.kind), (8, .int .i64 b.kind)] [] [LoadsAs Tryd.prog 3 (⟨w.heap.size, 0, none⟩) (.int .i64 a.kind) w_6, LoadsAs Tryd.prog 3 (⟨w_1.heap.size, 0, none⟩) (.int .i64 b.kind) w_6] ⟨loads1 rfl (Blk.cell (Blk.below hk_3 hb_7) 0 _ rfl), loads1 rfl (Blk.cell hk_8 0 _ rfl), trivial⟩ ?_)))
 by_cases c_11 : a.kind = b.kind
 ·refine xr 6 [(9, .eq (.bool true)), (12, .load (.string a.text)), (14, .load (.string b.text))] [(10, .bool true), (12, .string a.text), (14, .string b.text)] [6, 8] [Value.bool (a.kind == b.kind) = Value.bool true, LoadsAs Tryd.prog 9 (⟨w.heap.size, 1, none⟩) (.string a.text) w_6, LoadsAs Tryd.prog 9 (⟨w_1.heap.size, 1, none⟩) (.string b.text) w_6] ⟨congrArg Value.bool (beq_iff_eq.2 (c_11)), loads1 rfl (Blk.cell (Blk.below hk_3 hb_7) 1 _ rfl), loads1 rfl (Blk.cell hk_8 1 _ rfl), trivial⟩ ?_
  by_cases c_12 : a.text = b.text
  ·refine xr 7 [(15, .eq (.bool true)), (19, .load (.agg #[.int .i64 a.vk, .int .i64 a.vn, .string a.vt])), (21, .load (.agg #[.int .i64 b.vk, .int .i64 b.vn, .string b.vt]))] [(17, .bool true), (19, .agg #[.int .i64 a.vk, .int .i64 a.vn, .string a.vt]), (21, .agg #[.int .i64 b.vk, .int .i64 b.vn, .string b.vt])] [10, 12, 14] [Value.bool (a.text.toList == b.text.toList) = Value.bool true, LoadsAs Tryd.prog 44 (⟨w.heap.size, 2, none⟩) (.agg #[.int .i64 a.vk, .int .i64 a.vn, .string a.vt]) w_6, LoadsAs Tryd.prog 44 (⟨w_1.heap.size, 2, none⟩) (.agg #[.int .i64 b.vk, .int .i64 b.vn, .string b.vt]) w_6] ⟨congrArg Value.bool (strEqT (c_12)), loadsB rfl rfl (Blk.below hk_3 hb_7) 2 ⟨by kernel_rfl, by kernel_rfl⟩, loadsB rfl rfl hk_8 2 ⟨by kernel_rfl, by kernel_rfl⟩, trivial⟩ ?_
   by_cases c_13 : (a.vk, a.vn, a.vt) = (b.vk, b.vn, b.vt)
   ·refine xe 7 [(22, .as (.bool true)), (26, .load (.int .i64 a.count)), (28, .load (.int .i64 b.count))] [(2, pw w.heap.size 0), (3, pw w_1.heap.size 0), (24, .bool true), (26, .int .i64 a.count), (28, .int .i64 b.count)] [RunsAs Tryd.prog [(19, .agg #[.int .i64 a.vk, .int .i64 a.vn, .string a.vt]), (21, .agg #[.int .i64 b.vk, .int .i64 b.vn, .string b.vt])] (Go.Op.binOp Go.BinOp.eql 44 (Go.Operand.tmp 19) (Go.Operand.tmp 21) 44) 4 (.bool true) w_6, LoadsAs Tryd.prog 3 (⟨w.heap.size, 5, none⟩) (.int .i64 a.count) w_6, LoadsAs Tryd.prog 3 (⟨w_1.heap.size, 5, none⟩) (.int .i64 b.count) w_6] ⟨runs_bin rfl rfl (run_eqGuard_agg _ _ _ _ _ _ _ (by kernel_rfl)) (by have h := plain_eqb (a.vk, a.vn, a.vt) (b.vk, b.vn, b.vt) w_6; rw [show ple (a.vk, a.vn, a.vt) (b.vk, b.vn, b.vt) = true from (ple_iff _ _).2 c_13] at h; exact h), loads1 rfl (Blk.cell (Blk.below hk_3 hb_7) 5 _ rfl), loads1 rfl (Blk.cell hk_8 5 _ rfl), trivial⟩ ?_
    by_cases c_14 : a.count = b.count
    ·refine xe 7 [(29, .eq (.bool true)), (33, .load (.slice A a.attrs.length c)), (35, .load (.slice B b.attrs.length d))] [(31, .bool true), (33, .slice A a.attrs.length c), (35, .slice B b.attrs.length d)] [Value.bool (a.count == b.count) = Value.bool true, LoadsAs Tryd.prog 45 (⟨w.heap.size, 6, none⟩) (.slice A a.attrs.length c) w_6, LoadsAs Tryd.prog 45 (⟨w_1.heap.size, 6, none⟩) (.slice B b.attrs.length d) w_6] ⟨congrArg Value.bool (beq_iff_eq.2 (c_14)), loads1 rfl (Blk.cell (Blk.below hk_3 hb_7) 6 _ rfl), loads1 rfl (Blk.cell hk_8 6 _ rfl), trivial⟩ ?_
     refine xc 46 ent46 [.slice A a.attrs.length c, .slice B b.attrs.length d] (refSame_any _ _ _ _ a.attrs b.attrs _ (Kd.C_below hA (bt hb_2 hb_7)) (Kd.C_below hB (bt hb_2 hb_7))) ?_
     rintro e w_15 ⟨rfl, hb_16⟩; refine ⟨_, rfl, ?_⟩
     refine xe0 2 [(4, .bool (decide (a.attrs = b.attrs)))] ?_
     refine nl (X_ret (rk [.bool (decide (a.attrs = b.attrs))] (hR_ _ _ ?_)))
     rw [show opEqP a b = decide (a.attrs = b.attrs) from by unfold opEqP; simp_all]
     exact ⟨rfl, (bt (bt hb_2 hb_7) hb_16)⟩
    refine xe 10 [(29, .eq (.bool false))] [(4, .bool false)] [Value.bool (a.count == b.count) = Value.bool false] ⟨congrArg Value.bool (beq_eq_false_iff_ne.2 (c_14)), trivial⟩ ?_
    refine nl (X_ret (rk [.bool false] (hR_ _ _ ?_)))
    rw [show opEqP a b = false from by unfold opEqP; simp_all]
    exact ⟨rfl, (bt hb_2 hb_7)⟩
   refine xe 17 [(22, .as (.bool false))] [(4, .bool false)] [RunsAs Tryd.prog [(19, .agg #[.int .i64 a.vk, .int .i64 a.vn, .string a.vt]), (21, .agg #[.int .i64 b.vk, .int .i64 b.vn, .string b.vt])] (Go.Op.binOp Go.BinOp.eql 44 (Go.Operand.tmp 19) (Go.Operand.tmp 21) 44) 4 (.bool false) w_6] ⟨runs_bin rfl rfl (run_eqGuard_agg _ _ _ _ _ _ _ (by kernel_rfl)) (by have h := plain_eqb (a.vk, a.vn, a.vt) (b.vk, b.vn, b.vt) w_6; rw [show ple (a.vk, a.vn, a.vt) (b.vk, b.vn, b.vt) = false from Bool.eq_false_iff.2 (fun k => c_13 ((ple_iff _ _).1 k))] at h; exact h), trivial⟩ ?_
   refine nl (X_ret (rk [.bool false] (hR_ _ _ ?_)))
   rw [show opEqP a b = false from by unfold opEqP; simp_all]
   exact ⟨rfl, (bt hb_2 hb_7)⟩
  refine xe 24 [(15, .eq (.bool false))] [(4, .bool false)] [Value.bool (a.text.toList == b.text.toList) = Value.bool false] ⟨congrArg Value.bool (strEqF (c_12)), trivial⟩ ?_
  refine nl (X_ret (rk [.bool false] (hR_ _ _ ?_)))
  rw [show opEqP a b = false from by unfold opEqP; simp_all]
  exact ⟨rfl, (bt hb_2 hb_7)⟩
 refine xe 30 [(9, .eq (.bool false))] [(4, .bool false)] [Value.bool (a.kind == b.kind) = Value.bool false] ⟨congrArg Value.bool (beq_eq_false_iff_ne.2 (c_11)), trivial⟩ ?_
 refine nl (X_ret (rk [.bool false] (hR_ _ _ ?_)))
 rw [show opEqP a b = false from by unfold opEqP; simp_all]
 exact ⟨rfl, (bt hb_2 hb_7)⟩
theorem r6same_any (A B : Option Addr) (c d : Nat) (xs ys : List OpA) (w : World) (hx : kOp.C w A xs.length xs) (hy : kOp.C w B ys.length ys) : Calls Tryd.prog 65 #[.slice A xs.length c, .slice B ys.length d] w fun e w' => e = .returned (.bool (opsEqP xs ys)) ∧ Below w.heap.size w w' := by
 have hpl : xs.length ≤ 9223372036854775807 := hx.2.1
 refine RX.enter Tryd.func65 rfl 27 rfl [(0, .slice A xs.length c), (1, .slice B ys.length d)] rfl (by kernel_rfl) (fun R_ hR_ => ?_)
 refine sq (rg (xe0 1 [(0, .slice A xs.length c), (1, .slice B ys.length d)] ?_))
 refine nl (sq (sq (rg (xr0 4 [(7, .int .i64 (xs.length : Int)), (9, .int .i64 (ys.length : Int))] [] ?_))))
 by_cases c_1 : (xs.length : Int) = (ys.length : Int)
 ·refine xr 1 [(10, .eq (.bool false))] [(10, .bool false)] [7, 9] [Value.bool ((xs.length : Int) != (ys.length : Int)) = Value.bool false] ⟨congrArg Value.bool (bneF (c_1)), trivial⟩ ?_
  refine nl (cf (sk (sq (sq (rg (xr0 3 [(12, .int .i64 (xs.length : Int)), (13, .int .i64 0)] [10] ?_))))))
  refine nl (bk (X_loop (ι := Nat) (fun i => [(0, .slice A xs.length c), (1, .slice B ys.length d), (12, .int .i64 (xs.length : Int)), (13, .int .i64 (i : Int))]) (fun i wl => i ≤ xs.length ∧ xs.length = ys.length ∧ (∀ q, q < i → xs.getD q op0 = ys.getD q op0) ∧ Below w.heap.size w wl) (fun i => xs.length - i) 0 ⟨by omega, by omega, fun q hq => by omega, (Below.refl _ _)⟩ (by kernel_rfl) ?_))
  rintro i wl ⟨hi, hlen, hq0, HB⟩
  refine sq (X_region ?_)
  by_cases c_2 : (i : Int) < (xs.length : Int)
  ·refine xr 1 [(14, .eq (.bool true))] [(14, .bool true)] [] [Value.bool (decide ((i : Int) < (xs.length : Int))) = Value.bool true] ⟨congrArg Value.bool (decide_eq_true (c_2)), trivial⟩ ?_
   refine nl (sq (ct (sk (sq (bk (sq (rg (xr0 2 [(5, nv i)] [14] ?_))))))))
   refine nl (sq (X_any [8] 10 #[false, false, false, false, false, false, false, false, false, false] (by kernel_rfl) (by kernel_rfl) (by kernel_rfl) (fun wd_3 hb_4 hh_5 => ?_)))
   refine XA_run (fuel' := 8) [0, 1] [] [.slice A xs.length c, .int .i64 (i : Int)] #[true, true, false, false, false, false, false, false, false, false] [(0, .slice A xs.length c), (1, .slice B ys.length d), (5, .int .i64 (i : Int)), (12, .int .i64 (xs.length : Int)), (13, .int .i64 (i : Int)), (16, .slice A xs.length c), (17, .int .i64 (i : Int))] [] (fun _ _ _ _ h => h) (by kernel_rfl) rfl trivial ?_
   obtain ⟨ad_6, B_9, c_10, ha_7, hc_8, hl_11, hC_12⟩ := Kd.atOp (Kd.C_below hx (bt HB hb_4)) (i := (i : Int)) (by omega) (by omega)
   replace hc_8 : CellsAt wd_3 (ad_6.add ((i : Int).toNat * 7)) [.int .i64 ((xs.getD i op0).kind), .string ((xs.getD i op0).text), .int .i64 ((xs.getD i op0).vk), .int .i64 ((xs.getD i op0).vn), .string ((xs.getD i op0).vt), .int .i64 ((xs.getD i op0).count), .slice B_9 ((xs.getD i op0).attrs.length) c_10] := hc_8
   replace hl_11 : (xs.getD i op0).attrs.length ≤ c_10 := hl_11
   replace hC_12 : kAttr.C wd_3 B_9 ((xs.getD i op0).attrs.length) (xs.getD i op0).attrs := hC_12
   refine XA_run (fuel' := 4) [2, 3, 4, 5] [(18, .idx ad_6), (19, .load (.agg #[.int .i64 ((xs.getD i op0).kind), .string ((xs.getD i op0).text), .int .i64 ((xs.getD i op0).vk), .int .i64 ((xs.getD i op0).vn), .string ((xs.getD i op0).vt), .int .i64 ((xs.getD i op0).count), .slice B_9 ((xs.getD i op0).attrs.length) c_10]))] [.pointer (some (ad_6.add ((i : Int).toNat * 7))), .agg #[.int .i64 ((xs.getD i op0).kind), .string ((xs.getD i op0).text), .int .i64 ((xs.getD i op0).vk), .int .i64 ((xs.getD i op0).vn), .string ((xs.getD i op0).vt), .int .i64 ((xs.getD i op0).count), .slice B_9 ((xs.getD i op0).attrs.length) c_10], .slice B ys.length d, .int .i64 (i : Int)] #[true, true, true, true, true, true, false, false, false, false] [(0, .slice A xs.length c), (1, .slice B ys.length d), (12, .int .i64 (xs.length : Int)), (13, .int .i64 (i : Int)), (19, .agg #[.int .i64 ((xs.getD i op0).kind), .string ((xs.getD i op0).text), .int .i64 ((xs.getD i op0).vk), .int .i64 ((xs.getD i op0).vn), .string ((xs.getD i op0).vt), .int .i64 ((xs.getD i op0).count), .slice B_9 ((xs.getD i op0).attrs.length) c_10]), (20, .slice B ys.length d), (21, .int .i64 (i : Int))] [A = some ad_6, (0 : Int) ≤ (i : Int), (i : Int) < (xs.length : Int), LoadsAs Tryd.prog 47 (ad_6.add ((i : Int).toNat * 7)) (.agg #[.int .i64 ((xs.getD i op0).kind), .string ((xs.getD i op0).text), .int .i64 ((xs.getD i op0).vk), .int .i64 ((xs.getD i op0).vn), .string ((xs.getD i op0).vt), .int .i64 ((xs.getD i op0).count), .slice B_9 ((xs.getD i op0).attrs.length) c_10]) wd_3] (fun _ _ _ _ h => h) (by kernel_rfl) rfl ⟨ha_7, (by omega), (by omega), loadsE rfl rfl hc_8 0 ⟨by kernel_rfl, by kernel_rfl⟩, trivial⟩ ?_
   obtain ⟨ad_13, B_16, c_17, ha_14, hc_15, hl_18, hC_19⟩ := Kd.atOp (Kd.C_below hy (bt HB hb_4)) (i := (i : Int)) (by omega) (by omega)
   replace hc_15 : CellsAt wd_3 (ad_13.add ((i : Int).toNat * 7)) [.int .i64 ((ys.getD i op0).kind), .string ((ys.getD i op0).text), .int .i64 ((ys.getD i op0).vk), .int .i64 ((ys.getD i op0).vn), .string ((ys.getD i op0).vt), .int .i64 ((ys.getD i op0).count), .slice B_16 ((ys.getD i op0).attrs.length) c_17] := hc_15
   replace hl_18 : (ys.getD i op0).attrs.length ≤ c_17 := hl_18
   replace hC_19 : kAttr.C wd_3 B_16 ((ys.getD i op0).attrs.length) (ys.getD i op0).attrs := hC_19
   refine XA_run (fuel' := 2) [6, 7] [(22, .idx ad_13), (23, .load (.agg #[.int .i64 ((ys.getD i op0).kind), .string ((ys.getD i op0).text), .int .i64 ((ys.getD i op0).vk), .int .i64 ((ys.getD i op0).vn), .string ((ys.getD i op0).vt), .int .i64 ((ys.getD i op0).count), .slice B_16 ((ys.getD i op0).attrs.length) c_17]))] [.pointer (some (ad_13.add ((i : Int).toNat * 7))), .agg #[.int .i64 ((ys.getD i op0).kind), .string ((ys.getD i op0).text), .int .i64 ((ys.getD i op0).vk), .int .i64 ((ys.getD i op0).vn), .string ((ys.getD i op0).vt), .int .i64 ((ys.getD i op0).count), .slice B_16 ((ys.getD i op0).attrs.length) c_17]] #[true, true, true, true, true, true, true, true, false, false] [(0, .slice A xs.length c), (1, .slice B ys.length d), (12, .int .i64 (xs.length : Int)), (13, .int .i64 (i : Int)), (19, .agg #[.int .i64 ((xs.getD i op0).kind), .string ((xs.getD i op0).text), .int .i64 ((xs.getD i op0).vk), .int .i64 ((xs.getD i op0).vn), .string ((xs.getD i op0).vt), .int .i64 ((xs.getD i op0).count), .slice B_9 ((xs.getD i op0).attrs.length) c_10]), (23, .agg #[.int .i64 ((ys.getD i op0).kind), .string ((ys.getD i op0).text), .int .i64 ((ys.getD i op0).vk), .int .i64 ((ys.getD i op0).vn), .string ((ys.getD i op0).vt), .int .i64 ((ys.getD i op0).count), .slice B_16 ((ys.getD i op0).attrs.length) c_17])] [B = some ad_13, (0 : Int) ≤ (i : Int), (i : Int) < (ys.length : Int), LoadsAs Tryd.prog 47 (ad_13.add ((i : Int).toNat * 7)) (.agg #[.int .i64 ((ys.getD i op0).kind), .string ((ys.getD i op0).text), .int .i64 ((ys.getD i op0).vk), .int .i64 ((ys.getD i op0).vn), .string ((ys.getD i op0).vt), .int .i64 ((ys.getD i op0).count), .slice B_16 ((ys.getD i op0).attrs.length) c_17]) wd_3] (fun _ _ _ _ h => h) (by kernel_rfl) rfl ⟨ha_14, (by omega), (by omega), loadsE rfl rfl hc_15 0 ⟨by kernel_rfl, by kernel_rfl⟩, trivial⟩ ?_
   refine XA_act (fuel' := 1) 8 #[true, true, true, true, true, true, true, true, true, false] _ rfl (by kernel_rfl) rfl (by kernel_rfl) rfl ?_
   refine xc 50 ent50 [.agg #[.int .i64 ((xs.getD i op0).kind), .string ((xs.getD i op0).text), .int .i64 ((xs.getD i op0).vk), .int .i64 ((xs.getD i op0).vn), .string ((xs.getD i op0).vt), .int .i64 ((xs.getD i op0).count), .slice B_9 ((xs.getD i op0).attrs.length) c_10], .agg #[.int .i64 ((ys.getD i op0).kind), .string ((ys.getD i op0).text), .int .i64 ((ys.getD i op0).vk), .int .i64 ((ys.getD i op0).vn), .string ((ys.getD i op0).vt), .int .i64 ((ys.getD i op0).count), .slice B_16 ((ys.getD i op0).attrs.length) c_17]] (r6sameOp_any (xs.getD i op0) (ys.getD i op0) _ _ _ _ _ hC_12 hC_19) ?_
   rintro e w_20 ⟨rfl, hb_21⟩; refine ⟨_, rfl, ?_⟩
   refine nl ?_
   by_cases c_22 : opEqP (xs.getD i op0) (ys.getD i op0) = true
   ·rw [show (opEqP (xs.getD i op0) (ys.getD i op0) : Bool) = true from by simpa using c_22]
    refine XA_pure (fuel' := 0) [9] [] [.bool false] #[true, true, true, true, true, true, true, true, true, true] [(0, .slice A xs.length c), (1, .slice B ys.length d), (12, .int .i64 (xs.length : Int)), (13, .int .i64 (i : Int)), (25, .bool false)] (fun w_ => []) (fun _ _ _ _ h => h) (fun w_ => by kernel_rfl) rfl (fun w_ => trivial) ?_
    refine XA_done (by kernel_rfl) ?_
    refine cf (sk (rg (xr 2 [(26, .eq (.int .i64 ((i : Int) + 1)))] [(13, .int .i64 ((i : Int) + 1))] [25] [Value.int .i64 (IntKind.i64.wrap ((i : Int) + 1)) = Value.int .i64 ((i : Int) + 1)] ⟨wr_i64 (by omega) (by omega), trivial⟩ ?_)))
    refine nl ?_
    refine ⟨(i + 1), by kernel_rfl, ?_, ?_⟩
    ·exact ⟨by omega, by omega, fun q hq => by by_cases e_ : q = i; (· subst e_; exact (opEqP_iff _ _).1 c_22); (· exact hq0 q (by omega)), (bt (bt HB hb_4) hb_21)⟩
    (try dsimp only); omega
   rw [show (opEqP (xs.getD i op0) (ys.getD i op0) : Bool) = false from by simpa using c_22]
   refine XA_pure (fuel' := 0) [9] [] [.bool true] #[true, true, true, true, true, true, true, true, true, true] [(0, .slice A xs.length c), (1, .slice B ys.length d), (12, .int .i64 (xs.length : Int)), (13, .int .i64 (i : Int)), (25, .bool true)] (fun w_ => []) (fun _ _ _ _ h => h) (fun w_ => by kernel_rfl) rfl (fun w_ => trivial) ?_
   refine XA_done (by kernel_rfl) ?_
   refine ct (sq (rg (xe0 1 [(4, .bool false)] ?_)))
   refine nl (X_ret (rk [.bool false] (hR_ _ _ ?_)))
   rw [(opsEqP_false xs ys).2 (fun e_ => c_22 ((opEqP_iff _ _).2 (by rw [e_])))]
   exact ⟨rfl, (bt (bt HB hb_4) hb_21)⟩
  refine xr 1 [(14, .eq (.bool false))] [(14, .bool false)] [] [Value.bool (decide ((i : Int) < (xs.length : Int))) = Value.bool false] ⟨congrArg Value.bool (decide_eq_false (c_2)), trivial⟩ ?_
  refine nl (sq (cf (X_exit (sq (rg (xe0 1 [(4, .bool true)] ?_))))))
  refine nl (X_ret (rk [.bool true] (hR_ _ _ ?_)))
  rw [(opsEqP_iff xs ys).2 (ops_ext hlen (fun q hq => hq0 q (by omega)))]
  exact ⟨rfl, HB⟩
 refine xr 1 [(10, .eq (.bool true))] [(10, .bool true)] [7, 9] [Value.bool ((xs.length : Int) != (ys.length : Int)) = Value.bool true] ⟨congrArg Value.bool (bneT (c_1)), trivial⟩ ?_
 refine nl (ct (sq (rg (xe0 1 [(4, .bool false)] ?_))))
 refine nl (X_ret (rk [.bool false] (hR_ _ _ ?_)))
 rw [(opsEqP_false xs ys).2 (fun e_ => by subst e_; omega)]
 exact ⟨rfl, (Below.refl _ _)⟩
def capL (n : Int) : Int := if 1099511627776 < n then -1 else n
theorem ok_utf {o : OpA} (h : pErr o = 0) (hk : o.kind = 1) : U.utf o.text := (B.ok_ins h hk).2.2.2.2.2.1
set_option maxHeartbeats 2000000 in
theorem r6lens_any (A : Option Addr) (c : Nat) (xs : List OpA) (w : World) (hx : kOp.C w A xs.length xs) (hn : xs.length ≤ 1100000) (hz : ∀ i, i < xs.length → opSz (xs.getD i op0)) (hb : badE xs = 0) : Calls Tryd.prog 160 #[.slice A xs.length c] w fun e w' => e = .returned (.tuple #[.int .i64 (capL (sB xs)), .int .i64 (capL (sR xs))]) ∧ Below w.heap.size w w' := by
 have hpl : xs.length ≤ 9223372036854775807 := hx.2.1
 refine RX.enter Tryd.func160 rfl 46 rfl [(0, .slice A xs.length c)] rfl (by kernel_rfl) (fun R_ hR_ => ?_)
 refine sq (rg (xe0 2 [(0, .slice A xs.length c)] ?_))
 refine nl (sq (rg (xr0 2 [(4, .int .i64 0), (5, .int .i64 0)] [] ?_)))
 refine nl (sq (sq (rg (xr0 3 [(9, .slice A xs.length c), (10, .int .i64 (xs.length : Int)), (11, .int .i64 0)] [0] ?_))))
 refine nl (bk (X_loop (ι := Nat × Int × Int) (fun ⟨i, b, r⟩ => [(4, .int .i64 b), (5, .int .i64 r), (9, .slice A xs.length c), (10, .int .i64 (xs.length : Int)), (11, .int .i64 (i : Int))]) (fun ⟨i, b, r⟩ wl => i ≤ xs.length ∧ b = capL (sB (xs.take i)) ∧ r = capL (sR (xs.take i)) ∧ Below w.heap.size w wl) (fun ⟨i, b, r⟩ => xs.length - i) (0, 0, 0) ⟨by omega, rfl, rfl, (Below.refl _ _)⟩ (by kernel_rfl) ?_))
 rintro ⟨i, b, r⟩ wl ⟨hi, hbb, hrr, HB⟩
 have hs0 := sB_ok (badE_take hb i)
 have hs1 := sR_ok (badE_take hb i)
 have hst1 := fun (h_ : i < xs.length) => B.sB_take h_
 have hst2 := fun (h_ : i < xs.length) => B.sR_take h_
 unfold capL at hbb hrr
 refine sq (X_region ?_)
 by_cases c_1 : (i : Int) < (xs.length : Int)
 ·refine xr 1 [(12, .eq (.bool true))] [(12, .bool true)] [] [Value.bool (decide ((i : Int) < (xs.length : Int))) = Value.bool true] ⟨congrArg Value.bool (decide_eq_true (c_1)), trivial⟩ ?_
  refine nl (sq (ct (sk (sq (bk (sq (X_region ?_)))))))
  obtain ⟨ad_2, B_5, c_6, ha_3, hc_4, hl_7, hC_8⟩ := Kd.atOp (Kd.C_below hx HB) (i := (i : Int)) (by omega) (by omega)
  replace hc_4 : CellsAt wl (ad_2.add ((i : Int).toNat * 7)) [.int .i64 ((xs.getD i op0).kind), .string ((xs.getD i op0).text), .int .i64 ((xs.getD i op0).vk), .int .i64 ((xs.getD i op0).vn), .string ((xs.getD i op0).vt), .int .i64 ((xs.getD i op0).count), .slice B_5 ((xs.getD i op0).attrs.length) c_6] := hc_4
  replace hl_7 : (xs.getD i op0).attrs.length ≤ c_6 := hl_7
  replace hC_8 : kAttr.C wl B_5 ((xs.getD i op0).attrs.length) (xs.getD i op0).attrs := hC_8
  refine xw 3 [(13, .idx ad_2), (14, .load (.agg #[.int .i64 ((xs.getD i op0).kind), .string ((xs.getD i op0).text), .int .i64 ((xs.getD i op0).vk), .int .i64 ((xs.getD i op0).vn), .string ((xs.getD i op0).vt), .int .i64 ((xs.getD i op0).count), .slice B_5 ((xs.getD i op0).attrs.length) c_6]))] [(7, pw wl.heap.size 0), (14, .agg #[.int .i64 ((xs.getD i op0).kind), .string ((xs.getD i op0).text), .int .i64 ((xs.getD i op0).vk), .int .i64 ((xs.getD i op0).vn), .string ((xs.getD i op0).vt), .int .i64 ((xs.getD i op0).count), .slice B_5 ((xs.getD i op0).attrs.length) c_6])] [12] (wl.alloc (.cells #[.int .i64 0, .string ByteArray.empty, .int .i64 0, .int .i64 0, .string ByteArray.empty, .int .i64 0, .slice none 0 0] 47)) [A = some ad_2, (0 : Int) ≤ (i : Int), (i : Int) < (xs.length : Int), LoadsAs Tryd.prog 47 (ad_2.add ((i : Int).toNat * 7)) (.agg #[.int .i64 ((xs.getD i op0).kind), .string ((xs.getD i op0).text), .int .i64 ((xs.getD i op0).vk), .int .i64 ((xs.getD i op0).vn), .string ((xs.getD i op0).vt), .int .i64 ((xs.getD i op0).count), .slice B_5 ((xs.getD i op0).attrs.length) c_6]) wl] ⟨ha_3, (by omega), (by omega), loadsE rfl rfl hc_4 0 ⟨by kernel_rfl, by kernel_rfl⟩, trivial⟩ ?_
  obtain ⟨w_9, hw_13, hb_10, hk_11, hz_12⟩ := new_world wl #[.int .i64 0, .string ByteArray.empty, .int .i64 0, .int .i64 0, .string ByteArray.empty, .int .i64 0, .slice none 0 0] 47
  rw [hw_13]
  refine xst (.agg #[.int .i64 ((xs.getD i op0).kind), .string ((xs.getD i op0).text), .int .i64 ((xs.getD i op0).vk), .int .i64 ((xs.getD i op0).vn), .string ((xs.getD i op0).vt), .int .i64 ((xs.getD i op0).count), .slice B_5 ((xs.getD i op0).attrs.length) c_6]) hk_11 0 #[.int .i64 ((xs.getD i op0).kind), .string ((xs.getD i op0).text), .int .i64 ((xs.getD i op0).vk), .int .i64 ((xs.getD i op0).vn), .string ((xs.getD i op0).vt), .int .i64 ((xs.getD i op0).count), .slice B_5 ((xs.getD i op0).attrs.length) c_6] (fun w_14 hg_15 hk_16 hz_17 => ?_)
  refine nl (sq (rg (xr 1 [(15, .load (.agg #[.int .i64 ((xs.getD i op0).kind), .string ((xs.getD i op0).text), .int .i64 ((xs.getD i op0).vk), .int .i64 ((xs.getD i op0).vn), .string ((xs.getD i op0).vt), .int .i64 ((xs.getD i op0).count), .slice B_5 ((xs.getD i op0).attrs.length) c_6]))] [(15, .agg #[.int .i64 ((xs.getD i op0).kind), .string ((xs.getD i op0).text), .int .i64 ((xs.getD i op0).vk), .int .i64 ((xs.getD i op0).vn), .string ((xs.getD i op0).vt), .int .i64 ((xs.getD i op0).count), .slice B_5 ((xs.getD i op0).attrs.length) c_6])] [14] [LoadsAs Tryd.prog 47 (⟨wl.heap.size, 0, none⟩) (.agg #[.int .i64 ((xs.getD i op0).kind), .string ((xs.getD i op0).text), .int .i64 ((xs.getD i op0).vk), .int .i64 ((xs.getD i op0).vn), .string ((xs.getD i op0).vt), .int .i64 ((xs.getD i op0).count), .slice B_5 ((xs.getD i op0).attrs.length) c_6]) w_14] ⟨loadsB rfl rfl hk_16 0 ⟨by kernel_rfl, by kernel_rfl⟩, trivial⟩ ?_)))
  have hpe := badE_getD hb (show i < xs.length by omega)
  have hszi := hz i (by omega)
  have hsci := U.sc_le (xs.getD i op0).text
  have hszt := hszi.1
  have hcni := fun hk_ => count_of_ok hpe hk_
  have hki := kind_of_ok hpe
  have hol : opLen (xs.getD i op0) = (if (xs.getD i op0).kind = 1 then ((U.sc (xs.getD i op0).text).length : Int) else if (xs.getD i op0).kind = 2 then 1 else (xs.getD i op0).count) := rfl
  have hob : opB (xs.getD i op0) = (if (xs.getD i op0).kind = 3 ∨ (xs.getD i op0).kind = 4 then opLen (xs.getD i op0) else 0) := rfl
  have hor : opR (xs.getD i op0) = (if (xs.getD i op0).kind = 4 then 0 else opLen (xs.getD i op0)) := rfl
  have hol0 := opLen_ok hpe
  have hol1 : opLen (xs.getD i op0) ≤ 1099511627776 := by rw [hol]; split; (· omega); (· split; (· omega); (· exact (hcni (by omega)).2))
  refine xc 51 ent51 [.agg #[.int .i64 ((xs.getD i op0).kind), .string ((xs.getD i op0).text), .int .i64 ((xs.getD i op0).vk), .int .i64 ((xs.getD i op0).vn), .string ((xs.getD i op0).vt), .int .i64 ((xs.getD i op0).count), .slice B_5 ((xs.getD i op0).attrs.length) c_6]] (r6len_any (xs.getD i op0) _ _ _ (Kd.C_below hC_8 (bg hb_10 hg_15 (Nat.le_refl _))) (ok_utf hpe) hszi) ?_
  rintro e w_18 ⟨rfl, hb_19⟩; refine ⟨_, rfl, ?_⟩
  refine xr0 1 [(8, .int .i64 (opLen (xs.getD i op0)))] [15, 16] ?_
  refine nl (sq (sq (rg (xr0 1 [(17, .int .i64 (opLen (xs.getD i op0)))] [] ?_))))
  by_cases c_20 : opLen (xs.getD i op0) > 1099511627776
  ·exfalso; omega
  refine xe 1 [(18, .eq (.bool false))] [(4, .int .i64 b), (5, .int .i64 r), (7, pw wl.heap.size 0), (8, .int .i64 (opLen (xs.getD i op0))), (9, .slice A xs.length c), (10, .int .i64 (xs.length : Int)), (11, nv i), (18, .bool false)] [Value.bool (decide (opLen (xs.getD i op0) > 1099511627776)) = Value.bool false] ⟨congrArg Value.bool (decide_eq_false (c_20)), trivial⟩ ?_
  refine nl (cf (sk (sq (sq (rg (xr0 1 [(19, .int .i64 b)] [18] ?_))))))
  by_cases c_21 : b ≥ 0
  ·refine xr 3 [(20, .eq (.bool true)), (22, .load (.agg #[.int .i64 ((xs.getD i op0).kind), .string ((xs.getD i op0).text), .int .i64 ((xs.getD i op0).vk), .int .i64 ((xs.getD i op0).vn), .string ((xs.getD i op0).vt), .int .i64 ((xs.getD i op0).count), .slice B_5 ((xs.getD i op0).attrs.length) c_6]))] [(21, .bool true), (22, .agg #[.int .i64 ((xs.getD i op0).kind), .string ((xs.getD i op0).text), .int .i64 ((xs.getD i op0).vk), .int .i64 ((xs.getD i op0).vn), .string ((xs.getD i op0).vt), .int .i64 ((xs.getD i op0).count), .slice B_5 ((xs.getD i op0).attrs.length) c_6])] [19] [Value.bool (decide (b ≥ 0)) = Value.bool true, LoadsAs Tryd.prog 47 (⟨wl.heap.size, 0, none⟩) (.agg #[.int .i64 ((xs.getD i op0).kind), .string ((xs.getD i op0).text), .int .i64 ((xs.getD i op0).vk), .int .i64 ((xs.getD i op0).vn), .string ((xs.getD i op0).vt), .int .i64 ((xs.getD i op0).count), .slice B_5 ((xs.getD i op0).attrs.length) c_6]) w_18] ⟨congrArg Value.bool (decide_eq_true (c_21)), loadsB rfl rfl (Blk.below hk_16 hb_19) 0 ⟨by kernel_rfl, by kernel_rfl⟩, trivial⟩ ?_
   have hB_22 : Below wl.heap.size wl w_18 := (bt (bg hb_10 hg_15 (Nat.le_refl _)) hb_19)
   refine xc 28 ent28 [.agg #[.int .i64 ((xs.getD i op0).kind), .string ((xs.getD i op0).text), .int .i64 ((xs.getD i op0).vk), .int .i64 ((xs.getD i op0).vn), .string ((xs.getD i op0).vt), .int .i64 ((xs.getD i op0).count), .slice B_5 ((xs.getD i op0).attrs.length) c_6]] (r6ins_any (xs.getD i op0) _ _ _ (Kd.C_below hC_8 hB_22)) ?_
   rintro e w_23 ⟨rfl, hb_24⟩; refine ⟨_, rfl, ?_⟩
   by_cases c_25 : decide (insO (xs.getD i op0)) = true
   ·have hin : ((xs.getD i op0).kind = 1 ∨ (xs.getD i op0).kind = 2) := of_decide_eq_true c_25
    rw [show (decide (insO (xs.getD i op0)) : Bool) = true from by simpa using c_25]
    refine xr0 2 [(25, .bool false)] [21, 22, 23] ?_
    refine nl (cf (sk (sq (sq (rg (xr0 1 [(29, .int .i64 r)] [25] ?_))))))
    by_cases c_26 : r ≥ 0
    ·refine xr 4 [(30, .eq (.bool true)), (33, .load (.int .i64 ((xs.getD i op0).kind)))] [(31, .bool true), (33, .int .i64 ((xs.getD i op0).kind))] [7, 29] [Value.bool (decide (r ≥ 0)) = Value.bool true, LoadsAs Tryd.prog 3 (⟨wl.heap.size, 0, none⟩) (.int .i64 ((xs.getD i op0).kind)) w_23] ⟨congrArg Value.bool (decide_eq_true (c_26)), loads1 rfl (Blk.cell (Blk.below hk_16 (bt hb_19 hb_24)) 0 _ rfl), trivial⟩ ?_
     by_cases c_27 : (xs.getD i op0).kind = 4
     ·refine xe 2 [(34, .eq (.bool false))] [(4, .int .i64 b), (5, .int .i64 r), (8, .int .i64 (opLen (xs.getD i op0))), (9, .slice A xs.length c), (10, .int .i64 (xs.length : Int)), (11, nv i), (35, .bool false)] [Value.bool ((xs.getD i op0).kind != 4) = Value.bool false] ⟨congrArg Value.bool (bneF (c_27)), trivial⟩ ?_
      refine nl (cf (sk (sq (sq (rg (xr0 1 [(39, .int .i64 b)] [8, 35] ?_))))))
      by_cases c_28 : b > 1099511627776
      ·refine xr 1 [(40, .eq (.bool true))] [(40, .bool true)] [39] [Value.bool (decide (b > 1099511627776)) = Value.bool true] ⟨congrArg Value.bool (decide_eq_true (c_28)), trivial⟩ ?_
       refine nl (ct (rg (xr0 1 [(4, .int .i64 (-1))] [40] ?_)))
       refine nl (sq (rg (xr0 1 [(41, .int .i64 r)] [] ?_)))
       by_cases c_29 : r > 1099511627776
       ·refine xr 1 [(42, .eq (.bool true))] [(42, .bool true)] [41] [Value.bool (decide (r > 1099511627776)) = Value.bool true] ⟨congrArg Value.bool (decide_eq_true (c_29)), trivial⟩ ?_
        refine nl (ct (rg (xe0 1 [(4, .int .i64 (-1)), (5, .int .i64 (-1)), (9, .slice A xs.length c), (10, .int .i64 (xs.length : Int)), (11, nv i)] ?_)))
        refine nl (rg (xr 2 [(43, .eq (.int .i64 ((i : Int) + 1)))] [(11, .int .i64 ((i : Int) + 1))] [] [Value.int .i64 (IntKind.i64.wrap ((i : Int) + 1)) = Value.int .i64 ((i : Int) + 1)] ⟨wr_i64 (by omega) (by omega), trivial⟩ ?_))
        refine nl ?_
        have hB_30 : Below w.heap.size w w_23 := (bt (bt (bg (bt HB hb_10) hg_15 (HB).size) hb_19) hb_24)
        refine ⟨(i + 1, (-1), (-1)), by kernel_rfl, ?_, ?_⟩
        ·have h1_ := hst1 (by omega)
         have h2_ := hst2 (by omega)
         exact ⟨by omega, by unfold capL; split <;> omega, by unfold capL; split <;> omega, hB_30⟩
        (try dsimp only); omega
       refine xr 1 [(42, .eq (.bool false))] [(42, .bool false)] [41] [Value.bool (decide (r > 1099511627776)) = Value.bool false] ⟨congrArg Value.bool (decide_eq_false (c_29)), trivial⟩ ?_
       refine nl (cf (sk (rg (xe 2 [(43, .eq (.int .i64 ((i : Int) + 1)))] [(4, .int .i64 (-1)), (5, .int .i64 r), (9, .slice A xs.length c), (10, .int .i64 (xs.length : Int)), (11, .int .i64 ((i : Int) + 1))] [Value.int .i64 (IntKind.i64.wrap ((i : Int) + 1)) = Value.int .i64 ((i : Int) + 1)] ⟨wr_i64 (by omega) (by omega), trivial⟩ ?_))))
       refine nl ?_
       have hB_31 : Below w.heap.size w w_23 := (bt (bt (bg (bt HB hb_10) hg_15 (HB).size) hb_19) hb_24)
       refine ⟨(i + 1, (-1), r), by kernel_rfl, ?_, ?_⟩
       ·have h1_ := hst1 (by omega)
        have h2_ := hst2 (by omega)
        exact ⟨by omega, by unfold capL; split <;> omega, by unfold capL; split <;> omega, hB_31⟩
       (try dsimp only); omega
      refine xr 1 [(40, .eq (.bool false))] [(40, .bool false)] [39] [Value.bool (decide (b > 1099511627776)) = Value.bool false] ⟨congrArg Value.bool (decide_eq_false (c_28)), trivial⟩ ?_
      refine nl (cf (sk (sq (rg (xr0 1 [(41, .int .i64 r)] [40] ?_)))))
      by_cases c_32 : r > 1099511627776
      ·refine xr 1 [(42, .eq (.bool true))] [(42, .bool true)] [41] [Value.bool (decide (r > 1099511627776)) = Value.bool true] ⟨congrArg Value.bool (decide_eq_true (c_32)), trivial⟩ ?_
       refine nl (ct (rg (xr0 1 [(5, .int .i64 (-1))] [42] ?_)))
       refine nl (rg (xe 2 [(43, .eq (.int .i64 ((i : Int) + 1)))] [(4, .int .i64 b), (5, .int .i64 (-1)), (9, .slice A xs.length c), (10, .int .i64 (xs.length : Int)), (11, .int .i64 ((i : Int) + 1))] [Value.int .i64 (IntKind.i64.wrap ((i : Int) + 1)) = Value.int .i64 ((i : Int) + 1)] ⟨wr_i64 (by omega) (by omega), trivial⟩ ?_))
       refine nl ?_
       have hB_33 : Below w.heap.size w w_23 := (bt (bt (bg (bt HB hb_10) hg_15 (HB).size) hb_19) hb_24)
       refine ⟨(i + 1, b, (-1)), by kernel_rfl, ?_, ?_⟩
       ·have h1_ := hst1 (by omega)
        have h2_ := hst2 (by omega)
        exact ⟨by omega, by unfold capL; split <;> omega, by unfold capL; split <;> omega, hB_33⟩
       (try dsimp only); omega
      refine xr 1 [(42, .eq (.bool false))] [(42, .bool false)] [41] [Value.bool (decide (r > 1099511627776)) = Value.bool false] ⟨congrArg Value.bool (decide_eq_false (c_32)), trivial⟩ ?_
      refine nl (cf (sk (rg (xr 2 [(43, .eq (.int .i64 ((i : Int) + 1)))] [(11, .int .i64 ((i : Int) + 1))] [42] [Value.int .i64 (IntKind.i64.wrap ((i : Int) + 1)) = Value.int .i64 ((i : Int) + 1)] ⟨wr_i64 (by omega) (by omega), trivial⟩ ?_))))
      refine nl ?_
      have hB_34 : Below w.heap.size w w_23 := (bt (bt (bg (bt HB hb_10) hg_15 (HB).size) hb_19) hb_24)
      refine ⟨(i + 1, b, r), by kernel_rfl, ?_, ?_⟩
      ·have h1_ := hst1 (by omega)
       have h2_ := hst2 (by omega)
       exact ⟨by omega, by unfold capL; split <;> omega, by unfold capL; split <;> omega, hB_34⟩
      (try dsimp only); omega
     refine xe 2 [(34, .eq (.bool true))] [(4, .int .i64 b), (5, .int .i64 r), (8, .int .i64 (opLen (xs.getD i op0))), (9, .slice A xs.length c), (10, .int .i64 (xs.length : Int)), (11, nv i), (35, .bool true)] [Value.bool ((xs.getD i op0).kind != 4) = Value.bool true] ⟨congrArg Value.bool (bneT (c_27)), trivial⟩ ?_
     refine nl (ct (rg (xr 4 [(38, .eq (.int .i64 (r + (opLen (xs.getD i op0)))))] [(5, .int .i64 (r + (opLen (xs.getD i op0))))] [8, 35] [Value.int .i64 (IntKind.i64.wrap (r + (opLen (xs.getD i op0)))) = Value.int .i64 (r + (opLen (xs.getD i op0)))] ⟨wr_i64 (by omega) (by omega), trivial⟩ ?_)))
     refine nl (sq (sq (rg (xr0 1 [(39, .int .i64 b)] [] ?_))))
     by_cases c_35 : b > 1099511627776
     ·refine xr 1 [(40, .eq (.bool true))] [(40, .bool true)] [39] [Value.bool (decide (b > 1099511627776)) = Value.bool true] ⟨congrArg Value.bool (decide_eq_true (c_35)), trivial⟩ ?_
      refine nl (ct (rg (xr0 1 [(4, .int .i64 (-1))] [40] ?_)))
      refine nl (sq (rg (xr0 1 [(41, .int .i64 (r + (opLen (xs.getD i op0))))] [] ?_)))
      by_cases c_36 : r + (opLen (xs.getD i op0)) > 1099511627776
      ·refine xe 1 [(42, .eq (.bool true))] [(4, .int .i64 (-1)), (5, .int .i64 (r + (opLen (xs.getD i op0)))), (9, .slice A xs.length c), (10, .int .i64 (xs.length : Int)), (11, nv i), (42, .bool true)] [Value.bool (decide (r + (opLen (xs.getD i op0)) > 1099511627776)) = Value.bool true] ⟨congrArg Value.bool (decide_eq_true (c_36)), trivial⟩ ?_
       refine nl (ct (rg (xr0 1 [(5, .int .i64 (-1))] [42] ?_)))
       refine nl (rg (xr 2 [(43, .eq (.int .i64 ((i : Int) + 1)))] [(11, .int .i64 ((i : Int) + 1))] [] [Value.int .i64 (IntKind.i64.wrap ((i : Int) + 1)) = Value.int .i64 ((i : Int) + 1)] ⟨wr_i64 (by omega) (by omega), trivial⟩ ?_))
       refine nl ?_
       have hB_37 : Below w.heap.size w w_23 := (bt (bt (bg (bt HB hb_10) hg_15 (HB).size) hb_19) hb_24)
       refine ⟨(i + 1, (-1), (-1)), by kernel_rfl, ?_, ?_⟩
       ·have h1_ := hst1 (by omega)
        have h2_ := hst2 (by omega)
        exact ⟨by omega, by unfold capL; split <;> omega, by unfold capL; split <;> omega, hB_37⟩
       (try dsimp only); omega
      refine xe 1 [(42, .eq (.bool false))] [(4, .int .i64 (-1)), (5, .int .i64 (r + (opLen (xs.getD i op0)))), (9, .slice A xs.length c), (10, .int .i64 (xs.length : Int)), (11, nv i), (42, .bool false)] [Value.bool (decide (r + (opLen (xs.getD i op0)) > 1099511627776)) = Value.bool false] ⟨congrArg Value.bool (decide_eq_false (c_36)), trivial⟩ ?_
      refine nl (cf (sk (rg (xr 2 [(43, .eq (.int .i64 ((i : Int) + 1)))] [(11, .int .i64 ((i : Int) + 1))] [42] [Value.int .i64 (IntKind.i64.wrap ((i : Int) + 1)) = Value.int .i64 ((i : Int) + 1)] ⟨wr_i64 (by omega) (by omega), trivial⟩ ?_))))
      refine nl ?_
      have hB_38 : Below w.heap.size w w_23 := (bt (bt (bg (bt HB hb_10) hg_15 (HB).size) hb_19) hb_24)
      refine ⟨(i + 1, (-1), r + (opLen (xs.getD i op0))), by kernel_rfl, ?_, ?_⟩
      ·have h1_ := hst1 (by omega)
       have h2_ := hst2 (by omega)
       exact ⟨by omega, by unfold capL; split <;> omega, by unfold capL; split <;> omega, hB_38⟩
      (try dsimp only); omega
     refine xr 1 [(40, .eq (.bool false))] [(40, .bool false)] [39] [Value.bool (decide (b > 1099511627776)) = Value.bool false] ⟨congrArg Value.bool (decide_eq_false (c_35)), trivial⟩ ?_
     refine nl (cf (sk (sq (rg (xr0 1 [(41, .int .i64 (r + (opLen (xs.getD i op0))))] [40] ?_)))))
     by_cases c_39 : r + (opLen (xs.getD i op0)) > 1099511627776
     ·refine xr 1 [(42, .eq (.bool true))] [(42, .bool true)] [41] [Value.bool (decide (r + (opLen (xs.getD i op0)) > 1099511627776)) = Value.bool true] ⟨congrArg Value.bool (decide_eq_true (c_39)), trivial⟩ ?_
      refine nl (ct (rg (xe0 1 [(4, .int .i64 b), (5, .int .i64 (-1)), (9, .slice A xs.length c), (10, .int .i64 (xs.length : Int)), (11, nv i)] ?_)))
      refine nl (rg (xr 2 [(43, .eq (.int .i64 ((i : Int) + 1)))] [(11, .int .i64 ((i : Int) + 1))] [] [Value.int .i64 (IntKind.i64.wrap ((i : Int) + 1)) = Value.int .i64 ((i : Int) + 1)] ⟨wr_i64 (by omega) (by omega), trivial⟩ ?_))
      refine nl ?_
      have hB_40 : Below w.heap.size w w_23 := (bt (bt (bg (bt HB hb_10) hg_15 (HB).size) hb_19) hb_24)
      refine ⟨(i + 1, b, (-1)), by kernel_rfl, ?_, ?_⟩
      ·have h1_ := hst1 (by omega)
       have h2_ := hst2 (by omega)
       exact ⟨by omega, by unfold capL; split <;> omega, by unfold capL; split <;> omega, hB_40⟩
      (try dsimp only); omega
     refine xr 1 [(42, .eq (.bool false))] [(42, .bool false)] [41] [Value.bool (decide (r + (opLen (xs.getD i op0)) > 1099511627776)) = Value.bool false] ⟨congrArg Value.bool (decide_eq_false (c_39)), trivial⟩ ?_
     refine nl (cf (sk (rg (xe 2 [(43, .eq (.int .i64 ((i : Int) + 1)))] [(4, .int .i64 b), (5, .int .i64 (r + (opLen (xs.getD i op0)))), (9, .slice A xs.length c), (10, .int .i64 (xs.length : Int)), (11, .int .i64 ((i : Int) + 1))] [Value.int .i64 (IntKind.i64.wrap ((i : Int) + 1)) = Value.int .i64 ((i : Int) + 1)] ⟨wr_i64 (by omega) (by omega), trivial⟩ ?_))))
     refine nl ?_
     have hB_41 : Below w.heap.size w w_23 := (bt (bt (bg (bt HB hb_10) hg_15 (HB).size) hb_19) hb_24)
     refine ⟨(i + 1, b, r + (opLen (xs.getD i op0))), by kernel_rfl, ?_, ?_⟩
     ·have h1_ := hst1 (by omega)
      have h2_ := hst2 (by omega)
      exact ⟨by omega, by unfold capL; split <;> omega, by unfold capL; split <;> omega, hB_41⟩
     (try dsimp only); omega
    refine xr 6 [(30, .eq (.bool false))] [(35, .bool false)] [7, 29] [Value.bool (decide (r ≥ 0)) = Value.bool false] ⟨congrArg Value.bool (decide_eq_false (c_26)), trivial⟩ ?_
    refine nl (cf (sk (sq (sq (rg (xe0 1 [(4, .int .i64 b), (5, .int .i64 r), (9, .slice A xs.length c), (10, .int .i64 (xs.length : Int)), (11, nv i), (39, .int .i64 b)] ?_))))))
    by_cases c_42 : b > 1099511627776
    ·refine xr 1 [(40, .eq (.bool true))] [(40, .bool true)] [39] [Value.bool (decide (b > 1099511627776)) = Value.bool true] ⟨congrArg Value.bool (decide_eq_true (c_42)), trivial⟩ ?_
     refine nl (ct (rg (xr0 1 [(4, .int .i64 (-1))] [40] ?_)))
     refine nl (sq (rg (xr0 1 [(41, .int .i64 r)] [] ?_)))
     by_cases c_43 : r > 1099511627776
     ·refine xr 1 [(42, .eq (.bool true))] [(42, .bool true)] [41] [Value.bool (decide (r > 1099511627776)) = Value.bool true] ⟨congrArg Value.bool (decide_eq_true (c_43)), trivial⟩ ?_
      refine nl (ct (rg (xr0 1 [(5, .int .i64 (-1))] [42] ?_)))
      refine nl (rg (xe 2 [(43, .eq (.int .i64 ((i : Int) + 1)))] [(4, .int .i64 (-1)), (5, .int .i64 (-1)), (9, .slice A xs.length c), (10, .int .i64 (xs.length : Int)), (11, .int .i64 ((i : Int) + 1))] [Value.int .i64 (IntKind.i64.wrap ((i : Int) + 1)) = Value.int .i64 ((i : Int) + 1)] ⟨wr_i64 (by omega) (by omega), trivial⟩ ?_))
      refine nl ?_
      have hB_44 : Below w.heap.size w w_23 := (bt (bt (bg (bt HB hb_10) hg_15 (HB).size) hb_19) hb_24)
      refine ⟨(i + 1, (-1), (-1)), by kernel_rfl, ?_, ?_⟩
      ·have h1_ := hst1 (by omega)
       have h2_ := hst2 (by omega)
       exact ⟨by omega, by unfold capL; split <;> omega, by unfold capL; split <;> omega, hB_44⟩
      (try dsimp only); omega
     refine xr 1 [(42, .eq (.bool false))] [(42, .bool false)] [41] [Value.bool (decide (r > 1099511627776)) = Value.bool false] ⟨congrArg Value.bool (decide_eq_false (c_43)), trivial⟩ ?_
     refine nl (cf (sk (rg (xr 2 [(43, .eq (.int .i64 ((i : Int) + 1)))] [(11, .int .i64 ((i : Int) + 1))] [42] [Value.int .i64 (IntKind.i64.wrap ((i : Int) + 1)) = Value.int .i64 ((i : Int) + 1)] ⟨wr_i64 (by omega) (by omega), trivial⟩ ?_))))
     refine nl ?_
     have hB_45 : Below w.heap.size w w_23 := (bt (bt (bg (bt HB hb_10) hg_15 (HB).size) hb_19) hb_24)
     refine ⟨(i + 1, (-1), r), by kernel_rfl, ?_, ?_⟩
     ·have h1_ := hst1 (by omega)
      have h2_ := hst2 (by omega)
      exact ⟨by omega, by unfold capL; split <;> omega, by unfold capL; split <;> omega, hB_45⟩
     (try dsimp only); omega
    refine xr 1 [(40, .eq (.bool false))] [(40, .bool false)] [39] [Value.bool (decide (b > 1099511627776)) = Value.bool false] ⟨congrArg Value.bool (decide_eq_false (c_42)), trivial⟩ ?_
    refine nl (cf (sk (sq (rg (xr0 1 [(41, .int .i64 r)] [40] ?_)))))
    by_cases c_46 : r > 1099511627776
    ·refine xr 1 [(42, .eq (.bool true))] [(42, .bool true)] [41] [Value.bool (decide (r > 1099511627776)) = Value.bool true] ⟨congrArg Value.bool (decide_eq_true (c_46)), trivial⟩ ?_
     refine nl (ct (rg (xr0 1 [(5, .int .i64 (-1))] [42] ?_)))
     refine nl (rg (xr 2 [(43, .eq (.int .i64 ((i : Int) + 1)))] [(11, .int .i64 ((i : Int) + 1))] [] [Value.int .i64 (IntKind.i64.wrap ((i : Int) + 1)) = Value.int .i64 ((i : Int) + 1)] ⟨wr_i64 (by omega) (by omega), trivial⟩ ?_))
     refine nl ?_
     have hB_47 : Below w.heap.size w w_23 := (bt (bt (bg (bt HB hb_10) hg_15 (HB).size) hb_19) hb_24)
     refine ⟨(i + 1, b, (-1)), by kernel_rfl, ?_, ?_⟩
     ·have h1_ := hst1 (by omega)
      have h2_ := hst2 (by omega)
      exact ⟨by omega, by unfold capL; split <;> omega, by unfold capL; split <;> omega, hB_47⟩
     (try dsimp only); omega
    refine xr 1 [(42, .eq (.bool false))] [(42, .bool false)] [41] [Value.bool (decide (r > 1099511627776)) = Value.bool false] ⟨congrArg Value.bool (decide_eq_false (c_46)), trivial⟩ ?_
    refine nl (cf (sk (rg (xr 2 [(43, .eq (.int .i64 ((i : Int) + 1)))] [(11, .int .i64 ((i : Int) + 1))] [42] [Value.int .i64 (IntKind.i64.wrap ((i : Int) + 1)) = Value.int .i64 ((i : Int) + 1)] ⟨wr_i64 (by omega) (by omega), trivial⟩ ?_))))
    refine nl ?_
    have hB_48 : Below w.heap.size w w_23 := (bt (bt (bg (bt HB hb_10) hg_15 (HB).size) hb_19) hb_24)
    refine ⟨(i + 1, b, r), by kernel_rfl, ?_, ?_⟩
    ·have h1_ := hst1 (by omega)
     have h2_ := hst2 (by omega)
     exact ⟨by omega, by unfold capL; split <;> omega, by unfold capL; split <;> omega, hB_48⟩
    (try dsimp only); omega
   have hin : ¬ ((xs.getD i op0).kind = 1 ∨ (xs.getD i op0).kind = 2) := (of_decide_eq_false (Bool.eq_false_iff.2 c_25))
   rw [show (decide (insO (xs.getD i op0)) : Bool) = false from by simpa using c_25]
   refine xr0 2 [(25, .bool true)] [21, 22, 23] ?_
   refine nl (ct (rg (xr 4 [(28, .eq (.int .i64 (b + (opLen (xs.getD i op0)))))] [(4, .int .i64 (b + (opLen (xs.getD i op0))))] [25] [Value.int .i64 (IntKind.i64.wrap (b + (opLen (xs.getD i op0)))) = Value.int .i64 (b + (opLen (xs.getD i op0)))] ⟨wr_i64 (by omega) (by omega), trivial⟩ ?_)))
   refine nl (sq (sq (rg (xr0 1 [(29, .int .i64 r)] [] ?_))))
   by_cases c_49 : r ≥ 0
   ·refine xe 4 [(30, .eq (.bool true)), (33, .load (.int .i64 ((xs.getD i op0).kind)))] [(4, .int .i64 (b + (opLen (xs.getD i op0)))), (5, .int .i64 r), (8, .int .i64 (opLen (xs.getD i op0))), (9, .slice A xs.length c), (10, .int .i64 (xs.length : Int)), (11, nv i), (31, .bool true), (33, .int .i64 ((xs.getD i op0).kind))] [Value.bool (decide (r ≥ 0)) = Value.bool true, LoadsAs Tryd.prog 3 (⟨wl.heap.size, 0, none⟩) (.int .i64 ((xs.getD i op0).kind)) w_23] ⟨congrArg Value.bool (decide_eq_true (c_49)), loads1 rfl (Blk.cell (Blk.below hk_16 (bt hb_19 hb_24)) 0 _ rfl), trivial⟩ ?_
    by_cases c_50 : (xs.getD i op0).kind = 4
    ·refine xr 2 [(34, .eq (.bool false))] [(35, .bool false)] [31, 33] [Value.bool ((xs.getD i op0).kind != 4) = Value.bool false] ⟨congrArg Value.bool (bneF (c_50)), trivial⟩ ?_
     refine nl (cf (sk (sq (sq (rg (xr0 1 [(39, .int .i64 (b + (opLen (xs.getD i op0))))] [8, 35] ?_))))))
     by_cases c_51 : b + (opLen (xs.getD i op0)) > 1099511627776
     ·refine xr 1 [(40, .eq (.bool true))] [(40, .bool true)] [39] [Value.bool (decide (b + (opLen (xs.getD i op0)) > 1099511627776)) = Value.bool true] ⟨congrArg Value.bool (decide_eq_true (c_51)), trivial⟩ ?_
      refine nl (ct (rg (xr0 1 [(4, .int .i64 (-1))] [40] ?_)))
      refine nl (sq (rg (xr0 1 [(41, .int .i64 r)] [] ?_)))
      by_cases c_52 : r > 1099511627776
      ·refine xe 1 [(42, .eq (.bool true))] [(4, .int .i64 (-1)), (5, .int .i64 r), (9, .slice A xs.length c), (10, .int .i64 (xs.length : Int)), (11, nv i), (42, .bool true)] [Value.bool (decide (r > 1099511627776)) = Value.bool true] ⟨congrArg Value.bool (decide_eq_true (c_52)), trivial⟩ ?_
       refine nl (ct (rg (xr0 1 [(5, .int .i64 (-1))] [42] ?_)))
       refine nl (rg (xr 2 [(43, .eq (.int .i64 ((i : Int) + 1)))] [(11, .int .i64 ((i : Int) + 1))] [] [Value.int .i64 (IntKind.i64.wrap ((i : Int) + 1)) = Value.int .i64 ((i : Int) + 1)] ⟨wr_i64 (by omega) (by omega), trivial⟩ ?_))
       refine nl ?_
       have hB_53 : Below w.heap.size w w_23 := (bt (bt (bg (bt HB hb_10) hg_15 (HB).size) hb_19) hb_24)
       refine ⟨(i + 1, (-1), (-1)), by kernel_rfl, ?_, ?_⟩
       ·have h1_ := hst1 (by omega)
        have h2_ := hst2 (by omega)
        exact ⟨by omega, by unfold capL; split <;> omega, by unfold capL; split <;> omega, hB_53⟩
       (try dsimp only); omega
      refine xe 1 [(42, .eq (.bool false))] [(4, .int .i64 (-1)), (5, .int .i64 r), (9, .slice A xs.length c), (10, .int .i64 (xs.length : Int)), (11, nv i), (42, .bool false)] [Value.bool (decide (r > 1099511627776)) = Value.bool false] ⟨congrArg Value.bool (decide_eq_false (c_52)), trivial⟩ ?_
      refine nl (cf (sk (rg (xr 2 [(43, .eq (.int .i64 ((i : Int) + 1)))] [(11, .int .i64 ((i : Int) + 1))] [42] [Value.int .i64 (IntKind.i64.wrap ((i : Int) + 1)) = Value.int .i64 ((i : Int) + 1)] ⟨wr_i64 (by omega) (by omega), trivial⟩ ?_))))
      refine nl ?_
      have hB_54 : Below w.heap.size w w_23 := (bt (bt (bg (bt HB hb_10) hg_15 (HB).size) hb_19) hb_24)
      refine ⟨(i + 1, (-1), r), by kernel_rfl, ?_, ?_⟩
      ·have h1_ := hst1 (by omega)
       have h2_ := hst2 (by omega)
       exact ⟨by omega, by unfold capL; split <;> omega, by unfold capL; split <;> omega, hB_54⟩
      (try dsimp only); omega
     refine xr 1 [(40, .eq (.bool false))] [(40, .bool false)] [39] [Value.bool (decide (b + (opLen (xs.getD i op0)) > 1099511627776)) = Value.bool false] ⟨congrArg Value.bool (decide_eq_false (c_51)), trivial⟩ ?_
     refine nl (cf (sk (sq (rg (xr0 1 [(41, .int .i64 r)] [40] ?_)))))
     by_cases c_55 : r > 1099511627776
     ·refine xr 1 [(42, .eq (.bool true))] [(42, .bool true)] [41] [Value.bool (decide (r > 1099511627776)) = Value.bool true] ⟨congrArg Value.bool (decide_eq_true (c_55)), trivial⟩ ?_
      refine nl (ct (rg (xe0 1 [(4, .int .i64 (b + (opLen (xs.getD i op0)))), (5, .int .i64 (-1)), (9, .slice A xs.length c), (10, .int .i64 (xs.length : Int)), (11, nv i)] ?_)))
      refine nl (rg (xr 2 [(43, .eq (.int .i64 ((i : Int) + 1)))] [(11, .int .i64 ((i : Int) + 1))] [] [Value.int .i64 (IntKind.i64.wrap ((i : Int) + 1)) = Value.int .i64 ((i : Int) + 1)] ⟨wr_i64 (by omega) (by omega), trivial⟩ ?_))
      refine nl ?_
      have hB_56 : Below w.heap.size w w_23 := (bt (bt (bg (bt HB hb_10) hg_15 (HB).size) hb_19) hb_24)
      refine ⟨(i + 1, b + (opLen (xs.getD i op0)), (-1)), by kernel_rfl, ?_, ?_⟩
      ·have h1_ := hst1 (by omega)
       have h2_ := hst2 (by omega)
       exact ⟨by omega, by unfold capL; split <;> omega, by unfold capL; split <;> omega, hB_56⟩
      (try dsimp only); omega
     refine xr 1 [(42, .eq (.bool false))] [(42, .bool false)] [41] [Value.bool (decide (r > 1099511627776)) = Value.bool false] ⟨congrArg Value.bool (decide_eq_false (c_55)), trivial⟩ ?_
     refine nl (cf (sk (rg (xe 2 [(43, .eq (.int .i64 ((i : Int) + 1)))] [(4, .int .i64 (b + (opLen (xs.getD i op0)))), (5, .int .i64 r), (9, .slice A xs.length c), (10, .int .i64 (xs.length : Int)), (11, .int .i64 ((i : Int) + 1))] [Value.int .i64 (IntKind.i64.wrap ((i : Int) + 1)) = Value.int .i64 ((i : Int) + 1)] ⟨wr_i64 (by omega) (by omega), trivial⟩ ?_))))
     refine nl ?_
     have hB_57 : Below w.heap.size w w_23 := (bt (bt (bg (bt HB hb_10) hg_15 (HB).size) hb_19) hb_24)
     refine ⟨(i + 1, b + (opLen (xs.getD i op0)), r), by kernel_rfl, ?_, ?_⟩
     ·have h1_ := hst1 (by omega)
      have h2_ := hst2 (by omega)
      exact ⟨by omega, by unfold capL; split <;> omega, by unfold capL; split <;> omega, hB_57⟩
     (try dsimp only); omega
    refine xr 2 [(34, .eq (.bool true))] [(35, .bool true)] [31, 33] [Value.bool ((xs.getD i op0).kind != 4) = Value.bool true] ⟨congrArg Value.bool (bneT (c_50)), trivial⟩ ?_
    refine nl (ct (rg (xr 4 [(38, .eq (.int .i64 (r + (opLen (xs.getD i op0)))))] [(5, .int .i64 (r + (opLen (xs.getD i op0))))] [8, 35] [Value.int .i64 (IntKind.i64.wrap (r + (opLen (xs.getD i op0)))) = Value.int .i64 (r + (opLen (xs.getD i op0)))] ⟨wr_i64 (by omega) (by omega), trivial⟩ ?_)))
    refine nl (sq (sq (rg (xr0 1 [(39, .int .i64 (b + (opLen (xs.getD i op0))))] [] ?_))))
    by_cases c_58 : b + (opLen (xs.getD i op0)) > 1099511627776
    ·refine xr 1 [(40, .eq (.bool true))] [(40, .bool true)] [39] [Value.bool (decide (b + (opLen (xs.getD i op0)) > 1099511627776)) = Value.bool true] ⟨congrArg Value.bool (decide_eq_true (c_58)), trivial⟩ ?_
     refine nl (ct (rg (xr0 1 [(4, .int .i64 (-1))] [40] ?_)))
     refine nl (sq (rg (xe0 1 [(4, .int .i64 (-1)), (5, .int .i64 (r + (opLen (xs.getD i op0)))), (9, .slice A xs.length c), (10, .int .i64 (xs.length : Int)), (11, nv i), (41, .int .i64 (r + (opLen (xs.getD i op0))))] ?_)))
     by_cases c_59 : r + (opLen (xs.getD i op0)) > 1099511627776
     ·refine xr 1 [(42, .eq (.bool true))] [(42, .bool true)] [41] [Value.bool (decide (r + (opLen (xs.getD i op0)) > 1099511627776)) = Value.bool true] ⟨congrArg Value.bool (decide_eq_true (c_59)), trivial⟩ ?_
      refine nl (ct (rg (xr0 1 [(5, .int .i64 (-1))] [42] ?_)))
      refine nl (rg (xr 2 [(43, .eq (.int .i64 ((i : Int) + 1)))] [(11, .int .i64 ((i : Int) + 1))] [] [Value.int .i64 (IntKind.i64.wrap ((i : Int) + 1)) = Value.int .i64 ((i : Int) + 1)] ⟨wr_i64 (by omega) (by omega), trivial⟩ ?_))
      refine nl ?_
      have hB_60 : Below w.heap.size w w_23 := (bt (bt (bg (bt HB hb_10) hg_15 (HB).size) hb_19) hb_24)
      refine ⟨(i + 1, (-1), (-1)), by kernel_rfl, ?_, ?_⟩
      ·have h1_ := hst1 (by omega)
       have h2_ := hst2 (by omega)
       exact ⟨by omega, by unfold capL; split <;> omega, by unfold capL; split <;> omega, hB_60⟩
      (try dsimp only); omega
     refine xr 1 [(42, .eq (.bool false))] [(42, .bool false)] [41] [Value.bool (decide (r + (opLen (xs.getD i op0)) > 1099511627776)) = Value.bool false] ⟨congrArg Value.bool (decide_eq_false (c_59)), trivial⟩ ?_
     refine nl (cf (sk (rg (xr 2 [(43, .eq (.int .i64 ((i : Int) + 1)))] [(11, .int .i64 ((i : Int) + 1))] [42] [Value.int .i64 (IntKind.i64.wrap ((i : Int) + 1)) = Value.int .i64 ((i : Int) + 1)] ⟨wr_i64 (by omega) (by omega), trivial⟩ ?_))))
     refine nl ?_
     have hB_61 : Below w.heap.size w w_23 := (bt (bt (bg (bt HB hb_10) hg_15 (HB).size) hb_19) hb_24)
     refine ⟨(i + 1, (-1), r + (opLen (xs.getD i op0))), by kernel_rfl, ?_, ?_⟩
     ·have h1_ := hst1 (by omega)
      have h2_ := hst2 (by omega)
      exact ⟨by omega, by unfold capL; split <;> omega, by unfold capL; split <;> omega, hB_61⟩
     (try dsimp only); omega
    refine xr 1 [(40, .eq (.bool false))] [(40, .bool false)] [39] [Value.bool (decide (b + (opLen (xs.getD i op0)) > 1099511627776)) = Value.bool false] ⟨congrArg Value.bool (decide_eq_false (c_58)), trivial⟩ ?_
    refine nl (cf (sk (sq (rg (xr0 1 [(41, .int .i64 (r + (opLen (xs.getD i op0))))] [40] ?_)))))
    by_cases c_62 : r + (opLen (xs.getD i op0)) > 1099511627776
    ·refine xe 1 [(42, .eq (.bool true))] [(4, .int .i64 (b + (opLen (xs.getD i op0)))), (5, .int .i64 (r + (opLen (xs.getD i op0)))), (9, .slice A xs.length c), (10, .int .i64 (xs.length : Int)), (11, nv i), (42, .bool true)] [Value.bool (decide (r + (opLen (xs.getD i op0)) > 1099511627776)) = Value.bool true] ⟨congrArg Value.bool (decide_eq_true (c_62)), trivial⟩ ?_
     refine nl (ct (rg (xr0 1 [(5, .int .i64 (-1))] [42] ?_)))
     refine nl (rg (xr 2 [(43, .eq (.int .i64 ((i : Int) + 1)))] [(11, .int .i64 ((i : Int) + 1))] [] [Value.int .i64 (IntKind.i64.wrap ((i : Int) + 1)) = Value.int .i64 ((i : Int) + 1)] ⟨wr_i64 (by omega) (by omega), trivial⟩ ?_))
     refine nl ?_
     have hB_63 : Below w.heap.size w w_23 := (bt (bt (bg (bt HB hb_10) hg_15 (HB).size) hb_19) hb_24)
     refine ⟨(i + 1, b + (opLen (xs.getD i op0)), (-1)), by kernel_rfl, ?_, ?_⟩
     ·have h1_ := hst1 (by omega)
      have h2_ := hst2 (by omega)
      exact ⟨by omega, by unfold capL; split <;> omega, by unfold capL; split <;> omega, hB_63⟩
     (try dsimp only); omega
    refine xe 1 [(42, .eq (.bool false))] [(4, .int .i64 (b + (opLen (xs.getD i op0)))), (5, .int .i64 (r + (opLen (xs.getD i op0)))), (9, .slice A xs.length c), (10, .int .i64 (xs.length : Int)), (11, nv i), (42, .bool false)] [Value.bool (decide (r + (opLen (xs.getD i op0)) > 1099511627776)) = Value.bool false] ⟨congrArg Value.bool (decide_eq_false (c_62)), trivial⟩ ?_
    refine nl (cf (sk (rg (xr 2 [(43, .eq (.int .i64 ((i : Int) + 1)))] [(11, .int .i64 ((i : Int) + 1))] [42] [Value.int .i64 (IntKind.i64.wrap ((i : Int) + 1)) = Value.int .i64 ((i : Int) + 1)] ⟨wr_i64 (by omega) (by omega), trivial⟩ ?_))))
    refine nl ?_
    have hB_64 : Below w.heap.size w w_23 := (bt (bt (bg (bt HB hb_10) hg_15 (HB).size) hb_19) hb_24)
    refine ⟨(i + 1, b + (opLen (xs.getD i op0)), r + (opLen (xs.getD i op0))), by kernel_rfl, ?_, ?_⟩
    ·have h1_ := hst1 (by omega)
     have h2_ := hst2 (by omega)
     exact ⟨by omega, by unfold capL; split <;> omega, by unfold capL; split <;> omega, hB_64⟩
    (try dsimp only); omega
   refine xe 6 [(30, .eq (.bool false))] [(4, .int .i64 (b + (opLen (xs.getD i op0)))), (5, .int .i64 r), (8, .int .i64 (opLen (xs.getD i op0))), (9, .slice A xs.length c), (10, .int .i64 (xs.length : Int)), (11, nv i), (35, .bool false)] [Value.bool (decide (r ≥ 0)) = Value.bool false] ⟨congrArg Value.bool (decide_eq_false (c_49)), trivial⟩ ?_
   refine nl (cf (sk (sq (sq (rg (xr0 1 [(39, .int .i64 (b + (opLen (xs.getD i op0))))] [8, 35] ?_))))))
   by_cases c_65 : b + (opLen (xs.getD i op0)) > 1099511627776
   ·refine xr 1 [(40, .eq (.bool true))] [(40, .bool true)] [39] [Value.bool (decide (b + (opLen (xs.getD i op0)) > 1099511627776)) = Value.bool true] ⟨congrArg Value.bool (decide_eq_true (c_65)), trivial⟩ ?_
    refine nl (ct (rg (xr0 1 [(4, .int .i64 (-1))] [40] ?_)))
    refine nl (sq (rg (xr0 1 [(41, .int .i64 r)] [] ?_)))
    by_cases c_66 : r > 1099511627776
    ·refine xr 1 [(42, .eq (.bool true))] [(42, .bool true)] [41] [Value.bool (decide (r > 1099511627776)) = Value.bool true] ⟨congrArg Value.bool (decide_eq_true (c_66)), trivial⟩ ?_
     refine nl (ct (rg (xe0 1 [(4, .int .i64 (-1)), (5, .int .i64 (-1)), (9, .slice A xs.length c), (10, .int .i64 (xs.length : Int)), (11, nv i)] ?_)))
     refine nl (rg (xr 2 [(43, .eq (.int .i64 ((i : Int) + 1)))] [(11, .int .i64 ((i : Int) + 1))] [] [Value.int .i64 (IntKind.i64.wrap ((i : Int) + 1)) = Value.int .i64 ((i : Int) + 1)] ⟨wr_i64 (by omega) (by omega), trivial⟩ ?_))
     refine nl ?_
     have hB_67 : Below w.heap.size w w_23 := (bt (bt (bg (bt HB hb_10) hg_15 (HB).size) hb_19) hb_24)
     refine ⟨(i + 1, (-1), (-1)), by kernel_rfl, ?_, ?_⟩
     ·have h1_ := hst1 (by omega)
      have h2_ := hst2 (by omega)
      exact ⟨by omega, by unfold capL; split <;> omega, by unfold capL; split <;> omega, hB_67⟩
     (try dsimp only); omega
    refine xr 1 [(42, .eq (.bool false))] [(42, .bool false)] [41] [Value.bool (decide (r > 1099511627776)) = Value.bool false] ⟨congrArg Value.bool (decide_eq_false (c_66)), trivial⟩ ?_
    refine nl (cf (sk (rg (xe 2 [(43, .eq (.int .i64 ((i : Int) + 1)))] [(4, .int .i64 (-1)), (5, .int .i64 r), (9, .slice A xs.length c), (10, .int .i64 (xs.length : Int)), (11, .int .i64 ((i : Int) + 1))] [Value.int .i64 (IntKind.i64.wrap ((i : Int) + 1)) = Value.int .i64 ((i : Int) + 1)] ⟨wr_i64 (by omega) (by omega), trivial⟩ ?_))))
    refine nl ?_
    have hB_68 : Below w.heap.size w w_23 := (bt (bt (bg (bt HB hb_10) hg_15 (HB).size) hb_19) hb_24)
    refine ⟨(i + 1, (-1), r), by kernel_rfl, ?_, ?_⟩
    ·have h1_ := hst1 (by omega)
     have h2_ := hst2 (by omega)
     exact ⟨by omega, by unfold capL; split <;> omega, by unfold capL; split <;> omega, hB_68⟩
    (try dsimp only); omega
   refine xr 1 [(40, .eq (.bool false))] [(40, .bool false)] [39] [Value.bool (decide (b + (opLen (xs.getD i op0)) > 1099511627776)) = Value.bool false] ⟨congrArg Value.bool (decide_eq_false (c_65)), trivial⟩ ?_
   refine nl (cf (sk (sq (rg (xr0 1 [(41, .int .i64 r)] [40] ?_)))))
   by_cases c_69 : r > 1099511627776
   ·refine xr 1 [(42, .eq (.bool true))] [(42, .bool true)] [41] [Value.bool (decide (r > 1099511627776)) = Value.bool true] ⟨congrArg Value.bool (decide_eq_true (c_69)), trivial⟩ ?_
    refine nl (ct (rg (xr0 1 [(5, .int .i64 (-1))] [42] ?_)))
    refine nl (rg (xe 2 [(43, .eq (.int .i64 ((i : Int) + 1)))] [(4, .int .i64 (b + (opLen (xs.getD i op0)))), (5, .int .i64 (-1)), (9, .slice A xs.length c), (10, .int .i64 (xs.length : Int)), (11, .int .i64 ((i : Int) + 1))] [Value.int .i64 (IntKind.i64.wrap ((i : Int) + 1)) = Value.int .i64 ((i : Int) + 1)] ⟨wr_i64 (by omega) (by omega), trivial⟩ ?_))
    refine nl ?_
    have hB_70 : Below w.heap.size w w_23 := (bt (bt (bg (bt HB hb_10) hg_15 (HB).size) hb_19) hb_24)
    refine ⟨(i + 1, b + (opLen (xs.getD i op0)), (-1)), by kernel_rfl, ?_, ?_⟩
    ·have h1_ := hst1 (by omega)
     have h2_ := hst2 (by omega)
     exact ⟨by omega, by unfold capL; split <;> omega, by unfold capL; split <;> omega, hB_70⟩
    (try dsimp only); omega
   refine xr 1 [(42, .eq (.bool false))] [(42, .bool false)] [41] [Value.bool (decide (r > 1099511627776)) = Value.bool false] ⟨congrArg Value.bool (decide_eq_false (c_69)), trivial⟩ ?_
   refine nl (cf (sk (rg (xr 2 [(43, .eq (.int .i64 ((i : Int) + 1)))] [(11, .int .i64 ((i : Int) + 1))] [42] [Value.int .i64 (IntKind.i64.wrap ((i : Int) + 1)) = Value.int .i64 ((i : Int) + 1)] ⟨wr_i64 (by omega) (by omega), trivial⟩ ?_))))
   refine nl ?_
   have hB_71 : Below w.heap.size w w_23 := (bt (bt (bg (bt HB hb_10) hg_15 (HB).size) hb_19) hb_24)
   refine ⟨(i + 1, b + (opLen (xs.getD i op0)), r), by kernel_rfl, ?_, ?_⟩
   ·have h1_ := hst1 (by omega)
    have h2_ := hst2 (by omega)
    exact ⟨by omega, by unfold capL; split <;> omega, by unfold capL; split <;> omega, hB_71⟩
   (try dsimp only); omega
  refine xr 6 [(20, .eq (.bool false))] [(25, .bool false)] [19] [Value.bool (decide (b ≥ 0)) = Value.bool false] ⟨congrArg Value.bool (decide_eq_false (c_21)), trivial⟩ ?_
  refine nl (cf (sk (sq (sq (rg (xr0 1 [(29, .int .i64 r)] [25] ?_))))))
  by_cases c_72 : r ≥ 0
  ·refine xr 4 [(30, .eq (.bool true)), (33, .load (.int .i64 ((xs.getD i op0).kind)))] [(31, .bool true), (33, .int .i64 ((xs.getD i op0).kind))] [7, 29] [Value.bool (decide (r ≥ 0)) = Value.bool true, LoadsAs Tryd.prog 3 (⟨wl.heap.size, 0, none⟩) (.int .i64 ((xs.getD i op0).kind)) w_18] ⟨congrArg Value.bool (decide_eq_true (c_72)), loads1 rfl (Blk.cell (Blk.below hk_16 hb_19) 0 _ rfl), trivial⟩ ?_
   by_cases c_73 : (xs.getD i op0).kind = 4
   ·refine xr 2 [(34, .eq (.bool false))] [(35, .bool false)] [31, 33] [Value.bool ((xs.getD i op0).kind != 4) = Value.bool false] ⟨congrArg Value.bool (bneF (c_73)), trivial⟩ ?_
    refine nl (cf (sk (sq (sq (rg (xe0 1 [(4, .int .i64 b), (5, .int .i64 r), (9, .slice A xs.length c), (10, .int .i64 (xs.length : Int)), (11, nv i), (39, .int .i64 b)] ?_))))))
    by_cases c_74 : b > 1099511627776
    ·refine xr 1 [(40, .eq (.bool true))] [(40, .bool true)] [39] [Value.bool (decide (b > 1099511627776)) = Value.bool true] ⟨congrArg Value.bool (decide_eq_true (c_74)), trivial⟩ ?_
     refine nl (ct (rg (xr0 1 [(4, .int .i64 (-1))] [40] ?_)))
     refine nl (sq (rg (xr0 1 [(41, .int .i64 r)] [] ?_)))
     by_cases c_75 : r > 1099511627776
     ·refine xr 1 [(42, .eq (.bool true))] [(42, .bool true)] [41] [Value.bool (decide (r > 1099511627776)) = Value.bool true] ⟨congrArg Value.bool (decide_eq_true (c_75)), trivial⟩ ?_
      refine nl (ct (rg (xr0 1 [(5, .int .i64 (-1))] [42] ?_)))
      refine nl (rg (xe 2 [(43, .eq (.int .i64 ((i : Int) + 1)))] [(4, .int .i64 (-1)), (5, .int .i64 (-1)), (9, .slice A xs.length c), (10, .int .i64 (xs.length : Int)), (11, .int .i64 ((i : Int) + 1))] [Value.int .i64 (IntKind.i64.wrap ((i : Int) + 1)) = Value.int .i64 ((i : Int) + 1)] ⟨wr_i64 (by omega) (by omega), trivial⟩ ?_))
      refine nl ?_
      have hB_76 : Below w.heap.size w w_18 := (bt (bg (bt HB hb_10) hg_15 (HB).size) hb_19)
      refine ⟨(i + 1, (-1), (-1)), by kernel_rfl, ?_, ?_⟩
      ·have h1_ := hst1 (by omega)
       have h2_ := hst2 (by omega)
       exact ⟨by omega, by unfold capL; split <;> omega, by unfold capL; split <;> omega, hB_76⟩
      (try dsimp only); omega
     refine xr 1 [(42, .eq (.bool false))] [(42, .bool false)] [41] [Value.bool (decide (r > 1099511627776)) = Value.bool false] ⟨congrArg Value.bool (decide_eq_false (c_75)), trivial⟩ ?_
     refine nl (cf (sk (rg (xr 2 [(43, .eq (.int .i64 ((i : Int) + 1)))] [(11, .int .i64 ((i : Int) + 1))] [42] [Value.int .i64 (IntKind.i64.wrap ((i : Int) + 1)) = Value.int .i64 ((i : Int) + 1)] ⟨wr_i64 (by omega) (by omega), trivial⟩ ?_))))
     refine nl ?_
     have hB_77 : Below w.heap.size w w_18 := (bt (bg (bt HB hb_10) hg_15 (HB).size) hb_19)
     refine ⟨(i + 1, (-1), r), by kernel_rfl, ?_, ?_⟩
     ·have h1_ := hst1 (by omega)
      have h2_ := hst2 (by omega)
      exact ⟨by omega, by unfold capL; split <;> omega, by unfold capL; split <;> omega, hB_77⟩
     (try dsimp only); omega
    refine xr 1 [(40, .eq (.bool false))] [(40, .bool false)] [39] [Value.bool (decide (b > 1099511627776)) = Value.bool false] ⟨congrArg Value.bool (decide_eq_false (c_74)), trivial⟩ ?_
    refine nl (cf (sk (sq (rg (xr0 1 [(41, .int .i64 r)] [40] ?_)))))
    by_cases c_78 : r > 1099511627776
    ·refine xr 1 [(42, .eq (.bool true))] [(42, .bool true)] [41] [Value.bool (decide (r > 1099511627776)) = Value.bool true] ⟨congrArg Value.bool (decide_eq_true (c_78)), trivial⟩ ?_
     refine nl (ct (rg (xr0 1 [(5, .int .i64 (-1))] [42] ?_)))
     refine nl (rg (xr 2 [(43, .eq (.int .i64 ((i : Int) + 1)))] [(11, .int .i64 ((i : Int) + 1))] [] [Value.int .i64 (IntKind.i64.wrap ((i : Int) + 1)) = Value.int .i64 ((i : Int) + 1)] ⟨wr_i64 (by omega) (by omega), trivial⟩ ?_))
     refine nl ?_
     have hB_79 : Below w.heap.size w w_18 := (bt (bg (bt HB hb_10) hg_15 (HB).size) hb_19)
     refine ⟨(i + 1, b, (-1)), by kernel_rfl, ?_, ?_⟩
     ·have h1_ := hst1 (by omega)
      have h2_ := hst2 (by omega)
      exact ⟨by omega, by unfold capL; split <;> omega, by unfold capL; split <;> omega, hB_79⟩
     (try dsimp only); omega
    refine xr 1 [(42, .eq (.bool false))] [(42, .bool false)] [41] [Value.bool (decide (r > 1099511627776)) = Value.bool false] ⟨congrArg Value.bool (decide_eq_false (c_78)), trivial⟩ ?_
    refine nl (cf (sk (rg (xr 2 [(43, .eq (.int .i64 ((i : Int) + 1)))] [(11, .int .i64 ((i : Int) + 1))] [42] [Value.int .i64 (IntKind.i64.wrap ((i : Int) + 1)) = Value.int .i64 ((i : Int) + 1)] ⟨wr_i64 (by omega) (by omega), trivial⟩ ?_))))
    refine nl ?_
    have hB_80 : Below w.heap.size w w_18 := (bt (bg (bt HB hb_10) hg_15 (HB).size) hb_19)
    refine ⟨(i + 1, b, r), by kernel_rfl, ?_, ?_⟩
    ·have h1_ := hst1 (by omega)
     have h2_ := hst2 (by omega)
     exact ⟨by omega, by unfold capL; split <;> omega, by unfold capL; split <;> omega, hB_80⟩
    (try dsimp only); omega
   refine xr 2 [(34, .eq (.bool true))] [(35, .bool true)] [31, 33] [Value.bool ((xs.getD i op0).kind != 4) = Value.bool true] ⟨congrArg Value.bool (bneT (c_73)), trivial⟩ ?_
   refine nl (ct (rg (xe 4 [(38, .eq (.int .i64 (r + (opLen (xs.getD i op0)))))] [(4, .int .i64 b), (5, .int .i64 (r + (opLen (xs.getD i op0)))), (9, .slice A xs.length c), (10, .int .i64 (xs.length : Int)), (11, nv i)] [Value.int .i64 (IntKind.i64.wrap (r + (opLen (xs.getD i op0)))) = Value.int .i64 (r + (opLen (xs.getD i op0)))] ⟨wr_i64 (by omega) (by omega), trivial⟩ ?_)))
   refine nl (sq (sq (rg (xr0 1 [(39, .int .i64 b)] [] ?_))))
   by_cases c_81 : b > 1099511627776
   ·refine xr 1 [(40, .eq (.bool true))] [(40, .bool true)] [39] [Value.bool (decide (b > 1099511627776)) = Value.bool true] ⟨congrArg Value.bool (decide_eq_true (c_81)), trivial⟩ ?_
    refine nl (ct (rg (xr0 1 [(4, .int .i64 (-1))] [40] ?_)))
    refine nl (sq (rg (xr0 1 [(41, .int .i64 (r + (opLen (xs.getD i op0))))] [] ?_)))
    by_cases c_82 : r + (opLen (xs.getD i op0)) > 1099511627776
    ·refine xr 1 [(42, .eq (.bool true))] [(42, .bool true)] [41] [Value.bool (decide (r + (opLen (xs.getD i op0)) > 1099511627776)) = Value.bool true] ⟨congrArg Value.bool (decide_eq_true (c_82)), trivial⟩ ?_
     refine nl (ct (rg (xe0 1 [(4, .int .i64 (-1)), (5, .int .i64 (-1)), (9, .slice A xs.length c), (10, .int .i64 (xs.length : Int)), (11, nv i)] ?_)))
     refine nl (rg (xr 2 [(43, .eq (.int .i64 ((i : Int) + 1)))] [(11, .int .i64 ((i : Int) + 1))] [] [Value.int .i64 (IntKind.i64.wrap ((i : Int) + 1)) = Value.int .i64 ((i : Int) + 1)] ⟨wr_i64 (by omega) (by omega), trivial⟩ ?_))
     refine nl ?_
     have hB_83 : Below w.heap.size w w_18 := (bt (bg (bt HB hb_10) hg_15 (HB).size) hb_19)
     refine ⟨(i + 1, (-1), (-1)), by kernel_rfl, ?_, ?_⟩
     ·have h1_ := hst1 (by omega)
      have h2_ := hst2 (by omega)
      exact ⟨by omega, by unfold capL; split <;> omega, by unfold capL; split <;> omega, hB_83⟩
     (try dsimp only); omega
    refine xr 1 [(42, .eq (.bool false))] [(42, .bool false)] [41] [Value.bool (decide (r + (opLen (xs.getD i op0)) > 1099511627776)) = Value.bool false] ⟨congrArg Value.bool (decide_eq_false (c_82)), trivial⟩ ?_
    refine nl (cf (sk (rg (xe 2 [(43, .eq (.int .i64 ((i : Int) + 1)))] [(4, .int .i64 (-1)), (5, .int .i64 (r + (opLen (xs.getD i op0)))), (9, .slice A xs.length c), (10, .int .i64 (xs.length : Int)), (11, .int .i64 ((i : Int) + 1))] [Value.int .i64 (IntKind.i64.wrap ((i : Int) + 1)) = Value.int .i64 ((i : Int) + 1)] ⟨wr_i64 (by omega) (by omega), trivial⟩ ?_))))
    refine nl ?_
    have hB_84 : Below w.heap.size w w_18 := (bt (bg (bt HB hb_10) hg_15 (HB).size) hb_19)
    refine ⟨(i + 1, (-1), r + (opLen (xs.getD i op0))), by kernel_rfl, ?_, ?_⟩
    ·have h1_ := hst1 (by omega)
     have h2_ := hst2 (by omega)
     exact ⟨by omega, by unfold capL; split <;> omega, by unfold capL; split <;> omega, hB_84⟩
    (try dsimp only); omega
   refine xr 1 [(40, .eq (.bool false))] [(40, .bool false)] [39] [Value.bool (decide (b > 1099511627776)) = Value.bool false] ⟨congrArg Value.bool (decide_eq_false (c_81)), trivial⟩ ?_
   refine nl (cf (sk (sq (rg (xr0 1 [(41, .int .i64 (r + (opLen (xs.getD i op0))))] [40] ?_)))))
   by_cases c_85 : r + (opLen (xs.getD i op0)) > 1099511627776
   ·refine xr 1 [(42, .eq (.bool true))] [(42, .bool true)] [41] [Value.bool (decide (r + (opLen (xs.getD i op0)) > 1099511627776)) = Value.bool true] ⟨congrArg Value.bool (decide_eq_true (c_85)), trivial⟩ ?_
    refine nl (ct (rg (xr0 1 [(5, .int .i64 (-1))] [42] ?_)))
    refine nl (rg (xe 2 [(43, .eq (.int .i64 ((i : Int) + 1)))] [(4, .int .i64 b), (5, .int .i64 (-1)), (9, .slice A xs.length c), (10, .int .i64 (xs.length : Int)), (11, .int .i64 ((i : Int) + 1))] [Value.int .i64 (IntKind.i64.wrap ((i : Int) + 1)) = Value.int .i64 ((i : Int) + 1)] ⟨wr_i64 (by omega) (by omega), trivial⟩ ?_))
    refine nl ?_
    have hB_86 : Below w.heap.size w w_18 := (bt (bg (bt HB hb_10) hg_15 (HB).size) hb_19)
    refine ⟨(i + 1, b, (-1)), by kernel_rfl, ?_, ?_⟩
    ·have h1_ := hst1 (by omega)
     have h2_ := hst2 (by omega)
     exact ⟨by omega, by unfold capL; split <;> omega, by unfold capL; split <;> omega, hB_86⟩
    (try dsimp only); omega
   refine xr 1 [(42, .eq (.bool false))] [(42, .bool false)] [41] [Value.bool (decide (r + (opLen (xs.getD i op0)) > 1099511627776)) = Value.bool false] ⟨congrArg Value.bool (decide_eq_false (c_85)), trivial⟩ ?_
   refine nl (cf (sk (rg (xr 2 [(43, .eq (.int .i64 ((i : Int) + 1)))] [(11, .int .i64 ((i : Int) + 1))] [42] [Value.int .i64 (IntKind.i64.wrap ((i : Int) + 1)) = Value.int .i64 ((i : Int) + 1)] ⟨wr_i64 (by omega) (by omega), trivial⟩ ?_))))
   refine nl ?_
   have hB_87 : Below w.heap.size w w_18 := (bt (bg (bt HB hb_10) hg_15 (HB).size) hb_19)
   refine ⟨(i + 1, b, r + (opLen (xs.getD i op0))), by kernel_rfl, ?_, ?_⟩
   ·have h1_ := hst1 (by omega)
    have h2_ := hst2 (by omega)
    exact ⟨by omega, by unfold capL; split <;> omega, by unfold capL; split <;> omega, hB_87⟩
   (try dsimp only); omega
  refine xr 6 [(30, .eq (.bool false))] [(35, .bool false)] [7, 29] [Value.bool (decide (r ≥ 0)) = Value.bool false] ⟨congrArg Value.bool (decide_eq_false (c_72)), trivial⟩ ?_
  refine nl (cf (sk (sq (sq (rg (xr0 1 [(39, .int .i64 b)] [8, 35] ?_))))))
  by_cases c_88 : b > 1099511627776
  ·refine xe 1 [(40, .eq (.bool true))] [(4, .int .i64 b), (5, .int .i64 r), (9, .slice A xs.length c), (10, .int .i64 (xs.length : Int)), (11, nv i), (40, .bool true)] [Value.bool (decide (b > 1099511627776)) = Value.bool true] ⟨congrArg Value.bool (decide_eq_true (c_88)), trivial⟩ ?_
   refine nl (ct (rg (xr0 1 [(4, .int .i64 (-1))] [40] ?_)))
   refine nl (sq (rg (xr0 1 [(41, .int .i64 r)] [] ?_)))
   by_cases c_89 : r > 1099511627776
   ·refine xr 1 [(42, .eq (.bool true))] [(42, .bool true)] [41] [Value.bool (decide (r > 1099511627776)) = Value.bool true] ⟨congrArg Value.bool (decide_eq_true (c_89)), trivial⟩ ?_
    refine nl (ct (rg (xr0 1 [(5, .int .i64 (-1))] [42] ?_)))
    refine nl (rg (xr 2 [(43, .eq (.int .i64 ((i : Int) + 1)))] [(11, .int .i64 ((i : Int) + 1))] [] [Value.int .i64 (IntKind.i64.wrap ((i : Int) + 1)) = Value.int .i64 ((i : Int) + 1)] ⟨wr_i64 (by omega) (by omega), trivial⟩ ?_))
    refine nl ?_
    have hB_90 : Below w.heap.size w w_18 := (bt (bg (bt HB hb_10) hg_15 (HB).size) hb_19)
    refine ⟨(i + 1, (-1), (-1)), by kernel_rfl, ?_, ?_⟩
    ·have h1_ := hst1 (by omega)
     have h2_ := hst2 (by omega)
     exact ⟨by omega, by unfold capL; split <;> omega, by unfold capL; split <;> omega, hB_90⟩
    (try dsimp only); omega
   refine xr 1 [(42, .eq (.bool false))] [(42, .bool false)] [41] [Value.bool (decide (r > 1099511627776)) = Value.bool false] ⟨congrArg Value.bool (decide_eq_false (c_89)), trivial⟩ ?_
   refine nl (cf (sk (rg (xr 2 [(43, .eq (.int .i64 ((i : Int) + 1)))] [(11, .int .i64 ((i : Int) + 1))] [42] [Value.int .i64 (IntKind.i64.wrap ((i : Int) + 1)) = Value.int .i64 ((i : Int) + 1)] ⟨wr_i64 (by omega) (by omega), trivial⟩ ?_))))
   refine nl ?_
   have hB_91 : Below w.heap.size w w_18 := (bt (bg (bt HB hb_10) hg_15 (HB).size) hb_19)
   refine ⟨(i + 1, (-1), r), by kernel_rfl, ?_, ?_⟩
   ·have h1_ := hst1 (by omega)
    have h2_ := hst2 (by omega)
    exact ⟨by omega, by unfold capL; split <;> omega, by unfold capL; split <;> omega, hB_91⟩
   (try dsimp only); omega
  refine xe 1 [(40, .eq (.bool false))] [(4, .int .i64 b), (5, .int .i64 r), (9, .slice A xs.length c), (10, .int .i64 (xs.length : Int)), (11, nv i), (40, .bool false)] [Value.bool (decide (b > 1099511627776)) = Value.bool false] ⟨congrArg Value.bool (decide_eq_false (c_88)), trivial⟩ ?_
  refine nl (cf (sk (sq (rg (xr0 1 [(41, .int .i64 r)] [40] ?_)))))
  by_cases c_92 : r > 1099511627776
  ·refine xr 1 [(42, .eq (.bool true))] [(42, .bool true)] [41] [Value.bool (decide (r > 1099511627776)) = Value.bool true] ⟨congrArg Value.bool (decide_eq_true (c_92)), trivial⟩ ?_
   refine nl (ct (rg (xr0 1 [(5, .int .i64 (-1))] [42] ?_)))
   refine nl (rg (xr 2 [(43, .eq (.int .i64 ((i : Int) + 1)))] [(11, .int .i64 ((i : Int) + 1))] [] [Value.int .i64 (IntKind.i64.wrap ((i : Int) + 1)) = Value.int .i64 ((i : Int) + 1)] ⟨wr_i64 (by omega) (by omega), trivial⟩ ?_))
   refine nl ?_
   have hB_93 : Below w.heap.size w w_18 := (bt (bg (bt HB hb_10) hg_15 (HB).size) hb_19)
   refine ⟨(i + 1, b, (-1)), by kernel_rfl, ?_, ?_⟩
   ·have h1_ := hst1 (by omega)
    have h2_ := hst2 (by omega)
    exact ⟨by omega, by unfold capL; split <;> omega, by unfold capL; split <;> omega, hB_93⟩
   (try dsimp only); omega
  refine xr 1 [(42, .eq (.bool false))] [(42, .bool false)] [41] [Value.bool (decide (r > 1099511627776)) = Value.bool false] ⟨congrArg Value.bool (decide_eq_false (c_92)), trivial⟩ ?_
  refine nl (cf (sk (rg (xr 2 [(43, .eq (.int .i64 ((i : Int) + 1)))] [(11, .int .i64 ((i : Int) + 1))] [42] [Value.int .i64 (IntKind.i64.wrap ((i : Int) + 1)) = Value.int .i64 ((i : Int) + 1)] ⟨wr_i64 (by omega) (by omega), trivial⟩ ?_))))
  refine nl ?_
  have hB_94 : Below w.heap.size w w_18 := (bt (bg (bt HB hb_10) hg_15 (HB).size) hb_19)
  refine ⟨(i + 1, b, r), by kernel_rfl, ?_, ?_⟩
  ·have h1_ := hst1 (by omega)
   have h2_ := hst2 (by omega)
   exact ⟨by omega, by unfold capL; split <;> omega, by unfold capL; split <;> omega, hB_94⟩
  (try dsimp only); omega
 refine xr 1 [(12, .eq (.bool false))] [(12, .bool false)] [] [Value.bool (decide ((i : Int) < (xs.length : Int))) = Value.bool false] ⟨congrArg Value.bool (decide_eq_false (c_1)), trivial⟩ ?_
 refine nl (sq (cf (X_exit (sq (rg (xe0 4 [(2, .int .i64 b), (3, .int .i64 r)] ?_))))))
 refine nl (X_ret (rk [.int .i64 b, .int .i64 r] (hR_ _ _ ?_)))
 have hxi : xs.take i = xs := List.take_of_length_le (by omega)
 rw [hxi] at hbb hrr
 unfold capL
 rw [← hbb, ← hrr]
 exact ⟨rfl, HB⟩
theorem r6long_any (A : Option Addr) (c : Nat) (xs : List OpA) (w : World) (hx : kOp.C w A xs.length xs) (hn : xs.length ≤ 1100000) (hz : ∀ i, i < xs.length → opSz (xs.getD i op0)) (hb : badE xs = 0) : Calls Tryd.prog 125 #[.slice A xs.length c] w fun e w' => e = .returned (.bool (decide (1099511627776 < sB xs ∨ 1099511627776 < sR xs))) ∧ Below w.heap.size w w' := by
 have hs0 := sB_ok hb
 have hs1 := sR_ok hb
 have hc1 : capL (sB xs) = if 1099511627776 < sB xs then -1 else sB xs := rfl
 have hc2 : capL (sR xs) = if 1099511627776 < sR xs then -1 else sR xs := rfl
 refine RX.enter Tryd.func125 rfl 16 rfl [(0, .slice A xs.length c)] rfl (by kernel_rfl) (fun R_ hR_ => ?_)
 refine sq (rg (xe0 1 [(0, .slice A xs.length c)] ?_))
 refine nl (sq (rg (xe0 1 [(6, .slice A xs.length c)] ?_)))
 refine xc 160 ent160 [.slice A xs.length c] (r6lens_any _ _ xs _ hx hn hz hb) ?_
 rintro e w_1 ⟨rfl, hb_2⟩; refine ⟨_, rfl, ?_⟩
 refine xe0 5 [(3, .int .i64 (capL (sB xs))), (4, .int .i64 (capL (sR xs)))] ?_
 refine nl (sq (rg (xr0 1 [(10, .int .i64 (capL (sB xs)))] [3] ?_)))
 by_cases c_3 : capL (sB xs) < 0
 ·refine xe 6 [(11, .eq (.bool true))] [(2, .bool true)] [Value.bool (decide (capL (sB xs) < 0)) = Value.bool true] ⟨congrArg Value.bool (decide_eq_true (c_3)), trivial⟩ ?_
  refine nl (X_ret (rk [.bool true] (hR_ _ _ ?_)))
  rw [show decide (1099511627776 < sB xs ∨ 1099511627776 < sR xs) = true from decide_eq_true (by split at hc1 <;> split at hc2 <;> omega)]
  exact ⟨rfl, hb_2⟩
 refine xe 3 [(11, .eq (.bool false))] [(12, .bool false), (13, .int .i64 (capL (sR xs)))] [Value.bool (decide (capL (sB xs) < 0)) = Value.bool false] ⟨congrArg Value.bool (decide_eq_false (c_3)), trivial⟩ ?_
 by_cases c_4 : capL (sR xs) < 0
 ·refine xe 3 [(14, .eq (.bool true))] [(2, .bool true)] [Value.bool (decide (capL (sR xs) < 0)) = Value.bool true] ⟨congrArg Value.bool (decide_eq_true (c_4)), trivial⟩ ?_
  refine nl (X_ret (rk [.bool true] (hR_ _ _ ?_)))
  rw [show decide (1099511627776 < sB xs ∨ 1099511627776 < sR xs) = true from decide_eq_true (by split at hc1 <;> split at hc2 <;> omega)]
  exact ⟨rfl, hb_2⟩
 refine xe 3 [(14, .eq (.bool false))] [(2, .bool false)] [Value.bool (decide (capL (sR xs) < 0)) = Value.bool false] ⟨congrArg Value.bool (decide_eq_false (c_4)), trivial⟩ ?_
 refine nl (X_ret (rk [.bool false] (hR_ _ _ ?_)))
 rw [show decide (1099511627776 < sB xs ∨ 1099511627776 < sR xs) = false from decide_eq_false (by split at hc1 <;> split at hc2 <;> omega)]
 exact ⟨rfl, hb_2⟩
theorem hmake_any (A : Option Addr) (c : Nat) (xs : List OpA) (w : World) (hx : kOp.C w A xs.length xs) (hxc : xs.length ≤ c) (hn : xs.length ≤ 1100000) (hz : ∀ i, i < xs.length → opSz (xs.getD i op0)) (ht : B.txS xs ≤ 50000000) (hT : Tabs w) (es : List Addr) (hE : ErrsO w es) : Calls Tryd.prog 26 #[.slice A xs.length c] w fun e w' => Below w.heap.size w w' ∧ (((B.bOf xs).2 = 0 ∧ ∃ d A' c', e = .returned (.pointer (some ⟨d, 0, none⟩)) ∧ DeltaR w' w.heap.size d A' c' (B.can xs)) ∨ ((B.bOf xs).2 ≠ 0 ∧ e = .returned (.pointer none))) := by
 refine RX.enter Tryd.func26 rfl 15 rfl [(0, .slice A xs.length c)] rfl (by kernel_rfl) (fun R_ hR_ => ?_)
 refine sq (rg (xe0 1 [(0, .slice A xs.length c)] ?_))
 refine nl (sq (rg (xe0 1 [(7, .slice A xs.length c)] ?_)))
 refine xc 58 ent58 [.slice A xs.length c] (bof_any A c xs _ hx hxc hn hz ht hT es hE) ?_
 rintro e w_1 ⟨hb_2, ⟨h_3, d, A_4, c_5, rfl, hd_6⟩ | ⟨h_3, rfl⟩⟩
 ·refine ⟨_, rfl, ?_⟩
  refine xe0 7 [(3, pw d 0), (5, .nilIface)] ?_
  refine nl (sq (sq (rg (xr0 2 [(13, .bool false)] [5] ?_))))
  refine nl (cf (sk (sq (rg (xe0 2 [(2, pw d 0)] ?_)))))
  refine nl (X_ret (rk [.pointer (some ⟨d, 0, none⟩)] (hR_ _ _ ?_)))
  exact ⟨hb_2, .inl ⟨h_3, d, A_4, c_5, rfl, hd_6⟩⟩
 refine ⟨_, rfl, ?_⟩
 rw [errV_pos es _ (Nat.pos_of_ne_zero h_3)]
 refine xe0 7 [(3, .pointer none), (5, .iface 235 (.pointer (some (errAt es ((B.bOf xs).2)))))] ?_
 refine nl (sq (sq (rg (xr0 2 [(13, .bool true)] [5] ?_))))
 refine nl (ct (sq (rg (xe0 1 [(2, .pointer none)] ?_))))
 refine nl (X_ret (rk [.pointer none] (hR_ _ _ ?_)))
 exact ⟨hb_2, .inr ⟨h_3, rfl⟩⟩
theorem his_any (d : Nat) (xs ys : List OpA) (Bl : Option Addr) (c : Nat) (w : World) (hd : DeltaC w d xs) (hb : badE xs = 0) (hn : xs.length ≤ 1100000) (hz : ∀ i, i < xs.length → opSz (xs.getD i op0)) (hy : kOp.C w Bl ys.length ys) :
  Calls Tryd.prog 29 #[.pointer (some ⟨d, 0, none⟩), .slice Bl ys.length c] w fun e w' => e = .returned (.bool (opsEqP xs ys)) ∧ Below w.heap.size w w' := by
 refine RX.enter Tryd.func29 rfl 20 rfl [(0, .pointer (some ⟨d, 0, none⟩)), (1, .slice Bl ys.length c)] rfl (by kernel_rfl) (fun R_ hR_ => ?_)
 refine sq (rg (xe0 1 [(0, pw d 0), (1, .slice Bl ys.length c)] ?_))
 refine nl (sq (rg (xr0 4 [(7, .bool true), (8, pw d 0)] [] ?_)))
 refine xc 27 ent27 [.pointer (some ⟨d, 0, none⟩)] (dops_any _ xs _ hd hb hn hz) ?_
 rintro e w_3 ⟨A_1, c_2, rfl, hl_4, hr_5, hb_6⟩; refine ⟨_, rfl, ?_⟩
 refine xr0 1 [(9, .slice A_1 xs.length c_2), (10, .slice Bl ys.length c)] [8] ?_
 refine xc 65 ent65 [.slice A_1 xs.length c_2, .slice Bl ys.length c] (r6same_any _ _ _ _ xs ys _ (Kd.R_C hr_5) (Kd.C_below hy hb_6)) ?_
 rintro e w_7 ⟨rfl, hb_8⟩; refine ⟨_, rfl, ?_⟩
 refine xr0 2 [(13, .bool (opsEqP xs ys))] [7, 9, 10, 11] ?_
 by_cases c_9 : opsEqP xs ys = true
 ·have hxy := (opsEqP_iff xs ys).1 c_9
  rw [show (opsEqP xs ys : Bool) = true from by simpa using c_9]
  refine xr0 1 [(13, .bool true), (14, pw d 0)] [0] ?_
  refine xc 49 ent49 [.pointer (some ⟨d, 0, none⟩)] (dcount_any _ xs _ (hd.below (bt hb_6 hb_8))) ?_
  rintro e w_10 ⟨rfl, hb_11⟩; refine ⟨_, rfl, ?_⟩
  refine xr0 2 [(15, .int .i64 (xs.length : Int)), (17, .int .i64 (ys.length : Int))] [1, 14] ?_
  by_cases c_12 : (xs.length : Int) = (ys.length : Int)
  ·refine xe 3 [(18, .eq (.bool true))] [(4, .bool true)] [Value.bool ((xs.length : Int) == (ys.length : Int)) = Value.bool true] ⟨congrArg Value.bool (beq_iff_eq.2 (c_12)), trivial⟩ ?_
   refine nl (X_ret (rk [.bool true] (hR_ _ _ ?_)))
   rw [show opsEqP xs ys = true from c_9]
   exact ⟨rfl, (bt (bt hb_6 hb_8) hb_11)⟩
  exfalso; rw [hxy] at *; omega
 rw [show (opsEqP xs ys : Bool) = false from by simpa using c_9]
 refine xe0 7 [(4, .bool false)] ?_
 refine nl (X_ret (rk [.bool false] (hR_ _ _ ?_)))
 rw [show opsEqP xs ys = false from Bool.eq_false_iff.2 c_9]
 exact ⟨rfl, (bt hb_6 hb_8)⟩
end Go.Proofs.YtkehomiogkoomaaDoor
