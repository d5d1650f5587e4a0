import Derived.Test.YtgphmfnkeolbcaaDoorT5
import Derived.Test.YtgphmfnkeolbcaaDoorB1
import Derived.Test.YtgphmfnkeolbcaaDoorO3
import Derived.Test.YtgphmfnkeolbcaaDoorAn2
import Derived.Test.YtgphmfnkeolbcaaDoorMk
import Derived.Test.YtgphmfnkeolbcaaDoorA2
/- The reference of layer build: single operations, lengths. Conditions: sizes, the tables of utf8, the errors' variables. -/
set_option linter.unusedVariables false
set_option linter.unusedSimpArgs false
set_option maxRecDepth 100000
namespace Go.Proofs.YtgphmfnkeolbcaaDoor
open Go Go.RowKit Go.Proofs.YtgphmfnkeolbcaaDoorW.PrintWords RX
theorem ent64 : Ent Tryd.prog 64 := ent_of Tryd.func64 (by kernel_rfl) rfl
theorem ent41 : Ent Tryd.prog 41 := ent_of Tryd.func41 (by kernel_rfl) rfl
theorem ent23 : Ent Tryd.prog 23 := ent_of Tryd.func23 (by kernel_rfl) rfl
def insO (o : OpA) : Prop := o.kind = 1 ∨ o.kind = 2
instance (o : OpA) : Decidable (insO o) := by unfold insO; exact inferInstance
theorem r6sameOp_any (a b : OpA) (A B : Option Addr) (c d : Nat) (w : World) (hA : kAttr.C w A a.attrs.length a.attrs) (hB : kAttr.C w B b.attrs.length b.attrs) : Calls Tryd.prog 64 #[.agg (o7A a (.slice A a.attrs.length c)), .agg (o7A b (.slice B b.attrs.length d))] w fun e w' => e = .returned (.bool (opEqP a b)) ∧ Below w.heap.size w w' := by
 refine RX.enter Tryd.func64 rfl 38 rfl [(0, .agg (o7A a (.slice A a.attrs.length c))), (1, .agg (o7A b (.slice B b.attrs.length d)))] rfl (by kernel_rfl) (fun R_ hR_ => ?_)
 refine sq (rg (xwe 1 [] [(1, .agg (o7A b (.slice B b.attrs.length d))), (2, pw w.heap.size 0)] (w.alloc (.cells (o7A a (.slice A a.attrs.length c)) 59)) [] trivial ?_))
 obtain ⟨w_1, hw_5, hb_2, hk_3, hz_4⟩ := new_world w (o7A a (.slice A a.attrs.length c)) 59
 rw [hw_5]
 refine xw 1 [] [(3, pw w_1.heap.size 0)] [1] (w_1.alloc (.cells (o7A b (.slice B b.attrs.length d)) 59)) [] trivial ?_
 obtain ⟨w_6, hw_10, hb_7, hk_8, hz_9⟩ := new_world w_1 (o7A b (.slice B b.attrs.length d)) 59
 rw [hw_10]
 refine xr0 1 [] [] ?_
 refine nl (sq (rg (xr 4 [(6, .load (.int .i64 a.kind)), (8, .load (.int .i64 b.kind))] [(6, .int .i64 a.kind), (8, .int .i64 b.kind)] [] [LoadsAs Tryd.prog 3 (⟨w.heap.size, 0, none⟩) (.int .i64 a.kind) w_6, LoadsAs Tryd.prog 3 (⟨w_1.heap.size, 0, none⟩) (.int .i64 b.kind) w_6] ⟨loads1 rfl (Blk.cell (Blk.below hk_3 hb_7) 0 _ rfl), loads1 rfl (Blk.cell hk_8 0 _ rfl), trivial⟩ ?_)))
 by_cases c_11 : a.kind = b.kind
 ·refine xr 6 [(9, .eq (.bool true)), (12, .load (.string a.text)), (14, .load (.string b.text))] [(10, .bool true), (12, .string a.text), (14, .string b.text)] [6, 8] [Value.bool (a.kind == b.kind) = Value.bool true, LoadsAs Tryd.prog 9 (⟨w.heap.size, 1, none⟩) (.string a.text) w_6, LoadsAs Tryd.prog 9 (⟨w_1.heap.size, 1, none⟩) (.string b.text) w_6] ⟨congrArg Value.bool (beq_iff_eq.2 (c_11)), loads1 rfl (Blk.cell (Blk.below hk_3 hb_7) 1 _ rfl), loads1 rfl (Blk.cell hk_8 1 _ rfl), trivial⟩ ?_
  by_cases c_12 : a.text = b.text
  ·refine xr 7 [(15, .eq (.bool true)), (19, .load (.agg #[.int .i64 a.vk, .int .i64 a.vn, .string a.vt])), (21, .load (.agg #[.int .i64 b.vk, .int .i64 b.vn, .string b.vt]))] [(17, .bool true), (19, .agg #[.int .i64 a.vk, .int .i64 a.vn, .string a.vt]), (21, .agg #[.int .i64 b.vk, .int .i64 b.vn, .string b.vt])] [10, 12, 14] [Value.bool (a.text.toList == b.text.toList) = Value.bool true, LoadsAs Tryd.prog 41 (⟨w.heap.size, 2, none⟩) (.agg #[.int .i64 a.vk, .int .i64 a.vn, .string a.vt]) w_6, LoadsAs Tryd.prog 41 (⟨w_1.heap.size, 2, none⟩) (.agg #[.int .i64 b.vk, .int .i64 b.vn, .string b.vt]) w_6] ⟨congrArg Value.bool (strEqT (c_12)), loadsB rfl rfl (Blk.below hk_3 hb_7) 2 ⟨by kernel_rfl, by kernel_rfl⟩, loadsB rfl rfl hk_8 2 ⟨by kernel_rfl, by kernel_rfl⟩, trivial⟩ ?_
   by_cases c_13 : (a.vk, a.vn, a.vt) = (b.vk, b.vn, b.vt)
   ·refine xe 7 [(22, .as (.bool true)), (26, .load (.int .i64 a.count)), (28, .load (.int .i64 b.count))] [(2, pw w.heap.size 0), (3, pw w_1.heap.size 0), (24, .bool true), (26, .int .i64 a.count), (28, .int .i64 b.count)] [RunsAs Tryd.prog [(19, .agg #[.int .i64 a.vk, .int .i64 a.vn, .string a.vt]), (21, .agg #[.int .i64 b.vk, .int .i64 b.vn, .string b.vt])] (Go.Op.binOp Go.BinOp.eql 41 (Go.Operand.tmp 19) (Go.Operand.tmp 21) 41) 4 (.bool true) w_6, LoadsAs Tryd.prog 3 (⟨w.heap.size, 5, none⟩) (.int .i64 a.count) w_6, LoadsAs Tryd.prog 3 (⟨w_1.heap.size, 5, none⟩) (.int .i64 b.count) w_6] ⟨runs_bin rfl rfl (run_eqGuard_agg _ _ _ _ _ _ _ (by kernel_rfl)) (by have h := plain_eqb (a.vk, a.vn, a.vt) (b.vk, b.vn, b.vt) w_6; rw [show ple (a.vk, a.vn, a.vt) (b.vk, b.vn, b.vt) = true from (ple_iff _ _).2 c_13] at h; exact h), loads1 rfl (Blk.cell (Blk.below hk_3 hb_7) 5 _ rfl), loads1 rfl (Blk.cell hk_8 5 _ rfl), trivial⟩ ?_
    by_cases c_14 : a.count = b.count
    ·refine xe 7 [(29, .eq (.bool true)), (33, .load (.slice A a.attrs.length c)), (35, .load (.slice B b.attrs.length d))] [(31, .bool true), (33, .slice A a.attrs.length c), (35, .slice B b.attrs.length d)] [Value.bool (a.count == b.count) = Value.bool true, LoadsAs Tryd.prog 42 (⟨w.heap.size, 6, none⟩) (.slice A a.attrs.length c) w_6, LoadsAs Tryd.prog 42 (⟨w_1.heap.size, 6, none⟩) (.slice B b.attrs.length d) w_6] ⟨congrArg Value.bool (beq_iff_eq.2 (c_14)), loads1 rfl (Blk.cell (Blk.below hk_3 hb_7) 6 _ rfl), loads1 rfl (Blk.cell hk_8 6 _ rfl), trivial⟩ ?_
     refine xc 33 ent33 [.slice A a.attrs.length c, .slice B b.attrs.length d] (refSame_any _ _ _ _ a.attrs b.attrs _ (Kd.C_below hA (bt hb_2 hb_7)) (Kd.C_below hB (bt hb_2 hb_7))) ?_
     rintro e w_15 ⟨rfl, hb_16⟩; refine ⟨_, rfl, ?_⟩
     refine xe0 2 [(4, .bool (decide (a.attrs = b.attrs)))] ?_
     refine nl (X_ret (rk [.bool (decide (a.attrs = b.attrs))] (hR_ _ _ ?_)))
     rw [show opEqP a b = decide (a.attrs = b.attrs) from by unfold opEqP; simp_all]
     exact ⟨rfl, (bt (bt hb_2 hb_7) hb_16)⟩
    refine xe 10 [(29, .eq (.bool false))] [(4, .bool false)] [Value.bool (a.count == b.count) = Value.bool false] ⟨congrArg Value.bool (beq_eq_false_iff_ne.2 (c_14)), trivial⟩ ?_
    refine nl (X_ret (rk [.bool false] (hR_ _ _ ?_)))
    rw [show opEqP a b = false from by unfold opEqP; simp_all]
    exact ⟨rfl, (bt hb_2 hb_7)⟩
   refine xe 17 [(22, .as (.bool false))] [(4, .bool false)] [RunsAs Tryd.prog [(19, .agg #[.int .i64 a.vk, .int .i64 a.vn, .string a.vt]), (21, .agg #[.int .i64 b.vk, .int .i64 b.vn, .string b.vt])] (Go.Op.binOp Go.BinOp.eql 41 (Go.Operand.tmp 19) (Go.Operand.tmp 21) 41) 4 (.bool false) w_6] ⟨runs_bin rfl rfl (run_eqGuard_agg _ _ _ _ _ _ _ (by kernel_rfl)) (by have h := plain_eqb (a.vk, a.vn, a.vt) (b.vk, b.vn, b.vt) w_6; rw [show ple (a.vk, a.vn, a.vt) (b.vk, b.vn, b.vt) = false from Bool.eq_false_iff.2 (fun k => c_13 ((ple_iff _ _).1 k))] at h; exact h), trivial⟩ ?_
   refine nl (X_ret (rk [.bool false] (hR_ _ _ ?_)))
   rw [show opEqP a b = false from by unfold opEqP; simp_all]
   exact ⟨rfl, (bt hb_2 hb_7)⟩
  refine xe 24 [(15, .eq (.bool false))] [(4, .bool false)] [Value.bool (a.text.toList == b.text.toList) = Value.bool false] ⟨congrArg Value.bool (strEqF (c_12)), trivial⟩ ?_
  refine nl (X_ret (rk [.bool false] (hR_ _ _ ?_)))
  rw [show opEqP a b = false from by unfold opEqP; simp_all]
  exact ⟨rfl, (bt hb_2 hb_7)⟩
 refine xe 30 [(9, .eq (.bool false))] [(4, .bool false)] [Value.bool (a.kind == b.kind) = Value.bool false] ⟨congrArg Value.bool (beq_eq_false_iff_ne.2 (c_11)), trivial⟩ ?_
 refine nl (X_ret (rk [.bool false] (hR_ _ _ ?_)))
 rw [show opEqP a b = false from by unfold opEqP; simp_all]
 exact ⟨rfl, (bt hb_2 hb_7)⟩
theorem r6same_any (A B : Option Addr) (c d : Nat) (xs ys : List OpA) (w : World) (hx : kOp.C w A xs.length xs) (hy : kOp.C w B ys.length ys) : Calls Tryd.prog 41 #[.slice A xs.length c, .slice B ys.length d] w fun e w' => e = .returned (.bool (opsEqP xs ys)) ∧ Below w.heap.size w w' := by
 have hpl : xs.length ≤ 9223372036854775807 := hx.2.1
 refine RX.enter Tryd.func41 rfl 27 rfl [(0, .slice A xs.length c), (1, .slice B ys.length d)] rfl (by kernel_rfl) (fun R_ hR_ => ?_)
 refine sq (rg (xe0 1 [(0, .slice A xs.length c), (1, .slice B ys.length d)] ?_))
 refine nl (sq (sq (rg (xr0 4 [(7, .int .i64 (xs.length : Int)), (9, .int .i64 (ys.length : Int))] [] ?_))))
 by_cases c_1 : (xs.length : Int) = (ys.length : Int)
 ·refine xr 1 [(10, .eq (.bool false))] [(10, .bool false)] [7, 9] [Value.bool ((xs.length : Int) != (ys.length : Int)) = Value.bool false] ⟨congrArg Value.bool (bneF (c_1)), trivial⟩ ?_
  refine nl (cf (sk (sq (sq (rg (xr0 3 [(12, .int .i64 (xs.length : Int)), (13, .int .i64 0)] [10] ?_))))))
  refine nl (bk (X_loop (ι := Nat) (fun i => [(0, .slice A xs.length c), (1, .slice B ys.length d), (12, .int .i64 (xs.length : Int)), (13, .int .i64 (i : Int))]) (fun i wl => i ≤ xs.length ∧ xs.length = ys.length ∧ (∀ q, q < i → xs.getD q op0 = ys.getD q op0) ∧ Below w.heap.size w wl) (fun i => xs.length - i) 0 ⟨by omega, by omega, fun q hq => by omega, (Below.refl _ _)⟩ (by kernel_rfl) ?_))
  rintro i wl ⟨hi, hlen, hq0, HB⟩
  refine sq (X_region ?_)
  by_cases c_2 : (i : Int) < (xs.length : Int)
  ·refine xr 1 [(14, .eq (.bool true))] [(14, .bool true)] [] [Value.bool (decide ((i : Int) < (xs.length : Int))) = Value.bool true] ⟨congrArg Value.bool (decide_eq_true (c_2)), trivial⟩ ?_
   refine nl (sq (ct (sk (sq (bk (sq (rg (xr0 2 [(5, nv i)] [14] ?_))))))))
   refine nl (sq (X_any [8] 10 #[false, false, false, false, false, false, false, false, false, false] (by kernel_rfl) (by kernel_rfl) (by kernel_rfl) (fun wd_3 hb_4 hh_5 => ?_)))
   refine XA_run (fuel' := 8) [0, 1] [] [.slice A xs.length c, .int .i64 (i : Int)] #[true, true, false, false, false, false, false, false, false, false] [(0, .slice A xs.length c), (1, .slice B ys.length d), (5, .int .i64 (i : Int)), (12, .int .i64 (xs.length : Int)), (13, .int .i64 (i : Int)), (16, .slice A xs.length c), (17, .int .i64 (i : Int))] [] (fun _ _ _ _ h => h) (by kernel_rfl) rfl trivial ?_
   obtain ⟨ad_6, B_9, c_10, ha_7, hc_8, hl_11, hC_12⟩ := Kd.atOp (Kd.C_below hx (bt HB hb_4)) (i := (i : Int)) (by omega) (by omega)
   replace hc_8 : CellsAt wd_3 (ad_6.add ((i : Int).toNat * 7)) (o7L (xs.getD i op0) (.slice B_9 ((xs.getD i op0).attrs.length) c_10)) := hc_8
   replace hl_11 : (xs.getD i op0).attrs.length ≤ c_10 := hl_11
   replace hC_12 : kAttr.C wd_3 B_9 ((xs.getD i op0).attrs.length) (xs.getD i op0).attrs := hC_12
   refine XA_run (fuel' := 4) [2, 3, 4, 5] [(18, .idx ad_6), (19, .load (.agg (o7A (xs.getD i op0) (.slice B_9 ((xs.getD i op0).attrs.length) c_10))))] [.pointer (some (ad_6.add ((i : Int).toNat * 7))), .agg (o7A (xs.getD i op0) (.slice B_9 ((xs.getD i op0).attrs.length) c_10)), .slice B ys.length d, .int .i64 (i : Int)] #[true, true, true, true, true, true, false, false, false, false] [(0, .slice A xs.length c), (1, .slice B ys.length d), (12, .int .i64 (xs.length : Int)), (13, .int .i64 (i : Int)), (19, .agg (o7A (xs.getD i op0) (.slice B_9 ((xs.getD i op0).attrs.length) c_10))), (20, .slice B ys.length d), (21, .int .i64 (i : Int))] [A = some ad_6, (0 : Int) ≤ (i : Int), (i : Int) < (xs.length : Int), LoadsAs Tryd.prog 59 (ad_6.add ((i : Int).toNat * 7)) (.agg (o7A (xs.getD i op0) (.slice B_9 ((xs.getD i op0).attrs.length) c_10))) wd_3] (fun _ _ _ _ h => h) (by kernel_rfl) rfl ⟨ha_7, (by omega), (by omega), loadsE rfl rfl hc_8 0 ⟨by kernel_rfl, by kernel_rfl⟩, trivial⟩ ?_
   obtain ⟨ad_13, B_16, c_17, ha_14, hc_15, hl_18, hC_19⟩ := Kd.atOp (Kd.C_below hy (bt HB hb_4)) (i := (i : Int)) (by omega) (by omega)
   replace hc_15 : CellsAt wd_3 (ad_13.add ((i : Int).toNat * 7)) (o7L (ys.getD i op0) (.slice B_16 ((ys.getD i op0).attrs.length) c_17)) := hc_15
   replace hl_18 : (ys.getD i op0).attrs.length ≤ c_17 := hl_18
   replace hC_19 : kAttr.C wd_3 B_16 ((ys.getD i op0).attrs.length) (ys.getD i op0).attrs := hC_19
   refine XA_run (fuel' := 2) [6, 7] [(22, .idx ad_13), (23, .load (.agg (o7A (ys.getD i op0) (.slice B_16 ((ys.getD i op0).attrs.length) c_17))))] [.pointer (some (ad_13.add ((i : Int).toNat * 7))), .agg (o7A (ys.getD i op0) (.slice B_16 ((ys.getD i op0).attrs.length) c_17))] #[true, true, true, true, true, true, true, true, false, false] [(0, .slice A xs.length c), (1, .slice B ys.length d), (12, .int .i64 (xs.length : Int)), (13, .int .i64 (i : Int)), (19, .agg (o7A (xs.getD i op0) (.slice B_9 ((xs.getD i op0).attrs.length) c_10))), (23, .agg (o7A (ys.getD i op0) (.slice B_16 ((ys.getD i op0).attrs.length) c_17)))] [B = some ad_13, (0 : Int) ≤ (i : Int), (i : Int) < (ys.length : Int), LoadsAs Tryd.prog 59 (ad_13.add ((i : Int).toNat * 7)) (.agg (o7A (ys.getD i op0) (.slice B_16 ((ys.getD i op0).attrs.length) c_17))) wd_3] (fun _ _ _ _ h => h) (by kernel_rfl) rfl ⟨ha_14, (by omega), (by omega), loadsE rfl rfl hc_15 0 ⟨by kernel_rfl, by kernel_rfl⟩, trivial⟩ ?_
   refine XA_act (fuel' := 1) 8 #[true, true, true, true, true, true, true, true, true, false] _ rfl (by kernel_rfl) rfl (by kernel_rfl) rfl ?_
   refine xc 64 ent64 [.agg (o7A (xs.getD i op0) (.slice B_9 ((xs.getD i op0).attrs.length) c_10)), .agg (o7A (ys.getD i op0) (.slice B_16 ((ys.getD i op0).attrs.length) c_17))] (r6sameOp_any (xs.getD i op0) (ys.getD i op0) _ _ _ _ _ hC_12 hC_19) ?_
   rintro e w_20 ⟨rfl, hb_21⟩; refine ⟨_, rfl, ?_⟩
   refine nl ?_
   by_cases c_22 : opEqP (xs.getD i op0) (ys.getD i op0) = true
   ·rw [show (opEqP (xs.getD i op0) (ys.getD i op0) : Bool) = true from by simpa using c_22]
    refine XA_pure (fuel' := 0) [9] [] [.bool false] #[true, true, true, true, true, true, true, true, true, true] [(0, .slice A xs.length c), (1, .slice B ys.length d), (12, .int .i64 (xs.length : Int)), (13, .int .i64 (i : Int)), (25, .bool false)] (fun w_ => []) (fun _ _ _ _ h => h) (fun w_ => by kernel_rfl) rfl (fun w_ => trivial) ?_
    refine XA_done (by kernel_rfl) ?_
    refine cf (sk (rg (xr 2 [(26, .eq (.int .i64 ((i : Int) + 1)))] [(13, .int .i64 ((i : Int) + 1))] [25] [Value.int .i64 (IntKind.i64.wrap ((i : Int) + 1)) = Value.int .i64 ((i : Int) + 1)] ⟨wr_i64 (by omega) (by omega), trivial⟩ ?_)))
    refine nl ?_
    refine ⟨(i + 1), by kernel_rfl, ?_, ?_⟩
    ·exact ⟨by omega, by omega, fun q hq => by by_cases e_ : q = i; (· subst e_; exact (opEqP_iff _ _).1 c_22); (· exact hq0 q (by omega)), (bt (bt HB hb_4) hb_21)⟩
    (try dsimp only); omega
   rw [show (opEqP (xs.getD i op0) (ys.getD i op0) : Bool) = false from by simpa using c_22]
   refine XA_pure (fuel' := 0) [9] [] [.bool true] #[true, true, true, true, true, true, true, true, true, true] [(0, .slice A xs.length c), (1, .slice B ys.length d), (12, .int .i64 (xs.length : Int)), (13, .int .i64 (i : Int)), (25, .bool true)] (fun w_ => []) (fun _ _ _ _ h => h) (fun w_ => by kernel_rfl) rfl (fun w_ => trivial) ?_
   refine XA_done (by kernel_rfl) ?_
   refine ct (sq (rg (xe0 1 [(4, .bool false)] ?_)))
   refine nl (X_ret (rk [.bool false] (hR_ _ _ ?_)))
   rw [(opsEqP_false xs ys).2 (fun e_ => c_22 ((opEqP_iff _ _).2 (by rw [e_])))]
   exact ⟨rfl, (bt (bt HB hb_4) hb_21)⟩
  refine xr 1 [(14, .eq (.bool false))] [(14, .bool false)] [] [Value.bool (decide ((i : Int) < (xs.length : Int))) = Value.bool false] ⟨congrArg Value.bool (decide_eq_false (c_2)), trivial⟩ ?_
  refine nl (sq (cf (X_exit (sq (rg (xe0 1 [(4, .bool true)] ?_))))))
  refine nl (X_ret (rk [.bool true] (hR_ _ _ ?_)))
  rw [(opsEqP_iff xs ys).2 (ops_ext hlen (fun q hq => hq0 q (by omega)))]
  exact ⟨rfl, HB⟩
 refine xr 1 [(10, .eq (.bool true))] [(10, .bool true)] [7, 9] [Value.bool ((xs.length : Int) != (ys.length : Int)) = Value.bool true] ⟨congrArg Value.bool (bneT (c_1)), trivial⟩ ?_
 refine nl (ct (sq (rg (xe0 1 [(4, .bool false)] ?_))))
 refine nl (X_ret (rk [.bool false] (hR_ _ _ ?_)))
 rw [(opsEqP_false xs ys).2 (fun e_ => by subst e_; omega)]
 exact ⟨rfl, (Below.refl _ _)⟩
theorem his_any (d : Nat) (xs ys : List OpA) (Bl : Option Addr) (c : Nat) (w : World) (hd : DeltaC w d xs) (hb : badE xs = 0) (hn : xs.length ≤ 1100000) (hz : ∀ i, i < xs.length → opSz (xs.getD i op0)) (hy : kOp.C w Bl ys.length ys) :
  Calls Tryd.prog 23 #[.pointer (some ⟨d, 0, none⟩), .slice Bl ys.length c] w fun e w' => e = .returned (.bool (opsEqP xs ys)) ∧ Below w.heap.size w w' := by
 refine RX.enter Tryd.func23 rfl 20 rfl [(0, .pointer (some ⟨d, 0, none⟩)), (1, .slice Bl ys.length c)] rfl (by kernel_rfl) (fun R_ hR_ => ?_)
 refine sq (rg (xe0 1 [(0, pw d 0), (1, .slice Bl ys.length c)] ?_))
 refine nl (sq (rg (xr0 4 [(7, .bool true), (8, pw d 0)] [] ?_)))
 refine xc 8 ent8 [.pointer (some ⟨d, 0, none⟩)] (dops_any _ xs _ hd hb hn hz) ?_
 rintro e w_3 ⟨A_1, c_2, rfl, hl_4, hr_5, hb_6⟩; refine ⟨_, rfl, ?_⟩
 refine xr0 1 [(9, .slice A_1 xs.length c_2), (10, .slice Bl ys.length c)] [8] ?_
 refine xc 41 ent41 [.slice A_1 xs.length c_2, .slice Bl ys.length c] (r6same_any _ _ _ _ xs ys _ (Kd.R_C hr_5) (Kd.C_below hy hb_6)) ?_
 rintro e w_7 ⟨rfl, hb_8⟩; refine ⟨_, rfl, ?_⟩
 refine xr0 2 [(13, .bool (opsEqP xs ys))] [7, 9, 10, 11] ?_
 by_cases c_9 : opsEqP xs ys = true
 ·have hxy := (opsEqP_iff xs ys).1 c_9
  rw [show (opsEqP xs ys : Bool) = true from by simpa using c_9]
  refine xr0 1 [(13, .bool true), (14, pw d 0)] [0] ?_
  refine xc 42 ent42 [.pointer (some ⟨d, 0, none⟩)] (dcount_any _ xs _ (hd.below (bt hb_6 hb_8))) ?_
  rintro e w_10 ⟨rfl, hb_11⟩; refine ⟨_, rfl, ?_⟩
  refine xr0 2 [(15, .int .i64 (xs.length : Int)), (17, .int .i64 (ys.length : Int))] [1, 14] ?_
  by_cases c_12 : (xs.length : Int) = (ys.length : Int)
  ·refine xe 3 [(18, .eq (.bool true))] [(4, .bool true)] [Value.bool ((xs.length : Int) == (ys.length : Int)) = Value.bool true] ⟨congrArg Value.bool (beq_iff_eq.2 (c_12)), trivial⟩ ?_
   refine nl (X_ret (rk [.bool true] (hR_ _ _ ?_)))
   rw [show opsEqP xs ys = true from c_9]
   exact ⟨rfl, (bt (bt hb_6 hb_8) hb_11)⟩
  exfalso; rw [hxy] at *; omega
 rw [show (opsEqP xs ys : Bool) = false from by simpa using c_9]
 refine xe0 7 [(4, .bool false)] ?_
 refine nl (X_ret (rk [.bool false] (hR_ _ _ ?_)))
 rw [show opsEqP xs ys = false from Bool.eq_false_iff.2 c_9]
 exact ⟨rfl, (bt hb_6 hb_8)⟩
end Go.Proofs.YtgphmfnkeolbcaaDoor
