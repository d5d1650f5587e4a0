import Derived.Test.YtgphmfnkeolbcaaDoorA2
import Derived.Test.YtgphmfnkeolbcaaDoorWEqStruct
import Derived.Test.YtgphmfnkeolbcaaDoorRX
/- What slices.Equal over attributes and the reference's Same answer. No condition but lengths. -/
set_option linter.unusedVariables false
set_option linter.unusedSimpArgs false
set_option maxRecDepth 100000
namespace Go.Proofs.YtgphmfnkeolbcaaDoor
open Go Go.RowKit Go.Proofs.YtgphmfnkeolbcaaDoorW.PrintWords RX
theorem ent76 : Ent Tryd.prog 76 := ent_of Tryd.func76 (by kernel_rfl) rfl
theorem ent33 : Ent Tryd.prog 33 := ent_of Tryd.func33 (by kernel_rfl) rfl
theorem ent56 : Ent Tryd.prog 56 := ent_of Tryd.func56 (by kernel_rfl) rfl
def atEq (x y : At) : Bool := (x.1.toList == y.1.toList) && ((x.2.1 == y.2.1) && ((x.2.2.1 == y.2.2.1) && (x.2.2.2.toList == y.2.2.2.toList)))
theorem plain_eql (a b : Int) (s : ByteArray) (c d : Int) (t : ByteArray) (w : World) : (Op.equalIn 9999 41 (.agg #[.int .i64 a, .int .i64 b, .string s]) (.agg #[.int .i64 c, .int .i64 d, .string t])).run Tryd.prog w = .ok ((a == c) && ((b == d) && (s.toList == t.toList))) w := by
 refine eqA_of (d := 9998) Tryd.underlying41 (by kernel_rfl) ?_
 exact eqf_cons (a := .int .i64 a) (b := .int .i64 c) rfl (by kernel_rfl) (by kernel_rfl) (run_equalIn_int _ _ _ _ _ _ _ Tryd.underlying3) (eqf_cons (a := .int .i64 b) (b := .int .i64 d) rfl (by kernel_rfl) (by kernel_rfl) (run_equalIn_int _ _ _ _ _ _ _ Tryd.underlying2) (eqf_last (a := .string s) (b := .string t) rfl (by kernel_rfl) (by kernel_rfl) (run_equalIn_string _ _ _ _ _ Tryd.underlying9)))
theorem attr_eql (x y : At) (w : World) : (Op.equalIn 10000 93 (.agg (atV x).toArray) (.agg (atV y).toArray)).run Tryd.prog w = .ok (atEq x y) w := by
 refine eqA_of (d := 9999) Tryd.underlying93 (by kernel_rfl) ?_
 exact eqf_cons (a := .string x.1) (b := .string y.1) rfl (by kernel_rfl) (by kernel_rfl) (run_equalIn_string _ _ _ _ _ Tryd.underlying9) (eqf_last (a := .agg #[.int .i64 x.2.1, .int .i64 x.2.2.1, .string x.2.2.2]) (b := .agg #[.int .i64 y.2.1, .int .i64 y.2.2.1, .string y.2.2.2]) rfl (by kernel_rfl) (by kernel_rfl) (plain_eql _ _ _ _ _ _ w))
theorem attr_neq (x y : At) (w : World) : (binOp .neq 93 (.agg #[.string x.1, .int .i64 x.2.1, .int .i64 x.2.2.1, .string x.2.2.2]) (.agg #[.string y.1, .int .i64 y.2.1, .int .i64 y.2.2.1, .string y.2.2.2])).run Tryd.prog w = .ok (.bool (!(atEq x y))) w := by
 have h := attr_eql x y w
 rw [run_neq_struct]
 show ((Op.equalIn 10000 93 (.agg (atV x).toArray) (.agg (atV y).toArray)).run Tryd.prog w).andThen _ = _
 rw [h]; rfl
theorem atEq_iff (x y : At) : atEq x y = true ↔ x = y := by
 obtain ⟨a, b, c, d⟩ := x
 obtain ⟨a', b', c', d'⟩ := y
 simp only [atEq, Bool.and_eq_true, beq_iff_eq, Prod.mk.injEq]
 exact ⟨fun ⟨h1, h2, h3, h4⟩ => ⟨bytes_ext h1, h2, h3, bytes_ext h4⟩, fun ⟨h1, h2, h3, h4⟩ => ⟨by rw [h1], h2, h3, by rw [h4]⟩⟩
theorem equal_any (A A' : Option Addr) (c c' : Nat) (xs ys : List At) (w : World) (hx : kAttr.C w A xs.length xs) (hy : kAttr.C w A' ys.length ys) :
  Calls Tryd.prog 76 #[.slice A xs.length c, .slice A' ys.length c'] w fun e w' => e = .returned (.bool (decide (xs = ys))) ∧ Below w.heap.size w w' := by
 have hpl : xs.length ≤ 9223372036854775807 := hx.2.1
 refine RX.enter Tryd.func76 rfl 26 rfl [(0, .slice A xs.length c), (1, .slice A' ys.length c')] rfl (by kernel_rfl) (fun R_ hR_ => ?_)
 refine sq (rg (xe0 1 [(0, .slice A xs.length c), (1, .slice A' ys.length c')] ?_))
 refine nl (sq (sq (rg (xr0 4 [(7, .int .i64 (xs.length : Int)), (9, .int .i64 (ys.length : Int))] [] ?_))))
 by_cases c_1 : (xs.length : Int) = (ys.length : Int)
 ·refine xr 1 [(10, .eq (.bool false))] [(10, .bool false)] [7, 9] [Value.bool ((xs.length : Int) != (ys.length : Int)) = Value.bool false] ⟨congrArg Value.bool (bneF (c_1)), trivial⟩ ?_
  refine nl (cf (sk (sq (sq (rg (xr0 3 [(12, .int .i64 (xs.length : Int)), (13, .int .i64 0)] [10] ?_))))))
  refine nl (bk (X_loop (ι := Nat) (fun i => [(0, .slice A xs.length c), (1, .slice A' ys.length c'), (12, .int .i64 (xs.length : Int)), (13, .int .i64 (i : Int))]) (fun i wl => i ≤ xs.length ∧ xs.length = ys.length ∧ (∀ q, q < i → xs.getD q at0 = ys.getD q at0) ∧ Below w.heap.size w wl) (fun i => xs.length - i) 0 ⟨by omega, by omega, fun q hq => by omega, (Below.refl _ _)⟩ (by kernel_rfl) ?_))
  rintro i wl ⟨hi, hlen, hq0, HB⟩
  refine sq (X_region ?_)
  by_cases c_2 : (i : Int) < (xs.length : Int)
  ·refine xr 1 [(14, .eq (.bool true))] [(14, .bool true)] [] [Value.bool (decide ((i : Int) < (xs.length : Int))) = Value.bool true] ⟨congrArg Value.bool (decide_eq_true (c_2)), trivial⟩ ?_
   refine nl (sq (ct (sk (sq (bk (sq (rg (xr0 2 [(5, nv i)] [14] ?_))))))))
   refine nl (sq (X_still (by kernel_rfl) (by kernel_rfl) (fun wd_3 hb_4 hh_5 => ?_)))
   refine xse 2 [] [(0, .slice A xs.length c), (1, .slice A' ys.length c'), (5, .int .i64 (i : Int)), (12, .int .i64 (xs.length : Int)), (13, .int .i64 (i : Int)), (16, .slice A xs.length c), (17, .int .i64 (i : Int))] [] trivial ?_
   obtain ⟨ad_6, ha_7, hc_8⟩ := Kd.atAttr (Kd.C_below hx (bt HB hb_4)) (i := (i : Int)) (by omega) (by omega)
   replace hc_8 : CellsAt wd_3 (ad_6.add ((i : Int).toNat * 4)) [.string ((xs.getD i at0).1), .int .i64 ((xs.getD i at0).2.1), .int .i64 ((xs.getD i at0).2.2.1), .string ((xs.getD i at0).2.2.2)] := hc_8
   refine xse 4 [(18, .idx ad_6), (19, .load (.agg #[.string ((xs.getD i at0).1), .int .i64 ((xs.getD i at0).2.1), .int .i64 ((xs.getD i at0).2.2.1), .string ((xs.getD i at0).2.2.2)]))] [(0, .slice A xs.length c), (1, .slice A' ys.length c'), (12, .int .i64 (xs.length : Int)), (13, .int .i64 (i : Int)), (19, .agg #[.string ((xs.getD i at0).1), .int .i64 ((xs.getD i at0).2.1), .int .i64 ((xs.getD i at0).2.2.1), .string ((xs.getD i at0).2.2.2)]), (20, .slice A' ys.length c'), (21, .int .i64 (i : Int))] [A = some ad_6, (0 : Int) ≤ (i : Int), (i : Int) < (xs.length : Int), LoadsAs Tryd.prog 93 (ad_6.add ((i : Int).toNat * 4)) (.agg #[.string ((xs.getD i at0).1), .int .i64 ((xs.getD i at0).2.1), .int .i64 ((xs.getD i at0).2.2.1), .string ((xs.getD i at0).2.2.2)]) wd_3] ⟨ha_7, (by omega), (by omega), loadsE rfl rfl hc_8 0 ⟨by kernel_rfl, by kernel_rfl⟩, trivial⟩ ?_
   obtain ⟨ad_9, ha_10, hc_11⟩ := Kd.atAttr (Kd.C_below hy (bt HB hb_4)) (i := (i : Int)) (by omega) (by omega)
   replace hc_11 : CellsAt wd_3 (ad_9.add ((i : Int).toNat * 4)) [.string ((ys.getD i at0).1), .int .i64 ((ys.getD i at0).2.1), .int .i64 ((ys.getD i at0).2.2.1), .string ((ys.getD i at0).2.2.2)] := hc_11
   refine xse 2 [(22, .idx ad_9), (23, .load (.agg #[.string ((ys.getD i at0).1), .int .i64 ((ys.getD i at0).2.1), .int .i64 ((ys.getD i at0).2.2.1), .string ((ys.getD i at0).2.2.2)]))] [(0, .slice A xs.length c), (1, .slice A' ys.length c'), (12, .int .i64 (xs.length : Int)), (13, .int .i64 (i : Int)), (19, .agg #[.string ((xs.getD i at0).1), .int .i64 ((xs.getD i at0).2.1), .int .i64 ((xs.getD i at0).2.2.1), .string ((xs.getD i at0).2.2.2)]), (23, .agg #[.string ((ys.getD i at0).1), .int .i64 ((ys.getD i at0).2.1), .int .i64 ((ys.getD i at0).2.2.1), .string ((ys.getD i at0).2.2.2)])] [A' = some ad_9, (0 : Int) ≤ (i : Int), (i : Int) < (ys.length : Int), LoadsAs Tryd.prog 93 (ad_9.add ((i : Int).toNat * 4)) (.agg #[.string ((ys.getD i at0).1), .int .i64 ((ys.getD i at0).2.1), .int .i64 ((ys.getD i at0).2.2.1), .string ((ys.getD i at0).2.2.2)]) wd_3] ⟨ha_10, (by omega), (by omega), loadsE rfl rfl hc_11 0 ⟨by kernel_rfl, by kernel_rfl⟩, trivial⟩ ?_
   by_cases c_12 : (xs.getD i at0) = (ys.getD i at0)
   ·refine xse 1 [(24, .as (.bool false))] [(0, .slice A xs.length c), (1, .slice A' ys.length c'), (12, .int .i64 (xs.length : Int)), (13, .int .i64 (i : Int)), (24, .bool false)] [RunsAs Tryd.prog [(19, .agg #[.string ((xs.getD i at0).1), .int .i64 ((xs.getD i at0).2.1), .int .i64 ((xs.getD i at0).2.2.1), .string ((xs.getD i at0).2.2.2)]), (23, .agg #[.string ((ys.getD i at0).1), .int .i64 ((ys.getD i at0).2.1), .int .i64 ((ys.getD i at0).2.2.1), .string ((ys.getD i at0).2.2.2)])] (Go.Op.binOp Go.BinOp.neq 93 (Go.Operand.tmp 19) (Go.Operand.tmp 23) 93) 4 (.bool false) wd_3] ⟨runs_bin rfl rfl (run_eqGuard_agg _ _ _ _ _ _ _ (by kernel_rfl)) (by have h := attr_neq (xs.getD i at0) (ys.getD i at0) wd_3; rw [show atEq (xs.getD i at0) (ys.getD i at0) = true from (atEq_iff _ _).2 c_12] at h; exact h), trivial⟩ ?_
    refine XS_nil ?_
    refine cf (sk (rg (xr 2 [(25, .eq (.int .i64 ((i : Int) + 1)))] [(13, .int .i64 ((i : Int) + 1))] [24] [Value.int .i64 (IntKind.i64.wrap ((i : Int) + 1)) = Value.int .i64 ((i : Int) + 1)] ⟨wr_i64 (by omega) (by omega), trivial⟩ ?_)))
    refine nl ?_
    refine ⟨(i + 1), by kernel_rfl, ?_, ?_⟩
    ·exact ⟨by omega, by omega, fun q hq => by by_cases e : q = i; (· subst e; exact c_12); (· exact hq0 q (by omega)), (bt HB hb_4)⟩
    (try dsimp only); omega
   refine xse 1 [(24, .as (.bool true))] [(0, .slice A xs.length c), (1, .slice A' ys.length c'), (12, .int .i64 (xs.length : Int)), (13, .int .i64 (i : Int)), (24, .bool true)] [RunsAs Tryd.prog [(19, .agg #[.string ((xs.getD i at0).1), .int .i64 ((xs.getD i at0).2.1), .int .i64 ((xs.getD i at0).2.2.1), .string ((xs.getD i at0).2.2.2)]), (23, .agg #[.string ((ys.getD i at0).1), .int .i64 ((ys.getD i at0).2.1), .int .i64 ((ys.getD i at0).2.2.1), .string ((ys.getD i at0).2.2.2)])] (Go.Op.binOp Go.BinOp.neq 93 (Go.Operand.tmp 19) (Go.Operand.tmp 23) 93) 4 (.bool true) wd_3] ⟨runs_bin rfl rfl (run_eqGuard_agg _ _ _ _ _ _ _ (by kernel_rfl)) (by have h := attr_neq (xs.getD i at0) (ys.getD i at0) wd_3; rw [show atEq (xs.getD i at0) (ys.getD i at0) = false from Bool.eq_false_iff.2 (fun k => c_12 ((atEq_iff _ _).1 k))] at h; exact h), trivial⟩ ?_
   refine XS_nil ?_
   refine ct (sq (rg (xe0 1 [(4, .bool false)] ?_)))
   refine nl (X_ret (rk [.bool false] (hR_ _ _ ?_)))
   rw [decide_eq_false (fun e => c_12 (by rw [e]))]
   exact ⟨rfl, (bt HB hb_4)⟩
  refine xr 1 [(14, .eq (.bool false))] [(14, .bool false)] [] [Value.bool (decide ((i : Int) < (xs.length : Int))) = Value.bool false] ⟨congrArg Value.bool (decide_eq_false (c_2)), trivial⟩ ?_
  refine nl (sq (cf (X_exit (sq (rg (xe0 1 [(4, .bool true)] ?_))))))
  refine nl (X_ret (rk [.bool true] (hR_ _ _ ?_)))
  rw [decide_eq_true (show xs = ys from List.ext_getElem hlen fun q h1 h2 => by have := hq0 q (by omega); simpa [List.getD_eq_getElem?_getD, List.getElem?_eq_getElem h1, List.getElem?_eq_getElem h2] using this)]
  exact ⟨rfl, HB⟩
 refine xr 1 [(10, .eq (.bool true))] [(10, .bool true)] [7, 9] [Value.bool ((xs.length : Int) != (ys.length : Int)) = Value.bool true] ⟨congrArg Value.bool (bneT (c_1)), trivial⟩ ?_
 refine nl (ct (sq (rg (xe0 1 [(4, .bool false)] ?_))))
 refine nl (X_ret (rk [.bool false] (hR_ _ _ ?_)))
 rw [decide_eq_false (show ¬ xs = ys from fun e => by subst e; omega)]
 exact ⟨rfl, (Below.refl _ _)⟩
theorem refSame_any (A A' : Option Addr) (c c' : Nat) (xs ys : List At) (w : World) (hx : kAttr.C w A xs.length xs) (hy : kAttr.C w A' ys.length ys) :
  Calls Tryd.prog 33 #[.slice A xs.length c, .slice A' ys.length c'] w fun e w' => e = .returned (.bool (decide (xs = ys))) ∧ Below w.heap.size w w' := by
 have hpl : xs.length ≤ 9223372036854775807 := hx.2.1
 refine RX.enter Tryd.func33 rfl 26 rfl [(0, .slice A xs.length c), (1, .slice A' ys.length c')] rfl (by kernel_rfl) (fun R_ hR_ => ?_)
 refine sq (rg (xe0 1 [(0, .slice A xs.length c), (1, .slice A' ys.length c')] ?_))
 refine nl (sq (sq (rg (xr0 4 [(7, .int .i64 (xs.length : Int)), (9, .int .i64 (ys.length : Int))] [] ?_))))
 by_cases c_1 : (xs.length : Int) = (ys.length : Int)
 ·refine xr 1 [(10, .eq (.bool false))] [(10, .bool false)] [7, 9] [Value.bool ((xs.length : Int) != (ys.length : Int)) = Value.bool false] ⟨congrArg Value.bool (bneF (c_1)), trivial⟩ ?_
  refine nl (cf (sk (sq (sq (rg (xr0 3 [(12, .int .i64 (xs.length : Int)), (13, .int .i64 0)] [10] ?_))))))
  refine nl (bk (X_loop (ι := Nat) (fun i => [(0, .slice A xs.length c), (1, .slice A' ys.length c'), (12, .int .i64 (xs.length : Int)), (13, .int .i64 (i : Int))]) (fun i wl => i ≤ xs.length ∧ xs.length = ys.length ∧ (∀ q, q < i → xs.getD q at0 = ys.getD q at0) ∧ Below w.heap.size w wl) (fun i => xs.length - i) 0 ⟨by omega, by omega, fun q hq => by omega, (Below.refl _ _)⟩ (by kernel_rfl) ?_))
  rintro i wl ⟨hi, hlen, hq0, HB⟩
  refine sq (X_region ?_)
  by_cases c_2 : (i : Int) < (xs.length : Int)
  ·refine xr 1 [(14, .eq (.bool true))] [(14, .bool true)] [] [Value.bool (decide ((i : Int) < (xs.length : Int))) = Value.bool true] ⟨congrArg Value.bool (decide_eq_true (c_2)), trivial⟩ ?_
   refine nl (sq (ct (sk (sq (bk (sq (rg (xr0 2 [(5, nv i)] [14] ?_))))))))
   refine nl (sq (X_still (by kernel_rfl) (by kernel_rfl) (fun wd_3 hb_4 hh_5 => ?_)))
   refine xse 2 [] [(0, .slice A xs.length c), (1, .slice A' ys.length c'), (5, .int .i64 (i : Int)), (12, .int .i64 (xs.length : Int)), (13, .int .i64 (i : Int)), (16, .slice A xs.length c), (17, .int .i64 (i : Int))] [] trivial ?_
   obtain ⟨ad_6, ha_7, hc_8⟩ := Kd.atAttr (Kd.C_below hx (bt HB hb_4)) (i := (i : Int)) (by omega) (by omega)
   replace hc_8 : CellsAt wd_3 (ad_6.add ((i : Int).toNat * 4)) [.string ((xs.getD i at0).1), .int .i64 ((xs.getD i at0).2.1), .int .i64 ((xs.getD i at0).2.2.1), .string ((xs.getD i at0).2.2.2)] := hc_8
   refine xse 4 [(18, .idx ad_6), (19, .load (.agg #[.string ((xs.getD i at0).1), .int .i64 ((xs.getD i at0).2.1), .int .i64 ((xs.getD i at0).2.2.1), .string ((xs.getD i at0).2.2.2)]))] [(0, .slice A xs.length c), (1, .slice A' ys.length c'), (12, .int .i64 (xs.length : Int)), (13, .int .i64 (i : Int)), (19, .agg #[.string ((xs.getD i at0).1), .int .i64 ((xs.getD i at0).2.1), .int .i64 ((xs.getD i at0).2.2.1), .string ((xs.getD i at0).2.2.2)]), (20, .slice A' ys.length c'), (21, .int .i64 (i : Int))] [A = some ad_6, (0 : Int) ≤ (i : Int), (i : Int) < (xs.length : Int), LoadsAs Tryd.prog 93 (ad_6.add ((i : Int).toNat * 4)) (.agg #[.string ((xs.getD i at0).1), .int .i64 ((xs.getD i at0).2.1), .int .i64 ((xs.getD i at0).2.2.1), .string ((xs.getD i at0).2.2.2)]) wd_3] ⟨ha_7, (by omega), (by omega), loadsE rfl rfl hc_8 0 ⟨by kernel_rfl, by kernel_rfl⟩, trivial⟩ ?_
   obtain ⟨ad_9, ha_10, hc_11⟩ := Kd.atAttr (Kd.C_below hy (bt HB hb_4)) (i := (i : Int)) (by omega) (by omega)
   replace hc_11 : CellsAt wd_3 (ad_9.add ((i : Int).toNat * 4)) [.string ((ys.getD i at0).1), .int .i64 ((ys.getD i at0).2.1), .int .i64 ((ys.getD i at0).2.2.1), .string ((ys.getD i at0).2.2.2)] := hc_11
   refine xse 2 [(22, .idx ad_9), (23, .load (.agg #[.string ((ys.getD i at0).1), .int .i64 ((ys.getD i at0).2.1), .int .i64 ((ys.getD i at0).2.2.1), .string ((ys.getD i at0).2.2.2)]))] [(0, .slice A xs.length c), (1, .slice A' ys.length c'), (12, .int .i64 (xs.length : Int)), (13, .int .i64 (i : Int)), (19, .agg #[.string ((xs.getD i at0).1), .int .i64 ((xs.getD i at0).2.1), .int .i64 ((xs.getD i at0).2.2.1), .string ((xs.getD i at0).2.2.2)]), (23, .agg #[.string ((ys.getD i at0).1), .int .i64 ((ys.getD i at0).2.1), .int .i64 ((ys.getD i at0).2.2.1), .string ((ys.getD i at0).2.2.2)])] [A' = some ad_9, (0 : Int) ≤ (i : Int), (i : Int) < (ys.length : Int), LoadsAs Tryd.prog 93 (ad_9.add ((i : Int).toNat * 4)) (.agg #[.string ((ys.getD i at0).1), .int .i64 ((ys.getD i at0).2.1), .int .i64 ((ys.getD i at0).2.2.1), .string ((ys.getD i at0).2.2.2)]) wd_3] ⟨ha_10, (by omega), (by omega), loadsE rfl rfl hc_11 0 ⟨by kernel_rfl, by kernel_rfl⟩, trivial⟩ ?_
   by_cases c_12 : (xs.getD i at0) = (ys.getD i at0)
   ·refine xse 1 [(24, .as (.bool false))] [(0, .slice A xs.length c), (1, .slice A' ys.length c'), (12, .int .i64 (xs.length : Int)), (13, .int .i64 (i : Int)), (24, .bool false)] [RunsAs Tryd.prog [(19, .agg #[.string ((xs.getD i at0).1), .int .i64 ((xs.getD i at0).2.1), .int .i64 ((xs.getD i at0).2.2.1), .string ((xs.getD i at0).2.2.2)]), (23, .agg #[.string ((ys.getD i at0).1), .int .i64 ((ys.getD i at0).2.1), .int .i64 ((ys.getD i at0).2.2.1), .string ((ys.getD i at0).2.2.2)])] (Go.Op.binOp Go.BinOp.neq 93 (Go.Operand.tmp 19) (Go.Operand.tmp 23) 93) 4 (.bool false) wd_3] ⟨runs_bin rfl rfl (run_eqGuard_agg _ _ _ _ _ _ _ (by kernel_rfl)) (by have h := attr_neq (xs.getD i at0) (ys.getD i at0) wd_3; rw [show atEq (xs.getD i at0) (ys.getD i at0) = true from (atEq_iff _ _).2 c_12] at h; exact h), trivial⟩ ?_
    refine XS_nil ?_
    refine cf (sk (rg (xr 2 [(25, .eq (.int .i64 ((i : Int) + 1)))] [(13, .int .i64 ((i : Int) + 1))] [24] [Value.int .i64 (IntKind.i64.wrap ((i : Int) + 1)) = Value.int .i64 ((i : Int) + 1)] ⟨wr_i64 (by omega) (by omega), trivial⟩ ?_)))
    refine nl ?_
    refine ⟨(i + 1), by kernel_rfl, ?_, ?_⟩
    ·exact ⟨by omega, by omega, fun q hq => by by_cases e : q = i; (· subst e; exact c_12); (· exact hq0 q (by omega)), (bt HB hb_4)⟩
    (try dsimp only); omega
   refine xse 1 [(24, .as (.bool true))] [(0, .slice A xs.length c), (1, .slice A' ys.length c'), (12, .int .i64 (xs.length : Int)), (13, .int .i64 (i : Int)), (24, .bool true)] [RunsAs Tryd.prog [(19, .agg #[.string ((xs.getD i at0).1), .int .i64 ((xs.getD i at0).2.1), .int .i64 ((xs.getD i at0).2.2.1), .string ((xs.getD i at0).2.2.2)]), (23, .agg #[.string ((ys.getD i at0).1), .int .i64 ((ys.getD i at0).2.1), .int .i64 ((ys.getD i at0).2.2.1), .string ((ys.getD i at0).2.2.2)])] (Go.Op.binOp Go.BinOp.neq 93 (Go.Operand.tmp 19) (Go.Operand.tmp 23) 93) 4 (.bool true) wd_3] ⟨runs_bin rfl rfl (run_eqGuard_agg _ _ _ _ _ _ _ (by kernel_rfl)) (by have h := attr_neq (xs.getD i at0) (ys.getD i at0) wd_3; rw [show atEq (xs.getD i at0) (ys.getD i at0) = false from Bool.eq_false_iff.2 (fun k => c_12 ((atEq_iff _ _).1 k))] at h; exact h), trivial⟩ ?_
   refine XS_nil ?_
   refine ct (sq (rg (xe0 1 [(4, .bool false)] ?_)))
   refine nl (X_ret (rk [.bool false] (hR_ _ _ ?_)))
   rw [decide_eq_false (fun e => c_12 (by rw [e]))]
   exact ⟨rfl, (bt HB hb_4)⟩
  refine xr 1 [(14, .eq (.bool false))] [(14, .bool false)] [] [Value.bool (decide ((i : Int) < (xs.length : Int))) = Value.bool false] ⟨congrArg Value.bool (decide_eq_false (c_2)), trivial⟩ ?_
  refine nl (sq (cf (X_exit (sq (rg (xe0 1 [(4, .bool true)] ?_))))))
  refine nl (X_ret (rk [.bool true] (hR_ _ _ ?_)))
  rw [decide_eq_true (show xs = ys from List.ext_getElem hlen fun q h1 h2 => by have := hq0 q (by omega); simpa [List.getD_eq_getElem?_getD, List.getElem?_eq_getElem h1, List.getElem?_eq_getElem h2] using this)]
  exact ⟨rfl, HB⟩
 refine xr 1 [(10, .eq (.bool true))] [(10, .bool true)] [7, 9] [Value.bool ((xs.length : Int) != (ys.length : Int)) = Value.bool true] ⟨congrArg Value.bool (bneT (c_1)), trivial⟩ ?_
 refine nl (ct (sq (rg (xe0 1 [(4, .bool false)] ?_))))
 refine nl (X_ret (rk [.bool false] (hR_ _ _ ?_)))
 rw [decide_eq_false (show ¬ xs = ys from fun e => by subst e; omega)]
 exact ⟨rfl, (Below.refl _ _)⟩
theorem asame_any (A A' : Option Addr) (c c' : Nat) (xs ys : List At) (w : World) (hx : kAttr.C w A xs.length xs) (hy : kAttr.C w A' ys.length ys) :
  Calls Tryd.prog 56 #[.slice A xs.length c, .slice A' ys.length c'] w fun e w' => e = .returned (.bool (decide (xs = ys))) ∧ Below w.heap.size w w' := by
 refine RX.enter Tryd.func56 rfl 8 rfl [(0, .slice A xs.length c), (1, .slice A' ys.length c')] rfl (by kernel_rfl) (fun R_ hR_ => ?_)
 refine sq (rg (xe0 1 [(0, .slice A xs.length c), (1, .slice A' ys.length c')] ?_))
 refine nl (sq (rg (xe0 2 [(5, .slice A xs.length c), (6, .slice A' ys.length c')] ?_)))
 refine xc 76 ent76 [.slice A xs.length c, .slice A' ys.length c'] (equal_any _ _ _ _ xs ys _ hx hy) ?_
 rintro e w_1 ⟨rfl, hb_2⟩; refine ⟨_, rfl, ?_⟩
 refine xe0 1 [(4, .bool (decide (xs = ys)))] ?_
 refine nl (X_ret (rk [.bool (decide (xs = ys))] (hR_ _ _ ?_)))
 exact ⟨rfl, hb_2⟩
end Go.Proofs.YtgphmfnkeolbcaaDoor
/- Calls of methods through an interface whose dynamic type is known. No condition. -/

set_option linter.unusedVariables false
set_option linter.unusedSimpArgs false
namespace Go.Proofs.YtgphmfnkeolbcaaDoor.RX
open Go Go.RowKit
section
variable {P : Program} {N : Nat} {ops : Array Oper} {qs : QS} {rest : List Oper} {o : Oper} {l : Slots} {w : World}
theorem XL_inv (f : FuncId) (args : Array Value) (hg : gd ops l o = some true) (hd : okD N o.dst = true) (hk : (known l o && notSelect o.op) = true) (hr : (execOp (evD l) o).run P w = .ok (.enter f args) w)
    {R : Ending → World → Prop} (hc : Calls P f args w R) (hn : ∀ e w', R e w' → ∃ v, e = .returned v ∧ XL P N ops rest qs (putS l o.dst v) w') : XL P N ops (o :: rest) qs l w := by
  intro a ha
  simp only [Bool.and_eq_true] at hk
  refine wpList_step fun K hK => ?_
  rw [if_pos (gd_ok ha hg)]
  refine wp_enter (f := f) (args := args) (by rw [run_known ha P w hk.1 hk.2]; exact hr) hc fun e w' hR => ?_
  obtain ⟨v, h1, h2⟩ := hn e w' hR
  exact ⟨v, h1, hK _ _ (h2 _ (ha.putS hd v))⟩
end
end Go.Proofs.YtgphmfnkeolbcaaDoor.RX
