/- What attrs.both does with any function value: it calls it at each step of the merged lists. Conditions: a step's own contract. -/
import Derived.Test.YtkehomiogkoomaaDoorMerge
import Derived.Test.YtkehomiogkoomaaDoorA2
set_option linter.unusedVariables false
set_option linter.unusedSimpArgs false
set_option maxRecDepth 100000
namespace Go.Proofs.YtkehomiogkoomaaDoor
open Go Go.RowKit Go.Proofs.YtkehomiogkoomaaDoorW.PrintWords RX
theorem ent109 : Ent Tryd.prog 109 := ent_of Tryd.func109 (by kernel_rfl) rfl
set_option maxHeartbeats 4000000 in
theorem both_any (fid : Nat) (caps : Array Value) (hEnt : Ent Tryd.prog fid) (W00 : World) (A B : Option Addr) (c d : Nat) (xs ys : List At) (hx : kAttr.C W00 A xs.length xs) (hy : kAttr.C W00 B ys.length ys) (hxc : xs.length ≤ c) (hyd : ys.length ≤ d)
  (Inv : List (Option At × Option At) → World → Prop) (stab : ∀ done w1 w2, Inv done w1 → Below w1.heap.size w1 w2 → Inv done w2)
  (step : ∀ done s rest px py w1, done ++ s :: rest = merge xs ys → PtrTo w1 px s.1 → PtrTo w1 py s.2 → Inv done w1 → Below W00.heap.size W00 w1 →
   Calls Tryd.prog fid (#[.string (stepKey s), px, py] ++ caps) w1 fun e w2 => e = .returned (.tuple #[]) ∧ Inv (done ++ [s]) w2 ∧ Below W00.heap.size W00 w2)
  (w : World) (hw : Below W00.heap.size W00 w) (h0 : Inv [] w) :
  Calls Tryd.prog 109 #[.slice A xs.length c, .slice B ys.length d, .func (.func fid) #[] caps] w fun e w' => e = .returned (.tuple #[]) ∧ Inv (merge xs ys) w' ∧ Below W00.heap.size W00 w' := by
 refine RX.enter Tryd.func109 rfl 83 rfl [(0, .slice A xs.length c), (1, .slice B ys.length d), (2, .func (.func fid) #[] caps)] rfl (by kernel_rfl) (fun R_ hR_ => ?_)
 refine bk (X_loop (ι := Option Addr × Nat × Nat × List At × Option Addr × Nat × Nat × List At × List (Option At × Option At)) (fun ⟨A1, n1, c1, xs1, B1, m1, d1, ys1, done⟩ => [(0, .slice A1 n1 c1), (1, .slice B1 m1 d1), (2, .func (.func fid) #[] caps)]) (fun ⟨A1, n1, c1, xs1, B1, m1, d1, ys1, done⟩ wl => kAttr.C W00 A1 n1 xs1 ∧ n1 ≤ c1 ∧ kAttr.C W00 B1 m1 ys1 ∧ m1 ≤ d1 ∧ done ++ merge xs1 ys1 = merge xs ys ∧ Inv done wl ∧ Below W00.heap.size W00 wl) (fun ⟨A1, n1, c1, xs1, B1, m1, d1, ys1, done⟩ => n1 + m1) (A, xs.length, c, xs, B, ys.length, d, ys, []) ⟨hx, hxc, hy, hyd, by simp, h0, hw⟩ (by kernel_rfl) ?_)
 rintro ⟨A1, n1, c1, xs1, B1, m1, d1, ys1, done⟩ wl ⟨hx1, hc1, hy1, hd1, hdone, hInv, HB⟩
 have hn1 : xs1.length = n1 := hx1.1
 have hm1 : ys1.length = m1 := hy1.1
 have hpx : n1 ≤ 9223372036854775807 := hx1.2.1
 have hpy : m1 ≤ 9223372036854775807 := hy1.2.1
 refine sq (sq (rg (xr0 2 [(7, nv n1)] [] ?_)))
 by_cases c_1 : (n1 : Int) > 0
 ·refine xr 6 [(8, .eq (.bool true))] [(13, .bool true)] [7] [Value.bool (decide ((n1 : Int) > 0)) = Value.bool true] ⟨congrArg Value.bool (decide_eq_true (c_1)), trivial⟩ ?_
  refine nl (ct (sk (bk (bk (sq (X_still (by kernel_rfl) (by kernel_rfl) (fun wd_2 hb_3 hh_4 => ?_)))))))
  refine xse 2 [] [(0, .slice A1 n1 c1), (1, .slice B1 m1 d1), (2, .func (.func fid) #[] caps), (30, .int .i64 (m1 : Int))] [] trivial ?_
  by_cases c_5 : (m1 : Int) = 0
  ·refine xse 18 [(31, .eq (.bool true))] [(0, .slice A1 n1 c1), (1, .slice B1 m1 d1), (2, .func (.func fid) #[] caps), (28, .bool true)] [Value.bool ((m1 : Int) == 0) = Value.bool true] ⟨congrArg Value.bool (beq_iff_eq.2 (c_5)), trivial⟩ ?_
   refine XS_nil ?_
   refine ct (sq (X_any [7] 8 #[false, false, false, false, false, false, false, false] (by kernel_rfl) (by kernel_rfl) (by kernel_rfl) (fun wd_6 hb_7 hh_8 => ?_)))
   refine XA_run (fuel' := 6) [0, 1] [] [.func (.func fid) #[] caps, .slice A1 n1 c1] #[true, true, false, false, false, false, false, false] [(0, .slice A1 n1 c1), (1, .slice B1 m1 d1), (2, .func (.func fid) #[] caps), (48, .func (.func fid) #[] caps), (49, .slice A1 n1 c1)] [] (fun _ _ _ _ h => h) (by kernel_rfl) rfl trivial ?_
   obtain ⟨ad_9, ha_10, hc_11⟩ := Kd.atAttr (Kd.C_below hx1 (bt (bt HB hb_3) hb_7)) (i := (0 : Int)) (by omega) (by omega)
   replace hc_11 : CellsAt wd_6 (ad_9.add ((0 : Int).toNat * 4)) [.string ((xs1.getD 0 at0).1), .int .i64 ((xs1.getD 0 at0).2.1), .int .i64 ((xs1.getD 0 at0).2.2.1), .string ((xs1.getD 0 at0).2.2.2)] := hc_11
   refine XA_run (fuel' := 2) [2, 3, 4, 5] [(50, .idx ad_9), (52, .load (.string ((xs1.getD 0 at0).1)))] [.pointer (some (ad_9.add ((0 : Int).toNat * 4))), .pointer (some (ad_9.add ((0 : Int).toNat * 4))), .string ((xs1.getD 0 at0).1), .slice A1 n1 c1] #[true, true, true, true, true, true, false, false] [(0, .slice A1 n1 c1), (1, .slice B1 m1 d1), (2, .func (.func fid) #[] caps), (48, .func (.func fid) #[] caps), (52, .string ((xs1.getD 0 at0).1)), (53, .slice A1 n1 c1)] [A1 = some ad_9, (0 : Int) ≤ 0, 0 < (n1 : Int), LoadsAs Tryd.prog 9 (ad_9.add ((0 : Int).toNat * 4)) (.string ((xs1.getD 0 at0).1)) wd_6] (fun _ _ _ _ h => h) (by kernel_rfl) rfl ⟨ha_10, (by omega), (by omega), loads1 rfl (elem_cell hc_11 0 _ rfl), trivial⟩ ?_
   obtain ⟨ad_12, ha_13, hc_14⟩ := Kd.atAttr (Kd.C_below hx1 (bt (bt HB hb_3) hb_7)) (i := (0 : Int)) (by omega) (by omega)
   replace hc_14 : CellsAt wd_6 (ad_12.add ((0 : Int).toNat * 4)) [.string ((xs1.getD 0 at0).1), .int .i64 ((xs1.getD 0 at0).2.1), .int .i64 ((xs1.getD 0 at0).2.2.1), .string ((xs1.getD 0 at0).2.2.2)] := hc_14
   refine XA_run (fuel' := 1) [6] [(54, .idx ad_12)] [.pointer (some (ad_12.add ((0 : Int).toNat * 4)))] #[true, true, true, true, true, true, true, false] [(0, .slice A1 n1 c1), (1, .slice B1 m1 d1), (2, .func (.func fid) #[] caps), (48, .func (.func fid) #[] caps), (52, .string ((xs1.getD 0 at0).1)), (54, .pointer (some (ad_12.add ((0 : Int).toNat * 4))))] [A1 = some ad_12, (0 : Int) ≤ 0, 0 < (n1 : Int)] (fun _ _ _ _ h => h) (by kernel_rfl) rfl ⟨ha_13, (by omega), (by omega), trivial⟩ ?_
   refine XA_act (fuel' := 0) 7 #[true, true, true, true, true, true, true, true] _ rfl (by kernel_rfl) rfl (by kernel_rfl) rfl ?_
   have hm_18 : merge xs1 ys1 = (some (xs1.getD 0 at0), none) :: merge (xs1.drop 1) ys1 := by
    have hn0 : xs1.length = n1 := hn1
    have hm0 : ys1.length = m1 := hm1
    exact merge_x xs1 ys1 (by omega) (by first | exact .inl (by omega) | exact .inr (by assumption))
   refine XL_callv fid rfl rfl rfl hEnt caps rfl [.string ((xs1.getD 0 at0).1), .pointer (some (ad_12.add ((0 : Int).toNat * 4))), .pointer none] (by kernel_rfl) (step done (some (xs1.getD 0 at0), none) _ _ _ _ (by rw [← hdone, hm_18]) ⟨_, rfl, hc_14⟩ rfl (stab _ _ _ hInv (bt hb_3 hb_7)) (bt (bt HB hb_3) hb_7)) ?_
   rintro e w_15 ⟨rfl, hI_16, hB_17⟩; refine ⟨_, rfl, ?_⟩
   refine nl (XA_done (by kernel_rfl) ?_)
   refine rg ?_
   obtain ⟨A_19, hA_20⟩ : ∃ A_, (if c1 = 1 then A1 else A1.map (·.add (1 * 4))) = A_ := ⟨_, rfl⟩
   have hC_21 : kAttr.C W00 A_19 (n1 - 1) (xs1.drop 1) := by have h := RX.Kd.C_drop hx1 (k := 1) (cap := c1) (by omega) (by omega); first | (rw [← hA_20]; exact h)
   refine xr 3 [(57, .as (.slice A_19 (n1 - 1) (c1 - 1)))] [(0, .slice A_19 (n1 - 1) (c1 - 1))] [48, 52, 54, 55] [RunsAs Tryd.prog [(56, .slice A1 n1 c1)] (Go.Op.slice 45 (Go.Operand.tmp 56) (some (Go.Operand.const (Go.Value.int Go.IntKind.i64 1))) none none) 45 (.slice A_19 (n1 - 1) (c1 - 1)) w_15] ⟨(hA_20 ▸ runs_slice_l (h := 1) rfl rfl rfl rfl (by omega) (by omega) (by omega)), trivial⟩ ?_
   refine nl ?_
   refine ⟨(A_19, (n1 - 1), (c1 - 1), (xs1.drop 1), B1, m1, d1, ys1, (done ++ [(some (xs1.getD 0 at0), none)])), by kernel_rfl, ?_, ?_⟩
   ·exact ⟨hC_21, by omega, hy1, by omega, (by rw [← hdone, hm_18]; simp), hI_16, hB_17⟩
   (try dsimp only); omega
  refine xse 7 [(31, .eq (.bool false)), (35, .eq (.bool true))] [(0, .slice A1 n1 c1), (1, .slice B1 m1 d1), (2, .func (.func fid) #[] caps), (32, .bool false), (36, .bool true), (37, .slice A1 n1 c1)] [Value.bool ((m1 : Int) == 0) = Value.bool false, Value.bool (decide ((n1 : Int) > 0)) = Value.bool true] ⟨congrArg Value.bool (beq_eq_false_iff_ne.2 (c_5)), congrArg Value.bool (decide_eq_true (c_1)), trivial⟩ ?_
  obtain ⟨ad_22, ha_23, hc_24⟩ := Kd.atAttr (Kd.C_below hx1 (bt HB hb_3)) (i := (0 : Int)) (by omega) (by omega)
  replace hc_24 : CellsAt wd_2 (ad_22.add ((0 : Int).toNat * 4)) [.string ((xs1.getD 0 at0).1), .int .i64 ((xs1.getD 0 at0).2.1), .int .i64 ((xs1.getD 0 at0).2.2.1), .string ((xs1.getD 0 at0).2.2.2)] := hc_24
  refine xse 4 [(38, .idx ad_22), (40, .load (.string ((xs1.getD 0 at0).1)))] [(0, .slice A1 n1 c1), (1, .slice B1 m1 d1), (2, .func (.func fid) #[] caps), (32, .bool false), (36, .bool true), (40, .string ((xs1.getD 0 at0).1)), (41, .slice B1 m1 d1)] [A1 = some ad_22, (0 : Int) ≤ 0, 0 < (n1 : Int), LoadsAs Tryd.prog 9 (ad_22.add ((0 : Int).toNat * 4)) (.string ((xs1.getD 0 at0).1)) wd_2] ⟨ha_23, (by omega), (by omega), loads1 rfl (elem_cell hc_24 0 _ rfl), trivial⟩ ?_
  obtain ⟨ad_25, ha_26, hc_27⟩ := Kd.atAttr (Kd.C_below hy1 (bt HB hb_3)) (i := (0 : Int)) (by omega) (by omega)
  replace hc_27 : CellsAt wd_2 (ad_25.add ((0 : Int).toNat * 4)) [.string ((ys1.getD 0 at0).1), .int .i64 ((ys1.getD 0 at0).2.1), .int .i64 ((ys1.getD 0 at0).2.2.1), .string ((ys1.getD 0 at0).2.2.2)] := hc_27
  refine xse 3 [(42, .idx ad_25), (44, .load (.string ((ys1.getD 0 at0).1)))] [(0, .slice A1 n1 c1), (1, .slice B1 m1 d1), (2, .func (.func fid) #[] caps), (32, .bool false), (36, .bool true), (40, .string ((xs1.getD 0 at0).1)), (44, .string ((ys1.getD 0 at0).1))] [B1 = some ad_25, (0 : Int) ≤ 0, 0 < (m1 : Int), LoadsAs Tryd.prog 9 (ad_25.add ((0 : Int).toNat * 4)) (.string ((ys1.getD 0 at0).1)) wd_2] ⟨ha_26, (by omega), (by omega), loads1 rfl (elem_cell hc_27 0 _ rfl), trivial⟩ ?_
  by_cases c_28 : (Op.bytesLess ((xs1.getD 0 at0).1).toList ((ys1.getD 0 at0).1).toList) = true
  ·refine xse 4 [(45, .eq (.bool true))] [(0, .slice A1 n1 c1), (1, .slice B1 m1 d1), (2, .func (.func fid) #[] caps), (28, .bool true)] [Value.bool (Op.bytesLess ((xs1.getD 0 at0).1).toList ((ys1.getD 0 at0).1).toList) = Value.bool true] ⟨congrArg Value.bool (c_28), trivial⟩ ?_
   refine XS_nil ?_
   refine ct (sq (X_any [7] 8 #[false, false, false, false, false, false, false, false] (by kernel_rfl) (by kernel_rfl) (by kernel_rfl) (fun wd_29 hb_30 hh_31 => ?_)))
   refine XA_run (fuel' := 6) [0, 1] [] [.func (.func fid) #[] caps, .slice A1 n1 c1] #[true, true, false, false, false, false, false, false] [(0, .slice A1 n1 c1), (1, .slice B1 m1 d1), (2, .func (.func fid) #[] caps), (48, .func (.func fid) #[] caps), (49, .slice A1 n1 c1)] [] (fun _ _ _ _ h => h) (by kernel_rfl) rfl trivial ?_
   obtain ⟨ad_32, ha_33, hc_34⟩ := Kd.atAttr (Kd.C_below hx1 (bt (bt HB hb_3) hb_30)) (i := (0 : Int)) (by omega) (by omega)
   replace hc_34 : CellsAt wd_29 (ad_32.add ((0 : Int).toNat * 4)) [.string ((xs1.getD 0 at0).1), .int .i64 ((xs1.getD 0 at0).2.1), .int .i64 ((xs1.getD 0 at0).2.2.1), .string ((xs1.getD 0 at0).2.2.2)] := hc_34
   refine XA_run (fuel' := 2) [2, 3, 4, 5] [(50, .idx ad_32), (52, .load (.string ((xs1.getD 0 at0).1)))] [.pointer (some (ad_32.add ((0 : Int).toNat * 4))), .pointer (some (ad_32.add ((0 : Int).toNat * 4))), .string ((xs1.getD 0 at0).1), .slice A1 n1 c1] #[true, true, true, true, true, true, false, false] [(0, .slice A1 n1 c1), (1, .slice B1 m1 d1), (2, .func (.func fid) #[] caps), (48, .func (.func fid) #[] caps), (52, .string ((xs1.getD 0 at0).1)), (53, .slice A1 n1 c1)] [A1 = some ad_32, (0 : Int) ≤ 0, 0 < (n1 : Int), LoadsAs Tryd.prog 9 (ad_32.add ((0 : Int).toNat * 4)) (.string ((xs1.getD 0 at0).1)) wd_29] (fun _ _ _ _ h => h) (by kernel_rfl) rfl ⟨ha_33, (by omega), (by omega), loads1 rfl (elem_cell hc_34 0 _ rfl), trivial⟩ ?_
   obtain ⟨ad_35, ha_36, hc_37⟩ := Kd.atAttr (Kd.C_below hx1 (bt (bt HB hb_3) hb_30)) (i := (0 : Int)) (by omega) (by omega)
   replace hc_37 : CellsAt wd_29 (ad_35.add ((0 : Int).toNat * 4)) [.string ((xs1.getD 0 at0).1), .int .i64 ((xs1.getD 0 at0).2.1), .int .i64 ((xs1.getD 0 at0).2.2.1), .string ((xs1.getD 0 at0).2.2.2)] := hc_37
   refine XA_run (fuel' := 1) [6] [(54, .idx ad_35)] [.pointer (some (ad_35.add ((0 : Int).toNat * 4)))] #[true, true, true, true, true, true, true, false] [(0, .slice A1 n1 c1), (1, .slice B1 m1 d1), (2, .func (.func fid) #[] caps), (48, .func (.func fid) #[] caps), (52, .string ((xs1.getD 0 at0).1)), (54, .pointer (some (ad_35.add ((0 : Int).toNat * 4))))] [A1 = some ad_35, (0 : Int) ≤ 0, 0 < (n1 : Int)] (fun _ _ _ _ h => h) (by kernel_rfl) rfl ⟨ha_36, (by omega), (by omega), trivial⟩ ?_
   refine XA_act (fuel' := 0) 7 #[true, true, true, true, true, true, true, true] _ rfl (by kernel_rfl) rfl (by kernel_rfl) rfl ?_
   have hm_41 : merge xs1 ys1 = (some (xs1.getD 0 at0), none) :: merge (xs1.drop 1) ys1 := by
    have hn0 : xs1.length = n1 := hn1
    have hm0 : ys1.length = m1 := hm1
    exact merge_x xs1 ys1 (by omega) (by first | exact .inl (by omega) | exact .inr (by assumption))
   refine XL_callv fid rfl rfl rfl hEnt caps rfl [.string ((xs1.getD 0 at0).1), .pointer (some (ad_35.add ((0 : Int).toNat * 4))), .pointer none] (by kernel_rfl) (step done (some (xs1.getD 0 at0), none) _ _ _ _ (by rw [← hdone, hm_41]) ⟨_, rfl, hc_37⟩ rfl (stab _ _ _ hInv (bt hb_3 hb_30)) (bt (bt HB hb_3) hb_30)) ?_
   rintro e w_38 ⟨rfl, hI_39, hB_40⟩; refine ⟨_, rfl, ?_⟩
   refine nl (XA_done (by kernel_rfl) ?_)
   refine rg ?_
   obtain ⟨A_42, hA_43⟩ : ∃ A_, (if c1 = 1 then A1 else A1.map (·.add (1 * 4))) = A_ := ⟨_, rfl⟩
   have hC_44 : kAttr.C W00 A_42 (n1 - 1) (xs1.drop 1) := by have h := RX.Kd.C_drop hx1 (k := 1) (cap := c1) (by omega) (by omega); first | (rw [← hA_43]; exact h)
   refine xr 3 [(57, .as (.slice A_42 (n1 - 1) (c1 - 1)))] [(0, .slice A_42 (n1 - 1) (c1 - 1))] [48, 52, 54, 55] [RunsAs Tryd.prog [(56, .slice A1 n1 c1)] (Go.Op.slice 45 (Go.Operand.tmp 56) (some (Go.Operand.const (Go.Value.int Go.IntKind.i64 1))) none none) 45 (.slice A_42 (n1 - 1) (c1 - 1)) w_38] ⟨(hA_43 ▸ runs_slice_l (h := 1) rfl rfl rfl rfl (by omega) (by omega) (by omega)), trivial⟩ ?_
   refine nl ?_
   refine ⟨(A_42, (n1 - 1), (c1 - 1), (xs1.drop 1), B1, m1, d1, ys1, (done ++ [(some (xs1.getD 0 at0), none)])), by kernel_rfl, ?_, ?_⟩
   ·exact ⟨hC_44, by omega, hy1, by omega, (by rw [← hdone, hm_41]; simp), hI_39, hB_40⟩
   (try dsimp only); omega
  refine xse 4 [(45, .eq (.bool false))] [(0, .slice A1 n1 c1), (1, .slice B1 m1 d1), (2, .func (.func fid) #[] caps), (28, .bool false)] [Value.bool (Op.bytesLess ((xs1.getD 0 at0).1).toList ((ys1.getD 0 at0).1).toList) = Value.bool false] ⟨congrArg Value.bool (Bool.eq_false_iff.2 (c_28)), trivial⟩ ?_
  refine XS_nil ?_
  refine cf (sq (X_still (by kernel_rfl) (by kernel_rfl) (fun wd_45 hb_46 hh_47 => ?_)))
  refine xse 2 [] [(0, .slice A1 n1 c1), (1, .slice B1 m1 d1), (2, .func (.func fid) #[] caps), (60, .int .i64 (n1 : Int))] [] trivial ?_
  by_cases c_48 : (n1 : Int) = 0
  ·refine xse 13 [(61, .eq (.bool true))] [(0, .slice A1 n1 c1), (1, .slice B1 m1 d1), (2, .func (.func fid) #[] caps), (58, .bool true)] [Value.bool ((n1 : Int) == 0) = Value.bool true] ⟨congrArg Value.bool (beq_iff_eq.2 (c_48)), trivial⟩ ?_
   refine XS_nil ?_
   refine ct (sq (X_any [7] 8 #[false, false, false, false, false, false, false, false] (by kernel_rfl) (by kernel_rfl) (by kernel_rfl) (fun wd_49 hb_50 hh_51 => ?_)))
   refine XA_run (fuel' := 6) [0, 1] [] [.func (.func fid) #[] caps, .slice B1 m1 d1] #[true, true, false, false, false, false, false, false] [(0, .slice A1 n1 c1), (1, .slice B1 m1 d1), (2, .func (.func fid) #[] caps), (73, .func (.func fid) #[] caps), (74, .slice B1 m1 d1)] [] (fun _ _ _ _ h => h) (by kernel_rfl) rfl trivial ?_
   obtain ⟨ad_52, ha_53, hc_54⟩ := Kd.atAttr (Kd.C_below hy1 (bt (bt (bt HB hb_3) hb_46) hb_50)) (i := (0 : Int)) (by omega) (by omega)
   replace hc_54 : CellsAt wd_49 (ad_52.add ((0 : Int).toNat * 4)) [.string ((ys1.getD 0 at0).1), .int .i64 ((ys1.getD 0 at0).2.1), .int .i64 ((ys1.getD 0 at0).2.2.1), .string ((ys1.getD 0 at0).2.2.2)] := hc_54
   refine XA_run (fuel' := 2) [2, 3, 4, 5] [(75, .idx ad_52), (77, .load (.string ((ys1.getD 0 at0).1)))] [.pointer (some (ad_52.add ((0 : Int).toNat * 4))), .pointer (some (ad_52.add ((0 : Int).toNat * 4))), .string ((ys1.getD 0 at0).1), .slice B1 m1 d1] #[true, true, true, true, true, true, false, false] [(0, .slice A1 n1 c1), (1, .slice B1 m1 d1), (2, .func (.func fid) #[] caps), (73, .func (.func fid) #[] caps), (77, .string ((ys1.getD 0 at0).1)), (78, .slice B1 m1 d1)] [B1 = some ad_52, (0 : Int) ≤ 0, 0 < (m1 : Int), LoadsAs Tryd.prog 9 (ad_52.add ((0 : Int).toNat * 4)) (.string ((ys1.getD 0 at0).1)) wd_49] (fun _ _ _ _ h => h) (by kernel_rfl) rfl ⟨ha_53, (by omega), (by omega), loads1 rfl (elem_cell hc_54 0 _ rfl), trivial⟩ ?_
   obtain ⟨ad_55, ha_56, hc_57⟩ := Kd.atAttr (Kd.C_below hy1 (bt (bt (bt HB hb_3) hb_46) hb_50)) (i := (0 : Int)) (by omega) (by omega)
   replace hc_57 : CellsAt wd_49 (ad_55.add ((0 : Int).toNat * 4)) [.string ((ys1.getD 0 at0).1), .int .i64 ((ys1.getD 0 at0).2.1), .int .i64 ((ys1.getD 0 at0).2.2.1), .string ((ys1.getD 0 at0).2.2.2)] := hc_57
   refine XA_run (fuel' := 1) [6] [(79, .idx ad_55)] [.pointer (some (ad_55.add ((0 : Int).toNat * 4)))] #[true, true, true, true, true, true, true, false] [(0, .slice A1 n1 c1), (1, .slice B1 m1 d1), (2, .func (.func fid) #[] caps), (73, .func (.func fid) #[] caps), (77, .string ((ys1.getD 0 at0).1)), (79, .pointer (some (ad_55.add ((0 : Int).toNat * 4))))] [B1 = some ad_55, (0 : Int) ≤ 0, 0 < (m1 : Int)] (fun _ _ _ _ h => h) (by kernel_rfl) rfl ⟨ha_56, (by omega), (by omega), trivial⟩ ?_
   refine XA_act (fuel' := 0) 7 #[true, true, true, true, true, true, true, true] _ rfl (by kernel_rfl) rfl (by kernel_rfl) rfl ?_
   have hm_61 : merge xs1 ys1 = (none, some (ys1.getD 0 at0)) :: merge xs1 (ys1.drop 1) := by
    have hn0 : xs1.length = n1 := hn1
    have hm0 : ys1.length = m1 := hm1
    exact merge_y xs1 ys1 (by omega) (by first | exact .inl (by omega) | exact .inr ⟨by simp_all, by assumption⟩)
   refine XL_callv fid rfl rfl rfl hEnt caps rfl [.string ((ys1.getD 0 at0).1), .pointer none, .pointer (some (ad_55.add ((0 : Int).toNat * 4)))] (by kernel_rfl) (step done (none, some (ys1.getD 0 at0)) _ _ _ _ (by rw [← hdone, hm_61]) rfl ⟨_, rfl, hc_57⟩ (stab _ _ _ hInv (bt (bt hb_3 hb_46) hb_50)) (bt (bt (bt HB hb_3) hb_46) hb_50)) ?_
   rintro e w_58 ⟨rfl, hI_59, hB_60⟩; refine ⟨_, rfl, ?_⟩
   refine nl (XA_done (by kernel_rfl) ?_)
   refine rg ?_
   obtain ⟨A_62, hA_63⟩ : ∃ A_, (if d1 = 1 then B1 else B1.map (·.add (1 * 4))) = A_ := ⟨_, rfl⟩
   have hC_64 : kAttr.C W00 A_62 (m1 - 1) (ys1.drop 1) := by have h := RX.Kd.C_drop hy1 (k := 1) (cap := d1) (by omega) (by omega); first | (rw [← hA_63]; exact h)
   refine xr 3 [(82, .as (.slice A_62 (m1 - 1) (d1 - 1)))] [(1, .slice A_62 (m1 - 1) (d1 - 1))] [73, 77, 79, 80] [RunsAs Tryd.prog [(81, .slice B1 m1 d1)] (Go.Op.slice 45 (Go.Operand.tmp 81) (some (Go.Operand.const (Go.Value.int Go.IntKind.i64 1))) none none) 45 (.slice A_62 (m1 - 1) (d1 - 1)) w_58] ⟨(hA_63 ▸ runs_slice_l (h := 1) rfl rfl rfl rfl (by omega) (by omega) (by omega)), trivial⟩ ?_
   refine nl ?_
   refine ⟨(A1, n1, c1, xs1, A_62, (m1 - 1), (d1 - 1), (ys1.drop 1), (done ++ [(none, some (ys1.getD 0 at0))])), by kernel_rfl, ?_, ?_⟩
   ·exact ⟨hx1, by omega, hC_64, by omega, (by rw [← hdone, hm_61]; simp), hI_59, hB_60⟩
   (try dsimp only); omega
  refine xse 3 [(61, .eq (.bool false))] [(0, .slice A1 n1 c1), (1, .slice B1 m1 d1), (2, .func (.func fid) #[] caps), (62, .bool false), (63, .slice B1 m1 d1)] [Value.bool ((n1 : Int) == 0) = Value.bool false] ⟨congrArg Value.bool (beq_eq_false_iff_ne.2 (c_48)), trivial⟩ ?_
  obtain ⟨ad_65, ha_66, hc_67⟩ := Kd.atAttr (Kd.C_below hy1 (bt (bt HB hb_3) hb_46)) (i := (0 : Int)) (by omega) (by omega)
  replace hc_67 : CellsAt wd_45 (ad_65.add ((0 : Int).toNat * 4)) [.string ((ys1.getD 0 at0).1), .int .i64 ((ys1.getD 0 at0).2.1), .int .i64 ((ys1.getD 0 at0).2.2.1), .string ((ys1.getD 0 at0).2.2.2)] := hc_67
  refine xse 4 [(64, .idx ad_65), (66, .load (.string ((ys1.getD 0 at0).1)))] [(0, .slice A1 n1 c1), (1, .slice B1 m1 d1), (2, .func (.func fid) #[] caps), (62, .bool false), (66, .string ((ys1.getD 0 at0).1)), (67, .slice A1 n1 c1)] [B1 = some ad_65, (0 : Int) ≤ 0, 0 < (m1 : Int), LoadsAs Tryd.prog 9 (ad_65.add ((0 : Int).toNat * 4)) (.string ((ys1.getD 0 at0).1)) wd_45] ⟨ha_66, (by omega), (by omega), loads1 rfl (elem_cell hc_67 0 _ rfl), trivial⟩ ?_
  obtain ⟨ad_68, ha_69, hc_70⟩ := Kd.atAttr (Kd.C_below hx1 (bt (bt HB hb_3) hb_46)) (i := (0 : Int)) (by omega) (by omega)
  replace hc_70 : CellsAt wd_45 (ad_68.add ((0 : Int).toNat * 4)) [.string ((xs1.getD 0 at0).1), .int .i64 ((xs1.getD 0 at0).2.1), .int .i64 ((xs1.getD 0 at0).2.2.1), .string ((xs1.getD 0 at0).2.2.2)] := hc_70
  refine xse 3 [(68, .idx ad_68), (70, .load (.string ((xs1.getD 0 at0).1)))] [(0, .slice A1 n1 c1), (1, .slice B1 m1 d1), (2, .func (.func fid) #[] caps), (62, .bool false), (66, .string ((ys1.getD 0 at0).1)), (70, .string ((xs1.getD 0 at0).1))] [A1 = some ad_68, (0 : Int) ≤ 0, 0 < (n1 : Int), LoadsAs Tryd.prog 9 (ad_68.add ((0 : Int).toNat * 4)) (.string ((xs1.getD 0 at0).1)) wd_45] ⟨ha_69, (by omega), (by omega), loads1 rfl (elem_cell hc_70 0 _ rfl), trivial⟩ ?_
  by_cases c_71 : (Op.bytesLess ((ys1.getD 0 at0).1).toList ((xs1.getD 0 at0).1).toList) = true
  ·refine xse 3 [(71, .eq (.bool true))] [(0, .slice A1 n1 c1), (1, .slice B1 m1 d1), (2, .func (.func fid) #[] caps), (58, .bool true)] [Value.bool (Op.bytesLess ((ys1.getD 0 at0).1).toList ((xs1.getD 0 at0).1).toList) = Value.bool true] ⟨congrArg Value.bool (c_71), trivial⟩ ?_
   refine XS_nil ?_
   refine ct (sq (X_any [7] 8 #[false, false, false, false, false, false, false, false] (by kernel_rfl) (by kernel_rfl) (by kernel_rfl) (fun wd_72 hb_73 hh_74 => ?_)))
   refine XA_run (fuel' := 6) [0, 1] [] [.func (.func fid) #[] caps, .slice B1 m1 d1] #[true, true, false, false, false, false, false, false] [(0, .slice A1 n1 c1), (1, .slice B1 m1 d1), (2, .func (.func fid) #[] caps), (73, .func (.func fid) #[] caps), (74, .slice B1 m1 d1)] [] (fun _ _ _ _ h => h) (by kernel_rfl) rfl trivial ?_
   obtain ⟨ad_75, ha_76, hc_77⟩ := Kd.atAttr (Kd.C_below hy1 (bt (bt (bt HB hb_3) hb_46) hb_73)) (i := (0 : Int)) (by omega) (by omega)
   replace hc_77 : CellsAt wd_72 (ad_75.add ((0 : Int).toNat * 4)) [.string ((ys1.getD 0 at0).1), .int .i64 ((ys1.getD 0 at0).2.1), .int .i64 ((ys1.getD 0 at0).2.2.1), .string ((ys1.getD 0 at0).2.2.2)] := hc_77
   refine XA_run (fuel' := 2) [2, 3, 4, 5] [(75, .idx ad_75), (77, .load (.string ((ys1.getD 0 at0).1)))] [.pointer (some (ad_75.add ((0 : Int).toNat * 4))), .pointer (some (ad_75.add ((0 : Int).toNat * 4))), .string ((ys1.getD 0 at0).1), .slice B1 m1 d1] #[true, true, true, true, true, true, false, false] [(0, .slice A1 n1 c1), (1, .slice B1 m1 d1), (2, .func (.func fid) #[] caps), (73, .func (.func fid) #[] caps), (77, .string ((ys1.getD 0 at0).1)), (78, .slice B1 m1 d1)] [B1 = some ad_75, (0 : Int) ≤ 0, 0 < (m1 : Int), LoadsAs Tryd.prog 9 (ad_75.add ((0 : Int).toNat * 4)) (.string ((ys1.getD 0 at0).1)) wd_72] (fun _ _ _ _ h => h) (by kernel_rfl) rfl ⟨ha_76, (by omega), (by omega), loads1 rfl (elem_cell hc_77 0 _ rfl), trivial⟩ ?_
   obtain ⟨ad_78, ha_79, hc_80⟩ := Kd.atAttr (Kd.C_below hy1 (bt (bt (bt HB hb_3) hb_46) hb_73)) (i := (0 : Int)) (by omega) (by omega)
   replace hc_80 : CellsAt wd_72 (ad_78.add ((0 : Int).toNat * 4)) [.string ((ys1.getD 0 at0).1), .int .i64 ((ys1.getD 0 at0).2.1), .int .i64 ((ys1.getD 0 at0).2.2.1), .string ((ys1.getD 0 at0).2.2.2)] := hc_80
   refine XA_run (fuel' := 1) [6] [(79, .idx ad_78)] [.pointer (some (ad_78.add ((0 : Int).toNat * 4)))] #[true, true, true, true, true, true, true, false] [(0, .slice A1 n1 c1), (1, .slice B1 m1 d1), (2, .func (.func fid) #[] caps), (73, .func (.func fid) #[] caps), (77, .string ((ys1.getD 0 at0).1)), (79, .pointer (some (ad_78.add ((0 : Int).toNat * 4))))] [B1 = some ad_78, (0 : Int) ≤ 0, 0 < (m1 : Int)] (fun _ _ _ _ h => h) (by kernel_rfl) rfl ⟨ha_79, (by omega), (by omega), trivial⟩ ?_
   refine XA_act (fuel' := 0) 7 #[true, true, true, true, true, true, true, true] _ rfl (by kernel_rfl) rfl (by kernel_rfl) rfl ?_
   have hm_84 : merge xs1 ys1 = (none, some (ys1.getD 0 at0)) :: merge xs1 (ys1.drop 1) := by
    have hn0 : xs1.length = n1 := hn1
    have hm0 : ys1.length = m1 := hm1
    exact merge_y xs1 ys1 (by omega) (by first | exact .inl (by omega) | exact .inr ⟨by simp_all, by assumption⟩)
   refine XL_callv fid rfl rfl rfl hEnt caps rfl [.string ((ys1.getD 0 at0).1), .pointer none, .pointer (some (ad_78.add ((0 : Int).toNat * 4)))] (by kernel_rfl) (step done (none, some (ys1.getD 0 at0)) _ _ _ _ (by rw [← hdone, hm_84]) rfl ⟨_, rfl, hc_80⟩ (stab _ _ _ hInv (bt (bt hb_3 hb_46) hb_73)) (bt (bt (bt HB hb_3) hb_46) hb_73)) ?_
   rintro e w_81 ⟨rfl, hI_82, hB_83⟩; refine ⟨_, rfl, ?_⟩
   refine nl (XA_done (by kernel_rfl) ?_)
   refine rg ?_
   obtain ⟨A_85, hA_86⟩ : ∃ A_, (if d1 = 1 then B1 else B1.map (·.add (1 * 4))) = A_ := ⟨_, rfl⟩
   have hC_87 : kAttr.C W00 A_85 (m1 - 1) (ys1.drop 1) := by have h := RX.Kd.C_drop hy1 (k := 1) (cap := d1) (by omega) (by omega); first | (rw [← hA_86]; exact h)
   refine xr 3 [(82, .as (.slice A_85 (m1 - 1) (d1 - 1)))] [(1, .slice A_85 (m1 - 1) (d1 - 1))] [73, 77, 79, 80] [RunsAs Tryd.prog [(81, .slice B1 m1 d1)] (Go.Op.slice 45 (Go.Operand.tmp 81) (some (Go.Operand.const (Go.Value.int Go.IntKind.i64 1))) none none) 45 (.slice A_85 (m1 - 1) (d1 - 1)) w_81] ⟨(hA_86 ▸ runs_slice_l (h := 1) rfl rfl rfl rfl (by omega) (by omega) (by omega)), trivial⟩ ?_
   refine nl ?_
   refine ⟨(A1, n1, c1, xs1, A_85, (m1 - 1), (d1 - 1), (ys1.drop 1), (done ++ [(none, some (ys1.getD 0 at0))])), by kernel_rfl, ?_, ?_⟩
   ·exact ⟨hx1, by omega, hC_87, by omega, (by rw [← hdone, hm_84]; simp), hI_82, hB_83⟩
   (try dsimp only); omega
  refine xse 3 [(71, .eq (.bool false))] [(0, .slice A1 n1 c1), (1, .slice B1 m1 d1), (2, .func (.func fid) #[] caps), (58, .bool false)] [Value.bool (Op.bytesLess ((ys1.getD 0 at0).1).toList ((xs1.getD 0 at0).1).toList) = Value.bool false] ⟨congrArg Value.bool (Bool.eq_false_iff.2 (c_71)), trivial⟩ ?_
  refine XS_nil ?_
  refine cf (sq (X_any [9] 10 #[false, false, false, false, false, false, false, false, false, false] (by kernel_rfl) (by kernel_rfl) (by kernel_rfl) (fun wd_88 hb_89 hh_90 => ?_)))
  refine XA_run (fuel' := 8) [0, 1] [] [.func (.func fid) #[] caps, .slice A1 n1 c1] #[true, true, false, false, false, false, false, false, false, false] [(0, .slice A1 n1 c1), (1, .slice B1 m1 d1), (2, .func (.func fid) #[] caps), (14, .func (.func fid) #[] caps), (15, .slice A1 n1 c1)] [] (fun _ _ _ _ h => h) (by kernel_rfl) rfl trivial ?_
  obtain ⟨ad_91, ha_92, hc_93⟩ := Kd.atAttr (Kd.C_below hx1 (bt (bt (bt HB hb_3) hb_46) hb_89)) (i := (0 : Int)) (by omega) (by omega)
  replace hc_93 : CellsAt wd_88 (ad_91.add ((0 : Int).toNat * 4)) [.string ((xs1.getD 0 at0).1), .int .i64 ((xs1.getD 0 at0).2.1), .int .i64 ((xs1.getD 0 at0).2.2.1), .string ((xs1.getD 0 at0).2.2.2)] := hc_93
  refine XA_run (fuel' := 4) [2, 3, 4, 5] [(16, .idx ad_91), (18, .load (.string ((xs1.getD 0 at0).1)))] [.pointer (some (ad_91.add ((0 : Int).toNat * 4))), .pointer (some (ad_91.add ((0 : Int).toNat * 4))), .string ((xs1.getD 0 at0).1), .slice A1 n1 c1] #[true, true, true, true, true, true, false, false, false, false] [(0, .slice A1 n1 c1), (1, .slice B1 m1 d1), (2, .func (.func fid) #[] caps), (14, .func (.func fid) #[] caps), (18, .string ((xs1.getD 0 at0).1)), (19, .slice A1 n1 c1)] [A1 = some ad_91, (0 : Int) ≤ 0, 0 < (n1 : Int), LoadsAs Tryd.prog 9 (ad_91.add ((0 : Int).toNat * 4)) (.string ((xs1.getD 0 at0).1)) wd_88] (fun _ _ _ _ h => h) (by kernel_rfl) rfl ⟨ha_92, (by omega), (by omega), loads1 rfl (elem_cell hc_93 0 _ rfl), trivial⟩ ?_
  obtain ⟨ad_94, ha_95, hc_96⟩ := Kd.atAttr (Kd.C_below hx1 (bt (bt (bt HB hb_3) hb_46) hb_89)) (i := (0 : Int)) (by omega) (by omega)
  replace hc_96 : CellsAt wd_88 (ad_94.add ((0 : Int).toNat * 4)) [.string ((xs1.getD 0 at0).1), .int .i64 ((xs1.getD 0 at0).2.1), .int .i64 ((xs1.getD 0 at0).2.2.1), .string ((xs1.getD 0 at0).2.2.2)] := hc_96
  refine XA_run (fuel' := 2) [6, 7] [(20, .idx ad_94)] [.pointer (some (ad_94.add ((0 : Int).toNat * 4))), .slice B1 m1 d1] #[true, true, true, true, true, true, true, true, false, false] [(0, .slice A1 n1 c1), (1, .slice B1 m1 d1), (2, .func (.func fid) #[] caps), (14, .func (.func fid) #[] caps), (18, .string ((xs1.getD 0 at0).1)), (20, .pointer (some (ad_94.add ((0 : Int).toNat * 4)))), (21, .slice B1 m1 d1)] [A1 = some ad_94, (0 : Int) ≤ 0, 0 < (n1 : Int)] (fun _ _ _ _ h => h) (by kernel_rfl) rfl ⟨ha_95, (by omega), (by omega), trivial⟩ ?_
  obtain ⟨ad_97, ha_98, hc_99⟩ := Kd.atAttr (Kd.C_below hy1 (bt (bt (bt HB hb_3) hb_46) hb_89)) (i := (0 : Int)) (by omega) (by omega)
  replace hc_99 : CellsAt wd_88 (ad_97.add ((0 : Int).toNat * 4)) [.string ((ys1.getD 0 at0).1), .int .i64 ((ys1.getD 0 at0).2.1), .int .i64 ((ys1.getD 0 at0).2.2.1), .string ((ys1.getD 0 at0).2.2.2)] := hc_99
  refine XA_run (fuel' := 1) [8] [(22, .idx ad_97)] [.pointer (some (ad_97.add ((0 : Int).toNat * 4)))] #[true, true, true, true, true, true, true, true, true, false] [(0, .slice A1 n1 c1), (1, .slice B1 m1 d1), (2, .func (.func fid) #[] caps), (14, .func (.func fid) #[] caps), (18, .string ((xs1.getD 0 at0).1)), (20, .pointer (some (ad_94.add ((0 : Int).toNat * 4)))), (22, .pointer (some (ad_97.add ((0 : Int).toNat * 4))))] [B1 = some ad_97, (0 : Int) ≤ 0, 0 < (m1 : Int)] (fun _ _ _ _ h => h) (by kernel_rfl) rfl ⟨ha_98, (by omega), (by omega), trivial⟩ ?_
  refine XA_act (fuel' := 0) 9 #[true, true, true, true, true, true, true, true, true, true] _ rfl (by kernel_rfl) rfl (by kernel_rfl) rfl ?_
  have hm_103 : merge xs1 ys1 = (some (xs1.getD 0 at0), some (ys1.getD 0 at0)) :: merge (xs1.drop 1) (ys1.drop 1) := by
   have hn0 : xs1.length = n1 := hn1
   have hm0 : ys1.length = m1 := hm1
   exact merge_xy xs1 ys1 (by omega) (by omega) (by simp_all) (by simp_all)
  refine XL_callv fid rfl rfl rfl hEnt caps rfl [.string ((xs1.getD 0 at0).1), .pointer (some (ad_94.add ((0 : Int).toNat * 4))), .pointer (some (ad_97.add ((0 : Int).toNat * 4)))] (by kernel_rfl) (step done (some (xs1.getD 0 at0), some (ys1.getD 0 at0)) _ _ _ _ (by rw [← hdone, hm_103]) ⟨_, rfl, hc_96⟩ ⟨_, rfl, hc_99⟩ (stab _ _ _ hInv (bt (bt hb_3 hb_46) hb_89)) (bt (bt (bt HB hb_3) hb_46) hb_89)) ?_
  rintro e w_100 ⟨rfl, hI_101, hB_102⟩; refine ⟨_, rfl, ?_⟩
  refine nl (XA_done (by kernel_rfl) ?_)
  refine X_still (by kernel_rfl) (by kernel_rfl) (fun wd_104 hb_105 hh_106 => ?_)
  obtain ⟨A_107, hA_108⟩ : ∃ A_, (if c1 = 1 then A1 else A1.map (·.add (1 * 4))) = A_ := ⟨_, rfl⟩
  have hC_109 : kAttr.C W00 A_107 (n1 - 1) (xs1.drop 1) := by have h := RX.Kd.C_drop hx1 (k := 1) (cap := c1) (by omega) (by omega); first | (rw [← hA_108]; exact h)
  obtain ⟨A_110, hA_111⟩ : ∃ A_, (if d1 = 1 then B1 else B1.map (·.add (1 * 4))) = A_ := ⟨_, rfl⟩
  have hC_112 : kAttr.C W00 A_110 (m1 - 1) (ys1.drop 1) := by have h := RX.Kd.C_drop hy1 (k := 1) (cap := d1) (by omega) (by omega); first | (rw [← hA_111]; exact h)
  refine xse 6 [(25, .as (.slice A_107 (n1 - 1) (c1 - 1))), (27, .as (.slice A_110 (m1 - 1) (d1 - 1)))] [(0, .slice A_107 (n1 - 1) (c1 - 1)), (1, .slice A_110 (m1 - 1) (d1 - 1)), (2, .func (.func fid) #[] caps)] [RunsAs Tryd.prog [(24, .slice A1 n1 c1)] (Go.Op.slice 45 (Go.Operand.tmp 24) (some (Go.Operand.const (Go.Value.int Go.IntKind.i64 1))) none none) 45 (.slice A_107 (n1 - 1) (c1 - 1)) wd_104, RunsAs Tryd.prog [(26, .slice B1 m1 d1)] (Go.Op.slice 45 (Go.Operand.tmp 26) (some (Go.Operand.const (Go.Value.int Go.IntKind.i64 1))) none none) 45 (.slice A_110 (m1 - 1) (d1 - 1)) wd_104] ⟨(hA_108 ▸ runs_slice_l (h := 1) rfl rfl rfl rfl (by omega) (by omega) (by omega)), (hA_111 ▸ runs_slice_l (h := 1) rfl rfl rfl rfl (by omega) (by omega) (by omega)), trivial⟩ ?_
  refine XS_nil ?_
  refine ⟨(A_107, (n1 - 1), (c1 - 1), (xs1.drop 1), A_110, (m1 - 1), (d1 - 1), (ys1.drop 1), (done ++ [(some (xs1.getD 0 at0), some (ys1.getD 0 at0))])), by kernel_rfl, ?_, ?_⟩
  ·exact ⟨hC_109, by omega, hC_112, by omega, (by rw [← hdone, hm_103]; simp), (stab _ _ _ hI_101 hb_105), (bt hB_102 hb_105)⟩
  (try dsimp only); omega
 refine xr 4 [(8, .eq (.bool false))] [(9, .bool false), (11, nv m1)] [7] [Value.bool (decide ((n1 : Int) > 0)) = Value.bool false] ⟨congrArg Value.bool (decide_eq_false (c_1)), trivial⟩ ?_
 by_cases c_113 : (m1 : Int) > 0
 ·refine xr 2 [(12, .eq (.bool true))] [(13, .bool true)] [9, 11] [Value.bool (decide ((m1 : Int) > 0)) = Value.bool true] ⟨congrArg Value.bool (decide_eq_true (c_113)), trivial⟩ ?_
  refine nl (ct (sk (bk (bk (sq (X_still (by kernel_rfl) (by kernel_rfl) (fun wd_114 hb_115 hh_116 => ?_)))))))
  refine xse 2 [] [(0, .slice A1 n1 c1), (1, .slice B1 m1 d1), (2, .func (.func fid) #[] caps), (30, .int .i64 (m1 : Int))] [] trivial ?_
  by_cases c_117 : (m1 : Int) = 0
  ·refine xse 18 [(31, .eq (.bool true))] [(0, .slice A1 n1 c1), (1, .slice B1 m1 d1), (2, .func (.func fid) #[] caps), (28, .bool true)] [Value.bool ((m1 : Int) == 0) = Value.bool true] ⟨congrArg Value.bool (beq_iff_eq.2 (c_117)), trivial⟩ ?_
   refine XS_nil ?_
   refine ct (sq (X_any [7] 8 #[false, false, false, false, false, false, false, false] (by kernel_rfl) (by kernel_rfl) (by kernel_rfl) (fun wd_118 hb_119 hh_120 => ?_)))
   refine XA_run (fuel' := 6) [0, 1] [] [.func (.func fid) #[] caps, .slice A1 n1 c1] #[true, true, false, false, false, false, false, false] [(0, .slice A1 n1 c1), (1, .slice B1 m1 d1), (2, .func (.func fid) #[] caps), (48, .func (.func fid) #[] caps), (49, .slice A1 n1 c1)] [] (fun _ _ _ _ h => h) (by kernel_rfl) rfl trivial ?_
   obtain ⟨ad_121, ha_122, hc_123⟩ := Kd.atAttr (Kd.C_below hx1 (bt (bt HB hb_115) hb_119)) (i := (0 : Int)) (by omega) (by omega)
   replace hc_123 : CellsAt wd_118 (ad_121.add ((0 : Int).toNat * 4)) [.string ((xs1.getD 0 at0).1), .int .i64 ((xs1.getD 0 at0).2.1), .int .i64 ((xs1.getD 0 at0).2.2.1), .string ((xs1.getD 0 at0).2.2.2)] := hc_123
   refine XA_run (fuel' := 2) [2, 3, 4, 5] [(50, .idx ad_121), (52, .load (.string ((xs1.getD 0 at0).1)))] [.pointer (some (ad_121.add ((0 : Int).toNat * 4))), .pointer (some (ad_121.add ((0 : Int).toNat * 4))), .string ((xs1.getD 0 at0).1), .slice A1 n1 c1] #[true, true, true, true, true, true, false, false] [(0, .slice A1 n1 c1), (1, .slice B1 m1 d1), (2, .func (.func fid) #[] caps), (48, .func (.func fid) #[] caps), (52, .string ((xs1.getD 0 at0).1)), (53, .slice A1 n1 c1)] [A1 = some ad_121, (0 : Int) ≤ 0, 0 < (n1 : Int), LoadsAs Tryd.prog 9 (ad_121.add ((0 : Int).toNat * 4)) (.string ((xs1.getD 0 at0).1)) wd_118] (fun _ _ _ _ h => h) (by kernel_rfl) rfl ⟨ha_122, (by omega), (by omega), loads1 rfl (elem_cell hc_123 0 _ rfl), trivial⟩ ?_
   obtain ⟨ad_124, ha_125, hc_126⟩ := Kd.atAttr (Kd.C_below hx1 (bt (bt HB hb_115) hb_119)) (i := (0 : Int)) (by omega) (by omega)
   replace hc_126 : CellsAt wd_118 (ad_124.add ((0 : Int).toNat * 4)) [.string ((xs1.getD 0 at0).1), .int .i64 ((xs1.getD 0 at0).2.1), .int .i64 ((xs1.getD 0 at0).2.2.1), .string ((xs1.getD 0 at0).2.2.2)] := hc_126
   refine XA_run (fuel' := 1) [6] [(54, .idx ad_124)] [.pointer (some (ad_124.add ((0 : Int).toNat * 4)))] #[true, true, true, true, true, true, true, false] [(0, .slice A1 n1 c1), (1, .slice B1 m1 d1), (2, .func (.func fid) #[] caps), (48, .func (.func fid) #[] caps), (52, .string ((xs1.getD 0 at0).1)), (54, .pointer (some (ad_124.add ((0 : Int).toNat * 4))))] [A1 = some ad_124, (0 : Int) ≤ 0, 0 < (n1 : Int)] (fun _ _ _ _ h => h) (by kernel_rfl) rfl ⟨ha_125, (by omega), (by omega), trivial⟩ ?_
   refine XA_act (fuel' := 0) 7 #[true, true, true, true, true, true, true, true] _ rfl (by kernel_rfl) rfl (by kernel_rfl) rfl ?_
   have hm_130 : merge xs1 ys1 = (some (xs1.getD 0 at0), none) :: merge (xs1.drop 1) ys1 := by
    have hn0 : xs1.length = n1 := hn1
    have hm0 : ys1.length = m1 := hm1
    exact merge_x xs1 ys1 (by omega) (by first | exact .inl (by omega) | exact .inr (by assumption))
   refine XL_callv fid rfl rfl rfl hEnt caps rfl [.string ((xs1.getD 0 at0).1), .pointer (some (ad_124.add ((0 : Int).toNat * 4))), .pointer none] (by kernel_rfl) (step done (some (xs1.getD 0 at0), none) _ _ _ _ (by rw [← hdone, hm_130]) ⟨_, rfl, hc_126⟩ rfl (stab _ _ _ hInv (bt hb_115 hb_119)) (bt (bt HB hb_115) hb_119)) ?_
   rintro e w_127 ⟨rfl, hI_128, hB_129⟩; refine ⟨_, rfl, ?_⟩
   refine nl (XA_done (by kernel_rfl) ?_)
   refine rg ?_
   obtain ⟨A_131, hA_132⟩ : ∃ A_, (if c1 = 1 then A1 else A1.map (·.add (1 * 4))) = A_ := ⟨_, rfl⟩
   have hC_133 : kAttr.C W00 A_131 (n1 - 1) (xs1.drop 1) := by have h := RX.Kd.C_drop hx1 (k := 1) (cap := c1) (by omega) (by omega); first | (rw [← hA_132]; exact h)
   refine xr 3 [(57, .as (.slice A_131 (n1 - 1) (c1 - 1)))] [(0, .slice A_131 (n1 - 1) (c1 - 1))] [48, 52, 54, 55] [RunsAs Tryd.prog [(56, .slice A1 n1 c1)] (Go.Op.slice 45 (Go.Operand.tmp 56) (some (Go.Operand.const (Go.Value.int Go.IntKind.i64 1))) none none) 45 (.slice A_131 (n1 - 1) (c1 - 1)) w_127] ⟨(hA_132 ▸ runs_slice_l (h := 1) rfl rfl rfl rfl (by omega) (by omega) (by omega)), trivial⟩ ?_
   refine nl ?_
   refine ⟨(A_131, (n1 - 1), (c1 - 1), (xs1.drop 1), B1, m1, d1, ys1, (done ++ [(some (xs1.getD 0 at0), none)])), by kernel_rfl, ?_, ?_⟩
   ·exact ⟨hC_133, by omega, hy1, by omega, (by rw [← hdone, hm_130]; simp), hI_128, hB_129⟩
   (try dsimp only); omega
  refine xse 18 [(31, .eq (.bool false)), (35, .eq (.bool false))] [(0, .slice A1 n1 c1), (1, .slice B1 m1 d1), (2, .func (.func fid) #[] caps), (28, .bool false)] [Value.bool ((m1 : Int) == 0) = Value.bool false, Value.bool (decide ((n1 : Int) > 0)) = Value.bool false] ⟨congrArg Value.bool (beq_eq_false_iff_ne.2 (c_117)), congrArg Value.bool (decide_eq_false (c_1)), trivial⟩ ?_
  refine XS_nil ?_
  refine cf (sq (X_still (by kernel_rfl) (by kernel_rfl) (fun wd_134 hb_135 hh_136 => ?_)))
  refine xse 2 [] [(0, .slice A1 n1 c1), (1, .slice B1 m1 d1), (2, .func (.func fid) #[] caps), (60, .int .i64 (n1 : Int))] [] trivial ?_
  by_cases c_137 : (n1 : Int) = 0
  ·refine xse 13 [(61, .eq (.bool true))] [(0, .slice A1 n1 c1), (1, .slice B1 m1 d1), (2, .func (.func fid) #[] caps), (58, .bool true)] [Value.bool ((n1 : Int) == 0) = Value.bool true] ⟨congrArg Value.bool (beq_iff_eq.2 (c_137)), trivial⟩ ?_
   refine XS_nil ?_
   refine ct (sq (X_any [7] 8 #[false, false, false, false, false, false, false, false] (by kernel_rfl) (by kernel_rfl) (by kernel_rfl) (fun wd_138 hb_139 hh_140 => ?_)))
   refine XA_run (fuel' := 6) [0, 1] [] [.func (.func fid) #[] caps, .slice B1 m1 d1] #[true, true, false, false, false, false, false, false] [(0, .slice A1 n1 c1), (1, .slice B1 m1 d1), (2, .func (.func fid) #[] caps), (73, .func (.func fid) #[] caps), (74, .slice B1 m1 d1)] [] (fun _ _ _ _ h => h) (by kernel_rfl) rfl trivial ?_
   obtain ⟨ad_141, ha_142, hc_143⟩ := Kd.atAttr (Kd.C_below hy1 (bt (bt (bt HB hb_115) hb_135) hb_139)) (i := (0 : Int)) (by omega) (by omega)
   replace hc_143 : CellsAt wd_138 (ad_141.add ((0 : Int).toNat * 4)) [.string ((ys1.getD 0 at0).1), .int .i64 ((ys1.getD 0 at0).2.1), .int .i64 ((ys1.getD 0 at0).2.2.1), .string ((ys1.getD 0 at0).2.2.2)] := hc_143
   refine XA_run (fuel' := 2) [2, 3, 4, 5] [(75, .idx ad_141), (77, .load (.string ((ys1.getD 0 at0).1)))] [.pointer (some (ad_141.add ((0 : Int).toNat * 4))), .pointer (some (ad_141.add ((0 : Int).toNat * 4))), .string ((ys1.getD 0 at0).1), .slice B1 m1 d1] #[true, true, true, true, true, true, false, false] [(0, .slice A1 n1 c1), (1, .slice B1 m1 d1), (2, .func (.func fid) #[] caps), (73, .func (.func fid) #[] caps), (77, .string ((ys1.getD 0 at0).1)), (78, .slice B1 m1 d1)] [B1 = some ad_141, (0 : Int) ≤ 0, 0 < (m1 : Int), LoadsAs Tryd.prog 9 (ad_141.add ((0 : Int).toNat * 4)) (.string ((ys1.getD 0 at0).1)) wd_138] (fun _ _ _ _ h => h) (by kernel_rfl) rfl ⟨ha_142, (by omega), (by omega), loads1 rfl (elem_cell hc_143 0 _ rfl), trivial⟩ ?_
   obtain ⟨ad_144, ha_145, hc_146⟩ := Kd.atAttr (Kd.C_below hy1 (bt (bt (bt HB hb_115) hb_135) hb_139)) (i := (0 : Int)) (by omega) (by omega)
   replace hc_146 : CellsAt wd_138 (ad_144.add ((0 : Int).toNat * 4)) [.string ((ys1.getD 0 at0).1), .int .i64 ((ys1.getD 0 at0).2.1), .int .i64 ((ys1.getD 0 at0).2.2.1), .string ((ys1.getD 0 at0).2.2.2)] := hc_146
   refine XA_run (fuel' := 1) [6] [(79, .idx ad_144)] [.pointer (some (ad_144.add ((0 : Int).toNat * 4)))] #[true, true, true, true, true, true, true, false] [(0, .slice A1 n1 c1), (1, .slice B1 m1 d1), (2, .func (.func fid) #[] caps), (73, .func (.func fid) #[] caps), (77, .string ((ys1.getD 0 at0).1)), (79, .pointer (some (ad_144.add ((0 : Int).toNat * 4))))] [B1 = some ad_144, (0 : Int) ≤ 0, 0 < (m1 : Int)] (fun _ _ _ _ h => h) (by kernel_rfl) rfl ⟨ha_145, (by omega), (by omega), trivial⟩ ?_
   refine XA_act (fuel' := 0) 7 #[true, true, true, true, true, true, true, true] _ rfl (by kernel_rfl) rfl (by kernel_rfl) rfl ?_
   have hm_150 : merge xs1 ys1 = (none, some (ys1.getD 0 at0)) :: merge xs1 (ys1.drop 1) := by
    have hn0 : xs1.length = n1 := hn1
    have hm0 : ys1.length = m1 := hm1
    exact merge_y xs1 ys1 (by omega) (by first | exact .inl (by omega) | exact .inr ⟨by simp_all, by assumption⟩)
   refine XL_callv fid rfl rfl rfl hEnt caps rfl [.string ((ys1.getD 0 at0).1), .pointer none, .pointer (some (ad_144.add ((0 : Int).toNat * 4)))] (by kernel_rfl) (step done (none, some (ys1.getD 0 at0)) _ _ _ _ (by rw [← hdone, hm_150]) rfl ⟨_, rfl, hc_146⟩ (stab _ _ _ hInv (bt (bt hb_115 hb_135) hb_139)) (bt (bt (bt HB hb_115) hb_135) hb_139)) ?_
   rintro e w_147 ⟨rfl, hI_148, hB_149⟩; refine ⟨_, rfl, ?_⟩
   refine nl (XA_done (by kernel_rfl) ?_)
   refine rg ?_
   obtain ⟨A_151, hA_152⟩ : ∃ A_, (if d1 = 1 then B1 else B1.map (·.add (1 * 4))) = A_ := ⟨_, rfl⟩
   have hC_153 : kAttr.C W00 A_151 (m1 - 1) (ys1.drop 1) := by have h := RX.Kd.C_drop hy1 (k := 1) (cap := d1) (by omega) (by omega); first | (rw [← hA_152]; exact h)
   refine xr 3 [(82, .as (.slice A_151 (m1 - 1) (d1 - 1)))] [(1, .slice A_151 (m1 - 1) (d1 - 1))] [73, 77, 79, 80] [RunsAs Tryd.prog [(81, .slice B1 m1 d1)] (Go.Op.slice 45 (Go.Operand.tmp 81) (some (Go.Operand.const (Go.Value.int Go.IntKind.i64 1))) none none) 45 (.slice A_151 (m1 - 1) (d1 - 1)) w_147] ⟨(hA_152 ▸ runs_slice_l (h := 1) rfl rfl rfl rfl (by omega) (by omega) (by omega)), trivial⟩ ?_
   refine nl ?_
   refine ⟨(A1, n1, c1, xs1, A_151, (m1 - 1), (d1 - 1), (ys1.drop 1), (done ++ [(none, some (ys1.getD 0 at0))])), by kernel_rfl, ?_, ?_⟩
   ·exact ⟨hx1, by omega, hC_153, by omega, (by rw [← hdone, hm_150]; simp), hI_148, hB_149⟩
   (try dsimp only); omega
  refine xse 3 [(61, .eq (.bool false))] [(0, .slice A1 n1 c1), (1, .slice B1 m1 d1), (2, .func (.func fid) #[] caps), (62, .bool false), (63, .slice B1 m1 d1)] [Value.bool ((n1 : Int) == 0) = Value.bool false] ⟨congrArg Value.bool (beq_eq_false_iff_ne.2 (c_137)), trivial⟩ ?_
  obtain ⟨ad_154, ha_155, hc_156⟩ := Kd.atAttr (Kd.C_below hy1 (bt (bt HB hb_115) hb_135)) (i := (0 : Int)) (by omega) (by omega)
  replace hc_156 : CellsAt wd_134 (ad_154.add ((0 : Int).toNat * 4)) [.string ((ys1.getD 0 at0).1), .int .i64 ((ys1.getD 0 at0).2.1), .int .i64 ((ys1.getD 0 at0).2.2.1), .string ((ys1.getD 0 at0).2.2.2)] := hc_156
  refine xse 4 [(64, .idx ad_154), (66, .load (.string ((ys1.getD 0 at0).1)))] [(0, .slice A1 n1 c1), (1, .slice B1 m1 d1), (2, .func (.func fid) #[] caps), (62, .bool false), (66, .string ((ys1.getD 0 at0).1)), (67, .slice A1 n1 c1)] [B1 = some ad_154, (0 : Int) ≤ 0, 0 < (m1 : Int), LoadsAs Tryd.prog 9 (ad_154.add ((0 : Int).toNat * 4)) (.string ((ys1.getD 0 at0).1)) wd_134] ⟨ha_155, (by omega), (by omega), loads1 rfl (elem_cell hc_156 0 _ rfl), trivial⟩ ?_
  obtain ⟨ad_157, ha_158, hc_159⟩ := Kd.atAttr (Kd.C_below hx1 (bt (bt HB hb_115) hb_135)) (i := (0 : Int)) (by omega) (by omega)
  replace hc_159 : CellsAt wd_134 (ad_157.add ((0 : Int).toNat * 4)) [.string ((xs1.getD 0 at0).1), .int .i64 ((xs1.getD 0 at0).2.1), .int .i64 ((xs1.getD 0 at0).2.2.1), .string ((xs1.getD 0 at0).2.2.2)] := hc_159
  refine xse 3 [(68, .idx ad_157), (70, .load (.string ((xs1.getD 0 at0).1)))] [(0, .slice A1 n1 c1), (1, .slice B1 m1 d1), (2, .func (.func fid) #[] caps), (62, .bool false), (66, .string ((ys1.getD 0 at0).1)), (70, .string ((xs1.getD 0 at0).1))] [A1 = some ad_157, (0 : Int) ≤ 0, 0 < (n1 : Int), LoadsAs Tryd.prog 9 (ad_157.add ((0 : Int).toNat * 4)) (.string ((xs1.getD 0 at0).1)) wd_134] ⟨ha_158, (by omega), (by omega), loads1 rfl (elem_cell hc_159 0 _ rfl), trivial⟩ ?_
  by_cases c_160 : (Op.bytesLess ((ys1.getD 0 at0).1).toList ((xs1.getD 0 at0).1).toList) = true
  ·refine xse 3 [(71, .eq (.bool true))] [(0, .slice A1 n1 c1), (1, .slice B1 m1 d1), (2, .func (.func fid) #[] caps), (58, .bool true)] [Value.bool (Op.bytesLess ((ys1.getD 0 at0).1).toList ((xs1.getD 0 at0).1).toList) = Value.bool true] ⟨congrArg Value.bool (c_160), trivial⟩ ?_
   refine XS_nil ?_
   refine ct (sq (X_any [7] 8 #[false, false, false, false, false, false, false, false] (by kernel_rfl) (by kernel_rfl) (by kernel_rfl) (fun wd_161 hb_162 hh_163 => ?_)))
   refine XA_run (fuel' := 6) [0, 1] [] [.func (.func fid) #[] caps, .slice B1 m1 d1] #[true, true, false, false, false, false, false, false] [(0, .slice A1 n1 c1), (1, .slice B1 m1 d1), (2, .func (.func fid) #[] caps), (73, .func (.func fid) #[] caps), (74, .slice B1 m1 d1)] [] (fun _ _ _ _ h => h) (by kernel_rfl) rfl trivial ?_
   obtain ⟨ad_164, ha_165, hc_166⟩ := Kd.atAttr (Kd.C_below hy1 (bt (bt (bt HB hb_115) hb_135) hb_162)) (i := (0 : Int)) (by omega) (by omega)
   replace hc_166 : CellsAt wd_161 (ad_164.add ((0 : Int).toNat * 4)) [.string ((ys1.getD 0 at0).1), .int .i64 ((ys1.getD 0 at0).2.1), .int .i64 ((ys1.getD 0 at0).2.2.1), .string ((ys1.getD 0 at0).2.2.2)] := hc_166
   refine XA_run (fuel' := 2) [2, 3, 4, 5] [(75, .idx ad_164), (77, .load (.string ((ys1.getD 0 at0).1)))] [.pointer (some (ad_164.add ((0 : Int).toNat * 4))), .pointer (some (ad_164.add ((0 : Int).toNat * 4))), .string ((ys1.getD 0 at0).1), .slice B1 m1 d1] #[true, true, true, true, true, true, false, false] [(0, .slice A1 n1 c1), (1, .slice B1 m1 d1), (2, .func (.func fid) #[] caps), (73, .func (.func fid) #[] caps), (77, .string ((ys1.getD 0 at0).1)), (78, .slice B1 m1 d1)] [B1 = some ad_164, (0 : Int) ≤ 0, 0 < (m1 : Int), LoadsAs Tryd.prog 9 (ad_164.add ((0 : Int).toNat * 4)) (.string ((ys1.getD 0 at0).1)) wd_161] (fun _ _ _ _ h => h) (by kernel_rfl) rfl ⟨ha_165, (by omega), (by omega), loads1 rfl (elem_cell hc_166 0 _ rfl), trivial⟩ ?_
   obtain ⟨ad_167, ha_168, hc_169⟩ := Kd.atAttr (Kd.C_below hy1 (bt (bt (bt HB hb_115) hb_135) hb_162)) (i := (0 : Int)) (by omega) (by omega)
   replace hc_169 : CellsAt wd_161 (ad_167.add ((0 : Int).toNat * 4)) [.string ((ys1.getD 0 at0).1), .int .i64 ((ys1.getD 0 at0).2.1), .int .i64 ((ys1.getD 0 at0).2.2.1), .string ((ys1.getD 0 at0).2.2.2)] := hc_169
   refine XA_run (fuel' := 1) [6] [(79, .idx ad_167)] [.pointer (some (ad_167.add ((0 : Int).toNat * 4)))] #[true, true, true, true, true, true, true, false] [(0, .slice A1 n1 c1), (1, .slice B1 m1 d1), (2, .func (.func fid) #[] caps), (73, .func (.func fid) #[] caps), (77, .string ((ys1.getD 0 at0).1)), (79, .pointer (some (ad_167.add ((0 : Int).toNat * 4))))] [B1 = some ad_167, (0 : Int) ≤ 0, 0 < (m1 : Int)] (fun _ _ _ _ h => h) (by kernel_rfl) rfl ⟨ha_168, (by omega), (by omega), trivial⟩ ?_
   refine XA_act (fuel' := 0) 7 #[true, true, true, true, true, true, true, true] _ rfl (by kernel_rfl) rfl (by kernel_rfl) rfl ?_
   have hm_173 : merge xs1 ys1 = (none, some (ys1.getD 0 at0)) :: merge xs1 (ys1.drop 1) := by
    have hn0 : xs1.length = n1 := hn1
    have hm0 : ys1.length = m1 := hm1
    exact merge_y xs1 ys1 (by omega) (by first | exact .inl (by omega) | exact .inr ⟨by simp_all, by assumption⟩)
   refine XL_callv fid rfl rfl rfl hEnt caps rfl [.string ((ys1.getD 0 at0).1), .pointer none, .pointer (some (ad_167.add ((0 : Int).toNat * 4)))] (by kernel_rfl) (step done (none, some (ys1.getD 0 at0)) _ _ _ _ (by rw [← hdone, hm_173]) rfl ⟨_, rfl, hc_169⟩ (stab _ _ _ hInv (bt (bt hb_115 hb_135) hb_162)) (bt (bt (bt HB hb_115) hb_135) hb_162)) ?_
   rintro e w_170 ⟨rfl, hI_171, hB_172⟩; refine ⟨_, rfl, ?_⟩
   refine nl (XA_done (by kernel_rfl) ?_)
   refine rg ?_
   obtain ⟨A_174, hA_175⟩ : ∃ A_, (if d1 = 1 then B1 else B1.map (·.add (1 * 4))) = A_ := ⟨_, rfl⟩
   have hC_176 : kAttr.C W00 A_174 (m1 - 1) (ys1.drop 1) := by have h := RX.Kd.C_drop hy1 (k := 1) (cap := d1) (by omega) (by omega); first | (rw [← hA_175]; exact h)
   refine xr 3 [(82, .as (.slice A_174 (m1 - 1) (d1 - 1)))] [(1, .slice A_174 (m1 - 1) (d1 - 1))] [73, 77, 79, 80] [RunsAs Tryd.prog [(81, .slice B1 m1 d1)] (Go.Op.slice 45 (Go.Operand.tmp 81) (some (Go.Operand.const (Go.Value.int Go.IntKind.i64 1))) none none) 45 (.slice A_174 (m1 - 1) (d1 - 1)) w_170] ⟨(hA_175 ▸ runs_slice_l (h := 1) rfl rfl rfl rfl (by omega) (by omega) (by omega)), trivial⟩ ?_
   refine nl ?_
   refine ⟨(A1, n1, c1, xs1, A_174, (m1 - 1), (d1 - 1), (ys1.drop 1), (done ++ [(none, some (ys1.getD 0 at0))])), by kernel_rfl, ?_, ?_⟩
   ·exact ⟨hx1, by omega, hC_176, by omega, (by rw [← hdone, hm_173]; simp), hI_171, hB_172⟩
   (try dsimp only); omega
  refine xse 3 [(71, .eq (.bool false))] [(0, .slice A1 n1 c1), (1, .slice B1 m1 d1), (2, .func (.func fid) #[] caps), (58, .bool false)] [Value.bool (Op.bytesLess ((ys1.getD 0 at0).1).toList ((xs1.getD 0 at0).1).toList) = Value.bool false] ⟨congrArg Value.bool (Bool.eq_false_iff.2 (c_160)), trivial⟩ ?_
  refine XS_nil ?_
  refine cf (sq (X_any [9] 10 #[false, false, false, false, false, false, false, false, false, false] (by kernel_rfl) (by kernel_rfl) (by kernel_rfl) (fun wd_177 hb_178 hh_179 => ?_)))
  refine XA_run (fuel' := 8) [0, 1] [] [.func (.func fid) #[] caps, .slice A1 n1 c1] #[true, true, false, false, false, false, false, false, false, false] [(0, .slice A1 n1 c1), (1, .slice B1 m1 d1), (2, .func (.func fid) #[] caps), (14, .func (.func fid) #[] caps), (15, .slice A1 n1 c1)] [] (fun _ _ _ _ h => h) (by kernel_rfl) rfl trivial ?_
  obtain ⟨ad_180, ha_181, hc_182⟩ := Kd.atAttr (Kd.C_below hx1 (bt (bt (bt HB hb_115) hb_135) hb_178)) (i := (0 : Int)) (by omega) (by omega)
  replace hc_182 : CellsAt wd_177 (ad_180.add ((0 : Int).toNat * 4)) [.string ((xs1.getD 0 at0).1), .int .i64 ((xs1.getD 0 at0).2.1), .int .i64 ((xs1.getD 0 at0).2.2.1), .string ((xs1.getD 0 at0).2.2.2)] := hc_182
  refine XA_run (fuel' := 4) [2, 3, 4, 5] [(16, .idx ad_180), (18, .load (.string ((xs1.getD 0 at0).1)))] [.pointer (some (ad_180.add ((0 : Int).toNat * 4))), .pointer (some (ad_180.add ((0 : Int).toNat * 4))), .string ((xs1.getD 0 at0).1), .slice A1 n1 c1] #[true, true, true, true, true, true, false, false, false, false] [(0, .slice A1 n1 c1), (1, .slice B1 m1 d1), (2, .func (.func fid) #[] caps), (14, .func (.func fid) #[] caps), (18, .string ((xs1.getD 0 at0).1)), (19, .slice A1 n1 c1)] [A1 = some ad_180, (0 : Int) ≤ 0, 0 < (n1 : Int), LoadsAs Tryd.prog 9 (ad_180.add ((0 : Int).toNat * 4)) (.string ((xs1.getD 0 at0).1)) wd_177] (fun _ _ _ _ h => h) (by kernel_rfl) rfl ⟨ha_181, (by omega), (by omega), loads1 rfl (elem_cell hc_182 0 _ rfl), trivial⟩ ?_
  obtain ⟨ad_183, ha_184, hc_185⟩ := Kd.atAttr (Kd.C_below hx1 (bt (bt (bt HB hb_115) hb_135) hb_178)) (i := (0 : Int)) (by omega) (by omega)
  replace hc_185 : CellsAt wd_177 (ad_183.add ((0 : Int).toNat * 4)) [.string ((xs1.getD 0 at0).1), .int .i64 ((xs1.getD 0 at0).2.1), .int .i64 ((xs1.getD 0 at0).2.2.1), .string ((xs1.getD 0 at0).2.2.2)] := hc_185
  refine XA_run (fuel' := 2) [6, 7] [(20, .idx ad_183)] [.pointer (some (ad_183.add ((0 : Int).toNat * 4))), .slice B1 m1 d1] #[true, true, true, true, true, true, true, true, false, false] [(0, .slice A1 n1 c1), (1, .slice B1 m1 d1), (2, .func (.func fid) #[] caps), (14, .func (.func fid) #[] caps), (18, .string ((xs1.getD 0 at0).1)), (20, .pointer (some (ad_183.add ((0 : Int).toNat * 4)))), (21, .slice B1 m1 d1)] [A1 = some ad_183, (0 : Int) ≤ 0, 0 < (n1 : Int)] (fun _ _ _ _ h => h) (by kernel_rfl) rfl ⟨ha_184, (by omega), (by omega), trivial⟩ ?_
  obtain ⟨ad_186, ha_187, hc_188⟩ := Kd.atAttr (Kd.C_below hy1 (bt (bt (bt HB hb_115) hb_135) hb_178)) (i := (0 : Int)) (by omega) (by omega)
  replace hc_188 : CellsAt wd_177 (ad_186.add ((0 : Int).toNat * 4)) [.string ((ys1.getD 0 at0).1), .int .i64 ((ys1.getD 0 at0).2.1), .int .i64 ((ys1.getD 0 at0).2.2.1), .string ((ys1.getD 0 at0).2.2.2)] := hc_188
  refine XA_run (fuel' := 1) [8] [(22, .idx ad_186)] [.pointer (some (ad_186.add ((0 : Int).toNat * 4)))] #[true, true, true, true, true, true, true, true, true, false] [(0, .slice A1 n1 c1), (1, .slice B1 m1 d1), (2, .func (.func fid) #[] caps), (14, .func (.func fid) #[] caps), (18, .string ((xs1.getD 0 at0).1)), (20, .pointer (some (ad_183.add ((0 : Int).toNat * 4)))), (22, .pointer (some (ad_186.add ((0 : Int).toNat * 4))))] [B1 = some ad_186, (0 : Int) ≤ 0, 0 < (m1 : Int)] (fun _ _ _ _ h => h) (by kernel_rfl) rfl ⟨ha_187, (by omega), (by omega), trivial⟩ ?_
  refine XA_act (fuel' := 0) 9 #[true, true, true, true, true, true, true, true, true, true] _ rfl (by kernel_rfl) rfl (by kernel_rfl) rfl ?_
  have hm_192 : merge xs1 ys1 = (some (xs1.getD 0 at0), some (ys1.getD 0 at0)) :: merge (xs1.drop 1) (ys1.drop 1) := by
   have hn0 : xs1.length = n1 := hn1
   have hm0 : ys1.length = m1 := hm1
   exact merge_xy xs1 ys1 (by omega) (by omega) (by simp_all) (by simp_all)
  refine XL_callv fid rfl rfl rfl hEnt caps rfl [.string ((xs1.getD 0 at0).1), .pointer (some (ad_183.add ((0 : Int).toNat * 4))), .pointer (some (ad_186.add ((0 : Int).toNat * 4)))] (by kernel_rfl) (step done (some (xs1.getD 0 at0), some (ys1.getD 0 at0)) _ _ _ _ (by rw [← hdone, hm_192]) ⟨_, rfl, hc_185⟩ ⟨_, rfl, hc_188⟩ (stab _ _ _ hInv (bt (bt hb_115 hb_135) hb_178)) (bt (bt (bt HB hb_115) hb_135) hb_178)) ?_
  rintro e w_189 ⟨rfl, hI_190, hB_191⟩; refine ⟨_, rfl, ?_⟩
  refine nl (XA_done (by kernel_rfl) ?_)
  refine X_still (by kernel_rfl) (by kernel_rfl) (fun wd_193 hb_194 hh_195 => ?_)
  obtain ⟨A_196, hA_197⟩ : ∃ A_, (if c1 = 1 then A1 else A1.map (·.add (1 * 4))) = A_ := ⟨_, rfl⟩
  have hC_198 : kAttr.C W00 A_196 (n1 - 1) (xs1.drop 1) := by have h := RX.Kd.C_drop hx1 (k := 1) (cap := c1) (by omega) (by omega); first | (rw [← hA_197]; exact h)
  obtain ⟨A_199, hA_200⟩ : ∃ A_, (if d1 = 1 then B1 else B1.map (·.add (1 * 4))) = A_ := ⟨_, rfl⟩
  have hC_201 : kAttr.C W00 A_199 (m1 - 1) (ys1.drop 1) := by have h := RX.Kd.C_drop hy1 (k := 1) (cap := d1) (by omega) (by omega); first | (rw [← hA_200]; exact h)
  refine xse 6 [(25, .as (.slice A_196 (n1 - 1) (c1 - 1))), (27, .as (.slice A_199 (m1 - 1) (d1 - 1)))] [(0, .slice A_196 (n1 - 1) (c1 - 1)), (1, .slice A_199 (m1 - 1) (d1 - 1)), (2, .func (.func fid) #[] caps)] [RunsAs Tryd.prog [(24, .slice A1 n1 c1)] (Go.Op.slice 45 (Go.Operand.tmp 24) (some (Go.Operand.const (Go.Value.int Go.IntKind.i64 1))) none none) 45 (.slice A_196 (n1 - 1) (c1 - 1)) wd_193, RunsAs Tryd.prog [(26, .slice B1 m1 d1)] (Go.Op.slice 45 (Go.Operand.tmp 26) (some (Go.Operand.const (Go.Value.int Go.IntKind.i64 1))) none none) 45 (.slice A_199 (m1 - 1) (d1 - 1)) wd_193] ⟨(hA_197 ▸ runs_slice_l (h := 1) rfl rfl rfl rfl (by omega) (by omega) (by omega)), (hA_200 ▸ runs_slice_l (h := 1) rfl rfl rfl rfl (by omega) (by omega) (by omega)), trivial⟩ ?_
  refine XS_nil ?_
  refine ⟨(A_196, (n1 - 1), (c1 - 1), (xs1.drop 1), A_199, (m1 - 1), (d1 - 1), (ys1.drop 1), (done ++ [(some (xs1.getD 0 at0), some (ys1.getD 0 at0))])), by kernel_rfl, ?_, ?_⟩
  ·exact ⟨hC_198, by omega, hC_201, by omega, (by rw [← hdone, hm_192]; simp), (stab _ _ _ hI_190 hb_194), (bt hB_191 hb_194)⟩
  (try dsimp only); omega
 refine xr 2 [(12, .eq (.bool false))] [(13, .bool false)] [9, 11] [Value.bool (decide ((m1 : Int) > 0)) = Value.bool false] ⟨congrArg Value.bool (decide_eq_false (c_113)), trivial⟩ ?_
 refine nl (cf (X_exit (ek [] (hR_ _ _ ?_))))
 exact ⟨rfl, by rw [← hdone, show merge xs1 ys1 = [] from by rw [List.length_eq_zero_iff.1 (show xs1.length = 0 by omega), List.length_eq_zero_iff.1 (show ys1.length = 0 by omega)]; simp [merge]] ; simpa using hInv, HB⟩
end Go.Proofs.YtkehomiogkoomaaDoor
