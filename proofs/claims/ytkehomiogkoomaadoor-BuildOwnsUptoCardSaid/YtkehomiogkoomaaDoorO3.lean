/- What the references of layers content and ops answer: what the program answers. Conditions: sizes, the tables of utf8. -/
import Derived.Test.YtkehomiogkoomaaDoorO2
import Derived.Test.YtkehomiogkoomaaDoorR1
set_option linter.unusedVariables false
set_option linter.unusedSimpArgs false
set_option maxRecDepth 100000
namespace Go.Proofs.YtkehomiogkoomaaDoor
open Go Go.RowKit Go.Proofs.YtkehomiogkoomaaDoorW.PrintWords RX
theorem ent159 : Ent Tryd.prog 159 := ent_of Tryd.func159 (by kernel_rfl) rfl
theorem ent158 : Ent Tryd.prog 158 := ent_of Tryd.func158 (by kernel_rfl) rfl
theorem ent124 : Ent Tryd.prog 124 := ent_of Tryd.func124 (by kernel_rfl) rfl
theorem opSz.b {o : OpA} (h : opSz o) : o.text.size ≤ 100000000 ∧ o.vt.size ≤ 100000000 := by have h1 := h.1; have h2 := h.2.1; omega
set_option maxHeartbeats 2000000 in
theorem r4refuse_any (o : OpA) (A : Option Addr) (c : Nat) (w : World) (hA : kAttr.C w A o.attrs.length o.attrs) (hz : opSz o) (hT : Tabs w) : Calls Tryd.prog 159 #[.agg #[.int .i64 o.kind, .string o.text, .int .i64 o.vk, .int .i64 o.vn, .string o.vt, .int .i64 o.count, .slice A o.attrs.length c]] w fun e w' => e = .returned (.int .i64 (refuseP o : Int)) ∧ Below w.heap.size w w' := by
 have hz1 := hz.b.1
 have hz2 := hz.b.2
 refine RX.enter Tryd.func159 rfl 65 rfl [(0, .agg #[.int .i64 o.kind, .string o.text, .int .i64 o.vk, .int .i64 o.vn, .string o.vt, .int .i64 o.count, .slice A o.attrs.length c])] rfl (by kernel_rfl) (fun R_ hR_ => ?_)
 refine sq (rg (xwe 1 [] [(1, pw w.heap.size 0)] (w.alloc (.cells #[.int .i64 o.kind, .string o.text, .int .i64 o.vk, .int .i64 o.vn, .string o.vt, .int .i64 o.count, .slice A o.attrs.length c] 47)) [] trivial ?_))
 obtain ⟨w_1, hw_5, hb_2, hk_3, hz_4⟩ := new_world w #[.int .i64 o.kind, .string o.text, .int .i64 o.vk, .int .i64 o.vn, .string o.vt, .int .i64 o.count, .slice A o.attrs.length c] 47
 rw [hw_5]
 refine xr0 1 [] [] ?_
 refine nl (sq (bk (sq (rg (xr 2 [(7, .load (.int .i64 o.kind))] [(7, .int .i64 o.kind)] [] [LoadsAs Tryd.prog 3 (⟨w.heap.size, 0, none⟩) (.int .i64 o.kind) w_1] ⟨loads1 rfl (Blk.cell hk_3 0 _ rfl), trivial⟩ ?_)))))
 by_cases c_6 : o.kind = 1
 ·refine xr 7 [(8, .eq (.bool false))] [(5, .bool false)] [7] [Value.bool (o.kind != 1) = Value.bool false] ⟨congrArg Value.bool (bneF (c_6)), trivial⟩ ?_
  refine nl (cf (sq (rg (xr 2 [(16, .load (.int .i64 o.count))] [(16, .int .i64 o.count)] [5] [LoadsAs Tryd.prog 3 (⟨w.heap.size, 5, none⟩) (.int .i64 o.count) w_1] ⟨loads1 rfl (Blk.cell hk_3 5 _ rfl), trivial⟩ ?_))))
  by_cases c_7 : o.count = 0
  ·refine xr 2 [(17, .eq (.bool false))] [(14, .bool false)] [16] [Value.bool (o.count != 0) = Value.bool false] ⟨congrArg Value.bool (bneF (c_7)), trivial⟩ ?_
   refine nl (cf (sq (rg (xe 6 [(20, .load (.int .i64 o.kind)), (21, .eq (.bool true)), (24, .load (.string o.text))] [(1, pw w.heap.size 0), (22, .bool true), (24, .string o.text)] [LoadsAs Tryd.prog 3 (⟨w.heap.size, 0, none⟩) (.int .i64 o.kind) w_1, Value.bool (o.kind == 1) = Value.bool true, LoadsAs Tryd.prog 9 (⟨w.heap.size, 1, none⟩) (.string o.text) w_1] ⟨loads1 rfl (Blk.cell hk_3 0 _ rfl), congrArg Value.bool (beq_iff_eq.2 (c_6)), loads1 rfl (Blk.cell hk_3 1 _ rfl), trivial⟩ ?_))))
   by_cases c_8 : o.text = (⟨#[]⟩ : ByteArray)
   ·refine xr 9 [(25, .eq (.bool true))] [(18, .bool true)] [22, 24] [Value.bool (o.text.toList == (⟨#[]⟩ : ByteArray).toList) = Value.bool true] ⟨congrArg Value.bool (strEqT (c_8)), trivial⟩ ?_
    refine nl (ct (sq (rg (xe0 1 [(2, .int .i64 9)] ?_))))
    refine nl (X_ret (rk [.int .i64 9] (hR_ _ _ ?_)))
    rw [show refuseP o = 9 from by unfold refuseP; simp_all <;> omega]
    exact ⟨rfl, hb_2⟩
   refine xr 5 [(25, .eq (.bool false)), (28, .load (.agg #[.int .i64 o.vk, .int .i64 o.vn, .string o.vt]))] [(26, .bool false), (28, .agg #[.int .i64 o.vk, .int .i64 o.vn, .string o.vt]), (29, .agg #[.int .i64 0, .int .i64 0, .string ByteArray.empty])] [24] [Value.bool (o.text.toList == (⟨#[]⟩ : ByteArray).toList) = Value.bool false, LoadsAs Tryd.prog 44 (⟨w.heap.size, 2, none⟩) (.agg #[.int .i64 o.vk, .int .i64 o.vn, .string o.vt]) w_1] ⟨congrArg Value.bool (strEqF (c_8)), loadsB rfl rfl hk_3 2 ⟨by kernel_rfl, by kernel_rfl⟩, trivial⟩ ?_
   by_cases c_9 : (o.vk, o.vn, o.vt) = pl0
   ·refine xr 4 [(30, .as (.bool false))] [(18, .bool false)] [22, 26, 28, 29] [RunsAs Tryd.prog [(28, .agg #[.int .i64 o.vk, .int .i64 o.vn, .string o.vt]), (29, .agg #[.int .i64 0, .int .i64 0, .string ByteArray.empty])] (Go.Op.binOp Go.BinOp.neq 44 (Go.Operand.tmp 28) (Go.Operand.tmp 29) 44) 4 (.bool false) w_1] ⟨runs_bin rfl rfl (run_eqGuard_agg _ _ _ _ _ _ _ (by kernel_rfl)) (by have h := plain_neq (o.vk, o.vn, o.vt) pl0 w_1; rw [show ple (o.vk, o.vn, o.vt) pl0 = true from (ple_iff _ _).2 c_9] at h; exact h), trivial⟩ ?_
    refine nl (cf (sq (rg (xr 2 [(35, .load (.int .i64 o.kind))] [(35, .int .i64 o.kind)] [18] [LoadsAs Tryd.prog 3 (⟨w.heap.size, 0, none⟩) (.int .i64 o.kind) w_1] ⟨loads1 rfl (Blk.cell hk_3 0 _ rfl), trivial⟩ ?_))))
    by_cases c_10 : o.kind = 2
    ·refine xr 9 [(36, .eq (.bool true)), (39, .load (.string o.text)), (40, .eq (.bool false)), (43, .load (.string o.text))] [(37, .bool true), (41, .bool false), (44, .int .i64 (o.text.size : Int))] [35] [Value.bool (o.kind == 2) = Value.bool true, LoadsAs Tryd.prog 9 (⟨w.heap.size, 1, none⟩) (.string o.text) w_1, Value.bool (o.text.toList == (⟨#[]⟩ : ByteArray).toList) = Value.bool false, LoadsAs Tryd.prog 9 (⟨w.heap.size, 1, none⟩) (.string o.text) w_1] ⟨congrArg Value.bool (beq_iff_eq.2 (c_10)), loads1 rfl (Blk.cell hk_3 1 _ rfl), congrArg Value.bool (strEqF (c_8)), loads1 rfl (Blk.cell hk_3 1 _ rfl), trivial⟩ ?_
     by_cases c_11 : (o.text.size : Int) > 64
     ·refine xr 4 [(45, .eq (.bool true))] [(33, .bool true)] [37, 41, 44] [Value.bool (decide ((o.text.size : Int) > 64)) = Value.bool true] ⟨congrArg Value.bool (decide_eq_true (c_11)), trivial⟩ ?_
      refine nl (ct (sq (rg (xe0 1 [(2, .int .i64 6)] ?_))))
      refine nl (X_ret (rk [.int .i64 6] (hR_ _ _ ?_)))
      rw [show refuseP o = 6 from by unfold refuseP; simp_all <;> omega]
      exact ⟨rfl, hb_2⟩
     refine xr 4 [(45, .eq (.bool false))] [(33, .bool false)] [37, 41, 44] [Value.bool (decide ((o.text.size : Int) > 64)) = Value.bool false] ⟨congrArg Value.bool (decide_eq_false (c_11)), trivial⟩ ?_
     refine nl (cf (sk (sq (rg (xe 2 [(49, .load (.string o.text))] [(1, pw w.heap.size 0), (49, .string o.text)] [LoadsAs Tryd.prog 9 (⟨w.heap.size, 1, none⟩) (.string o.text) w_1] ⟨loads1 rfl (Blk.cell hk_3 1 _ rfl), trivial⟩ ?_)))))
     refine xc 172 ent172 [.string o.text] (utf8_any o.text _ (by omega)) ?_
     rintro e w_12 ⟨rfl, hb_13⟩; refine ⟨_, rfl, ?_⟩
     refine xr0 1 [(3, .bool ((uchk o.text).2))] [49, 50] ?_
     refine nl (sq (sq (rg (xr0 1 [(51, .bool ((uchk o.text).2))] [3] ?_))))
     by_cases c_14 : (uchk o.text).2 = true
     ·rw [show ((uchk o.text).2 : Bool) = true from by simpa using c_14]
      refine xr0 1 [(52, .bool false)] [51] ?_
      refine nl (cf (sk (sq (sq (rg (xr 3 [(54, .load (.int .i64 o.kind)), (55, .eq (.bool true))] [(55, .bool true)] [52] [LoadsAs Tryd.prog 3 (⟨w.heap.size, 0, none⟩) (.int .i64 o.kind) w_12, Value.bool (o.kind == 2) = Value.bool true] ⟨loads1 rfl (Blk.cell (Blk.below hk_3 hb_13) 0 _ rfl), congrArg Value.bool (beq_iff_eq.2 (c_10)), trivial⟩ ?_))))))
      refine nl (ct (sq (rg (xr 2 [(57, .load (.agg #[.int .i64 o.vk, .int .i64 o.vn, .string o.vt]))] [(57, .agg #[.int .i64 o.vk, .int .i64 o.vn, .string o.vt])] [55] [LoadsAs Tryd.prog 44 (⟨w.heap.size, 2, none⟩) (.agg #[.int .i64 o.vk, .int .i64 o.vn, .string o.vt]) w_12] ⟨loadsB rfl rfl (Blk.below hk_3 hb_13) 2 ⟨by kernel_rfl, by kernel_rfl⟩, trivial⟩ ?_))))
      refine xc 133 ent133 [.agg #[.int .i64 o.vk, .int .i64 o.vn, .string o.vt]] (r2check_any o.vk o.vn o.vt _ (by omega)) ?_
      rintro e w_15 ⟨rfl, hb_16⟩; refine ⟨_, rfl, ?_⟩
      refine xe0 1 [(1, pw w.heap.size 0), (4, .int .i64 (plainErr o.vk o.vn o.vt : Int))] ?_
      refine nl (sq (rg (xr0 1 [(59, .int .i64 (plainErr o.vk o.vn o.vt : Int))] [] ?_)))
      by_cases c_17 : (plainErr o.vk o.vn o.vt : Int) = 0
      ·refine xr 1 [(60, .eq (.bool false))] [(60, .bool false)] [59] [Value.bool ((plainErr o.vk o.vn o.vt : Int) != 0) = Value.bool false] ⟨congrArg Value.bool (bneF (c_17)), trivial⟩ ?_
       refine nl (cf (sk (sq (rg (xe 2 [(63, .load (.slice A o.attrs.length c))] [(63, .slice A o.attrs.length c)] [LoadsAs Tryd.prog 45 (⟨w.heap.size, 6, none⟩) (.slice A o.attrs.length c) w_15] ⟨loads1 rfl (Blk.cell (Blk.below hk_3 (bt hb_13 hb_16)) 6 _ rfl), trivial⟩ ?_)))))
       refine xc 33 ent33 [.slice A o.attrs.length c, .bool false] (r3check_any _ _ o.attrs false _ (Kd.C_below hA (bt (bt hb_2 hb_13) hb_16)) hz.2.2.2 (hT.below (bt (bt hb_2 hb_13) hb_16))) ?_
       rintro e w_18 ⟨rfl, hb_19⟩; refine ⟨_, rfl, ?_⟩
       refine xe0 1 [(2, .int .i64 (chkA false o.attrs : Int))] ?_
       refine nl (X_ret (rk [.int .i64 (chkA false o.attrs : Int)] (hR_ _ _ ?_)))
       rw [show refuseP o = chkA false o.attrs from by unfold refuseP; simp_all <;> omega]
       exact ⟨rfl, (bt (bt (bt hb_2 hb_13) hb_16) hb_19)⟩
      refine xr 1 [(60, .eq (.bool true))] [(60, .bool true)] [59] [Value.bool ((plainErr o.vk o.vn o.vt : Int) != 0) = Value.bool true] ⟨congrArg Value.bool (bneT (c_17)), trivial⟩ ?_
      refine nl (ct (sq (rg (xe0 2 [(2, .int .i64 (plainErr o.vk o.vn o.vt : Int))] ?_))))
      refine nl (X_ret (rk [.int .i64 (plainErr o.vk o.vn o.vt : Int)] (hR_ _ _ ?_)))
      rw [show refuseP o = plainErr o.vk o.vn o.vt from by unfold refuseP; simp_all <;> omega]
      exact ⟨rfl, (bt (bt hb_2 hb_13) hb_16)⟩
     rw [show ((uchk o.text).2 : Bool) = false from by simpa using c_14]
     refine xr0 1 [(52, .bool true)] [51] ?_
     refine nl (ct (sq (rg (xe0 1 [(2, .int .i64 1)] ?_))))
     refine nl (X_ret (rk [.int .i64 1] (hR_ _ _ ?_)))
     rw [show refuseP o = 1 from by unfold refuseP; simp_all <;> omega]
     exact ⟨rfl, (bt hb_2 hb_13)⟩
    refine xr 13 [(36, .eq (.bool false))] [(33, .bool false)] [35] [Value.bool (o.kind == 2) = Value.bool false] ⟨congrArg Value.bool (beq_eq_false_iff_ne.2 (c_10)), trivial⟩ ?_
    refine nl (cf (sk (sq (rg (xr 2 [(49, .load (.string o.text))] [(49, .string o.text)] [33] [LoadsAs Tryd.prog 9 (⟨w.heap.size, 1, none⟩) (.string o.text) w_1] ⟨loads1 rfl (Blk.cell hk_3 1 _ rfl), trivial⟩ ?_)))))
    refine xc 172 ent172 [.string o.text] (utf8_any o.text _ (by omega)) ?_
    rintro e w_20 ⟨rfl, hb_21⟩; refine ⟨_, rfl, ?_⟩
    refine xe0 1 [(1, pw w.heap.size 0), (3, .bool ((uchk o.text).2))] ?_
    refine nl (sq (sq (rg (xr0 1 [(51, .bool ((uchk o.text).2))] [3] ?_))))
    by_cases c_22 : (uchk o.text).2 = true
    ·rw [show ((uchk o.text).2 : Bool) = true from by simpa using c_22]
     refine xr0 1 [(52, .bool false)] [51] ?_
     refine nl (cf (sk (sq (sq (rg (xr 3 [(54, .load (.int .i64 o.kind)), (55, .eq (.bool false))] [(55, .bool false)] [52] [LoadsAs Tryd.prog 3 (⟨w.heap.size, 0, none⟩) (.int .i64 o.kind) w_20, Value.bool (o.kind == 2) = Value.bool false] ⟨loads1 rfl (Blk.cell (Blk.below hk_3 hb_21) 0 _ rfl), congrArg Value.bool (beq_eq_false_iff_ne.2 (c_10)), trivial⟩ ?_))))))
     refine nl (cf (sk (sq (rg (xe 2 [(63, .load (.slice A o.attrs.length c))] [(63, .slice A o.attrs.length c)] [LoadsAs Tryd.prog 45 (⟨w.heap.size, 6, none⟩) (.slice A o.attrs.length c) w_20] ⟨loads1 rfl (Blk.cell (Blk.below hk_3 hb_21) 6 _ rfl), trivial⟩ ?_)))))
     refine xc 33 ent33 [.slice A o.attrs.length c, .bool false] (r3check_any _ _ o.attrs false _ (Kd.C_below hA (bt hb_2 hb_21)) hz.2.2.2 (hT.below (bt hb_2 hb_21))) ?_
     rintro e w_23 ⟨rfl, hb_24⟩; refine ⟨_, rfl, ?_⟩
     refine xe0 1 [(2, .int .i64 (chkA false o.attrs : Int))] ?_
     refine nl (X_ret (rk [.int .i64 (chkA false o.attrs : Int)] (hR_ _ _ ?_)))
     rw [show refuseP o = chkA false o.attrs from by unfold refuseP; simp_all <;> omega]
     exact ⟨rfl, (bt (bt hb_2 hb_21) hb_24)⟩
    rw [show ((uchk o.text).2 : Bool) = false from by simpa using c_22]
    refine xr0 1 [(52, .bool true)] [51] ?_
    refine nl (ct (sq (rg (xe0 1 [(2, .int .i64 1)] ?_))))
    refine nl (X_ret (rk [.int .i64 1] (hR_ _ _ ?_)))
    rw [show refuseP o = 1 from by unfold refuseP; simp_all <;> omega]
    exact ⟨rfl, (bt hb_2 hb_21)⟩
   refine xr 4 [(30, .as (.bool true))] [(18, .bool true)] [22, 26, 28, 29] [RunsAs Tryd.prog [(28, .agg #[.int .i64 o.vk, .int .i64 o.vn, .string o.vt]), (29, .agg #[.int .i64 0, .int .i64 0, .string ByteArray.empty])] (Go.Op.binOp Go.BinOp.neq 44 (Go.Operand.tmp 28) (Go.Operand.tmp 29) 44) 4 (.bool true) w_1] ⟨runs_bin rfl rfl (run_eqGuard_agg _ _ _ _ _ _ _ (by kernel_rfl)) (by have h := plain_neq (o.vk, o.vn, o.vt) pl0 w_1; rw [show ple (o.vk, o.vn, o.vt) pl0 = false from Bool.eq_false_iff.2 (fun k => c_9 ((ple_iff _ _).1 k))] at h; exact h), trivial⟩ ?_
   refine nl (ct (sq (rg (xe0 1 [(2, .int .i64 9)] ?_))))
   refine nl (X_ret (rk [.int .i64 9] (hR_ _ _ ?_)))
   rw [show refuseP o = 9 from by unfold refuseP; simp_all <;> omega]
   exact ⟨rfl, hb_2⟩
  refine xr 2 [(17, .eq (.bool true))] [(14, .bool true)] [16] [Value.bool (o.count != 0) = Value.bool true] ⟨congrArg Value.bool (bneT (c_7)), trivial⟩ ?_
  refine nl (ct (sq (rg (xe0 1 [(2, .int .i64 9)] ?_))))
  refine nl (X_ret (rk [.int .i64 9] (hR_ _ _ ?_)))
  rw [show refuseP o = 9 from by unfold refuseP; simp_all <;> omega]
  exact ⟨rfl, hb_2⟩
 refine xr 4 [(8, .eq (.bool true)), (11, .load (.int .i64 o.kind))] [(9, .bool true), (11, .int .i64 o.kind)] [7] [Value.bool (o.kind != 1) = Value.bool true, LoadsAs Tryd.prog 3 (⟨w.heap.size, 0, none⟩) (.int .i64 o.kind) w_1] ⟨congrArg Value.bool (bneT (c_6)), loads1 rfl (Blk.cell hk_3 0 _ rfl), trivial⟩ ?_
 by_cases c_25 : o.kind = 2
 ·refine xr 3 [(12, .eq (.bool false))] [(5, .bool false)] [9, 11] [Value.bool (o.kind != 2) = Value.bool false] ⟨congrArg Value.bool (bneF (c_25)), trivial⟩ ?_
  refine nl (cf (sq (rg (xr 2 [(16, .load (.int .i64 o.count))] [(16, .int .i64 o.count)] [5] [LoadsAs Tryd.prog 3 (⟨w.heap.size, 5, none⟩) (.int .i64 o.count) w_1] ⟨loads1 rfl (Blk.cell hk_3 5 _ rfl), trivial⟩ ?_))))
  by_cases c_26 : o.count = 0
  ·refine xe 2 [(17, .eq (.bool false))] [(1, pw w.heap.size 0), (14, .bool false)] [Value.bool (o.count != 0) = Value.bool false] ⟨congrArg Value.bool (bneF (c_26)), trivial⟩ ?_
   refine nl (cf (sq (rg (xr 15 [(20, .load (.int .i64 o.kind)), (21, .eq (.bool false))] [(18, .bool false)] [14] [LoadsAs Tryd.prog 3 (⟨w.heap.size, 0, none⟩) (.int .i64 o.kind) w_1, Value.bool (o.kind == 1) = Value.bool false] ⟨loads1 rfl (Blk.cell hk_3 0 _ rfl), congrArg Value.bool (beq_eq_false_iff_ne.2 (c_6)), trivial⟩ ?_))))
   refine nl (cf (sq (rg (xr 6 [(35, .load (.int .i64 o.kind)), (36, .eq (.bool true)), (39, .load (.string o.text))] [(37, .bool true), (39, .string o.text)] [18] [LoadsAs Tryd.prog 3 (⟨w.heap.size, 0, none⟩) (.int .i64 o.kind) w_1, Value.bool (o.kind == 2) = Value.bool true, LoadsAs Tryd.prog 9 (⟨w.heap.size, 1, none⟩) (.string o.text) w_1] ⟨loads1 rfl (Blk.cell hk_3 0 _ rfl), congrArg Value.bool (beq_iff_eq.2 (c_25)), loads1 rfl (Blk.cell hk_3 1 _ rfl), trivial⟩ ?_))))
   by_cases c_27 : o.text = (⟨#[]⟩ : ByteArray)
   ·refine xr 9 [(40, .eq (.bool true))] [(33, .bool true)] [37, 39] [Value.bool (o.text.toList == (⟨#[]⟩ : ByteArray).toList) = Value.bool true] ⟨congrArg Value.bool (strEqT (c_27)), trivial⟩ ?_
    refine nl (ct (sq (rg (xe0 1 [(2, .int .i64 6)] ?_))))
    refine nl (X_ret (rk [.int .i64 6] (hR_ _ _ ?_)))
    rw [show refuseP o = 6 from by unfold refuseP; simp_all <;> omega]
    exact ⟨rfl, hb_2⟩
   refine xr 5 [(40, .eq (.bool false)), (43, .load (.string o.text))] [(41, .bool false), (44, .int .i64 (o.text.size : Int))] [39] [Value.bool (o.text.toList == (⟨#[]⟩ : ByteArray).toList) = Value.bool false, LoadsAs Tryd.prog 9 (⟨w.heap.size, 1, none⟩) (.string o.text) w_1] ⟨congrArg Value.bool (strEqF (c_27)), loads1 rfl (Blk.cell hk_3 1 _ rfl), trivial⟩ ?_
   by_cases c_28 : (o.text.size : Int) > 64
   ·refine xr 4 [(45, .eq (.bool true))] [(33, .bool true)] [37, 41, 44] [Value.bool (decide ((o.text.size : Int) > 64)) = Value.bool true] ⟨congrArg Value.bool (decide_eq_true (c_28)), trivial⟩ ?_
    refine nl (ct (sq (rg (xe0 1 [(2, .int .i64 6)] ?_))))
    refine nl (X_ret (rk [.int .i64 6] (hR_ _ _ ?_)))
    rw [show refuseP o = 6 from by unfold refuseP; simp_all <;> omega]
    exact ⟨rfl, hb_2⟩
   refine xr 4 [(45, .eq (.bool false))] [(33, .bool false)] [37, 41, 44] [Value.bool (decide ((o.text.size : Int) > 64)) = Value.bool false] ⟨congrArg Value.bool (decide_eq_false (c_28)), trivial⟩ ?_
   refine nl (cf (sk (sq (rg (xr 2 [(49, .load (.string o.text))] [(49, .string o.text)] [33] [LoadsAs Tryd.prog 9 (⟨w.heap.size, 1, none⟩) (.string o.text) w_1] ⟨loads1 rfl (Blk.cell hk_3 1 _ rfl), trivial⟩ ?_)))))
   refine xc 172 ent172 [.string o.text] (utf8_any o.text _ (by omega)) ?_
   rintro e w_29 ⟨rfl, hb_30⟩; refine ⟨_, rfl, ?_⟩
   refine xe0 1 [(1, pw w.heap.size 0), (3, .bool ((uchk o.text).2))] ?_
   refine nl (sq (sq (rg (xr0 1 [(51, .bool ((uchk o.text).2))] [3] ?_))))
   by_cases c_31 : (uchk o.text).2 = true
   ·rw [show ((uchk o.text).2 : Bool) = true from by simpa using c_31]
    refine xr0 1 [(52, .bool false)] [51] ?_
    refine nl (cf (sk (sq (sq (rg (xr 3 [(54, .load (.int .i64 o.kind)), (55, .eq (.bool true))] [(55, .bool true)] [52] [LoadsAs Tryd.prog 3 (⟨w.heap.size, 0, none⟩) (.int .i64 o.kind) w_29, Value.bool (o.kind == 2) = Value.bool true] ⟨loads1 rfl (Blk.cell (Blk.below hk_3 hb_30) 0 _ rfl), congrArg Value.bool (beq_iff_eq.2 (c_25)), trivial⟩ ?_))))))
    refine nl (ct (sq (rg (xr 2 [(57, .load (.agg #[.int .i64 o.vk, .int .i64 o.vn, .string o.vt]))] [(57, .agg #[.int .i64 o.vk, .int .i64 o.vn, .string o.vt])] [55] [LoadsAs Tryd.prog 44 (⟨w.heap.size, 2, none⟩) (.agg #[.int .i64 o.vk, .int .i64 o.vn, .string o.vt]) w_29] ⟨loadsB rfl rfl (Blk.below hk_3 hb_30) 2 ⟨by kernel_rfl, by kernel_rfl⟩, trivial⟩ ?_))))
    refine xc 133 ent133 [.agg #[.int .i64 o.vk, .int .i64 o.vn, .string o.vt]] (r2check_any o.vk o.vn o.vt _ (by omega)) ?_
    rintro e w_32 ⟨rfl, hb_33⟩; refine ⟨_, rfl, ?_⟩
    refine xr0 1 [(4, .int .i64 (plainErr o.vk o.vn o.vt : Int))] [57, 58] ?_
    refine nl (sq (rg (xe0 1 [(1, pw w.heap.size 0), (4, .int .i64 (plainErr o.vk o.vn o.vt : Int)), (59, .int .i64 (plainErr o.vk o.vn o.vt : Int))] ?_)))
    by_cases c_34 : (plainErr o.vk o.vn o.vt : Int) = 0
    ·refine xr 1 [(60, .eq (.bool false))] [(60, .bool false)] [59] [Value.bool ((plainErr o.vk o.vn o.vt : Int) != 0) = Value.bool false] ⟨congrArg Value.bool (bneF (c_34)), trivial⟩ ?_
     refine nl (cf (sk (sq (rg (xe 2 [(63, .load (.slice A o.attrs.length c))] [(63, .slice A o.attrs.length c)] [LoadsAs Tryd.prog 45 (⟨w.heap.size, 6, none⟩) (.slice A o.attrs.length c) w_32] ⟨loads1 rfl (Blk.cell (Blk.below hk_3 (bt hb_30 hb_33)) 6 _ rfl), trivial⟩ ?_)))))
     refine xc 33 ent33 [.slice A o.attrs.length c, .bool false] (r3check_any _ _ o.attrs false _ (Kd.C_below hA (bt (bt hb_2 hb_30) hb_33)) hz.2.2.2 (hT.below (bt (bt hb_2 hb_30) hb_33))) ?_
     rintro e w_35 ⟨rfl, hb_36⟩; refine ⟨_, rfl, ?_⟩
     refine xe0 1 [(2, .int .i64 (chkA false o.attrs : Int))] ?_
     refine nl (X_ret (rk [.int .i64 (chkA false o.attrs : Int)] (hR_ _ _ ?_)))
     rw [show refuseP o = chkA false o.attrs from by unfold refuseP; simp_all <;> omega]
     exact ⟨rfl, (bt (bt (bt hb_2 hb_30) hb_33) hb_36)⟩
    refine xr 1 [(60, .eq (.bool true))] [(60, .bool true)] [59] [Value.bool ((plainErr o.vk o.vn o.vt : Int) != 0) = Value.bool true] ⟨congrArg Value.bool (bneT (c_34)), trivial⟩ ?_
    refine nl (ct (sq (rg (xe0 2 [(2, .int .i64 (plainErr o.vk o.vn o.vt : Int))] ?_))))
    refine nl (X_ret (rk [.int .i64 (plainErr o.vk o.vn o.vt : Int)] (hR_ _ _ ?_)))
    rw [show refuseP o = plainErr o.vk o.vn o.vt from by unfold refuseP; simp_all <;> omega]
    exact ⟨rfl, (bt (bt hb_2 hb_30) hb_33)⟩
   rw [show ((uchk o.text).2 : Bool) = false from by simpa using c_31]
   refine xr0 1 [(52, .bool true)] [51] ?_
   refine nl (ct (sq (rg (xe0 1 [(2, .int .i64 1)] ?_))))
   refine nl (X_ret (rk [.int .i64 1] (hR_ _ _ ?_)))
   rw [show refuseP o = 1 from by unfold refuseP; simp_all <;> omega]
   exact ⟨rfl, (bt hb_2 hb_30)⟩
  refine xe 2 [(17, .eq (.bool true))] [(1, pw w.heap.size 0), (14, .bool true)] [Value.bool (o.count != 0) = Value.bool true] ⟨congrArg Value.bool (bneT (c_26)), trivial⟩ ?_
  refine nl (ct (sq (rg (xe0 1 [(2, .int .i64 9)] ?_))))
  refine nl (X_ret (rk [.int .i64 9] (hR_ _ _ ?_)))
  rw [show refuseP o = 9 from by unfold refuseP; simp_all <;> omega]
  exact ⟨rfl, hb_2⟩
 refine xr 3 [(12, .eq (.bool true))] [(5, .bool true)] [9, 11] [Value.bool (o.kind != 2) = Value.bool true] ⟨congrArg Value.bool (bneT (c_25)), trivial⟩ ?_
 refine nl (ct (sq (rg (xe0 1 [(2, .int .i64 5)] ?_))))
 refine nl (X_ret (rk [.int .i64 5] (hR_ _ _ ?_)))
 rw [show refuseP o = 5 from by unfold refuseP; simp_all <;> omega]
 exact ⟨rfl, hb_2⟩
set_option maxHeartbeats 2000000 in
theorem r5empty_any (o : OpA) (A : Option Addr) (c : Nat) (w : World) (hA : kAttr.C w A o.attrs.length o.attrs) (hz : opSz o) : Calls Tryd.prog 158 #[.agg #[.int .i64 o.kind, .string o.text, .int .i64 o.vk, .int .i64 o.vn, .string o.vt, .int .i64 o.count, .slice A o.attrs.length c]] w fun e w' => e = .returned (.bool (hasP o)) ∧ Below w.heap.size w w' := by
 refine RX.enter Tryd.func158 rfl 49 rfl [(0, .agg #[.int .i64 o.kind, .string o.text, .int .i64 o.vk, .int .i64 o.vn, .string o.vt, .int .i64 o.count, .slice A o.attrs.length c])] rfl (by kernel_rfl) (fun R_ hR_ => ?_)
 refine sq (rg (xwe 1 [] [(1, pw w.heap.size 0)] (w.alloc (.cells #[.int .i64 o.kind, .string o.text, .int .i64 o.vk, .int .i64 o.vn, .string o.vt, .int .i64 o.count, .slice A o.attrs.length c] 47)) [] trivial ?_))
 obtain ⟨w_1, hw_5, hb_2, hk_3, hz_4⟩ := new_world w #[.int .i64 o.kind, .string o.text, .int .i64 o.vk, .int .i64 o.vn, .string o.vt, .int .i64 o.count, .slice A o.attrs.length c] 47
 rw [hw_5]
 refine xr0 1 [] [] ?_
 refine nl (sq (sq (rg (xr 2 [(4, .load (.int .i64 o.kind))] [(4, .int .i64 o.kind)] [] [LoadsAs Tryd.prog 3 (⟨w.heap.size, 0, none⟩) (.int .i64 o.kind) w_1] ⟨loads1 rfl (Blk.cell hk_3 0 _ rfl), trivial⟩ ?_))))
 refine nl (bk (sq (X_region ?_)))
 by_cases c_6 : o.kind = 1
 ·refine xr 2 [(6, .eq (.bool true))] [(5, .bool true)] [] [Value.bool (o.kind == 1) = Value.bool true] ⟨congrArg Value.bool (beq_iff_eq.2 (c_6)), trivial⟩ ?_
  refine nl (ct (sq (rg (xr 2 [(8, .load (.int .i64 o.count))] [(8, .int .i64 o.count)] [4, 5] [LoadsAs Tryd.prog 3 (⟨w.heap.size, 5, none⟩) (.int .i64 o.count) w_1] ⟨loads1 rfl (Blk.cell hk_3 5 _ rfl), trivial⟩ ?_))))
  by_cases c_7 : o.count = 0
  ·refine xe 5 [(9, .eq (.bool true)), (12, .load (.agg #[.int .i64 o.vk, .int .i64 o.vn, .string o.vt]))] [(10, .bool true), (12, .agg #[.int .i64 o.vk, .int .i64 o.vn, .string o.vt]), (13, .agg #[.int .i64 0, .int .i64 0, .string ByteArray.empty])] [Value.bool (o.count == 0) = Value.bool true, LoadsAs Tryd.prog 44 (⟨w.heap.size, 2, none⟩) (.agg #[.int .i64 o.vk, .int .i64 o.vn, .string o.vt]) w_1] ⟨congrArg Value.bool (beq_iff_eq.2 (c_7)), loadsB rfl rfl hk_3 2 ⟨by kernel_rfl, by kernel_rfl⟩, trivial⟩ ?_
   by_cases c_8 : (o.vk, o.vn, o.vt) = pl0
   ·refine xe 3 [(14, .as (.bool true))] [(2, .bool true)] [RunsAs Tryd.prog [(12, .agg #[.int .i64 o.vk, .int .i64 o.vn, .string o.vt]), (13, .agg #[.int .i64 0, .int .i64 0, .string ByteArray.empty])] (Go.Op.binOp Go.BinOp.eql 44 (Go.Operand.tmp 12) (Go.Operand.tmp 13) 44) 4 (.bool true) w_1] ⟨runs_bin rfl rfl (run_eqGuard_agg _ _ _ _ _ _ _ (by kernel_rfl)) (by have h := plain_eqb (o.vk, o.vn, o.vt) pl0 w_1; rw [show ple (o.vk, o.vn, o.vt) pl0 = true from (ple_iff _ _).2 c_8] at h; exact h), trivial⟩ ?_
    refine nl (X_ret (rk [.bool true] (hR_ _ _ ?_)))
    rw [show hasP o = true from by unfold hasP; simp_all]
    exact ⟨rfl, hb_2⟩
   refine xe 3 [(14, .as (.bool false))] [(2, .bool false)] [RunsAs Tryd.prog [(12, .agg #[.int .i64 o.vk, .int .i64 o.vn, .string o.vt]), (13, .agg #[.int .i64 0, .int .i64 0, .string ByteArray.empty])] (Go.Op.binOp Go.BinOp.eql 44 (Go.Operand.tmp 12) (Go.Operand.tmp 13) 44) 4 (.bool false) w_1] ⟨runs_bin rfl rfl (run_eqGuard_agg _ _ _ _ _ _ _ (by kernel_rfl)) (by have h := plain_eqb (o.vk, o.vn, o.vt) pl0 w_1; rw [show ple (o.vk, o.vn, o.vt) pl0 = false from Bool.eq_false_iff.2 (fun k => c_8 ((ple_iff _ _).1 k))] at h; exact h), trivial⟩ ?_
   refine nl (X_ret (rk [.bool false] (hR_ _ _ ?_)))
   rw [show hasP o = false from by unfold hasP; simp_all]
   exact ⟨rfl, hb_2⟩
  refine xe 8 [(9, .eq (.bool false))] [(2, .bool false)] [Value.bool (o.count == 0) = Value.bool false] ⟨congrArg Value.bool (beq_eq_false_iff_ne.2 (c_7)), trivial⟩ ?_
  refine nl (X_ret (rk [.bool false] (hR_ _ _ ?_)))
  rw [show hasP o = false from by unfold hasP; simp_all]
  exact ⟨rfl, hb_2⟩
 refine xr 2 [(6, .eq (.bool false))] [(5, .bool false)] [] [Value.bool (o.kind == 1) = Value.bool false] ⟨congrArg Value.bool (beq_eq_false_iff_ne.2 (c_6)), trivial⟩ ?_
 refine nl (cf (sq (X_region ?_)))
 by_cases c_9 : o.kind = 2
 ·refine xr 2 [(17, .eq (.bool true))] [(16, .bool true)] [5] [Value.bool (o.kind == 2) = Value.bool true] ⟨congrArg Value.bool (beq_iff_eq.2 (c_9)), trivial⟩ ?_
  refine nl (ct (sq (rg (xe 2 [(19, .load (.int .i64 o.count))] [(19, .int .i64 o.count)] [LoadsAs Tryd.prog 3 (⟨w.heap.size, 5, none⟩) (.int .i64 o.count) w_1] ⟨loads1 rfl (Blk.cell hk_3 5 _ rfl), trivial⟩ ?_))))
  by_cases c_10 : o.count = 0
  ·refine xe 2 [(20, .eq (.bool true))] [(2, .bool true)] [Value.bool (o.count == 0) = Value.bool true] ⟨congrArg Value.bool (beq_iff_eq.2 (c_10)), trivial⟩ ?_
   refine nl (X_ret (rk [.bool true] (hR_ _ _ ?_)))
   rw [show hasP o = true from by unfold hasP; simp_all]
   exact ⟨rfl, hb_2⟩
  refine xe 2 [(20, .eq (.bool false))] [(2, .bool false)] [Value.bool (o.count == 0) = Value.bool false] ⟨congrArg Value.bool (beq_eq_false_iff_ne.2 (c_10)), trivial⟩ ?_
  refine nl (X_ret (rk [.bool false] (hR_ _ _ ?_)))
  rw [show hasP o = false from by unfold hasP; simp_all]
  exact ⟨rfl, hb_2⟩
 refine xr 2 [(17, .eq (.bool false))] [(16, .bool false)] [5] [Value.bool (o.kind == 2) = Value.bool false] ⟨congrArg Value.bool (beq_eq_false_iff_ne.2 (c_9)), trivial⟩ ?_
 refine nl (cf (sq (X_region ?_)))
 by_cases c_11 : o.kind = 3
 ·refine xr 2 [(22, .eq (.bool true))] [(21, .bool true)] [16] [Value.bool (o.kind == 3) = Value.bool true] ⟨congrArg Value.bool (beq_iff_eq.2 (c_11)), trivial⟩ ?_
  refine nl (ct (sq (rg (xe 2 [(24, .load (.string o.text))] [(1, pw w.heap.size 0), (24, .string o.text)] [LoadsAs Tryd.prog 9 (⟨w.heap.size, 1, none⟩) (.string o.text) w_1] ⟨loads1 rfl (Blk.cell hk_3 1 _ rfl), trivial⟩ ?_))))
  by_cases c_12 : o.text = (⟨#[]⟩ : ByteArray)
  ·refine xe 5 [(25, .eq (.bool true)), (28, .load (.agg #[.int .i64 o.vk, .int .i64 o.vn, .string o.vt]))] [(26, .bool true), (28, .agg #[.int .i64 o.vk, .int .i64 o.vn, .string o.vt]), (29, .agg #[.int .i64 0, .int .i64 0, .string ByteArray.empty])] [Value.bool (o.text.toList == (⟨#[]⟩ : ByteArray).toList) = Value.bool true, LoadsAs Tryd.prog 44 (⟨w.heap.size, 2, none⟩) (.agg #[.int .i64 o.vk, .int .i64 o.vn, .string o.vt]) w_1] ⟨congrArg Value.bool (strEqT (c_12)), loadsB rfl rfl hk_3 2 ⟨by kernel_rfl, by kernel_rfl⟩, trivial⟩ ?_
   by_cases c_13 : (o.vk, o.vn, o.vt) = pl0
   ·refine xe 3 [(30, .as (.bool true))] [(2, .bool true)] [RunsAs Tryd.prog [(28, .agg #[.int .i64 o.vk, .int .i64 o.vn, .string o.vt]), (29, .agg #[.int .i64 0, .int .i64 0, .string ByteArray.empty])] (Go.Op.binOp Go.BinOp.eql 44 (Go.Operand.tmp 28) (Go.Operand.tmp 29) 44) 4 (.bool true) w_1] ⟨runs_bin rfl rfl (run_eqGuard_agg _ _ _ _ _ _ _ (by kernel_rfl)) (by have h := plain_eqb (o.vk, o.vn, o.vt) pl0 w_1; rw [show ple (o.vk, o.vn, o.vt) pl0 = true from (ple_iff _ _).2 c_13] at h; exact h), trivial⟩ ?_
    refine nl (X_ret (rk [.bool true] (hR_ _ _ ?_)))
    rw [show hasP o = true from by unfold hasP; simp_all]
    exact ⟨rfl, hb_2⟩
   refine xe 3 [(30, .as (.bool false))] [(2, .bool false)] [RunsAs Tryd.prog [(28, .agg #[.int .i64 o.vk, .int .i64 o.vn, .string o.vt]), (29, .agg #[.int .i64 0, .int .i64 0, .string ByteArray.empty])] (Go.Op.binOp Go.BinOp.eql 44 (Go.Operand.tmp 28) (Go.Operand.tmp 29) 44) 4 (.bool false) w_1] ⟨runs_bin rfl rfl (run_eqGuard_agg _ _ _ _ _ _ _ (by kernel_rfl)) (by have h := plain_eqb (o.vk, o.vn, o.vt) pl0 w_1; rw [show ple (o.vk, o.vn, o.vt) pl0 = false from Bool.eq_false_iff.2 (fun k => c_13 ((ple_iff _ _).1 k))] at h; exact h), trivial⟩ ?_
   refine nl (X_ret (rk [.bool false] (hR_ _ _ ?_)))
   rw [show hasP o = false from by unfold hasP; simp_all]
   exact ⟨rfl, hb_2⟩
  refine xe 8 [(25, .eq (.bool false))] [(2, .bool false)] [Value.bool (o.text.toList == (⟨#[]⟩ : ByteArray).toList) = Value.bool false] ⟨congrArg Value.bool (strEqF (c_12)), trivial⟩ ?_
  refine nl (X_ret (rk [.bool false] (hR_ _ _ ?_)))
  rw [show hasP o = false from by unfold hasP; simp_all]
  exact ⟨rfl, hb_2⟩
 refine xr 2 [(22, .eq (.bool false))] [(21, .bool false)] [16] [Value.bool (o.kind == 3) = Value.bool false] ⟨congrArg Value.bool (beq_eq_false_iff_ne.2 (c_11)), trivial⟩ ?_
 refine nl (cf (sq (X_region ?_)))
 by_cases c_14 : o.kind = 4
 ·refine xe 2 [(33, .eq (.bool true))] [(1, pw w.heap.size 0), (32, .bool true)] [Value.bool (o.kind == 4) = Value.bool true] ⟨congrArg Value.bool (beq_iff_eq.2 (c_14)), trivial⟩ ?_
  refine nl (ct (sq (rg (xr 2 [(35, .load (.string o.text))] [(35, .string o.text)] [32] [LoadsAs Tryd.prog 9 (⟨w.heap.size, 1, none⟩) (.string o.text) w_1] ⟨loads1 rfl (Blk.cell hk_3 1 _ rfl), trivial⟩ ?_))))
  by_cases c_15 : o.text = (⟨#[]⟩ : ByteArray)
  ·refine xr 5 [(36, .eq (.bool true)), (39, .load (.agg #[.int .i64 o.vk, .int .i64 o.vn, .string o.vt]))] [(37, .bool true), (39, .agg #[.int .i64 o.vk, .int .i64 o.vn, .string o.vt]), (40, .agg #[.int .i64 0, .int .i64 0, .string ByteArray.empty])] [35] [Value.bool (o.text.toList == (⟨#[]⟩ : ByteArray).toList) = Value.bool true, LoadsAs Tryd.prog 44 (⟨w.heap.size, 2, none⟩) (.agg #[.int .i64 o.vk, .int .i64 o.vn, .string o.vt]) w_1] ⟨congrArg Value.bool (strEqT (c_15)), loadsB rfl rfl hk_3 2 ⟨by kernel_rfl, by kernel_rfl⟩, trivial⟩ ?_
   by_cases c_16 : (o.vk, o.vn, o.vt) = pl0
   ·refine xe 6 [(41, .as (.bool true)), (45, .load (.slice A o.attrs.length c))] [(43, .bool true), (46, .int .i64 (o.attrs.length : Int))] [RunsAs Tryd.prog [(39, .agg #[.int .i64 o.vk, .int .i64 o.vn, .string o.vt]), (40, .agg #[.int .i64 0, .int .i64 0, .string ByteArray.empty])] (Go.Op.binOp Go.BinOp.eql 44 (Go.Operand.tmp 39) (Go.Operand.tmp 40) 44) 4 (.bool true) w_1, LoadsAs Tryd.prog 45 (⟨w.heap.size, 6, none⟩) (.slice A o.attrs.length c) w_1] ⟨runs_bin rfl rfl (run_eqGuard_agg _ _ _ _ _ _ _ (by kernel_rfl)) (by have h := plain_eqb (o.vk, o.vn, o.vt) pl0 w_1; rw [show ple (o.vk, o.vn, o.vt) pl0 = true from (ple_iff _ _).2 c_16] at h; exact h), loads1 rfl (Blk.cell hk_3 6 _ rfl), trivial⟩ ?_
    by_cases c_17 : (o.attrs.length : Int) = 0
    ·refine xe 3 [(47, .eq (.bool true))] [(2, .bool true)] [Value.bool ((o.attrs.length : Int) == 0) = Value.bool true] ⟨congrArg Value.bool (beq_iff_eq.2 (c_17)), trivial⟩ ?_
     refine nl (X_ret (rk [.bool true] (hR_ _ _ ?_)))
     rw [show hasP o = true from by unfold hasP; simp_all]
     exact ⟨rfl, hb_2⟩
    refine xe 3 [(47, .eq (.bool false))] [(2, .bool false)] [Value.bool ((o.attrs.length : Int) == 0) = Value.bool false] ⟨congrArg Value.bool (beq_eq_false_iff_ne.2 (c_17)), trivial⟩ ?_
    refine nl (X_ret (rk [.bool false] (hR_ _ _ ?_)))
    rw [show hasP o = false from by unfold hasP; simp_all]
    exact ⟨rfl, hb_2⟩
   refine xe 9 [(41, .as (.bool false))] [(2, .bool false)] [RunsAs Tryd.prog [(39, .agg #[.int .i64 o.vk, .int .i64 o.vn, .string o.vt]), (40, .agg #[.int .i64 0, .int .i64 0, .string ByteArray.empty])] (Go.Op.binOp Go.BinOp.eql 44 (Go.Operand.tmp 39) (Go.Operand.tmp 40) 44) 4 (.bool false) w_1] ⟨runs_bin rfl rfl (run_eqGuard_agg _ _ _ _ _ _ _ (by kernel_rfl)) (by have h := plain_eqb (o.vk, o.vn, o.vt) pl0 w_1; rw [show ple (o.vk, o.vn, o.vt) pl0 = false from Bool.eq_false_iff.2 (fun k => c_16 ((ple_iff _ _).1 k))] at h; exact h), trivial⟩ ?_
   refine nl (X_ret (rk [.bool false] (hR_ _ _ ?_)))
   rw [show hasP o = false from by unfold hasP; simp_all]
   exact ⟨rfl, hb_2⟩
  refine xe 14 [(36, .eq (.bool false))] [(2, .bool false)] [Value.bool (o.text.toList == (⟨#[]⟩ : ByteArray).toList) = Value.bool false] ⟨congrArg Value.bool (strEqF (c_15)), trivial⟩ ?_
  refine nl (X_ret (rk [.bool false] (hR_ _ _ ?_)))
  rw [show hasP o = false from by unfold hasP; simp_all]
  exact ⟨rfl, hb_2⟩
 refine xe 2 [(33, .eq (.bool false))] [(1, pw w.heap.size 0), (32, .bool false)] [Value.bool (o.kind == 4) = Value.bool false] ⟨congrArg Value.bool (beq_eq_false_iff_ne.2 (c_14)), trivial⟩ ?_
 refine nl (cf (sk (sq (rg (xe0 1 [(2, .bool false)] ?_)))))
 refine nl (X_ret (rk [.bool false] (hR_ _ _ ?_)))
 rw [show hasP o = false from by unfold hasP; simp_all]
 exact ⟨rfl, hb_2⟩
theorem r5check_any (o : OpA) (A : Option Addr) (c : Nat) (w : World) (hA : kAttr.C w A o.attrs.length o.attrs) (hz : opSz o) (hT : Tabs w) : Calls Tryd.prog 124 #[.agg #[.int .i64 o.kind, .string o.text, .int .i64 o.vk, .int .i64 o.vn, .string o.vt, .int .i64 o.count, .slice A o.attrs.length c]] w fun e w' => e = .returned (.int .i64 (pErr o : Int)) ∧ Below w.heap.size w w' := by
 refine RX.enter Tryd.func124 rfl 28 rfl [(0, .agg #[.int .i64 o.kind, .string o.text, .int .i64 o.vk, .int .i64 o.vn, .string o.vt, .int .i64 o.count, .slice A o.attrs.length c])] rfl (by kernel_rfl) (fun R_ hR_ => ?_)
 refine sq (rg (xwe 1 [] [(1, pw w.heap.size 0)] (w.alloc (.cells #[.int .i64 o.kind, .string o.text, .int .i64 o.vk, .int .i64 o.vn, .string o.vt, .int .i64 o.count, .slice A o.attrs.length c] 47)) [] trivial ?_))
 obtain ⟨w_1, hw_5, hb_2, hk_3, hz_4⟩ := new_world w #[.int .i64 o.kind, .string o.text, .int .i64 o.vk, .int .i64 o.vn, .string o.vt, .int .i64 o.count, .slice A o.attrs.length c] 47
 rw [hw_5]
 refine xr0 1 [] [] ?_
 refine nl (sq (sq (rg (xr 1 [(3, .load (.agg #[.int .i64 o.kind, .string o.text, .int .i64 o.vk, .int .i64 o.vn, .string o.vt, .int .i64 o.count, .slice A o.attrs.length c]))] [(3, .agg #[.int .i64 o.kind, .string o.text, .int .i64 o.vk, .int .i64 o.vn, .string o.vt, .int .i64 o.count, .slice A o.attrs.length c])] [] [LoadsAs Tryd.prog 47 (⟨w.heap.size, 0, none⟩) (.agg #[.int .i64 o.kind, .string o.text, .int .i64 o.vk, .int .i64 o.vn, .string o.vt, .int .i64 o.count, .slice A o.attrs.length c]) w_1] ⟨loadsB rfl rfl hk_3 0 ⟨by kernel_rfl, by kernel_rfl⟩, trivial⟩ ?_))))
 refine xc 158 ent158 [.agg #[.int .i64 o.kind, .string o.text, .int .i64 o.vk, .int .i64 o.vn, .string o.vt, .int .i64 o.count, .slice A o.attrs.length c]] (r5empty_any o _ _ _ (Kd.C_below hA hb_2) hz) ?_
 rintro e w_6 ⟨rfl, hb_7⟩; refine ⟨_, rfl, ?_⟩
 by_cases c_8 : hasP o = true
 ·rw [show (hasP o : Bool) = true from by simpa using c_8]
  refine xr0 1 [(5, .bool false)] [3, 4] ?_
  refine nl (cf (sk (sq (sq (rg (xr 2 [(7, .load (.int .i64 o.kind))] [(7, .int .i64 o.kind)] [5] [LoadsAs Tryd.prog 3 (⟨w.heap.size, 0, none⟩) (.int .i64 o.kind) w_6] ⟨loads1 rfl (Blk.cell (Blk.below hk_3 hb_7) 0 _ rfl), trivial⟩ ?_))))))
  by_cases c_9 : o.kind = 1
  ·refine xr 6 [(8, .eq (.bool true))] [(13, .bool true)] [7] [Value.bool (o.kind == 1) = Value.bool true] ⟨congrArg Value.bool (beq_iff_eq.2 (c_9)), trivial⟩ ?_
   refine nl (ct (sq (rg (xe 1 [(14, .load (.agg #[.int .i64 o.kind, .string o.text, .int .i64 o.vk, .int .i64 o.vn, .string o.vt, .int .i64 o.count, .slice A o.attrs.length c]))] [(14, .agg #[.int .i64 o.kind, .string o.text, .int .i64 o.vk, .int .i64 o.vn, .string o.vt, .int .i64 o.count, .slice A o.attrs.length c])] [LoadsAs Tryd.prog 47 (⟨w.heap.size, 0, none⟩) (.agg #[.int .i64 o.kind, .string o.text, .int .i64 o.vk, .int .i64 o.vn, .string o.vt, .int .i64 o.count, .slice A o.attrs.length c]) w_6] ⟨loadsB rfl rfl (Blk.below hk_3 hb_7) 0 ⟨by kernel_rfl, by kernel_rfl⟩, trivial⟩ ?_))))
   refine xc 159 ent159 [.agg #[.int .i64 o.kind, .string o.text, .int .i64 o.vk, .int .i64 o.vn, .string o.vt, .int .i64 o.count, .slice A o.attrs.length c]] (r4refuse_any o _ _ _ (Kd.C_below hA (bt hb_2 hb_7)) hz (hT.below (bt hb_2 hb_7))) ?_
   rintro e w_10 ⟨rfl, hb_11⟩; refine ⟨_, rfl, ?_⟩
   refine xe0 1 [(2, .int .i64 (refuseP o : Int))] ?_
   refine nl (X_ret (rk [.int .i64 (refuseP o : Int)] (hR_ _ _ ?_)))
   have hpe : pErr o = refuseP o := by unfold pErr; simp_all
   rw [hpe]
   exact ⟨rfl, (bt (bt hb_2 hb_7) hb_11)⟩
  refine xr 4 [(8, .eq (.bool false)), (11, .load (.int .i64 o.kind))] [(9, .bool false), (11, .int .i64 o.kind)] [7] [Value.bool (o.kind == 1) = Value.bool false, LoadsAs Tryd.prog 3 (⟨w.heap.size, 0, none⟩) (.int .i64 o.kind) w_6] ⟨congrArg Value.bool (beq_eq_false_iff_ne.2 (c_9)), loads1 rfl (Blk.cell (Blk.below hk_3 hb_7) 0 _ rfl), trivial⟩ ?_
  by_cases c_12 : o.kind = 2
  ·refine xe 2 [(12, .eq (.bool true))] [(1, pw w.heap.size 0), (13, .bool true)] [Value.bool (o.kind == 2) = Value.bool true] ⟨congrArg Value.bool (beq_iff_eq.2 (c_12)), trivial⟩ ?_
   refine nl (ct (sq (rg (xe 1 [(14, .load (.agg #[.int .i64 o.kind, .string o.text, .int .i64 o.vk, .int .i64 o.vn, .string o.vt, .int .i64 o.count, .slice A o.attrs.length c]))] [(14, .agg #[.int .i64 o.kind, .string o.text, .int .i64 o.vk, .int .i64 o.vn, .string o.vt, .int .i64 o.count, .slice A o.attrs.length c])] [LoadsAs Tryd.prog 47 (⟨w.heap.size, 0, none⟩) (.agg #[.int .i64 o.kind, .string o.text, .int .i64 o.vk, .int .i64 o.vn, .string o.vt, .int .i64 o.count, .slice A o.attrs.length c]) w_6] ⟨loadsB rfl rfl (Blk.below hk_3 hb_7) 0 ⟨by kernel_rfl, by kernel_rfl⟩, trivial⟩ ?_))))
   refine xc 159 ent159 [.agg #[.int .i64 o.kind, .string o.text, .int .i64 o.vk, .int .i64 o.vn, .string o.vt, .int .i64 o.count, .slice A o.attrs.length c]] (r4refuse_any o _ _ _ (Kd.C_below hA (bt hb_2 hb_7)) hz (hT.below (bt hb_2 hb_7))) ?_
   rintro e w_13 ⟨rfl, hb_14⟩; refine ⟨_, rfl, ?_⟩
   refine xe0 1 [(2, .int .i64 (refuseP o : Int))] ?_
   refine nl (X_ret (rk [.int .i64 (refuseP o : Int)] (hR_ _ _ ?_)))
   have hpe : pErr o = refuseP o := by unfold pErr; simp_all
   rw [hpe]
   exact ⟨rfl, (bt (bt hb_2 hb_7) hb_14)⟩
  refine xe 2 [(12, .eq (.bool false))] [(1, pw w.heap.size 0), (13, .bool false)] [Value.bool (o.kind == 2) = Value.bool false] ⟨congrArg Value.bool (beq_eq_false_iff_ne.2 (c_12)), trivial⟩ ?_
  refine nl (cf (sk (sq (sq (rg (xr 2 [(17, .load (.int .i64 o.count))] [(17, .int .i64 o.count)] [13] [LoadsAs Tryd.prog 3 (⟨w.heap.size, 5, none⟩) (.int .i64 o.count) w_6] ⟨loads1 rfl (Blk.cell (Blk.below hk_3 hb_7) 5 _ rfl), trivial⟩ ?_))))))
  by_cases c_15 : o.count < 1
  ·refine xr 1 [(18, .eq (.bool true))] [(18, .bool true)] [17] [Value.bool (decide (o.count < 1)) = Value.bool true] ⟨congrArg Value.bool (decide_eq_true (c_15)), trivial⟩ ?_
   refine nl (ct (sq (rg (xe0 1 [(2, .int .i64 9)] ?_))))
   refine nl (X_ret (rk [.int .i64 9] (hR_ _ _ ?_)))
   have hpe : pErr o = 9 := by rw [pErr_small c_8 c_9 c_12]; first | (rw [if_pos (by omega)]; done) | (rw [if_neg (by omega), if_pos (by omega)]; done) | (rw [if_neg (by omega), if_neg (by omega), if_pos (by omega)]; done) | (rw [if_neg (by omega), if_neg (by omega), if_neg (by omega)])
   rw [hpe]
   exact ⟨rfl, (bt hb_2 hb_7)⟩
  refine xr 1 [(18, .eq (.bool false))] [(18, .bool false)] [17] [Value.bool (decide (o.count < 1)) = Value.bool false] ⟨congrArg Value.bool (decide_eq_false (c_15)), trivial⟩ ?_
  refine nl (cf (sk (sq (sq (rg (xr 2 [(20, .load (.int .i64 o.count))] [(20, .int .i64 o.count)] [18] [LoadsAs Tryd.prog 3 (⟨w.heap.size, 5, none⟩) (.int .i64 o.count) w_6] ⟨loads1 rfl (Blk.cell (Blk.below hk_3 hb_7) 5 _ rfl), trivial⟩ ?_))))))
  by_cases c_16 : o.count > 1099511627776
  ·refine xr 1 [(21, .eq (.bool true))] [(21, .bool true)] [20] [Value.bool (decide (o.count > 1099511627776)) = Value.bool true] ⟨congrArg Value.bool (decide_eq_true (c_16)), trivial⟩ ?_
   refine nl (ct (sq (rg (xe0 1 [(2, .int .i64 11)] ?_))))
   refine nl (X_ret (rk [.int .i64 11] (hR_ _ _ ?_)))
   have hpe : pErr o = 11 := by rw [pErr_small c_8 c_9 c_12]; first | (rw [if_pos (by omega)]; done) | (rw [if_neg (by omega), if_pos (by omega)]; done) | (rw [if_neg (by omega), if_neg (by omega), if_pos (by omega)]; done) | (rw [if_neg (by omega), if_neg (by omega), if_neg (by omega)])
   rw [hpe]
   exact ⟨rfl, (bt hb_2 hb_7)⟩
  refine xr 1 [(21, .eq (.bool false))] [(21, .bool false)] [20] [Value.bool (decide (o.count > 1099511627776)) = Value.bool false] ⟨congrArg Value.bool (decide_eq_false (c_16)), trivial⟩ ?_
  refine nl (cf (sk (sq (sq (rg (xr 2 [(23, .load (.int .i64 o.kind))] [(23, .int .i64 o.kind)] [21] [LoadsAs Tryd.prog 3 (⟨w.heap.size, 0, none⟩) (.int .i64 o.kind) w_6] ⟨loads1 rfl (Blk.cell (Blk.below hk_3 hb_7) 0 _ rfl), trivial⟩ ?_))))))
  by_cases c_17 : o.kind = 3
  ·refine xe 1 [(24, .eq (.bool true))] [(1, pw w.heap.size 0), (24, .bool true)] [Value.bool (o.kind == 3) = Value.bool true] ⟨congrArg Value.bool (beq_iff_eq.2 (c_17)), trivial⟩ ?_
   refine nl (ct (sq (rg (xe 2 [(26, .load (.slice A o.attrs.length c))] [(26, .slice A o.attrs.length c)] [LoadsAs Tryd.prog 45 (⟨w.heap.size, 6, none⟩) (.slice A o.attrs.length c) w_6] ⟨loads1 rfl (Blk.cell (Blk.below hk_3 hb_7) 6 _ rfl), trivial⟩ ?_))))
   refine xc 33 ent33 [.slice A o.attrs.length c, .bool true] (r3check_any _ _ o.attrs true _ (Kd.C_below hA (bt hb_2 hb_7)) hz.2.2.2 (hT.below (bt hb_2 hb_7))) ?_
   rintro e w_18 ⟨rfl, hb_19⟩; refine ⟨_, rfl, ?_⟩
   refine xe0 1 [(2, .int .i64 (chkA true o.attrs : Int))] ?_
   refine nl (X_ret (rk [.int .i64 (chkA true o.attrs : Int)] (hR_ _ _ ?_)))
   have hk4 : ¬ o.kind = 4 := by omega
   have hpe : pErr o = chkA true o.attrs := by rw [pErr_small c_8 c_9 c_12]; first | (rw [if_pos (by omega)]; done) | (rw [if_neg (by omega), if_pos (by omega)]; done) | (rw [if_neg (by omega), if_neg (by omega), if_pos (by omega)]; done) | (rw [if_neg (by omega), if_neg (by omega), if_neg (by omega)])
   rw [hpe]
   exact ⟨rfl, (bt (bt hb_2 hb_7) hb_19)⟩
  refine xe 1 [(24, .eq (.bool false))] [(1, pw w.heap.size 0), (24, .bool false)] [Value.bool (o.kind == 3) = Value.bool false] ⟨congrArg Value.bool (beq_eq_false_iff_ne.2 (c_17)), trivial⟩ ?_
  refine nl (cf (sk (sq (rg (xe0 1 [(2, .int .i64 0)] ?_)))))
  refine nl (X_ret (rk [.int .i64 0] (hR_ _ _ ?_)))
  have hk4 : o.kind = 4 := by have h_ := pErr_k3 c_8; omega
  have hpe : pErr o = 0 := by rw [pErr_small c_8 c_9 c_12]; first | (rw [if_pos (by omega)]; done) | (rw [if_neg (by omega), if_pos (by omega)]; done) | (rw [if_neg (by omega), if_neg (by omega), if_pos (by omega)]; done) | (rw [if_neg (by omega), if_neg (by omega), if_neg (by omega)])
  rw [hpe]
  exact ⟨rfl, (bt hb_2 hb_7)⟩
 rw [show (hasP o : Bool) = false from by simpa using c_8]
 refine xr0 1 [(5, .bool true)] [3, 4] ?_
 refine nl (ct (sq (rg (xe0 1 [(2, .int .i64 9)] ?_))))
 refine nl (X_ret (rk [.int .i64 9] (hR_ _ _ ?_)))
 have hpe : pErr o = 9 := pErr_has (Bool.eq_false_iff.2 c_8)
 rw [hpe]
 exact ⟨rfl, (bt hb_2 hb_7)⟩
end Go.Proofs.YtkehomiogkoomaaDoor
