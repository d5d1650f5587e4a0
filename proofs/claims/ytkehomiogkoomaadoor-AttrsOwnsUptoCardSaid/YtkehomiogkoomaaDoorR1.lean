/- What the references' checks answer: the numbers of the program's own. Conditions: sizes, the tables of utf8. -/
import Derived.Test.YtkehomiogkoomaaDoorB7b
import Derived.Test.YtkehomiogkoomaaDoorPatch
import Derived.Test.YtkehomiogkoomaaDoorA2
set_option linter.unusedVariables false
set_option linter.unusedSimpArgs false
set_option maxRecDepth 100000
namespace Go.Proofs.YtkehomiogkoomaaDoor
open Go Go.RowKit Go.Proofs.YtkehomiogkoomaaDoorW.PrintWords RX
theorem ent172 : Ent Tryd.prog 172 := ent_of Tryd.func172 (by kernel_rfl) rfl
theorem ent164 : Ent Tryd.prog 164 := ent_of Tryd.func164 (by kernel_rfl) rfl
theorem ent133 : Ent Tryd.prog 133 := ent_of Tryd.func133 (by kernel_rfl) rfl
theorem ent100 : Ent Tryd.prog 100 := ent_of Tryd.func100 (by kernel_rfl) rfl
theorem ent33 : Ent Tryd.prog 33 := ent_of Tryd.func33 (by kernel_rfl) rfl
theorem ent111 : Ent Tryd.prog 111 := ent_of Tryd.func111 (by kernel_rfl) rfl
theorem uchk_iff (s : ByteArray) : (uchk s).2 = decide (U.brkAt s = s.size) := by
 rw [U.uchk_eq]
 have h := U.utf_iff s
 unfold U.utf at h
 by_cases h0 : U.tl s = []
 ·rw [decide_eq_true (h.1 h0)]; simp [h0]
 rw [decide_eq_false (fun e => h0 (h.2 e))]; simp [h0]
theorem valid_uchk (s : ByteArray) : Lib.validD s.data.toList = (uchk s).2 := by
 rw [U.uchk_eq]
 exact U.valid_utf s
theorem utf8_any (s : ByteArray) (w : World) (hs : s.size ≤ 100000000) : Calls Tryd.prog 172 #[.string s] w fun e w' => e = .returned (.bool (uchk s).2) ∧ Below w.heap.size w w' := by
 refine RX.enter Tryd.func172 rfl 8 rfl [(0, .string s)] rfl (by kernel_rfl) (fun R_ hR_ => ?_)
 refine sq (rg (xe0 1 [(0, .string s)] ?_))
 refine nl (sq (rg (xr0 1 [(3, .string s)] [] ?_)))
 refine xc 88 ent88 [.string s] (breaks_any s _ hs) ?_
 rintro e w_1 ⟨rfl, hb_2⟩; refine ⟨_, rfl, ?_⟩
 refine xe0 2 [(4, .int .i64 (U.brkAt s : Int)), (6, .int .i64 (s.size : Int))] ?_
 by_cases c_3 : (U.brkAt s : Int) = (s.size : Int)
 ·refine xe 2 [(7, .eq (.bool true))] [(2, .bool true)] [Value.bool ((U.brkAt s : Int) == (s.size : Int)) = Value.bool true] ⟨congrArg Value.bool (beq_iff_eq.2 (c_3)), trivial⟩ ?_
  refine nl (X_ret (rk [.bool true] (hR_ _ _ ?_)))
  rw [show (uchk s).2 = true from by rw [uchk_iff]; exact decide_eq_true (by omega)]
  exact ⟨rfl, hb_2⟩
 refine xe 2 [(7, .eq (.bool false))] [(2, .bool false)] [Value.bool ((U.brkAt s : Int) == (s.size : Int)) = Value.bool false] ⟨congrArg Value.bool (beq_eq_false_iff_ne.2 (c_3)), trivial⟩ ?_
 refine nl (X_ret (rk [.bool false] (hR_ _ _ ?_)))
 rw [show (uchk s).2 = false from by rw [uchk_iff]; exact decide_eq_false (by omega)]
 exact ⟨rfl, hb_2⟩
def txtErr (t : ByteArray) : Nat := if (uchk t).2 = false then 1 else if 1048576 < t.size then 10 else 0
theorem r2r2text_any (s : ByteArray) (w : World) (hs : s.size ≤ 100000000) : Calls Tryd.prog 164 #[.string s] w fun e w' => e = .returned (.int .i64 (txtErr s : Int)) ∧ Below w.heap.size w w' := by
 refine RX.enter Tryd.func164 rfl 9 rfl [(0, .string s)] rfl (by kernel_rfl) (fun R_ hR_ => ?_)
 refine sq (rg (xe0 1 [(0, .string s)] ?_))
 refine nl (sq (sq (rg (xr0 1 [(3, .string s)] [] ?_))))
 refine xc 172 ent172 [.string s] (utf8_any s _ (by omega)) ?_
 rintro e w_1 ⟨rfl, hb_2⟩; refine ⟨_, rfl, ?_⟩
 by_cases c_3 : (uchk s).2 = true
 ·rw [show ((uchk s).2 : Bool) = true from by simpa using c_3]
  refine xr0 1 [(5, .bool false)] [3, 4] ?_
  refine nl (cf (sk (sq (sq (rg (xe0 2 [(7, .int .i64 (s.size : Int))] ?_))))))
  by_cases c_4 : (s.size : Int) > 1048576
  ·refine xe 1 [(8, .eq (.bool true))] [(8, .bool true)] [Value.bool (decide ((s.size : Int) > 1048576)) = Value.bool true] ⟨congrArg Value.bool (decide_eq_true (c_4)), trivial⟩ ?_
   refine nl (ct (sq (rg (xe0 1 [(2, .int .i64 10)] ?_))))
   refine nl (X_ret (rk [.int .i64 10] (hR_ _ _ ?_)))
   rw [show txtErr s = 10 from by unfold txtErr; simp_all <;> omega]
   exact ⟨rfl, hb_2⟩
  refine xe 1 [(8, .eq (.bool false))] [(8, .bool false)] [Value.bool (decide ((s.size : Int) > 1048576)) = Value.bool false] ⟨congrArg Value.bool (decide_eq_false (c_4)), trivial⟩ ?_
  refine nl (cf (sk (sq (rg (xe0 1 [(2, .int .i64 0)] ?_)))))
  refine nl (X_ret (rk [.int .i64 0] (hR_ _ _ ?_)))
  rw [show txtErr s = 0 from by unfold txtErr; simp_all <;> omega]
  exact ⟨rfl, hb_2⟩
 rw [show ((uchk s).2 : Bool) = false from by simpa using c_3]
 refine xr0 1 [(5, .bool true)] [3, 4] ?_
 refine nl (ct (sq (rg (xe0 1 [(2, .int .i64 1)] ?_))))
 refine nl (X_ret (rk [.int .i64 1] (hR_ _ _ ?_)))
 rw [show txtErr s = 1 from by unfold txtErr; simp_all <;> omega]
 exact ⟨rfl, hb_2⟩
theorem uchk_nil : (uchk ⟨#[]⟩).2 = true := rfl
theorem r2check_any (k n : Int) (t : ByteArray) (w : World) (hs : t.size ≤ 100000000) : Calls Tryd.prog 133 #[.agg #[.int .i64 k, .int .i64 n, .string t]] w fun e w' => e = .returned (.int .i64 (plainErr k n t : Int)) ∧ Below w.heap.size w w' := by
 have hz : (⟨#[]⟩ : ByteArray).size = 0 := rfl
 have hun := uchk_nil
 refine RX.enter Tryd.func133 rfl 43 rfl [(0, .agg #[.int .i64 k, .int .i64 n, .string t])] rfl (by kernel_rfl) (fun R_ hR_ => ?_)
 refine sq (rg (xwe 1 [] [(1, pw w.heap.size 0)] (w.alloc (.cells #[.int .i64 k, .int .i64 n, .string t] 44)) [] trivial ?_))
 obtain ⟨w_1, hw_5, hb_2, hk_3, hz_4⟩ := new_world w #[.int .i64 k, .int .i64 n, .string t] 44
 rw [hw_5]
 refine xr0 1 [] [] ?_
 refine nl (sq (sq (rg (xr 2 [(4, .load (.int .i64 k))] [(4, .int .i64 k)] [] [LoadsAs Tryd.prog 3 (⟨w.heap.size, 0, none⟩) (.int .i64 k) w_1] ⟨loads1 rfl (Blk.cell hk_3 0 _ rfl), trivial⟩ ?_))))
 refine nl (bk (sq (X_region ?_)))
 by_cases c_6 : k = 0
 ·refine xr 2 [(6, .eq (.bool true))] [(5, .bool true)] [] [Value.bool (k == 0) = Value.bool true] ⟨congrArg Value.bool (beq_iff_eq.2 (c_6)), trivial⟩ ?_
  refine nl (ct (sq (rg (xr 2 [(8, .load (.int .i64 n))] [(8, .int .i64 n)] [4, 5] [LoadsAs Tryd.prog 2 (⟨w.heap.size, 1, none⟩) (.int .i64 n) w_1] ⟨loads1 rfl (Blk.cell hk_3 1 _ rfl), trivial⟩ ?_))))
  by_cases c_7 : n = 0
  ·refine xe 4 [(9, .eq (.bool false)), (12, .load (.string t))] [(10, .bool false), (12, .string t)] [Value.bool (n != 0) = Value.bool false, LoadsAs Tryd.prog 9 (⟨w.heap.size, 2, none⟩) (.string t) w_1] ⟨congrArg Value.bool (bneF (c_7)), loads1 rfl (Blk.cell hk_3 2 _ rfl), trivial⟩ ?_
   by_cases c_8 : t = (⟨#[]⟩ : ByteArray)
   ·refine xe 2 [(13, .eq (.bool false))] [(14, .bool false)] [Value.bool (!t.toList == (⟨#[]⟩ : ByteArray).toList) = Value.bool false] ⟨congrArg Value.bool (strNeF (c_8)), trivial⟩ ?_
    refine nl (cf (sk (sq (rg (xe0 1 [(2, .int .i64 0)] ?_)))))
    refine nl (X_ret (rk [.int .i64 0] (hR_ _ _ ?_)))
    rw [show plainErr k n t = 0 from by unfold plainErr plainOk; first | (simp_all; done) | (simp_all; omega) | (simp_all <;> decide)]
    exact ⟨rfl, hb_2⟩
   refine xe 2 [(13, .eq (.bool true))] [(14, .bool true)] [Value.bool (!t.toList == (⟨#[]⟩ : ByteArray).toList) = Value.bool true] ⟨congrArg Value.bool (strNeT (c_8)), trivial⟩ ?_
   refine nl (ct (sq (rg (xe0 1 [(2, .int .i64 5)] ?_))))
   refine nl (X_ret (rk [.int .i64 5] (hR_ _ _ ?_)))
   rw [show plainErr k n t = 5 from by unfold plainErr plainOk; first | (simp_all; done) | (simp_all; omega) | (simp_all <;> decide)]
   exact ⟨rfl, hb_2⟩
  refine xe 6 [(9, .eq (.bool true))] [(14, .bool true)] [Value.bool (n != 0) = Value.bool true] ⟨congrArg Value.bool (bneT (c_7)), trivial⟩ ?_
  refine nl (ct (sq (rg (xe0 1 [(2, .int .i64 5)] ?_))))
  refine nl (X_ret (rk [.int .i64 5] (hR_ _ _ ?_)))
  rw [show plainErr k n t = 5 from by unfold plainErr plainOk; first | (simp_all; done) | (simp_all; omega) | (simp_all <;> decide)]
  exact ⟨rfl, hb_2⟩
 refine xr 2 [(6, .eq (.bool false))] [(5, .bool false)] [] [Value.bool (k == 0) = Value.bool false] ⟨congrArg Value.bool (beq_eq_false_iff_ne.2 (c_6)), trivial⟩ ?_
 refine nl (cf (sq (X_region ?_)))
 by_cases c_9 : k = 1
 ·refine xr 2 [(16, .eq (.bool true))] [(15, .bool true)] [5] [Value.bool (k == 1) = Value.bool true] ⟨congrArg Value.bool (beq_iff_eq.2 (c_9)), trivial⟩ ?_
  refine nl (ct (sq (rg (xr 2 [(18, .load (.int .i64 n))] [(18, .int .i64 n)] [4, 15] [LoadsAs Tryd.prog 2 (⟨w.heap.size, 1, none⟩) (.int .i64 n) w_1] ⟨loads1 rfl (Blk.cell hk_3 1 _ rfl), trivial⟩ ?_))))
  by_cases c_10 : n < 0
  ·refine xe 11 [(19, .eq (.bool true))] [(29, .bool true)] [Value.bool (decide (n < 0)) = Value.bool true] ⟨congrArg Value.bool (decide_eq_true (c_10)), trivial⟩ ?_
   refine nl (ct (sq (rg (xe0 1 [(2, .int .i64 5)] ?_))))
   refine nl (X_ret (rk [.int .i64 5] (hR_ _ _ ?_)))
   rw [show plainErr k n t = 5 from by unfold plainErr plainOk; first | (simp_all; done) | (simp_all; omega) | (simp_all <;> decide)]
   exact ⟨rfl, hb_2⟩
  refine xe 4 [(19, .eq (.bool false)), (22, .load (.int .i64 n))] [(1, pw w.heap.size 0), (20, .bool false), (22, .int .i64 n)] [Value.bool (decide (n < 0)) = Value.bool false, LoadsAs Tryd.prog 2 (⟨w.heap.size, 1, none⟩) (.int .i64 n) w_1] ⟨congrArg Value.bool (decide_eq_false (c_10)), loads1 rfl (Blk.cell hk_3 1 _ rfl), trivial⟩ ?_
  by_cases c_11 : n > 1
  ·refine xe 7 [(23, .eq (.bool true))] [(29, .bool true)] [Value.bool (decide (n > 1)) = Value.bool true] ⟨congrArg Value.bool (decide_eq_true (c_11)), trivial⟩ ?_
   refine nl (ct (sq (rg (xe0 1 [(2, .int .i64 5)] ?_))))
   refine nl (X_ret (rk [.int .i64 5] (hR_ _ _ ?_)))
   rw [show plainErr k n t = 5 from by unfold plainErr plainOk; first | (simp_all; done) | (simp_all; omega) | (simp_all <;> decide)]
   exact ⟨rfl, hb_2⟩
  refine xe 5 [(23, .eq (.bool false)), (27, .load (.string t))] [(25, .bool false), (27, .string t)] [Value.bool (decide (n > 1)) = Value.bool false, LoadsAs Tryd.prog 9 (⟨w.heap.size, 2, none⟩) (.string t) w_1] ⟨congrArg Value.bool (decide_eq_false (c_11)), loads1 rfl (Blk.cell hk_3 2 _ rfl), trivial⟩ ?_
  by_cases c_12 : t = (⟨#[]⟩ : ByteArray)
  ·refine xe 2 [(28, .eq (.bool false))] [(29, .bool false)] [Value.bool (!t.toList == (⟨#[]⟩ : ByteArray).toList) = Value.bool false] ⟨congrArg Value.bool (strNeF (c_12)), trivial⟩ ?_
   refine nl (cf (sk (sq (rg (xe0 1 [(2, .int .i64 0)] ?_)))))
   refine nl (X_ret (rk [.int .i64 0] (hR_ _ _ ?_)))
   rw [show plainErr k n t = 0 from by unfold plainErr plainOk; first | (simp_all; done) | (simp_all; omega) | (simp_all <;> decide)]
   exact ⟨rfl, hb_2⟩
  refine xe 2 [(28, .eq (.bool true))] [(29, .bool true)] [Value.bool (!t.toList == (⟨#[]⟩ : ByteArray).toList) = Value.bool true] ⟨congrArg Value.bool (strNeT (c_12)), trivial⟩ ?_
  refine nl (ct (sq (rg (xe0 1 [(2, .int .i64 5)] ?_))))
  refine nl (X_ret (rk [.int .i64 5] (hR_ _ _ ?_)))
  rw [show plainErr k n t = 5 from by unfold plainErr plainOk; first | (simp_all; done) | (simp_all; omega) | (simp_all <;> decide)]
  exact ⟨rfl, hb_2⟩
 refine xr 2 [(16, .eq (.bool false))] [(15, .bool false)] [5] [Value.bool (k == 1) = Value.bool false] ⟨congrArg Value.bool (beq_eq_false_iff_ne.2 (c_9)), trivial⟩ ?_
 refine nl (cf (sq (X_region ?_)))
 by_cases c_13 : k = 2
 ·refine xr 2 [(31, .eq (.bool true))] [(30, .bool true)] [15] [Value.bool (k == 2) = Value.bool true] ⟨congrArg Value.bool (beq_iff_eq.2 (c_13)), trivial⟩ ?_
  refine nl (ct (sq (rg (xe 2 [(33, .load (.string t))] [(33, .string t)] [LoadsAs Tryd.prog 9 (⟨w.heap.size, 2, none⟩) (.string t) w_1] ⟨loads1 rfl (Blk.cell hk_3 2 _ rfl), trivial⟩ ?_))))
  by_cases c_14 : t = (⟨#[]⟩ : ByteArray)
  ·refine xe 1 [(34, .eq (.bool false))] [(34, .bool false)] [Value.bool (!t.toList == (⟨#[]⟩ : ByteArray).toList) = Value.bool false] ⟨congrArg Value.bool (strNeF (c_14)), trivial⟩ ?_
   refine nl (cf (sk (sq (rg (xe0 1 [(2, .int .i64 0)] ?_)))))
   refine nl (X_ret (rk [.int .i64 0] (hR_ _ _ ?_)))
   rw [show plainErr k n t = 0 from by unfold plainErr plainOk; first | (simp_all; done) | (simp_all; omega) | (simp_all <;> decide)]
   exact ⟨rfl, hb_2⟩
  refine xe 1 [(34, .eq (.bool true))] [(34, .bool true)] [Value.bool (!t.toList == (⟨#[]⟩ : ByteArray).toList) = Value.bool true] ⟨congrArg Value.bool (strNeT (c_14)), trivial⟩ ?_
  refine nl (ct (sq (rg (xe0 1 [(2, .int .i64 5)] ?_))))
  refine nl (X_ret (rk [.int .i64 5] (hR_ _ _ ?_)))
  rw [show plainErr k n t = 5 from by unfold plainErr plainOk; first | (simp_all; done) | (simp_all; omega) | (simp_all <;> decide)]
  exact ⟨rfl, hb_2⟩
 refine xr 2 [(31, .eq (.bool false))] [(30, .bool false)] [15] [Value.bool (k == 2) = Value.bool false] ⟨congrArg Value.bool (beq_eq_false_iff_ne.2 (c_13)), trivial⟩ ?_
 refine nl (cf (sq (X_region ?_)))
 by_cases c_15 : k = 3
 ·refine xe 2 [(36, .eq (.bool true))] [(1, pw w.heap.size 0), (35, .bool true)] [Value.bool (k == 3) = Value.bool true] ⟨congrArg Value.bool (beq_iff_eq.2 (c_15)), trivial⟩ ?_
  refine nl (ct (sq (sq (rg (xr 2 [(38, .load (.int .i64 n))] [(38, .int .i64 n)] [35] [LoadsAs Tryd.prog 2 (⟨w.heap.size, 1, none⟩) (.int .i64 n) w_1] ⟨loads1 rfl (Blk.cell hk_3 1 _ rfl), trivial⟩ ?_)))))
  by_cases c_16 : n = 0
  ·refine xr 1 [(39, .eq (.bool false))] [(39, .bool false)] [38] [Value.bool (n != 0) = Value.bool false] ⟨congrArg Value.bool (bneF (c_16)), trivial⟩ ?_
   refine nl (cf (sk (sq (rg (xe 2 [(41, .load (.string t))] [(41, .string t)] [LoadsAs Tryd.prog 9 (⟨w.heap.size, 2, none⟩) (.string t) w_1] ⟨loads1 rfl (Blk.cell hk_3 2 _ rfl), trivial⟩ ?_)))))
   refine xc 164 ent164 [.string t] (r2r2text_any t _ (by omega)) ?_
   rintro e w_17 ⟨rfl, hb_18⟩; refine ⟨_, rfl, ?_⟩
   refine xe0 1 [(2, .int .i64 (txtErr t : Int))] ?_
   refine nl (X_ret (rk [.int .i64 (txtErr t : Int)] (hR_ _ _ ?_)))
   rw [show plainErr k n t = txtErr t from by unfold plainErr plainOk txtErr; simp_all]
   exact ⟨rfl, (bt hb_2 hb_18)⟩
  refine xr 1 [(39, .eq (.bool true))] [(39, .bool true)] [38] [Value.bool (n != 0) = Value.bool true] ⟨congrArg Value.bool (bneT (c_16)), trivial⟩ ?_
  refine nl (ct (sq (rg (xe0 1 [(2, .int .i64 5)] ?_))))
  refine nl (X_ret (rk [.int .i64 5] (hR_ _ _ ?_)))
  rw [show plainErr k n t = 5 from by unfold plainErr plainOk; first | (simp_all; done) | (simp_all; omega) | (simp_all <;> decide)]
  exact ⟨rfl, hb_2⟩
 refine xe 2 [(36, .eq (.bool false))] [(1, pw w.heap.size 0), (35, .bool false)] [Value.bool (k == 3) = Value.bool false] ⟨congrArg Value.bool (beq_eq_false_iff_ne.2 (c_15)), trivial⟩ ?_
 refine nl (cf (sq (rg (xe0 1 [(2, .int .i64 5)] ?_))))
 refine nl (X_ret (rk [.int .i64 5] (hR_ _ _ ?_)))
 rw [show plainErr k n t = 5 from by unfold plainErr plainOk; first | (simp_all; done) | (simp_all; omega) | (simp_all <;> decide)]
 exact ⟨rfl, hb_2⟩
theorem r3pair_any (x : At) (w : World) (h1 : x.1.size ≤ 100000000) (h2 : x.2.2.2.size ≤ 100000000) (hT : Tabs w) : Calls Tryd.prog 100 #[.agg #[.string x.1, .int .i64 x.2.1, .int .i64 x.2.2.1, .string x.2.2.2]] w fun e w' => e = .returned (.int .i64 (pairErr x : Int)) ∧ Below w.heap.size w w' := by
 have hke : x.1 = (⟨#[]⟩ : ByteArray) ↔ x.1.size = 0 := by
  constructor
  ·intro e; rw [e]; rfl
  intro e; exact U.bl_inj (List.length_eq_zero_iff.1 (by rw [U.bl_size]; exact e))
 refine RX.enter Tryd.func100 rfl 22 rfl [(0, .agg #[.string x.1, .int .i64 x.2.1, .int .i64 x.2.2.1, .string x.2.2.2])] rfl (by kernel_rfl) (fun R_ hR_ => ?_)
 refine sq (rg (xwe 1 [] [(1, pw w.heap.size 0)] (w.alloc (.cells #[.string x.1, .int .i64 x.2.1, .int .i64 x.2.2.1, .string x.2.2.2] 71)) [] trivial ?_))
 obtain ⟨w_1, hw_5, hb_2, hk_3, hz_4⟩ := new_world w #[.string x.1, .int .i64 x.2.1, .int .i64 x.2.2.1, .string x.2.2.2] 71
 rw [hw_5]
 refine xr0 1 [] [] ?_
 refine nl (sq (bk (sq (rg (xr 3 [(5, .load (.string x.1))] [(6, .int .i64 (x.1.size : Int))] [] [LoadsAs Tryd.prog 9 (⟨w.heap.size, 0, none⟩) (.string x.1) w_1] ⟨loads1 rfl (Blk.cell hk_3 0 _ rfl), trivial⟩ ?_)))))
 by_cases c_6 : (x.1.size : Int) < 1
 ·refine xr 8 [(7, .eq (.bool true))] [(3, .bool true)] [6] [Value.bool (decide ((x.1.size : Int) < 1)) = Value.bool true] ⟨congrArg Value.bool (decide_eq_true (c_6)), trivial⟩ ?_
  refine nl (ct (sq (rg (xe0 1 [(2, .int .i64 6)] ?_))))
  refine nl (X_ret (rk [.int .i64 6] (hR_ _ _ ?_)))
  rw [show pairErr x = 6 from if_pos (by rw [hke]; omega)]
  exact ⟨rfl, hb_2⟩
 refine xr 5 [(7, .eq (.bool false)), (10, .load (.string x.1))] [(8, .bool false), (11, .int .i64 (x.1.size : Int))] [6] [Value.bool (decide ((x.1.size : Int) < 1)) = Value.bool false, LoadsAs Tryd.prog 9 (⟨w.heap.size, 0, none⟩) (.string x.1) w_1] ⟨congrArg Value.bool (decide_eq_false (c_6)), loads1 rfl (Blk.cell hk_3 0 _ rfl), trivial⟩ ?_
 by_cases c_7 : (x.1.size : Int) > 64
 ·refine xr 3 [(12, .eq (.bool true))] [(3, .bool true)] [8, 11] [Value.bool (decide ((x.1.size : Int) > 64)) = Value.bool true] ⟨congrArg Value.bool (decide_eq_true (c_7)), trivial⟩ ?_
  refine nl (ct (sq (rg (xe0 1 [(2, .int .i64 6)] ?_))))
  refine nl (X_ret (rk [.int .i64 6] (hR_ _ _ ?_)))
  rw [show pairErr x = 6 from if_pos (by rw [hke]; omega)]
  exact ⟨rfl, hb_2⟩
 refine xr 3 [(12, .eq (.bool false))] [(3, .bool false)] [8, 11] [Value.bool (decide ((x.1.size : Int) > 64)) = Value.bool false] ⟨congrArg Value.bool (decide_eq_false (c_7)), trivial⟩ ?_
 refine nl (cf (sq (rg (xr 2 [(16, .load (.string x.1))] [(16, .string x.1)] [3] [LoadsAs Tryd.prog 9 (⟨w.heap.size, 0, none⟩) (.string x.1) w_1] ⟨loads1 rfl (Blk.cell hk_3 0 _ rfl), trivial⟩ ?_))))
 refine xc 91 ent91 [.string x.1] (Tryd.utf8_ValidString x.1 _ (by omega) (hT.below hb_2)) ?_
 rintro e w_8 ⟨rfl, hb_9⟩; refine ⟨_, rfl, ?_⟩
 rw [valid_uchk]
 by_cases c_10 : (uchk x.1).2 = true
 ·rw [show ((uchk x.1).2 : Bool) = true from by simpa using c_10]
  refine xe0 2 [(1, pw w.heap.size 0), (14, .bool false)] ?_
  refine nl (cf (sk (sq (rg (xe 2 [(20, .load (.agg #[.int .i64 x.2.1, .int .i64 x.2.2.1, .string x.2.2.2]))] [(20, .agg #[.int .i64 x.2.1, .int .i64 x.2.2.1, .string x.2.2.2])] [LoadsAs Tryd.prog 44 (⟨w.heap.size, 1, none⟩) (.agg #[.int .i64 x.2.1, .int .i64 x.2.2.1, .string x.2.2.2]) w_8] ⟨loadsB rfl rfl (Blk.below hk_3 hb_9) 1 ⟨by kernel_rfl, by kernel_rfl⟩, trivial⟩ ?_)))))
  refine xc 133 ent133 [.agg #[.int .i64 x.2.1, .int .i64 x.2.2.1, .string x.2.2.2]] (r2check_any x.2.1 x.2.2.1 x.2.2.2 _ (by omega)) ?_
  rintro e w_11 ⟨rfl, hb_12⟩; refine ⟨_, rfl, ?_⟩
  refine xe0 1 [(2, .int .i64 (plainErr x.2.1 x.2.2.1 x.2.2.2 : Int))] ?_
  refine nl (X_ret (rk [.int .i64 (plainErr x.2.1 x.2.2.1 x.2.2.2 : Int)] (hR_ _ _ ?_)))
  have hp0 : pairErr x = if (uchk x.1).2 = false then 1 else plainErr x.2.1 x.2.2.1 x.2.2.2 := if_neg (by rw [hke]; omega)
  rw [show pairErr x = plainErr x.2.1 x.2.2.1 x.2.2.2 from by rw [hp0]; simp [c_10]]
  exact ⟨rfl, (bt (bt hb_2 hb_9) hb_12)⟩
 rw [show ((uchk x.1).2 : Bool) = false from by simpa using c_10]
 refine xe0 2 [(1, pw w.heap.size 0), (14, .bool true)] ?_
 refine nl (ct (sq (rg (xe0 1 [(2, .int .i64 1)] ?_))))
 refine nl (X_ret (rk [.int .i64 1] (hR_ _ _ ?_)))
 have hp0 : pairErr x = if (uchk x.1).2 = false then 1 else plainErr x.2.1 x.2.2.1 x.2.2.2 := if_neg (by rw [hke]; omega)
 rw [show pairErr x = 1 from by rw [hp0]; simp [c_10]]
 exact ⟨rfl, (bt hb_2 hb_9)⟩
theorem geq_iff (a b : ByteArray) : (!Op.bytesLess a.toList b.toList) = (Op.bytesLess b.toList a.toList || b.toList == a.toList) := by
 cases h1 : Op.bytesLess a.toList b.toList with
 | true =>
  have h2 := kl_asymm (a := a) (b := b) h1
  unfold kl at h2
  rw [h2]
  have h3 : (b.toList == a.toList) = false := by rw [beq_eq_false_iff_ne]; exact fun e => kl_ne (a := a) (b := b) h1 (bytes_ext e.symm)
  rw [h3]; rfl
 | false =>
  cases h2 : Op.bytesLess b.toList a.toList with
  | true => rfl
  | false => rw [kl_tri h1 h2]; simp
set_option maxHeartbeats 1000000 in
theorem r3check_any (A : Option Addr) (c : Nat) (xs : List At) (nulls : Bool) (w : World) (hx : kAttr.C w A xs.length xs) (hsz : ∀ i, i < xs.length → (xs.getD i at0).1.size ≤ 100000000 ∧ (xs.getD i at0).2.2.2.size ≤ 100000000) (hT : Tabs w) :
  Calls Tryd.prog 33 #[.slice A xs.length c, .bool nulls] w fun e w' => e = .returned (.int .i64 (chkA nulls xs : Int)) ∧ Below w.heap.size w w' := by
 have hpl : xs.length ≤ 9223372036854775807 := hx.2.1
 refine RX.enter Tryd.func33 rfl 45 rfl [(0, .slice A xs.length c), (1, .bool nulls)] rfl (by kernel_rfl) (fun R_ hR_ => ?_)
 refine sq (rg (xe0 1 [(0, .slice A xs.length c), (1, .bool nulls)] ?_))
 refine nl (sq (sq (rg (xr0 3 [(8, .slice A xs.length c), (9, .int .i64 (xs.length : Int)), (10, .int .i64 0)] [] ?_))))
 refine nl (bk (X_loop (ι := Nat) (fun i => [(0, .slice A xs.length c), (1, .bool nulls), (8, .slice A xs.length c), (9, .int .i64 (xs.length : Int)), (10, .int .i64 (i : Int))]) (fun i wl => i ≤ xs.length ∧ chkUpto nulls xs i = 0 ∧ Below w.heap.size w wl) (fun i => xs.length - i) 0 ⟨by omega, rfl, (Below.refl _ _)⟩ (by kernel_rfl) ?_))
 rintro i wl ⟨hi, h0, HB⟩
 have hz : ((i : Int) - 1).toNat = i - 1 := by omega
 refine sq (X_region ?_)
 by_cases c_1 : (i : Int) < (xs.length : Int)
 ·refine xr 1 [(11, .eq (.bool true))] [(11, .bool true)] [] [Value.bool (decide ((i : Int) < (xs.length : Int))) = Value.bool true] ⟨congrArg Value.bool (decide_eq_true (c_1)), trivial⟩ ?_
  refine nl (sq (ct (sk (sq (bk (sq (rg (xr0 1 [(12, nv i)] [11] ?_))))))))
  obtain ⟨ad_2, ha_3, hc_4⟩ := Kd.atAttr (Kd.C_below hx HB) (i := (i : Int)) (by omega) (by omega)
  replace hc_4 : CellsAt wl (ad_2.add ((i : Int).toNat * 4)) [.string ((xs.getD i at0).1), .int .i64 ((xs.getD i at0).2.1), .int .i64 ((xs.getD i at0).2.2.1), .string ((xs.getD i at0).2.2.2)] := hc_4
  refine xw 3 [(13, .idx ad_2), (14, .load (.agg #[.string ((xs.getD i at0).1), .int .i64 ((xs.getD i at0).2.1), .int .i64 ((xs.getD i at0).2.2.1), .string ((xs.getD i at0).2.2.2)]))] [(6, pw wl.heap.size 0), (14, .agg #[.string ((xs.getD i at0).1), .int .i64 ((xs.getD i at0).2.1), .int .i64 ((xs.getD i at0).2.2.1), .string ((xs.getD i at0).2.2.2)])] [] (wl.alloc (.cells #[.string ByteArray.empty, .int .i64 0, .int .i64 0, .string ByteArray.empty] 71)) [A = some ad_2, (0 : Int) ≤ (i : Int), (i : Int) < (xs.length : Int), LoadsAs Tryd.prog 71 (ad_2.add ((i : Int).toNat * 4)) (.agg #[.string ((xs.getD i at0).1), .int .i64 ((xs.getD i at0).2.1), .int .i64 ((xs.getD i at0).2.2.1), .string ((xs.getD i at0).2.2.2)]) wl] ⟨ha_3, (by omega), (by omega), loadsE rfl rfl hc_4 0 ⟨by kernel_rfl, by kernel_rfl⟩, trivial⟩ ?_
  obtain ⟨w_5, hw_9, hb_6, hk_7, hz_8⟩ := new_world wl #[.string ByteArray.empty, .int .i64 0, .int .i64 0, .string ByteArray.empty] 71
  rw [hw_9]
  refine xr0 1 [(5, nv i)] [12] ?_
  refine xst (.agg #[.string ((xs.getD i at0).1), .int .i64 ((xs.getD i at0).2.1), .int .i64 ((xs.getD i at0).2.2.1), .string ((xs.getD i at0).2.2.2)]) hk_7 0 #[.string ((xs.getD i at0).1), .int .i64 ((xs.getD i at0).2.1), .int .i64 ((xs.getD i at0).2.2.1), .string ((xs.getD i at0).2.2.2)] (fun w_10 hg_11 hk_12 hz_13 => ?_)
  refine nl (sq (rg (xr 1 [(15, .load (.agg #[.string ((xs.getD i at0).1), .int .i64 ((xs.getD i at0).2.1), .int .i64 ((xs.getD i at0).2.2.1), .string ((xs.getD i at0).2.2.2)]))] [(15, .agg #[.string ((xs.getD i at0).1), .int .i64 ((xs.getD i at0).2.1), .int .i64 ((xs.getD i at0).2.2.1), .string ((xs.getD i at0).2.2.2)])] [14] [LoadsAs Tryd.prog 71 (⟨wl.heap.size, 0, none⟩) (.agg #[.string ((xs.getD i at0).1), .int .i64 ((xs.getD i at0).2.1), .int .i64 ((xs.getD i at0).2.2.1), .string ((xs.getD i at0).2.2.2)]) w_10] ⟨loadsB rfl rfl hk_12 0 ⟨by kernel_rfl, by kernel_rfl⟩, trivial⟩ ?_)))
  refine xc 100 ent100 [.agg #[.string ((xs.getD i at0).1), .int .i64 ((xs.getD i at0).2.1), .int .i64 ((xs.getD i at0).2.2.1), .string ((xs.getD i at0).2.2.2)]] (r3pair_any (xs.getD i at0) _ (hsz i (by omega)).1 (hsz i (by omega)).2 (hT.below (bg (bt HB hb_6) hg_11 (HB).size))) ?_
  rintro e w_14 ⟨rfl, hb_15⟩; refine ⟨_, rfl, ?_⟩
  refine xe0 1 [(0, .slice A xs.length c), (1, .bool nulls), (5, nv i), (6, pw wl.heap.size 0), (7, .int .i64 (pairErr (xs.getD i at0) : Int)), (8, .slice A xs.length c), (9, .int .i64 (xs.length : Int)), (10, nv i)] ?_
  refine nl (bk (sq (rg (xr0 1 [(18, .int .i64 (pairErr (xs.getD i at0) : Int))] [] ?_))))
  by_cases c_16 : (pairErr (xs.getD i at0) : Int) = 0
  ·refine xr 2 [(19, .eq (.bool false))] [(17, .bool false)] [18] [Value.bool ((pairErr (xs.getD i at0) : Int) != 0) = Value.bool false] ⟨congrArg Value.bool (bneF (c_16)), trivial⟩ ?_
   refine nl (cf (sq (rg (xr 3 [(24, .load (.int .i64 ((xs.getD i at0).2.1)))] [(24, .int .i64 ((xs.getD i at0).2.1))] [7, 17] [LoadsAs Tryd.prog 3 (⟨wl.heap.size, 1, none⟩) (.int .i64 ((xs.getD i at0).2.1)) w_14] ⟨loads1 rfl (Blk.cell (Blk.below hk_12 hb_15) 1 _ rfl), trivial⟩ ?_))))
   by_cases c_17 : (xs.getD i at0).2.1 = 0
   ·refine xr 3 [(25, .eq (.bool true))] [(26, .bool true), (27, .bool nulls)] [24] [Value.bool ((xs.getD i at0).2.1 == 0) = Value.bool true] ⟨congrArg Value.bool (beq_iff_eq.2 (c_17)), trivial⟩ ?_
    by_cases c_18 : nulls = true
    ·rw [show (nulls : Bool) = true from by simpa using c_18]
     refine xr0 3 [(1, .bool true), (21, .bool false)] [26, 27] ?_
     refine nl (cf (sq (X_still (by kernel_rfl) (by kernel_rfl) (fun wd_19 hb_20 hh_21 => ?_))))
     refine xse 1 [] [(0, .slice A xs.length c), (1, .bool true), (5, .int .i64 (i : Int)), (6, .pointer (some ⟨wl.heap.size, 0, none⟩)), (8, .slice A xs.length c), (9, .int .i64 (xs.length : Int)), (10, .int .i64 (i : Int)), (31, .int .i64 (i : Int))] [] trivial ?_
     by_cases c_22 : (i : Int) > 0
     ·refine xse 5 [(32, .eq (.bool true)), (36, .eq (.int .i64 ((i : Int) - 1)))] [(0, .slice A xs.length c), (1, .bool true), (6, .pointer (some ⟨wl.heap.size, 0, none⟩)), (8, .slice A xs.length c), (9, .int .i64 (xs.length : Int)), (10, .int .i64 (i : Int)), (33, .bool true), (34, .slice A xs.length c), (36, .int .i64 ((i : Int) - 1))] [Value.bool (decide ((i : Int) > 0)) = Value.bool true, Value.int .i64 (IntKind.i64.wrap ((i : Int) - 1)) = Value.int .i64 ((i : Int) - 1)] ⟨congrArg Value.bool (decide_eq_true (c_22)), wr_i64 (by omega) (by omega), trivial⟩ ?_
      have hB_23 : Below w.heap.size w wd_19 := (bt (bt (bg (bt HB hb_6) hg_11 (HB).size) hb_15) hb_20)
      obtain ⟨ad_24, ha_25, hc_26⟩ := Kd.atAttr (Kd.C_below hx hB_23) (i := (i : Int) - 1) (by omega) (by omega)
      replace hc_26 : CellsAt wd_19 (ad_24.add (((i : Int) - 1).toNat * 4)) [.string ((xs.getD ((i : Int) - 1).toNat at0).1), .int .i64 ((xs.getD ((i : Int) - 1).toNat at0).2.1), .int .i64 ((xs.getD ((i : Int) - 1).toNat at0).2.2.1), .string ((xs.getD ((i : Int) - 1).toNat at0).2.2.2)] := hc_26
      refine xse 5 [(37, .idx ad_24), (39, .load (.string ((xs.getD ((i : Int) - 1).toNat at0).1))), (41, .load (.string ((xs.getD i at0).1)))] [(0, .slice A xs.length c), (1, .bool true), (8, .slice A xs.length c), (9, .int .i64 (xs.length : Int)), (10, .int .i64 (i : Int)), (33, .bool true), (39, .string ((xs.getD ((i : Int) - 1).toNat at0).1)), (41, .string ((xs.getD i at0).1))] [A = some ad_24, (0 : Int) ≤ (i : Int) - 1, (i : Int) - 1 < (xs.length : Int), LoadsAs Tryd.prog 9 (ad_24.add (((i : Int) - 1).toNat * 4)) (.string ((xs.getD ((i : Int) - 1).toNat at0).1)) wd_19, LoadsAs Tryd.prog 9 (⟨wl.heap.size, 0, none⟩) (.string ((xs.getD i at0).1)) wd_19] ⟨ha_25, (by omega), (by omega), loads1 rfl (elem_cell hc_26 0 _ rfl), loads1 rfl (Blk.cell (Blk.below hk_12 (bt hb_15 hb_20)) 0 _ rfl), trivial⟩ ?_
      by_cases c_27 : (!(Op.bytesLess ((xs.getD ((i : Int) - 1).toNat at0).1).toList ((xs.getD i at0).1).toList)) = true
      ·refine xse 3 [(42, .eq (.bool true))] [(0, .slice A xs.length c), (1, .bool true), (8, .slice A xs.length c), (9, .int .i64 (xs.length : Int)), (10, .int .i64 (i : Int)), (30, .bool true)] [Value.bool (!(Op.bytesLess ((xs.getD ((i : Int) - 1).toNat at0).1).toList ((xs.getD i at0).1).toList)) = Value.bool true] ⟨congrArg Value.bool (c_27), trivial⟩ ?_
       refine XS_nil ?_
       refine ct (sq (rg (xe0 1 [(4, .int .i64 8)] ?_)))
       refine nl (X_ret (rk [.int .i64 8] (hR_ _ _ ?_)))
       obtain rfl : nulls = true := c_18
       (try simp only [hz] at *)
       have he : attrAt true xs i = 8 := by unfold attrAt; rw [← geq_iff]; simp_all <;> omega
       rw [chkA_stop true xs i (by omega) h0 (by rw [he]; first | decide | (intro e_; omega)), he]
       exact ⟨rfl, hB_23⟩
      refine xse 3 [(42, .eq (.bool false))] [(0, .slice A xs.length c), (1, .bool true), (8, .slice A xs.length c), (9, .int .i64 (xs.length : Int)), (10, .int .i64 (i : Int)), (30, .bool false)] [Value.bool (!(Op.bytesLess ((xs.getD ((i : Int) - 1).toNat at0).1).toList ((xs.getD i at0).1).toList)) = Value.bool false] ⟨congrArg Value.bool (Bool.eq_false_iff.2 (c_27)), trivial⟩ ?_
      refine XS_nil ?_
      refine cf (sk (rg (xr 2 [(44, .eq (.int .i64 ((i : Int) + 1)))] [(10, .int .i64 ((i : Int) + 1))] [30] [Value.int .i64 (IntKind.i64.wrap ((i : Int) + 1)) = Value.int .i64 ((i : Int) + 1)] ⟨wr_i64 (by omega) (by omega), trivial⟩ ?_)))
      refine nl ?_
      refine ⟨(i + 1), by kernel_rfl, ?_, ?_⟩
      ·obtain rfl : nulls = true := c_18
       (try simp only [hz] at *)
       exact ⟨by omega, chkUpto_succ _ _ _ h0 (by unfold attrAt; rw [← geq_iff]; simp_all <;> omega), hB_23⟩
      (try dsimp only); omega
     refine xse 13 [(32, .eq (.bool false))] [(0, .slice A xs.length c), (1, .bool true), (8, .slice A xs.length c), (9, .int .i64 (xs.length : Int)), (10, .int .i64 (i : Int)), (30, .bool false)] [Value.bool (decide ((i : Int) > 0)) = Value.bool false] ⟨congrArg Value.bool (decide_eq_false (c_22)), trivial⟩ ?_
     refine XS_nil ?_
     refine cf (sk (rg (xr 2 [(44, .eq (.int .i64 ((i : Int) + 1)))] [(10, .int .i64 ((i : Int) + 1))] [30] [Value.int .i64 (IntKind.i64.wrap ((i : Int) + 1)) = Value.int .i64 ((i : Int) + 1)] ⟨wr_i64 (by omega) (by omega), trivial⟩ ?_)))
     refine nl ?_
     have hB_28 : Below w.heap.size w wd_19 := (bt (bt (bg (bt HB hb_6) hg_11 (HB).size) hb_15) hb_20)
     refine ⟨(i + 1), by kernel_rfl, ?_, ?_⟩
     ·obtain rfl : nulls = true := c_18
      (try simp only [hz] at *)
      exact ⟨by omega, chkUpto_succ _ _ _ h0 (by unfold attrAt; rw [← geq_iff]; simp_all <;> omega), hB_28⟩
     (try dsimp only); omega
    rw [show (nulls : Bool) = false from by simpa using c_18]
    refine xr0 3 [(1, .bool false), (21, .bool true)] [26, 27] ?_
    refine nl (ct (sq (rg (xe0 1 [(4, .int .i64 7)] ?_))))
    refine nl (X_ret (rk [.int .i64 7] (hR_ _ _ ?_)))
    have hB_29 : Below w.heap.size w w_14 := (bt (bg (bt HB hb_6) hg_11 (HB).size) hb_15)
    obtain rfl : nulls = false := Bool.eq_false_iff.2 c_18
    (try simp only [hz] at *)
    have he : attrAt false xs i = 7 := by unfold attrAt; rw [← geq_iff]; simp_all <;> omega
    rw [chkA_stop false xs i (by omega) h0 (by rw [he]; first | decide | (intro e_; omega)), he]
    exact ⟨rfl, hB_29⟩
   refine xr 6 [(25, .eq (.bool false))] [(21, .bool false)] [24] [Value.bool ((xs.getD i at0).2.1 == 0) = Value.bool false] ⟨congrArg Value.bool (beq_eq_false_iff_ne.2 (c_17)), trivial⟩ ?_
   refine nl (cf (sq (X_still (by kernel_rfl) (by kernel_rfl) (fun wd_30 hb_31 hh_32 => ?_))))
   refine xse 1 [] [(0, .slice A xs.length c), (1, .bool nulls), (5, .int .i64 (i : Int)), (6, .pointer (some ⟨wl.heap.size, 0, none⟩)), (8, .slice A xs.length c), (9, .int .i64 (xs.length : Int)), (10, .int .i64 (i : Int)), (31, .int .i64 (i : Int))] [] trivial ?_
   by_cases c_33 : (i : Int) > 0
   ·refine xse 5 [(32, .eq (.bool true)), (36, .eq (.int .i64 ((i : Int) - 1)))] [(0, .slice A xs.length c), (1, .bool nulls), (6, .pointer (some ⟨wl.heap.size, 0, none⟩)), (8, .slice A xs.length c), (9, .int .i64 (xs.length : Int)), (10, .int .i64 (i : Int)), (33, .bool true), (34, .slice A xs.length c), (36, .int .i64 ((i : Int) - 1))] [Value.bool (decide ((i : Int) > 0)) = Value.bool true, Value.int .i64 (IntKind.i64.wrap ((i : Int) - 1)) = Value.int .i64 ((i : Int) - 1)] ⟨congrArg Value.bool (decide_eq_true (c_33)), wr_i64 (by omega) (by omega), trivial⟩ ?_
    have hB_34 : Below w.heap.size w wd_30 := (bt (bt (bg (bt HB hb_6) hg_11 (HB).size) hb_15) hb_31)
    obtain ⟨ad_35, ha_36, hc_37⟩ := Kd.atAttr (Kd.C_below hx hB_34) (i := (i : Int) - 1) (by omega) (by omega)
    replace hc_37 : CellsAt wd_30 (ad_35.add (((i : Int) - 1).toNat * 4)) [.string ((xs.getD ((i : Int) - 1).toNat at0).1), .int .i64 ((xs.getD ((i : Int) - 1).toNat at0).2.1), .int .i64 ((xs.getD ((i : Int) - 1).toNat at0).2.2.1), .string ((xs.getD ((i : Int) - 1).toNat at0).2.2.2)] := hc_37
    refine xse 5 [(37, .idx ad_35), (39, .load (.string ((xs.getD ((i : Int) - 1).toNat at0).1))), (41, .load (.string ((xs.getD i at0).1)))] [(0, .slice A xs.length c), (1, .bool nulls), (8, .slice A xs.length c), (9, .int .i64 (xs.length : Int)), (10, .int .i64 (i : Int)), (33, .bool true), (39, .string ((xs.getD ((i : Int) - 1).toNat at0).1)), (41, .string ((xs.getD i at0).1))] [A = some ad_35, (0 : Int) ≤ (i : Int) - 1, (i : Int) - 1 < (xs.length : Int), LoadsAs Tryd.prog 9 (ad_35.add (((i : Int) - 1).toNat * 4)) (.string ((xs.getD ((i : Int) - 1).toNat at0).1)) wd_30, LoadsAs Tryd.prog 9 (⟨wl.heap.size, 0, none⟩) (.string ((xs.getD i at0).1)) wd_30] ⟨ha_36, (by omega), (by omega), loads1 rfl (elem_cell hc_37 0 _ rfl), loads1 rfl (Blk.cell (Blk.below hk_12 (bt hb_15 hb_31)) 0 _ rfl), trivial⟩ ?_
    by_cases c_38 : (!(Op.bytesLess ((xs.getD ((i : Int) - 1).toNat at0).1).toList ((xs.getD i at0).1).toList)) = true
    ·refine xse 3 [(42, .eq (.bool true))] [(0, .slice A xs.length c), (1, .bool nulls), (8, .slice A xs.length c), (9, .int .i64 (xs.length : Int)), (10, .int .i64 (i : Int)), (30, .bool true)] [Value.bool (!(Op.bytesLess ((xs.getD ((i : Int) - 1).toNat at0).1).toList ((xs.getD i at0).1).toList)) = Value.bool true] ⟨congrArg Value.bool (c_38), trivial⟩ ?_
     refine XS_nil ?_
     refine ct (sq (rg (xe0 1 [(4, .int .i64 8)] ?_)))
     refine nl (X_ret (rk [.int .i64 8] (hR_ _ _ ?_)))
     (try simp only [hz] at *)
     have he : attrAt nulls xs i = 8 := by unfold attrAt; rw [← geq_iff]; simp_all <;> omega
     rw [chkA_stop nulls xs i (by omega) h0 (by rw [he]; first | decide | (intro e_; omega)), he]
     exact ⟨rfl, hB_34⟩
    refine xse 3 [(42, .eq (.bool false))] [(0, .slice A xs.length c), (1, .bool nulls), (8, .slice A xs.length c), (9, .int .i64 (xs.length : Int)), (10, .int .i64 (i : Int)), (30, .bool false)] [Value.bool (!(Op.bytesLess ((xs.getD ((i : Int) - 1).toNat at0).1).toList ((xs.getD i at0).1).toList)) = Value.bool false] ⟨congrArg Value.bool (Bool.eq_false_iff.2 (c_38)), trivial⟩ ?_
    refine XS_nil ?_
    refine cf (sk (rg (xr 2 [(44, .eq (.int .i64 ((i : Int) + 1)))] [(10, .int .i64 ((i : Int) + 1))] [30] [Value.int .i64 (IntKind.i64.wrap ((i : Int) + 1)) = Value.int .i64 ((i : Int) + 1)] ⟨wr_i64 (by omega) (by omega), trivial⟩ ?_)))
    refine nl ?_
    refine ⟨(i + 1), by kernel_rfl, ?_, ?_⟩
    ·(try simp only [hz] at *)
     exact ⟨by omega, chkUpto_succ _ _ _ h0 (by unfold attrAt; rw [← geq_iff]; simp_all <;> omega), hB_34⟩
    (try dsimp only); omega
   refine xse 13 [(32, .eq (.bool false))] [(0, .slice A xs.length c), (1, .bool nulls), (8, .slice A xs.length c), (9, .int .i64 (xs.length : Int)), (10, .int .i64 (i : Int)), (30, .bool false)] [Value.bool (decide ((i : Int) > 0)) = Value.bool false] ⟨congrArg Value.bool (decide_eq_false (c_33)), trivial⟩ ?_
   refine XS_nil ?_
   refine cf (sk (rg (xr 2 [(44, .eq (.int .i64 ((i : Int) + 1)))] [(10, .int .i64 ((i : Int) + 1))] [30] [Value.int .i64 (IntKind.i64.wrap ((i : Int) + 1)) = Value.int .i64 ((i : Int) + 1)] ⟨wr_i64 (by omega) (by omega), trivial⟩ ?_)))
   refine nl ?_
   have hB_39 : Below w.heap.size w wd_30 := (bt (bt (bg (bt HB hb_6) hg_11 (HB).size) hb_15) hb_31)
   refine ⟨(i + 1), by kernel_rfl, ?_, ?_⟩
   ·(try simp only [hz] at *)
    exact ⟨by omega, chkUpto_succ _ _ _ h0 (by unfold attrAt; rw [← geq_iff]; simp_all <;> omega), hB_39⟩
   (try dsimp only); omega
  refine xr 2 [(19, .eq (.bool true))] [(17, .bool true)] [18] [Value.bool ((pairErr (xs.getD i at0) : Int) != 0) = Value.bool true] ⟨congrArg Value.bool (bneT (c_16)), trivial⟩ ?_
  refine nl (ct (sq (rg (xe0 2 [(4, .int .i64 (pairErr (xs.getD i at0) : Int))] ?_))))
  refine nl (X_ret (rk [.int .i64 (pairErr (xs.getD i at0) : Int)] (hR_ _ _ ?_)))
  have hB_40 : Below w.heap.size w w_14 := (bt (bg (bt HB hb_6) hg_11 (HB).size) hb_15)
  (try simp only [hz] at *)
  have he : attrAt nulls xs i = pairErr (xs.getD i at0) := by unfold attrAt; rw [← geq_iff]; simp_all <;> omega
  rw [chkA_stop nulls xs i (by omega) h0 (by rw [he]; first | decide | (intro e_; omega)), he]
  exact ⟨rfl, hB_40⟩
 refine xr 1 [(11, .eq (.bool false))] [(11, .bool false)] [] [Value.bool (decide ((i : Int) < (xs.length : Int))) = Value.bool false] ⟨congrArg Value.bool (decide_eq_false (c_1)), trivial⟩ ?_
 refine nl (sq (cf (X_exit (sq (rg (xe0 1 [(4, .int .i64 0)] ?_))))))
 refine nl (X_ret (rk [.int .i64 0] (hR_ _ _ ?_)))
 rw [show chkA nulls xs = 0 from by unfold chkA; rw [show xs.length = i from by omega]; exact h0]
 exact ⟨rfl, HB⟩
end Go.Proofs.YtkehomiogkoomaaDoor
