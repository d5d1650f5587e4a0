/- What the references' checks answer: the numbers of the program's own. Conditions: sizes, the tables of utf8. -/
import Derived.Test.YtekfdfafhfhfbaaDoorB7b
import Derived.Test.YtekfdfafhfhfbaaDoorPatch
import Derived.Test.YtekfdfafhfhfbaaDoorA2
set_option linter.unusedVariables false
set_option linter.unusedSimpArgs false
set_option maxRecDepth 100000
namespace Go.Proofs.YtekfdfafhfhfbaaDoor
open Go Go.RowKit Go.Proofs.YtekfdfafhfhfbaaDoorW.PrintWords RX
theorem ent94 : Ent Tryd.prog 94 := ent_of Tryd.func94 (by kernel_rfl) rfl
theorem ent124 : Ent Tryd.prog 124 := ent_of Tryd.func124 (by kernel_rfl) rfl
theorem ent95 : Ent Tryd.prog 95 := ent_of Tryd.func95 (by kernel_rfl) rfl
theorem ent80 : Ent Tryd.prog 80 := ent_of Tryd.func80 (by kernel_rfl) rfl
theorem ent30 : Ent Tryd.prog 30 := ent_of Tryd.func30 (by kernel_rfl) rfl
theorem uchk_iff (s : ByteArray) : (uchk s).2 = decide (U.brkAt s = s.size) := by
  rw [U.uchk_eq]
  have h := U.utf_iff s
  unfold U.utf at h
  by_cases h0 : U.tl s = []
  · rw [decide_eq_true (h.1 h0)]; simp [h0]
  · rw [decide_eq_false (fun e => h0 (h.2 e))]; simp [h0]
theorem valid_uchk (s : ByteArray) : Lib.validD s.data.toList = (uchk s).2 := by
  rw [U.uchk_eq]
  exact U.valid_utf s
theorem utf8_any (s : ByteArray) (w : World) (hs : s.size ≤ 100000000) : Calls Tryd.prog 94 #[.string s] w fun e w' => e = .returned (.bool (uchk s).2) ∧ Below w.heap.size w w' := by
  refine RX.enter Tryd.func94 rfl 8 rfl [(0, .string s)] rfl (by kernel_rfl) (fun R_ hR_ => ?_)
  refine X_seq ?_
  refine X_region ?_
  refine XL_run 1 [] [(0, .string s)] w [] (by kernel_rfl) trivial ?_
  refine XL_nil ?_
  refine X_seq ?_
  refine X_region ?_
  refine XL_run 1 [] [(0, .string s), (3, .string s)] w [] (by kernel_rfl) trivial ?_
  refine XL_call 123 rfl rfl rfl ent123 [.string s] (by kernel_rfl) (breaks_any s _ hs) ?_
  rintro e w_1 ⟨rfl, hb_2⟩; refine ⟨_, rfl, ?_⟩
  refine XL_run 2 [] [(4, .int .i64 (U.brkAt s : Int)), (6, .int .i64 (s.size : Int))] w_1 [] (by kernel_rfl) trivial ?_
  by_cases c_3 : (U.brkAt s : Int) = (s.size : Int)
  · refine XL_run 2 [(7, .eq (.bool true))] [(2, .bool true)] w_1 [Value.bool ((U.brkAt s : Int) == (s.size : Int)) = Value.bool true] (by kernel_rfl) ⟨congrArg Value.bool (beq_iff_eq.2 (c_3)), trivial⟩ ?_
    refine XL_nil ?_
    refine X_ret ?_
    refine RX.ret_ok (P := Tryd.prog) (fn := Tryd.f94) (N := 8) (R := R_) [.bool true] (by kernel_rfl) (hR_ _ _ ?_)
    rw [show (uchk s).2 = true from by rw [uchk_iff]; exact decide_eq_true (by omega)]
    exact ⟨rfl, hb_2⟩
  · refine XL_run 2 [(7, .eq (.bool false))] [(2, .bool false)] w_1 [Value.bool ((U.brkAt s : Int) == (s.size : Int)) = Value.bool false] (by kernel_rfl) ⟨congrArg Value.bool (beq_eq_false_iff_ne.2 (c_3)), trivial⟩ ?_
    refine XL_nil ?_
    refine X_ret ?_
    refine RX.ret_ok (P := Tryd.prog) (fn := Tryd.f94) (N := 8) (R := R_) [.bool false] (by kernel_rfl) (hR_ _ _ ?_)
    rw [show (uchk s).2 = false from by rw [uchk_iff]; exact decide_eq_false (by omega)]
    exact ⟨rfl, hb_2⟩
def txtErr (t : ByteArray) : Nat := if (uchk t).2 = false then 1 else if 1048576 < t.size then 10 else 0
theorem text_any (s : ByteArray) (w : World) (hs : s.size ≤ 100000000) : Calls Tryd.prog 124 #[.string s] w fun e w' => e = .returned (.int .i64 (txtErr s : Int)) ∧ Below w.heap.size w w' := by
  refine RX.enter Tryd.func124 rfl 9 rfl [(0, .string s)] rfl (by kernel_rfl) (fun R_ hR_ => ?_)
  refine X_seq ?_
  refine X_region ?_
  refine XL_run 1 [] [(0, .string s)] w [] (by kernel_rfl) trivial ?_
  refine XL_nil ?_
  refine X_seq ?_
  refine X_seq ?_
  refine X_region ?_
  refine XL_run 1 [] [(0, .string s), (3, .string s)] w [] (by kernel_rfl) trivial ?_
  refine XL_call 94 rfl rfl rfl ent94 [.string s] (by kernel_rfl) (utf8_any s _ (by omega)) ?_
  rintro e w_1 ⟨rfl, hb_2⟩; refine ⟨_, rfl, ?_⟩
  by_cases c_3 : (uchk s).2 = true
  · rw [show ((uchk s).2 : Bool) = true from by simpa using c_3]
    refine XL_run 1 [] [(0, .string s), (5, .bool false)] w_1 [] (by kernel_rfl) trivial ?_
    refine XL_nil ?_
    refine X_cond false rfl ?_
    refine X_skip ?_
    refine X_seq ?_
    refine X_seq ?_
    refine X_region ?_
    refine XL_run 2 [] [(7, .int .i64 (s.size : Int))] w_1 [] (by kernel_rfl) trivial ?_
    by_cases c_4 : (s.size : Int) > 1048576
    · refine XL_run 1 [(8, .eq (.bool true))] [(8, .bool true)] w_1 [Value.bool (decide ((s.size : Int) > 1048576)) = Value.bool true] (by kernel_rfl) ⟨congrArg Value.bool (decide_eq_true (c_4)), trivial⟩ ?_
      refine XL_nil ?_
      refine X_cond true rfl ?_
      refine X_seq ?_
      refine X_region ?_
      refine XL_run 1 [] [(2, .int .i64 10)] w_1 [] (by kernel_rfl) trivial ?_
      refine XL_nil ?_
      refine X_ret ?_
      refine RX.ret_ok (P := Tryd.prog) (fn := Tryd.f124) (N := 9) (R := R_) [.int .i64 10] (by kernel_rfl) (hR_ _ _ ?_)
      rw [show txtErr s = 10 from by unfold txtErr; simp_all <;> omega]
      exact ⟨rfl, hb_2⟩
    · refine XL_run 1 [(8, .eq (.bool false))] [(8, .bool false)] w_1 [Value.bool (decide ((s.size : Int) > 1048576)) = Value.bool false] (by kernel_rfl) ⟨congrArg Value.bool (decide_eq_false (c_4)), trivial⟩ ?_
      refine XL_nil ?_
      refine X_cond false rfl ?_
      refine X_skip ?_
      refine X_seq ?_
      refine X_region ?_
      refine XL_run 1 [] [(2, .int .i64 0)] w_1 [] (by kernel_rfl) trivial ?_
      refine XL_nil ?_
      refine X_ret ?_
      refine RX.ret_ok (P := Tryd.prog) (fn := Tryd.f124) (N := 9) (R := R_) [.int .i64 0] (by kernel_rfl) (hR_ _ _ ?_)
      rw [show txtErr s = 0 from by unfold txtErr; simp_all <;> omega]
      exact ⟨rfl, hb_2⟩
  · rw [show ((uchk s).2 : Bool) = false from by simpa using c_3]
    refine XL_run 1 [] [(0, .string s), (5, .bool true)] w_1 [] (by kernel_rfl) trivial ?_
    refine XL_nil ?_
    refine X_cond true rfl ?_
    refine X_seq ?_
    refine X_region ?_
    refine XL_run 1 [] [(2, .int .i64 1)] w_1 [] (by kernel_rfl) trivial ?_
    refine XL_nil ?_
    refine X_ret ?_
    refine RX.ret_ok (P := Tryd.prog) (fn := Tryd.f124) (N := 9) (R := R_) [.int .i64 1] (by kernel_rfl) (hR_ _ _ ?_)
    rw [show txtErr s = 1 from by unfold txtErr; simp_all <;> omega]
    exact ⟨rfl, hb_2⟩
theorem uchk_nil : (uchk ⟨#[]⟩).2 = true := rfl
theorem r2check_any (k n : Int) (t : ByteArray) (w : World) (hs : t.size ≤ 100000000) : Calls Tryd.prog 95 #[.agg #[.int .i64 k, .int .i64 n, .string t]] w fun e w' => e = .returned (.int .i64 (plainErr k n t : Int)) ∧ Below w.heap.size w w' := by
  have hz : (⟨#[]⟩ : ByteArray).size = 0 := rfl
  have hun := uchk_nil
  refine RX.enter Tryd.func95 rfl 43 rfl [(0, .agg #[.int .i64 k, .int .i64 n, .string t])] rfl (by kernel_rfl) (fun R_ hR_ => ?_)
  refine X_seq ?_
  refine X_region ?_
  refine XL_run 1 [] [(1, .pointer (some ⟨w.heap.size, 0, none⟩))] (w.alloc (.cells #[.int .i64 k, .int .i64 n, .string t] 30)) [] (by kernel_rfl) trivial ?_
  obtain ⟨w_1, hw_5, hb_2, hk_3, hz_4⟩ := new_world w #[.int .i64 k, .int .i64 n, .string t] 30
  rw [hw_5]
  refine XL_run 1 [] [(1, .pointer (some ⟨w.heap.size, 0, none⟩))] w_1 [] (by kernel_rfl) trivial ?_
  refine XL_nil ?_
  refine X_seq ?_
  refine X_seq ?_
  refine X_region ?_
  refine XL_run 2 [(4, .load (.int .i64 k))] [(1, .pointer (some ⟨w.heap.size, 0, none⟩)), (4, .int .i64 k)] w_1 [LoadsAs Tryd.prog 3 (⟨w.heap.size, 0, none⟩) (.int .i64 k) w_1] (by kernel_rfl) ⟨loads1 rfl (Blk.cell hk_3 0 _ rfl), trivial⟩ ?_
  refine XL_nil ?_
  refine X_block ?_
  refine X_seq ?_
  refine X_region ?_
  by_cases c_6 : k = 0
  · refine XL_run 2 [(6, .eq (.bool true))] [(1, .pointer (some ⟨w.heap.size, 0, none⟩)), (4, .int .i64 k), (5, .bool true)] w_1 [Value.bool (k == 0) = Value.bool true] (by kernel_rfl) ⟨congrArg Value.bool (beq_iff_eq.2 (c_6)), trivial⟩ ?_
    refine XL_nil ?_
    refine X_cond true rfl ?_
    refine X_seq ?_
    refine X_region ?_
    refine XL_run 2 [(8, .load (.int .i64 n))] [(1, .pointer (some ⟨w.heap.size, 0, none⟩)), (8, .int .i64 n)] w_1 [LoadsAs Tryd.prog 2 (⟨w.heap.size, 1, none⟩) (.int .i64 n) w_1] (by kernel_rfl) ⟨loads1 rfl (Blk.cell hk_3 1 _ rfl), trivial⟩ ?_
    by_cases c_7 : n = 0
    · refine XL_run 4 [(9, .eq (.bool false)), (12, .load (.string t))] [(10, .bool false), (12, .string t)] w_1 [Value.bool (n != 0) = Value.bool false, LoadsAs Tryd.prog 9 (⟨w.heap.size, 2, none⟩) (.string t) w_1] (by kernel_rfl) ⟨congrArg Value.bool (bneF (c_7)), loads1 rfl (Blk.cell hk_3 2 _ rfl), trivial⟩ ?_
      by_cases c_8 : t = (⟨#[]⟩ : ByteArray)
      · refine XL_run 2 [(13, .eq (.bool false))] [(14, .bool false)] w_1 [Value.bool (!t.toList == (⟨#[]⟩ : ByteArray).toList) = Value.bool false] (by kernel_rfl) ⟨congrArg Value.bool (strNeF (c_8)), trivial⟩ ?_
        refine XL_nil ?_
        refine X_cond false rfl ?_
        refine X_skip ?_
        refine X_seq ?_
        refine X_region ?_
        refine XL_run 1 [] [(2, .int .i64 0)] w_1 [] (by kernel_rfl) trivial ?_
        refine XL_nil ?_
        refine X_ret ?_
        refine RX.ret_ok (P := Tryd.prog) (fn := Tryd.f95) (N := 43) (R := R_) [.int .i64 0] (by kernel_rfl) (hR_ _ _ ?_)
        rw [show plainErr k n t = 0 from by unfold plainErr plainOk; first | (simp_all; done) | (simp_all; omega) | (simp_all <;> decide)]
        exact ⟨rfl, hb_2⟩
      · refine XL_run 2 [(13, .eq (.bool true))] [(14, .bool true)] w_1 [Value.bool (!t.toList == (⟨#[]⟩ : ByteArray).toList) = Value.bool true] (by kernel_rfl) ⟨congrArg Value.bool (strNeT (c_8)), trivial⟩ ?_
        refine XL_nil ?_
        refine X_cond true rfl ?_
        refine X_seq ?_
        refine X_region ?_
        refine XL_run 1 [] [(2, .int .i64 5)] w_1 [] (by kernel_rfl) trivial ?_
        refine XL_nil ?_
        refine X_ret ?_
        refine RX.ret_ok (P := Tryd.prog) (fn := Tryd.f95) (N := 43) (R := R_) [.int .i64 5] (by kernel_rfl) (hR_ _ _ ?_)
        rw [show plainErr k n t = 5 from by unfold plainErr plainOk; first | (simp_all; done) | (simp_all; omega) | (simp_all <;> decide)]
        exact ⟨rfl, hb_2⟩
    · refine XL_run 6 [(9, .eq (.bool true))] [(14, .bool true)] w_1 [Value.bool (n != 0) = Value.bool true] (by kernel_rfl) ⟨congrArg Value.bool (bneT (c_7)), trivial⟩ ?_
      refine XL_nil ?_
      refine X_cond true rfl ?_
      refine X_seq ?_
      refine X_region ?_
      refine XL_run 1 [] [(2, .int .i64 5)] w_1 [] (by kernel_rfl) trivial ?_
      refine XL_nil ?_
      refine X_ret ?_
      refine RX.ret_ok (P := Tryd.prog) (fn := Tryd.f95) (N := 43) (R := R_) [.int .i64 5] (by kernel_rfl) (hR_ _ _ ?_)
      rw [show plainErr k n t = 5 from by unfold plainErr plainOk; first | (simp_all; done) | (simp_all; omega) | (simp_all <;> decide)]
      exact ⟨rfl, hb_2⟩
  · refine XL_run 2 [(6, .eq (.bool false))] [(1, .pointer (some ⟨w.heap.size, 0, none⟩)), (4, .int .i64 k), (5, .bool false)] w_1 [Value.bool (k == 0) = Value.bool false] (by kernel_rfl) ⟨congrArg Value.bool (beq_eq_false_iff_ne.2 (c_6)), trivial⟩ ?_
    refine XL_nil ?_
    refine X_cond false rfl ?_
    refine X_seq ?_
    refine X_region ?_
    by_cases c_9 : k = 1
    · refine XL_run 2 [(16, .eq (.bool true))] [(1, .pointer (some ⟨w.heap.size, 0, none⟩)), (4, .int .i64 k), (15, .bool true)] w_1 [Value.bool (k == 1) = Value.bool true] (by kernel_rfl) ⟨congrArg Value.bool (beq_iff_eq.2 (c_9)), trivial⟩ ?_
      refine XL_nil ?_
      refine X_cond true rfl ?_
      refine X_seq ?_
      refine X_region ?_
      refine XL_run 2 [(18, .load (.int .i64 n))] [(1, .pointer (some ⟨w.heap.size, 0, none⟩)), (18, .int .i64 n)] w_1 [LoadsAs Tryd.prog 2 (⟨w.heap.size, 1, none⟩) (.int .i64 n) w_1] (by kernel_rfl) ⟨loads1 rfl (Blk.cell hk_3 1 _ rfl), trivial⟩ ?_
      by_cases c_10 : n < 0
      · refine XL_run 11 [(19, .eq (.bool true))] [(29, .bool true)] w_1 [Value.bool (decide (n < 0)) = Value.bool true] (by kernel_rfl) ⟨congrArg Value.bool (decide_eq_true (c_10)), trivial⟩ ?_
        refine XL_nil ?_
        refine X_cond true rfl ?_
        refine X_seq ?_
        refine X_region ?_
        refine XL_run 1 [] [(2, .int .i64 5)] w_1 [] (by kernel_rfl) trivial ?_
        refine XL_nil ?_
        refine X_ret ?_
        refine RX.ret_ok (P := Tryd.prog) (fn := Tryd.f95) (N := 43) (R := R_) [.int .i64 5] (by kernel_rfl) (hR_ _ _ ?_)
        rw [show plainErr k n t = 5 from by unfold plainErr plainOk; first | (simp_all; done) | (simp_all; omega) | (simp_all <;> decide)]
        exact ⟨rfl, hb_2⟩
      · refine XL_run 4 [(19, .eq (.bool false)), (22, .load (.int .i64 n))] [(1, .pointer (some ⟨w.heap.size, 0, none⟩)), (20, .bool false), (22, .int .i64 n)] w_1 [Value.bool (decide (n < 0)) = Value.bool false, LoadsAs Tryd.prog 2 (⟨w.heap.size, 1, none⟩) (.int .i64 n) w_1] (by kernel_rfl) ⟨congrArg Value.bool (decide_eq_false (c_10)), loads1 rfl (Blk.cell hk_3 1 _ rfl), trivial⟩ ?_
        by_cases c_11 : n > 1
        · refine XL_run 7 [(23, .eq (.bool true))] [(29, .bool true)] w_1 [Value.bool (decide (n > 1)) = Value.bool true] (by kernel_rfl) ⟨congrArg Value.bool (decide_eq_true (c_11)), trivial⟩ ?_
          refine XL_nil ?_
          refine X_cond true rfl ?_
          refine X_seq ?_
          refine X_region ?_
          refine XL_run 1 [] [(2, .int .i64 5)] w_1 [] (by kernel_rfl) trivial ?_
          refine XL_nil ?_
          refine X_ret ?_
          refine RX.ret_ok (P := Tryd.prog) (fn := Tryd.f95) (N := 43) (R := R_) [.int .i64 5] (by kernel_rfl) (hR_ _ _ ?_)
          rw [show plainErr k n t = 5 from by unfold plainErr plainOk; first | (simp_all; done) | (simp_all; omega) | (simp_all <;> decide)]
          exact ⟨rfl, hb_2⟩
        · refine XL_run 5 [(23, .eq (.bool false)), (27, .load (.string t))] [(25, .bool false), (27, .string t)] w_1 [Value.bool (decide (n > 1)) = Value.bool false, LoadsAs Tryd.prog 9 (⟨w.heap.size, 2, none⟩) (.string t) w_1] (by kernel_rfl) ⟨congrArg Value.bool (decide_eq_false (c_11)), loads1 rfl (Blk.cell hk_3 2 _ rfl), trivial⟩ ?_
          by_cases c_12 : t = (⟨#[]⟩ : ByteArray)
          · refine XL_run 2 [(28, .eq (.bool false))] [(29, .bool false)] w_1 [Value.bool (!t.toList == (⟨#[]⟩ : ByteArray).toList) = Value.bool false] (by kernel_rfl) ⟨congrArg Value.bool (strNeF (c_12)), trivial⟩ ?_
            refine XL_nil ?_
            refine X_cond false rfl ?_
            refine X_skip ?_
            refine X_seq ?_
            refine X_region ?_
            refine XL_run 1 [] [(2, .int .i64 0)] w_1 [] (by kernel_rfl) trivial ?_
            refine XL_nil ?_
            refine X_ret ?_
            refine RX.ret_ok (P := Tryd.prog) (fn := Tryd.f95) (N := 43) (R := R_) [.int .i64 0] (by kernel_rfl) (hR_ _ _ ?_)
            rw [show plainErr k n t = 0 from by unfold plainErr plainOk; first | (simp_all; done) | (simp_all; omega) | (simp_all <;> decide)]
            exact ⟨rfl, hb_2⟩
          · refine XL_run 2 [(28, .eq (.bool true))] [(29, .bool true)] w_1 [Value.bool (!t.toList == (⟨#[]⟩ : ByteArray).toList) = Value.bool true] (by kernel_rfl) ⟨congrArg Value.bool (strNeT (c_12)), trivial⟩ ?_
            refine XL_nil ?_
            refine X_cond true rfl ?_
            refine X_seq ?_
            refine X_region ?_
            refine XL_run 1 [] [(2, .int .i64 5)] w_1 [] (by kernel_rfl) trivial ?_
            refine XL_nil ?_
            refine X_ret ?_
            refine RX.ret_ok (P := Tryd.prog) (fn := Tryd.f95) (N := 43) (R := R_) [.int .i64 5] (by kernel_rfl) (hR_ _ _ ?_)
            rw [show plainErr k n t = 5 from by unfold plainErr plainOk; first | (simp_all; done) | (simp_all; omega) | (simp_all <;> decide)]
            exact ⟨rfl, hb_2⟩
    · refine XL_run 2 [(16, .eq (.bool false))] [(1, .pointer (some ⟨w.heap.size, 0, none⟩)), (4, .int .i64 k), (15, .bool false)] w_1 [Value.bool (k == 1) = Value.bool false] (by kernel_rfl) ⟨congrArg Value.bool (beq_eq_false_iff_ne.2 (c_9)), trivial⟩ ?_
      refine XL_nil ?_
      refine X_cond false rfl ?_
      refine X_seq ?_
      refine X_region ?_
      by_cases c_13 : k = 2
      · refine XL_run 2 [(31, .eq (.bool true))] [(1, .pointer (some ⟨w.heap.size, 0, none⟩)), (4, .int .i64 k), (30, .bool true)] w_1 [Value.bool (k == 2) = Value.bool true] (by kernel_rfl) ⟨congrArg Value.bool (beq_iff_eq.2 (c_13)), trivial⟩ ?_
        refine XL_nil ?_
        refine X_cond true rfl ?_
        refine X_seq ?_
        refine X_region ?_
        refine XL_run 2 [(33, .load (.string t))] [(33, .string t)] w_1 [LoadsAs Tryd.prog 9 (⟨w.heap.size, 2, none⟩) (.string t) w_1] (by kernel_rfl) ⟨loads1 rfl (Blk.cell hk_3 2 _ rfl), trivial⟩ ?_
        by_cases c_14 : t = (⟨#[]⟩ : ByteArray)
        · refine XL_run 1 [(34, .eq (.bool false))] [(34, .bool false)] w_1 [Value.bool (!t.toList == (⟨#[]⟩ : ByteArray).toList) = Value.bool false] (by kernel_rfl) ⟨congrArg Value.bool (strNeF (c_14)), trivial⟩ ?_
          refine XL_nil ?_
          refine X_cond false rfl ?_
          refine X_skip ?_
          refine X_seq ?_
          refine X_region ?_
          refine XL_run 1 [] [(2, .int .i64 0)] w_1 [] (by kernel_rfl) trivial ?_
          refine XL_nil ?_
          refine X_ret ?_
          refine RX.ret_ok (P := Tryd.prog) (fn := Tryd.f95) (N := 43) (R := R_) [.int .i64 0] (by kernel_rfl) (hR_ _ _ ?_)
          rw [show plainErr k n t = 0 from by unfold plainErr plainOk; first | (simp_all; done) | (simp_all; omega) | (simp_all <;> decide)]
          exact ⟨rfl, hb_2⟩
        · refine XL_run 1 [(34, .eq (.bool true))] [(34, .bool true)] w_1 [Value.bool (!t.toList == (⟨#[]⟩ : ByteArray).toList) = Value.bool true] (by kernel_rfl) ⟨congrArg Value.bool (strNeT (c_14)), trivial⟩ ?_
          refine XL_nil ?_
          refine X_cond true rfl ?_
          refine X_seq ?_
          refine X_region ?_
          refine XL_run 1 [] [(2, .int .i64 5)] w_1 [] (by kernel_rfl) trivial ?_
          refine XL_nil ?_
          refine X_ret ?_
          refine RX.ret_ok (P := Tryd.prog) (fn := Tryd.f95) (N := 43) (R := R_) [.int .i64 5] (by kernel_rfl) (hR_ _ _ ?_)
          rw [show plainErr k n t = 5 from by unfold plainErr plainOk; first | (simp_all; done) | (simp_all; omega) | (simp_all <;> decide)]
          exact ⟨rfl, hb_2⟩
      · refine XL_run 2 [(31, .eq (.bool false))] [(1, .pointer (some ⟨w.heap.size, 0, none⟩)), (4, .int .i64 k), (30, .bool false)] w_1 [Value.bool (k == 2) = Value.bool false] (by kernel_rfl) ⟨congrArg Value.bool (beq_eq_false_iff_ne.2 (c_13)), trivial⟩ ?_
        refine XL_nil ?_
        refine X_cond false rfl ?_
        refine X_seq ?_
        refine X_region ?_
        by_cases c_15 : k = 3
        · refine XL_run 2 [(36, .eq (.bool true))] [(1, .pointer (some ⟨w.heap.size, 0, none⟩)), (35, .bool true)] w_1 [Value.bool (k == 3) = Value.bool true] (by kernel_rfl) ⟨congrArg Value.bool (beq_iff_eq.2 (c_15)), trivial⟩ ?_
          refine XL_nil ?_
          refine X_cond true rfl ?_
          refine X_seq ?_
          refine X_seq ?_
          refine X_region ?_
          refine XL_run 2 [(38, .load (.int .i64 n))] [(1, .pointer (some ⟨w.heap.size, 0, none⟩)), (38, .int .i64 n)] w_1 [LoadsAs Tryd.prog 2 (⟨w.heap.size, 1, none⟩) (.int .i64 n) w_1] (by kernel_rfl) ⟨loads1 rfl (Blk.cell hk_3 1 _ rfl), trivial⟩ ?_
          by_cases c_16 : n = 0
          · refine XL_run 1 [(39, .eq (.bool false))] [(1, .pointer (some ⟨w.heap.size, 0, none⟩)), (39, .bool false)] w_1 [Value.bool (n != 0) = Value.bool false] (by kernel_rfl) ⟨congrArg Value.bool (bneF (c_16)), trivial⟩ ?_
            refine XL_nil ?_
            refine X_cond false rfl ?_
            refine X_skip ?_
            refine X_seq ?_
            refine X_region ?_
            refine XL_run 2 [(41, .load (.string t))] [(41, .string t)] w_1 [LoadsAs Tryd.prog 9 (⟨w.heap.size, 2, none⟩) (.string t) w_1] (by kernel_rfl) ⟨loads1 rfl (Blk.cell hk_3 2 _ rfl), trivial⟩ ?_
            refine XL_call 124 rfl rfl rfl ent124 [.string t] (by kernel_rfl) (text_any t _ (by omega)) ?_
            rintro e w_17 ⟨rfl, hb_18⟩; refine ⟨_, rfl, ?_⟩
            refine XL_run 1 [] [(2, .int .i64 (txtErr t : Int))] w_17 [] (by kernel_rfl) trivial ?_
            refine XL_nil ?_
            refine X_ret ?_
            refine RX.ret_ok (P := Tryd.prog) (fn := Tryd.f95) (N := 43) (R := R_) [.int .i64 (txtErr t : Int)] (by kernel_rfl) (hR_ _ _ ?_)
            rw [show plainErr k n t = txtErr t from by unfold plainErr plainOk txtErr; simp_all]
            exact ⟨rfl, (bt hb_2 hb_18)⟩
          · refine XL_run 1 [(39, .eq (.bool true))] [(1, .pointer (some ⟨w.heap.size, 0, none⟩)), (39, .bool true)] w_1 [Value.bool (n != 0) = Value.bool true] (by kernel_rfl) ⟨congrArg Value.bool (bneT (c_16)), trivial⟩ ?_
            refine XL_nil ?_
            refine X_cond true rfl ?_
            refine X_seq ?_
            refine X_region ?_
            refine XL_run 1 [] [(2, .int .i64 5)] w_1 [] (by kernel_rfl) trivial ?_
            refine XL_nil ?_
            refine X_ret ?_
            refine RX.ret_ok (P := Tryd.prog) (fn := Tryd.f95) (N := 43) (R := R_) [.int .i64 5] (by kernel_rfl) (hR_ _ _ ?_)
            rw [show plainErr k n t = 5 from by unfold plainErr plainOk; first | (simp_all; done) | (simp_all; omega) | (simp_all <;> decide)]
            exact ⟨rfl, hb_2⟩
        · refine XL_run 2 [(36, .eq (.bool false))] [(1, .pointer (some ⟨w.heap.size, 0, none⟩)), (35, .bool false)] w_1 [Value.bool (k == 3) = Value.bool false] (by kernel_rfl) ⟨congrArg Value.bool (beq_eq_false_iff_ne.2 (c_15)), trivial⟩ ?_
          refine XL_nil ?_
          refine X_cond false rfl ?_
          refine X_seq ?_
          refine X_region ?_
          refine XL_run 1 [] [(2, .int .i64 5)] w_1 [] (by kernel_rfl) trivial ?_
          refine XL_nil ?_
          refine X_ret ?_
          refine RX.ret_ok (P := Tryd.prog) (fn := Tryd.f95) (N := 43) (R := R_) [.int .i64 5] (by kernel_rfl) (hR_ _ _ ?_)
          rw [show plainErr k n t = 5 from by unfold plainErr plainOk; first | (simp_all; done) | (simp_all; omega) | (simp_all <;> decide)]
          exact ⟨rfl, hb_2⟩
theorem r3pair_any (x : At) (w : World) (h1 : x.1.size ≤ 100000000) (h2 : x.2.2.2.size ≤ 100000000) (hT : Tabs w) : Calls Tryd.prog 80 #[.agg #[.string x.1, .int .i64 x.2.1, .int .i64 x.2.2.1, .string x.2.2.2]] w fun e w' => e = .returned (.int .i64 (pairErr x : Int)) ∧ Below w.heap.size w w' := by
  have hke : x.1 = (⟨#[]⟩ : ByteArray) ↔ x.1.size = 0 := by
    constructor
    · intro e; rw [e]; rfl
    · intro e; exact U.bl_inj (List.length_eq_zero_iff.1 (by rw [U.bl_size]; exact e))
  refine RX.enter Tryd.func80 rfl 22 rfl [(0, .agg #[.string x.1, .int .i64 x.2.1, .int .i64 x.2.2.1, .string x.2.2.2])] rfl (by kernel_rfl) (fun R_ hR_ => ?_)
  refine X_seq ?_
  refine X_region ?_
  refine XL_run 1 [] [(1, .pointer (some ⟨w.heap.size, 0, none⟩))] (w.alloc (.cells #[.string x.1, .int .i64 x.2.1, .int .i64 x.2.2.1, .string x.2.2.2] 79)) [] (by kernel_rfl) trivial ?_
  obtain ⟨w_1, hw_5, hb_2, hk_3, hz_4⟩ := new_world w #[.string x.1, .int .i64 x.2.1, .int .i64 x.2.2.1, .string x.2.2.2] 79
  rw [hw_5]
  refine XL_run 1 [] [(1, .pointer (some ⟨w.heap.size, 0, none⟩))] w_1 [] (by kernel_rfl) trivial ?_
  refine XL_nil ?_
  refine X_seq ?_
  refine X_block ?_
  refine X_seq ?_
  refine X_region ?_
  refine XL_run 3 [(5, .load (.string x.1))] [(1, .pointer (some ⟨w.heap.size, 0, none⟩)), (6, .int .i64 (x.1.size : Int))] w_1 [LoadsAs Tryd.prog 9 (⟨w.heap.size, 0, none⟩) (.string x.1) w_1] (by kernel_rfl) ⟨loads1 rfl (Blk.cell hk_3 0 _ rfl), trivial⟩ ?_
  by_cases c_6 : (x.1.size : Int) < 1
  · refine XL_run 8 [(7, .eq (.bool true))] [(1, .pointer (some ⟨w.heap.size, 0, none⟩)), (3, .bool true)] w_1 [Value.bool (decide ((x.1.size : Int) < 1)) = Value.bool true] (by kernel_rfl) ⟨congrArg Value.bool (decide_eq_true (c_6)), trivial⟩ ?_
    refine XL_nil ?_
    refine X_cond true rfl ?_
    refine X_seq ?_
    refine X_region ?_
    refine XL_run 1 [] [(2, .int .i64 6)] w_1 [] (by kernel_rfl) trivial ?_
    refine XL_nil ?_
    refine X_ret ?_
    refine RX.ret_ok (P := Tryd.prog) (fn := Tryd.f80) (N := 22) (R := R_) [.int .i64 6] (by kernel_rfl) (hR_ _ _ ?_)
    rw [show pairErr x = 6 from if_pos (by rw [hke]; omega)]
    exact ⟨rfl, hb_2⟩
  · refine XL_run 5 [(7, .eq (.bool false)), (10, .load (.string x.1))] [(1, .pointer (some ⟨w.heap.size, 0, none⟩)), (8, .bool false), (11, .int .i64 (x.1.size : Int))] w_1 [Value.bool (decide ((x.1.size : Int) < 1)) = Value.bool false, LoadsAs Tryd.prog 9 (⟨w.heap.size, 0, none⟩) (.string x.1) w_1] (by kernel_rfl) ⟨congrArg Value.bool (decide_eq_false (c_6)), loads1 rfl (Blk.cell hk_3 0 _ rfl), trivial⟩ ?_
    by_cases c_7 : (x.1.size : Int) > 64
    · refine XL_run 3 [(12, .eq (.bool true))] [(1, .pointer (some ⟨w.heap.size, 0, none⟩)), (3, .bool true)] w_1 [Value.bool (decide ((x.1.size : Int) > 64)) = Value.bool true] (by kernel_rfl) ⟨congrArg Value.bool (decide_eq_true (c_7)), trivial⟩ ?_
      refine XL_nil ?_
      refine X_cond true rfl ?_
      refine X_seq ?_
      refine X_region ?_
      refine XL_run 1 [] [(2, .int .i64 6)] w_1 [] (by kernel_rfl) trivial ?_
      refine XL_nil ?_
      refine X_ret ?_
      refine RX.ret_ok (P := Tryd.prog) (fn := Tryd.f80) (N := 22) (R := R_) [.int .i64 6] (by kernel_rfl) (hR_ _ _ ?_)
      rw [show pairErr x = 6 from if_pos (by rw [hke]; omega)]
      exact ⟨rfl, hb_2⟩
    · refine XL_run 3 [(12, .eq (.bool false))] [(1, .pointer (some ⟨w.heap.size, 0, none⟩)), (3, .bool false)] w_1 [Value.bool (decide ((x.1.size : Int) > 64)) = Value.bool false] (by kernel_rfl) ⟨congrArg Value.bool (decide_eq_false (c_7)), trivial⟩ ?_
      refine XL_nil ?_
      refine X_cond false rfl ?_
      refine X_seq ?_
      refine X_region ?_
      refine XL_run 2 [(16, .load (.string x.1))] [(1, .pointer (some ⟨w.heap.size, 0, none⟩)), (16, .string x.1)] w_1 [LoadsAs Tryd.prog 9 (⟨w.heap.size, 0, none⟩) (.string x.1) w_1] (by kernel_rfl) ⟨loads1 rfl (Blk.cell hk_3 0 _ rfl), trivial⟩ ?_
      refine XL_call 115 rfl rfl rfl ent115 [.string x.1] (by kernel_rfl) (Tryd.utf8_ValidString x.1 _ (by omega) (hT.below hb_2)) ?_
      rintro e w_8 ⟨rfl, hb_9⟩; refine ⟨_, rfl, ?_⟩
      rw [valid_uchk]
      by_cases c_10 : (uchk x.1).2 = true
      · rw [show ((uchk x.1).2 : Bool) = true from by simpa using c_10]
        refine XL_run 2 [] [(1, .pointer (some ⟨w.heap.size, 0, none⟩)), (14, .bool false)] w_8 [] (by kernel_rfl) trivial ?_
        refine XL_nil ?_
        refine X_cond false rfl ?_
        refine X_skip ?_
        refine X_seq ?_
        refine X_region ?_
        refine XL_run 2 [(20, .load (.agg #[.int .i64 x.2.1, .int .i64 x.2.2.1, .string x.2.2.2]))] [(20, .agg #[.int .i64 x.2.1, .int .i64 x.2.2.1, .string x.2.2.2])] w_8 [LoadsAs Tryd.prog 30 (⟨w.heap.size, 1, none⟩) (.agg #[.int .i64 x.2.1, .int .i64 x.2.2.1, .string x.2.2.2]) w_8] (by kernel_rfl) ⟨loadsB rfl rfl (Blk.below hk_3 hb_9) 1 ⟨by kernel_rfl, by kernel_rfl⟩, trivial⟩ ?_
        refine XL_call 95 rfl rfl rfl ent95 [.agg #[.int .i64 x.2.1, .int .i64 x.2.2.1, .string x.2.2.2]] (by kernel_rfl) (r2check_any x.2.1 x.2.2.1 x.2.2.2 _ (by omega)) ?_
        rintro e w_11 ⟨rfl, hb_12⟩; refine ⟨_, rfl, ?_⟩
        refine XL_run 1 [] [(2, .int .i64 (plainErr x.2.1 x.2.2.1 x.2.2.2 : Int))] w_11 [] (by kernel_rfl) trivial ?_
        refine XL_nil ?_
        refine X_ret ?_
        refine RX.ret_ok (P := Tryd.prog) (fn := Tryd.f80) (N := 22) (R := R_) [.int .i64 (plainErr x.2.1 x.2.2.1 x.2.2.2 : Int)] (by kernel_rfl) (hR_ _ _ ?_)
        have hp0 : pairErr x = if (uchk x.1).2 = false then 1 else plainErr x.2.1 x.2.2.1 x.2.2.2 := if_neg (by rw [hke]; omega)
        rw [show pairErr x = plainErr x.2.1 x.2.2.1 x.2.2.2 from by rw [hp0]; simp [c_10]]
        exact ⟨rfl, (bt (bt hb_2 hb_9) hb_12)⟩
      · rw [show ((uchk x.1).2 : Bool) = false from by simpa using c_10]
        refine XL_run 2 [] [(1, .pointer (some ⟨w.heap.size, 0, none⟩)), (14, .bool true)] w_8 [] (by kernel_rfl) trivial ?_
        refine XL_nil ?_
        refine X_cond true rfl ?_
        refine X_seq ?_
        refine X_region ?_
        refine XL_run 1 [] [(2, .int .i64 1)] w_8 [] (by kernel_rfl) trivial ?_
        refine XL_nil ?_
        refine X_ret ?_
        refine RX.ret_ok (P := Tryd.prog) (fn := Tryd.f80) (N := 22) (R := R_) [.int .i64 1] (by kernel_rfl) (hR_ _ _ ?_)
        have hp0 : pairErr x = if (uchk x.1).2 = false then 1 else plainErr x.2.1 x.2.2.1 x.2.2.2 := if_neg (by rw [hke]; omega)
        rw [show pairErr x = 1 from by rw [hp0]; simp [c_10]]
        exact ⟨rfl, (bt hb_2 hb_9)⟩
theorem geq_iff (a b : ByteArray) : (!Op.bytesLess a.toList b.toList) = (Op.bytesLess b.toList a.toList || b.toList == a.toList) := by
  cases h1 : Op.bytesLess a.toList b.toList with
  | true =>
    have h2 := kl_asymm (a := a) (b := b) h1
    unfold kl at h2
    rw [h2]
    have h3 : (b.toList == a.toList) = false := by rw [beq_eq_false_iff_ne]; exact fun e => kl_ne (a := a) (b := b) h1 (bytes_ext e.symm)
    rw [h3]; rfl
  | false =>
    cases h2 : Op.bytesLess b.toList a.toList with
    | true => rfl
    | false => rw [kl_tri h1 h2]; simp
set_option maxHeartbeats 1000000 in
theorem r3check_any (A : Option Addr) (c : Nat) (xs : List At) (nulls : Bool) (w : World) (hx : kAttr.C w A xs.length xs) (hsz : ∀ i, i < xs.length → (xs.getD i at0).1.size ≤ 100000000 ∧ (xs.getD i at0).2.2.2.size ≤ 100000000) (hT : Tabs w) :
    Calls Tryd.prog 30 #[.slice A xs.length c, .bool nulls] w fun e w' => e = .returned (.int .i64 (chkA nulls xs : Int)) ∧ Below w.heap.size w w' := by
  have hpl : xs.length ≤ 9223372036854775807 := hx.2.1
  refine RX.enter Tryd.func30 rfl 45 rfl [(0, .slice A xs.length c), (1, .bool nulls)] rfl (by kernel_rfl) (fun R_ hR_ => ?_)
  refine X_seq ?_
  refine X_region ?_
  refine XL_run 1 [] [(0, .slice A xs.length c), (1, .bool nulls)] w [] (by kernel_rfl) trivial ?_
  refine XL_nil ?_
  refine X_seq ?_
  refine X_seq ?_
  refine X_region ?_
  refine XL_run 3 [] [(0, .slice A xs.length c), (1, .bool nulls), (8, .slice A xs.length c), (9, .int .i64 (xs.length : Int)), (10, .int .i64 0)] w [] (by kernel_rfl) trivial ?_
  refine XL_nil ?_
  refine X_block ?_
  refine X_loop (ι := Nat) (fun i => [(0, .slice A xs.length c), (1, .bool nulls), (8, .slice A xs.length c), (9, .int .i64 (xs.length : Int)), (10, .int .i64 (i : Int))]) (fun i wl => i ≤ xs.length ∧ chkUpto nulls xs i = 0 ∧ Below w.heap.size w wl) (fun i => xs.length - i) 0 ⟨by omega, rfl, (Below.refl _ _)⟩ (by kernel_rfl) ?_
  rintro i wl ⟨hi, h0, HB⟩
  have hz : ((i : Int) - 1).toNat = i - 1 := by omega
  refine X_seq ?_
  refine X_region ?_
  by_cases c_1 : (i : Int) < (xs.length : Int)
  · refine XL_run 1 [(11, .eq (.bool true))] [(0, .slice A xs.length c), (1, .bool nulls), (8, .slice A xs.length c), (9, .int .i64 (xs.length : Int)), (10, .int .i64 (i : Int)), (11, .bool true)] wl [Value.bool (decide ((i : Int) < (xs.length : Int))) = Value.bool true] (by kernel_rfl) ⟨congrArg Value.bool (decide_eq_true (c_1)), trivial⟩ ?_
    refine XL_nil ?_
    refine X_seq ?_
    refine X_cond true rfl ?_
    refine X_skip ?_
    refine X_seq ?_
    refine X_block ?_
    refine X_seq ?_
    refine X_region ?_
    refine XL_run 1 [] [(0, .slice A xs.length c), (1, .bool nulls), (8, .slice A xs.length c), (9, .int .i64 (xs.length : Int)), (10, .int .i64 (i : Int)), (12, .int .i64 (i : Int))] wl [] (by kernel_rfl) trivial ?_
    obtain ⟨ad_2, ha_3, hc_4⟩ := Kd.atAttr (Kd.C_below hx HB) (i := (i : Int)) (by omega) (by omega)
    replace hc_4 : CellsAt wl (ad_2.add ((i : Int).toNat * 4)) [.string ((xs.getD i at0).1), .int .i64 ((xs.getD i at0).2.1), .int .i64 ((xs.getD i at0).2.2.1), .string ((xs.getD i at0).2.2.2)] := hc_4
    refine XL_run 3 [(13, .idx ad_2), (14, .load (.agg #[.string ((xs.getD i at0).1), .int .i64 ((xs.getD i at0).2.1), .int .i64 ((xs.getD i at0).2.2.1), .string ((xs.getD i at0).2.2.2)]))] [(0, .slice A xs.length c), (1, .bool nulls), (6, .pointer (some ⟨wl.heap.size, 0, none⟩)), (8, .slice A xs.length c), (9, .int .i64 (xs.length : Int)), (10, .int .i64 (i : Int)), (12, .int .i64 (i : Int)), (14, .agg #[.string ((xs.getD i at0).1), .int .i64 ((xs.getD i at0).2.1), .int .i64 ((xs.getD i at0).2.2.1), .string ((xs.getD i at0).2.2.2)])] (wl.alloc (.cells #[.string ByteArray.empty, .int .i64 0, .int .i64 0, .string ByteArray.empty] 79)) [A = some ad_2, (0 : Int) ≤ (i : Int), (i : Int) < (xs.length : Int), LoadsAs Tryd.prog 79 (ad_2.add ((i : Int).toNat * 4)) (.agg #[.string ((xs.getD i at0).1), .int .i64 ((xs.getD i at0).2.1), .int .i64 ((xs.getD i at0).2.2.1), .string ((xs.getD i at0).2.2.2)]) wl] (by kernel_rfl) ⟨ha_3, (by omega), (by omega), loadsE rfl rfl hc_4 0 ⟨by kernel_rfl, by kernel_rfl⟩, trivial⟩ ?_
    obtain ⟨w_5, hw_9, hb_6, hk_7, hz_8⟩ := new_world wl #[.string ByteArray.empty, .int .i64 0, .int .i64 0, .string ByteArray.empty] 79
    rw [hw_9]
    refine XL_run 1 [] [(0, .slice A xs.length c), (1, .bool nulls), (5, .int .i64 (i : Int)), (6, .pointer (some ⟨wl.heap.size, 0, none⟩)), (8, .slice A xs.length c), (9, .int .i64 (xs.length : Int)), (10, .int .i64 (i : Int)), (14, .agg #[.string ((xs.getD i at0).1), .int .i64 ((xs.getD i at0).2.1), .int .i64 ((xs.getD i at0).2.2.1), .string ((xs.getD i at0).2.2.2)])] w_5 [] (by kernel_rfl) trivial ?_
    refine XL_store (v := .agg #[.string ((xs.getD i at0).1), .int .i64 ((xs.getD i at0).2.1), .int .i64 ((xs.getD i at0).2.2.1), .string ((xs.getD i at0).2.2.2)]) rfl rfl rfl (by kernel_rfl) hk_7 0 [.string ((xs.getD i at0).1), .int .i64 ((xs.getD i at0).2.1), .int .i64 ((xs.getD i at0).2.2.1), .string ((xs.getD i at0).2.2.2)] #[.string ((xs.getD i at0).1), .int .i64 ((xs.getD i at0).2.1), .int .i64 ((xs.getD i at0).2.2.1), .string ((xs.getD i at0).2.2.2)] ⟨by kernel_rfl, rfl, by kernel_rfl⟩ ⟨by kernel_rfl, by kernel_rfl⟩ (Nat.le_of_ble_eq_true (by kernel_rfl)) (fun w_10 hg_11 hk_12 hz_13 => ?_)
    refine XL_nil ?_
    refine X_seq ?_
    refine X_region ?_
    refine XL_run 1 [(15, .load (.agg #[.string ((xs.getD i at0).1), .int .i64 ((xs.getD i at0).2.1), .int .i64 ((xs.getD i at0).2.2.1), .string ((xs.getD i at0).2.2.2)]))] [(0, .slice A xs.length c), (1, .bool nulls), (5, .int .i64 (i : Int)), (6, .pointer (some ⟨wl.heap.size, 0, none⟩)), (8, .slice A xs.length c), (9, .int .i64 (xs.length : Int)), (10, .int .i64 (i : Int)), (15, .agg #[.string ((xs.getD i at0).1), .int .i64 ((xs.getD i at0).2.1), .int .i64 ((xs.getD i at0).2.2.1), .string ((xs.getD i at0).2.2.2)])] w_10 [LoadsAs Tryd.prog 79 (⟨wl.heap.size, 0, none⟩) (.agg #[.string ((xs.getD i at0).1), .int .i64 ((xs.getD i at0).2.1), .int .i64 ((xs.getD i at0).2.2.1), .string ((xs.getD i at0).2.2.2)]) w_10] (by kernel_rfl) ⟨loadsB rfl rfl hk_12 0 ⟨by kernel_rfl, by kernel_rfl⟩, trivial⟩ ?_
    refine XL_call 80 rfl rfl rfl ent80 [.agg #[.string ((xs.getD i at0).1), .int .i64 ((xs.getD i at0).2.1), .int .i64 ((xs.getD i at0).2.2.1), .string ((xs.getD i at0).2.2.2)]] (by kernel_rfl) (r3pair_any (xs.getD i at0) _ (hsz i (by omega)).1 (hsz i (by omega)).2 (hT.below (bg (bt HB hb_6) hg_11 (HB).size))) ?_
    rintro e w_14 ⟨rfl, hb_15⟩; refine ⟨_, rfl, ?_⟩
    refine XL_run 1 [] [(0, .slice A xs.length c), (1, .bool nulls), (5, .int .i64 (i : Int)), (6, .pointer (some ⟨wl.heap.size, 0, none⟩)), (7, .int .i64 (pairErr (xs.getD i at0) : Int)), (8, .slice A xs.length c), (9, .int .i64 (xs.length : Int)), (10, .int .i64 (i : Int))] w_14 [] (by kernel_rfl) trivial ?_
    refine XL_nil ?_
    refine X_block ?_
    refine X_seq ?_
    refine X_region ?_
    refine XL_run 1 [] [(0, .slice A xs.length c), (1, .bool nulls), (5, .int .i64 (i : Int)), (6, .pointer (some ⟨wl.heap.size, 0, none⟩)), (7, .int .i64 (pairErr (xs.getD i at0) : Int)), (8, .slice A xs.length c), (9, .int .i64 (xs.length : Int)), (10, .int .i64 (i : Int)), (18, .int .i64 (pairErr (xs.getD i at0) : Int))] w_14 [] (by kernel_rfl) trivial ?_
    by_cases c_16 : (pairErr (xs.getD i at0) : Int) = 0
    · refine XL_run 2 [(19, .eq (.bool false))] [(0, .slice A xs.length c), (1, .bool nulls), (5, .int .i64 (i : Int)), (6, .pointer (some ⟨wl.heap.size, 0, none⟩)), (7, .int .i64 (pairErr (xs.getD i at0) : Int)), (8, .slice A xs.length c), (9, .int .i64 (xs.length : Int)), (10, .int .i64 (i : Int)), (17, .bool false)] w_14 [Value.bool ((pairErr (xs.getD i at0) : Int) != 0) = Value.bool false] (by kernel_rfl) ⟨congrArg Value.bool (bneF (c_16)), trivial⟩ ?_
      refine XL_nil ?_
      refine X_cond false rfl ?_
      refine X_seq ?_
      refine X_region ?_
      refine XL_run 3 [(24, .load (.int .i64 ((xs.getD i at0).2.1)))] [(0, .slice A xs.length c), (1, .bool nulls), (5, .int .i64 (i : Int)), (6, .pointer (some ⟨wl.heap.size, 0, none⟩)), (8, .slice A xs.length c), (9, .int .i64 (xs.length : Int)), (10, .int .i64 (i : Int)), (24, .int .i64 ((xs.getD i at0).2.1))] w_14 [LoadsAs Tryd.prog 3 (⟨wl.heap.size, 1, none⟩) (.int .i64 ((xs.getD i at0).2.1)) w_14] (by kernel_rfl) ⟨loads1 rfl (Blk.cell (Blk.below hk_12 hb_15) 1 _ rfl), trivial⟩ ?_
      by_cases c_17 : (xs.getD i at0).2.1 = 0
      · refine XL_run 3 [(25, .eq (.bool true))] [(0, .slice A xs.length c), (1, .bool nulls), (5, .int .i64 (i : Int)), (6, .pointer (some ⟨wl.heap.size, 0, none⟩)), (8, .slice A xs.length c), (9, .int .i64 (xs.length : Int)), (10, .int .i64 (i : Int)), (26, .bool true), (27, .bool nulls)] w_14 [Value.bool ((xs.getD i at0).2.1 == 0) = Value.bool true] (by kernel_rfl) ⟨congrArg Value.bool (beq_iff_eq.2 (c_17)), trivial⟩ ?_
        by_cases c_18 : nulls = true
        · rw [show (nulls : Bool) = true from by simpa using c_18]
          refine XL_run 3 [] [(0, .slice A xs.length c), (1, .bool true), (5, .int .i64 (i : Int)), (6, .pointer (some ⟨wl.heap.size, 0, none⟩)), (8, .slice A xs.length c), (9, .int .i64 (xs.length : Int)), (10, .int .i64 (i : Int)), (21, .bool false)] w_14 [] (by kernel_rfl) trivial ?_
          refine XL_nil ?_
          refine X_cond false rfl ?_
          refine X_seq ?_
          refine X_still (by kernel_rfl) (by kernel_rfl) (fun wd_19 hb_20 hh_21 => ?_)
          refine XS_run 1 [] [.int .i64 (i : Int)] [(0, .slice A xs.length c), (1, .bool true), (5, .int .i64 (i : Int)), (6, .pointer (some ⟨wl.heap.size, 0, none⟩)), (8, .slice A xs.length c), (9, .int .i64 (xs.length : Int)), (10, .int .i64 (i : Int)), (31, .int .i64 (i : Int))] [] (by kernel_rfl) (by kernel_rfl) trivial ?_
          by_cases c_22 : (i : Int) > 0
          · refine XS_run 5 [(32, .eq (.bool true)), (36, .eq (.int .i64 ((i : Int) - 1)))] [.bool true, .bool true, .slice A xs.length c, .int .i64 (i : Int), .int .i64 ((i : Int) - 1)] [(0, .slice A xs.length c), (1, .bool true), (6, .pointer (some ⟨wl.heap.size, 0, none⟩)), (8, .slice A xs.length c), (9, .int .i64 (xs.length : Int)), (10, .int .i64 (i : Int)), (33, .bool true), (34, .slice A xs.length c), (36, .int .i64 ((i : Int) - 1))] [Value.bool (decide ((i : Int) > 0)) = Value.bool true, Value.int .i64 (IntKind.i64.wrap ((i : Int) - 1)) = Value.int .i64 ((i : Int) - 1)] (by kernel_rfl) (by kernel_rfl) ⟨congrArg Value.bool (decide_eq_true (c_22)), wr_i64 (by omega) (by omega), trivial⟩ ?_
            have hB_23 : Below w.heap.size w wd_19 := (bt (bt (bg (bt HB hb_6) hg_11 (HB).size) hb_15) hb_20)
            obtain ⟨ad_24, ha_25, hc_26⟩ := Kd.atAttr (Kd.C_below hx hB_23) (i := (i : Int) - 1) (by omega) (by omega)
            replace hc_26 : CellsAt wd_19 (ad_24.add (((i : Int) - 1).toNat * 4)) [.string ((xs.getD ((i : Int) - 1).toNat at0).1), .int .i64 ((xs.getD ((i : Int) - 1).toNat at0).2.1), .int .i64 ((xs.getD ((i : Int) - 1).toNat at0).2.2.1), .string ((xs.getD ((i : Int) - 1).toNat at0).2.2.2)] := hc_26
            refine XS_run 5 [(37, .idx ad_24), (39, .load (.string ((xs.getD ((i : Int) - 1).toNat at0).1))), (41, .load (.string ((xs.getD i at0).1)))] [.pointer (some (ad_24.add (((i : Int) - 1).toNat * 4))), .pointer (some (ad_24.add (((i : Int) - 1).toNat * 4))), .string ((xs.getD ((i : Int) - 1).toNat at0).1), .pointer (some ⟨wl.heap.size, 0, none⟩), .string ((xs.getD i at0).1)] [(0, .slice A xs.length c), (1, .bool true), (8, .slice A xs.length c), (9, .int .i64 (xs.length : Int)), (10, .int .i64 (i : Int)), (33, .bool true), (39, .string ((xs.getD ((i : Int) - 1).toNat at0).1)), (41, .string ((xs.getD i at0).1))] [A = some ad_24, (0 : Int) ≤ (i : Int) - 1, (i : Int) - 1 < (xs.length : Int), LoadsAs Tryd.prog 9 (ad_24.add (((i : Int) - 1).toNat * 4)) (.string ((xs.getD ((i : Int) - 1).toNat at0).1)) wd_19, LoadsAs Tryd.prog 9 (⟨wl.heap.size, 0, none⟩) (.string ((xs.getD i at0).1)) wd_19] (by kernel_rfl) (by kernel_rfl) ⟨ha_25, (by omega), (by omega), loads1 rfl (elem_cell hc_26 0 _ rfl), loads1 rfl (Blk.cell (Blk.below hk_12 (bt hb_15 hb_20)) 0 _ rfl), trivial⟩ ?_
            by_cases c_27 : (!(Op.bytesLess ((xs.getD ((i : Int) - 1).toNat at0).1).toList ((xs.getD i at0).1).toList)) = true
            · refine XS_run 3 [(42, .eq (.bool true))] [.bool true, .bool true, .bool true] [(0, .slice A xs.length c), (1, .bool true), (8, .slice A xs.length c), (9, .int .i64 (xs.length : Int)), (10, .int .i64 (i : Int)), (30, .bool true)] [Value.bool (!(Op.bytesLess ((xs.getD ((i : Int) - 1).toNat at0).1).toList ((xs.getD i at0).1).toList)) = Value.bool true] (by kernel_rfl) (by kernel_rfl) ⟨congrArg Value.bool (c_27), trivial⟩ ?_
              refine XS_nil ?_
              refine X_cond true rfl ?_
              refine X_seq ?_
              refine X_region ?_
              refine XL_run 1 [] [(4, .int .i64 8)] wd_19 [] (by kernel_rfl) trivial ?_
              refine XL_nil ?_
              refine X_ret ?_
              refine RX.ret_ok (P := Tryd.prog) (fn := Tryd.f30) (N := 45) (R := R_) [.int .i64 8] (by kernel_rfl) (hR_ _ _ ?_)
              obtain rfl : nulls = true := c_18
              (try simp only [hz] at *)
              have he : attrAt true xs i = 8 := by unfold attrAt; rw [← geq_iff]; simp_all <;> omega
              rw [chkA_stop true xs i (by omega) h0 (by rw [he]; first | decide | (intro e_; omega)), he]
              exact ⟨rfl, hB_23⟩
            · refine XS_run 3 [(42, .eq (.bool false))] [.bool false, .bool false, .bool false] [(0, .slice A xs.length c), (1, .bool true), (8, .slice A xs.length c), (9, .int .i64 (xs.length : Int)), (10, .int .i64 (i : Int)), (30, .bool false)] [Value.bool (!(Op.bytesLess ((xs.getD ((i : Int) - 1).toNat at0).1).toList ((xs.getD i at0).1).toList)) = Value.bool false] (by kernel_rfl) (by kernel_rfl) ⟨congrArg Value.bool (Bool.eq_false_iff.2 (c_27)), trivial⟩ ?_
              refine XS_nil ?_
              refine X_cond false rfl ?_
              refine X_skip ?_
              refine X_region ?_
              refine XL_run 2 [(44, .eq (.int .i64 ((i : Int) + 1)))] [(0, .slice A xs.length c), (1, .bool true), (8, .slice A xs.length c), (9, .int .i64 (xs.length : Int)), (10, .int .i64 ((i : Int) + 1))] wd_19 [Value.int .i64 (IntKind.i64.wrap ((i : Int) + 1)) = Value.int .i64 ((i : Int) + 1)] (by kernel_rfl) ⟨wr_i64 (by omega) (by omega), trivial⟩ ?_
              refine XL_nil ?_
              refine ⟨(i + 1), by kernel_rfl, ?_, ?_⟩
              · obtain rfl : nulls = true := c_18
                (try simp only [hz] at *)
                exact ⟨by omega, chkUpto_succ _ _ _ h0 (by unfold attrAt; rw [← geq_iff]; simp_all <;> omega), hB_23⟩
              · (try dsimp only); omega
          · refine XS_run 13 [(32, .eq (.bool false))] [.bool false, .bool false, undef, undef, undef, undef, undef, undef, undef, undef, undef, .bool false, .bool false] [(0, .slice A xs.length c), (1, .bool true), (8, .slice A xs.length c), (9, .int .i64 (xs.length : Int)), (10, .int .i64 (i : Int)), (30, .bool false)] [Value.bool (decide ((i : Int) > 0)) = Value.bool false] (by kernel_rfl) (by kernel_rfl) ⟨congrArg Value.bool (decide_eq_false (c_22)), trivial⟩ ?_
            refine XS_nil ?_
            refine X_cond false rfl ?_
            refine X_skip ?_
            refine X_region ?_
            refine XL_run 2 [(44, .eq (.int .i64 ((i : Int) + 1)))] [(0, .slice A xs.length c), (1, .bool true), (8, .slice A xs.length c), (9, .int .i64 (xs.length : Int)), (10, .int .i64 ((i : Int) + 1))] wd_19 [Value.int .i64 (IntKind.i64.wrap ((i : Int) + 1)) = Value.int .i64 ((i : Int) + 1)] (by kernel_rfl) ⟨wr_i64 (by omega) (by omega), trivial⟩ ?_
            refine XL_nil ?_
            have hB_28 : Below w.heap.size w wd_19 := (bt (bt (bg (bt HB hb_6) hg_11 (HB).size) hb_15) hb_20)
            refine ⟨(i + 1), by kernel_rfl, ?_, ?_⟩
            · obtain rfl : nulls = true := c_18
              (try simp only [hz] at *)
              exact ⟨by omega, chkUpto_succ _ _ _ h0 (by unfold attrAt; rw [← geq_iff]; simp_all <;> omega), hB_28⟩
            · (try dsimp only); omega
        · rw [show (nulls : Bool) = false from by simpa using c_18]
          refine XL_run 3 [] [(0, .slice A xs.length c), (1, .bool false), (5, .int .i64 (i : Int)), (6, .pointer (some ⟨wl.heap.size, 0, none⟩)), (8, .slice A xs.length c), (9, .int .i64 (xs.length : Int)), (10, .int .i64 (i : Int)), (21, .bool true)] w_14 [] (by kernel_rfl) trivial ?_
          refine XL_nil ?_
          refine X_cond true rfl ?_
          refine X_seq ?_
          refine X_region ?_
          refine XL_run 1 [] [(4, .int .i64 7)] w_14 [] (by kernel_rfl) trivial ?_
          refine XL_nil ?_
          refine X_ret ?_
          refine RX.ret_ok (P := Tryd.prog) (fn := Tryd.f30) (N := 45) (R := R_) [.int .i64 7] (by kernel_rfl) (hR_ _ _ ?_)
          have hB_29 : Below w.heap.size w w_14 := (bt (bg (bt HB hb_6) hg_11 (HB).size) hb_15)
          obtain rfl : nulls = false := Bool.eq_false_iff.2 c_18
          (try simp only [hz] at *)
          have he : attrAt false xs i = 7 := by unfold attrAt; rw [← geq_iff]; simp_all <;> omega
          rw [chkA_stop false xs i (by omega) h0 (by rw [he]; first | decide | (intro e_; omega)), he]
          exact ⟨rfl, hB_29⟩
      · refine XL_run 6 [(25, .eq (.bool false))] [(0, .slice A xs.length c), (1, .bool nulls), (5, .int .i64 (i : Int)), (6, .pointer (some ⟨wl.heap.size, 0, none⟩)), (8, .slice A xs.length c), (9, .int .i64 (xs.length : Int)), (10, .int .i64 (i : Int)), (21, .bool false)] w_14 [Value.bool ((xs.getD i at0).2.1 == 0) = Value.bool false] (by kernel_rfl) ⟨congrArg Value.bool (beq_eq_false_iff_ne.2 (c_17)), trivial⟩ ?_
        refine XL_nil ?_
        refine X_cond false rfl ?_
        refine X_seq ?_
        refine X_still (by kernel_rfl) (by kernel_rfl) (fun wd_30 hb_31 hh_32 => ?_)
        refine XS_run 1 [] [.int .i64 (i : Int)] [(0, .slice A xs.length c), (1, .bool nulls), (5, .int .i64 (i : Int)), (6, .pointer (some ⟨wl.heap.size, 0, none⟩)), (8, .slice A xs.length c), (9, .int .i64 (xs.length : Int)), (10, .int .i64 (i : Int)), (31, .int .i64 (i : Int))] [] (by kernel_rfl) (by kernel_rfl) trivial ?_
        by_cases c_33 : (i : Int) > 0
        · refine XS_run 5 [(32, .eq (.bool true)), (36, .eq (.int .i64 ((i : Int) - 1)))] [.bool true, .bool true, .slice A xs.length c, .int .i64 (i : Int), .int .i64 ((i : Int) - 1)] [(0, .slice A xs.length c), (1, .bool nulls), (6, .pointer (some ⟨wl.heap.size, 0, none⟩)), (8, .slice A xs.length c), (9, .int .i64 (xs.length : Int)), (10, .int .i64 (i : Int)), (33, .bool true), (34, .slice A xs.length c), (36, .int .i64 ((i : Int) - 1))] [Value.bool (decide ((i : Int) > 0)) = Value.bool true, Value.int .i64 (IntKind.i64.wrap ((i : Int) - 1)) = Value.int .i64 ((i : Int) - 1)] (by kernel_rfl) (by kernel_rfl) ⟨congrArg Value.bool (decide_eq_true (c_33)), wr_i64 (by omega) (by omega), trivial⟩ ?_
          have hB_34 : Below w.heap.size w wd_30 := (bt (bt (bg (bt HB hb_6) hg_11 (HB).size) hb_15) hb_31)
          obtain ⟨ad_35, ha_36, hc_37⟩ := Kd.atAttr (Kd.C_below hx hB_34) (i := (i : Int) - 1) (by omega) (by omega)
          replace hc_37 : CellsAt wd_30 (ad_35.add (((i : Int) - 1).toNat * 4)) [.string ((xs.getD ((i : Int) - 1).toNat at0).1), .int .i64 ((xs.getD ((i : Int) - 1).toNat at0).2.1), .int .i64 ((xs.getD ((i : Int) - 1).toNat at0).2.2.1), .string ((xs.getD ((i : Int) - 1).toNat at0).2.2.2)] := hc_37
          refine XS_run 5 [(37, .idx ad_35), (39, .load (.string ((xs.getD ((i : Int) - 1).toNat at0).1))), (41, .load (.string ((xs.getD i at0).1)))] [.pointer (some (ad_35.add (((i : Int) - 1).toNat * 4))), .pointer (some (ad_35.add (((i : Int) - 1).toNat * 4))), .string ((xs.getD ((i : Int) - 1).toNat at0).1), .pointer (some ⟨wl.heap.size, 0, none⟩), .string ((xs.getD i at0).1)] [(0, .slice A xs.length c), (1, .bool nulls), (8, .slice A xs.length c), (9, .int .i64 (xs.length : Int)), (10, .int .i64 (i : Int)), (33, .bool true), (39, .string ((xs.getD ((i : Int) - 1).toNat at0).1)), (41, .string ((xs.getD i at0).1))] [A = some ad_35, (0 : Int) ≤ (i : Int) - 1, (i : Int) - 1 < (xs.length : Int), LoadsAs Tryd.prog 9 (ad_35.add (((i : Int) - 1).toNat * 4)) (.string ((xs.getD ((i : Int) - 1).toNat at0).1)) wd_30, LoadsAs Tryd.prog 9 (⟨wl.heap.size, 0, none⟩) (.string ((xs.getD i at0).1)) wd_30] (by kernel_rfl) (by kernel_rfl) ⟨ha_36, (by omega), (by omega), loads1 rfl (elem_cell hc_37 0 _ rfl), loads1 rfl (Blk.cell (Blk.below hk_12 (bt hb_15 hb_31)) 0 _ rfl), trivial⟩ ?_
          by_cases c_38 : (!(Op.bytesLess ((xs.getD ((i : Int) - 1).toNat at0).1).toList ((xs.getD i at0).1).toList)) = true
          · refine XS_run 3 [(42, .eq (.bool true))] [.bool true, .bool true, .bool true] [(0, .slice A xs.length c), (1, .bool nulls), (8, .slice A xs.length c), (9, .int .i64 (xs.length : Int)), (10, .int .i64 (i : Int)), (30, .bool true)] [Value.bool (!(Op.bytesLess ((xs.getD ((i : Int) - 1).toNat at0).1).toList ((xs.getD i at0).1).toList)) = Value.bool true] (by kernel_rfl) (by kernel_rfl) ⟨congrArg Value.bool (c_38), trivial⟩ ?_
            refine XS_nil ?_
            refine X_cond true rfl ?_
            refine X_seq ?_
            refine X_region ?_
            refine XL_run 1 [] [(4, .int .i64 8)] wd_30 [] (by kernel_rfl) trivial ?_
            refine XL_nil ?_
            refine X_ret ?_
            refine RX.ret_ok (P := Tryd.prog) (fn := Tryd.f30) (N := 45) (R := R_) [.int .i64 8] (by kernel_rfl) (hR_ _ _ ?_)
            (try simp only [hz] at *)
            have he : attrAt nulls xs i = 8 := by unfold attrAt; rw [← geq_iff]; simp_all <;> omega
            rw [chkA_stop nulls xs i (by omega) h0 (by rw [he]; first | decide | (intro e_; omega)), he]
            exact ⟨rfl, hB_34⟩
          · refine XS_run 3 [(42, .eq (.bool false))] [.bool false, .bool false, .bool false] [(0, .slice A xs.length c), (1, .bool nulls), (8, .slice A xs.length c), (9, .int .i64 (xs.length : Int)), (10, .int .i64 (i : Int)), (30, .bool false)] [Value.bool (!(Op.bytesLess ((xs.getD ((i : Int) - 1).toNat at0).1).toList ((xs.getD i at0).1).toList)) = Value.bool false] (by kernel_rfl) (by kernel_rfl) ⟨congrArg Value.bool (Bool.eq_false_iff.2 (c_38)), trivial⟩ ?_
            refine XS_nil ?_
            refine X_cond false rfl ?_
            refine X_skip ?_
            refine X_region ?_
            refine XL_run 2 [(44, .eq (.int .i64 ((i : Int) + 1)))] [(0, .slice A xs.length c), (1, .bool nulls), (8, .slice A xs.length c), (9, .int .i64 (xs.length : Int)), (10, .int .i64 ((i : Int) + 1))] wd_30 [Value.int .i64 (IntKind.i64.wrap ((i : Int) + 1)) = Value.int .i64 ((i : Int) + 1)] (by kernel_rfl) ⟨wr_i64 (by omega) (by omega), trivial⟩ ?_
            refine XL_nil ?_
            refine ⟨(i + 1), by kernel_rfl, ?_, ?_⟩
            · (try simp only [hz] at *)
              exact ⟨by omega, chkUpto_succ _ _ _ h0 (by unfold attrAt; rw [← geq_iff]; simp_all <;> omega), hB_34⟩
            · (try dsimp only); omega
        · refine XS_run 13 [(32, .eq (.bool false))] [.bool false, .bool false, undef, undef, undef, undef, undef, undef, undef, undef, undef, .bool false, .bool false] [(0, .slice A xs.length c), (1, .bool nulls), (8, .slice A xs.length c), (9, .int .i64 (xs.length : Int)), (10, .int .i64 (i : Int)), (30, .bool false)] [Value.bool (decide ((i : Int) > 0)) = Value.bool false] (by kernel_rfl) (by kernel_rfl) ⟨congrArg Value.bool (decide_eq_false (c_33)), trivial⟩ ?_
          refine XS_nil ?_
          refine X_cond false rfl ?_
          refine X_skip ?_
          refine X_region ?_
          refine XL_run 2 [(44, .eq (.int .i64 ((i : Int) + 1)))] [(0, .slice A xs.length c), (1, .bool nulls), (8, .slice A xs.length c), (9, .int .i64 (xs.length : Int)), (10, .int .i64 ((i : Int) + 1))] wd_30 [Value.int .i64 (IntKind.i64.wrap ((i : Int) + 1)) = Value.int .i64 ((i : Int) + 1)] (by kernel_rfl) ⟨wr_i64 (by omega) (by omega), trivial⟩ ?_
          refine XL_nil ?_
          have hB_39 : Below w.heap.size w wd_30 := (bt (bt (bg (bt HB hb_6) hg_11 (HB).size) hb_15) hb_31)
          refine ⟨(i + 1), by kernel_rfl, ?_, ?_⟩
          · (try simp only [hz] at *)
            exact ⟨by omega, chkUpto_succ _ _ _ h0 (by unfold attrAt; rw [← geq_iff]; simp_all <;> omega), hB_39⟩
          · (try dsimp only); omega
    · refine XL_run 2 [(19, .eq (.bool true))] [(0, .slice A xs.length c), (1, .bool nulls), (5, .int .i64 (i : Int)), (6, .pointer (some ⟨wl.heap.size, 0, none⟩)), (7, .int .i64 (pairErr (xs.getD i at0) : Int)), (8, .slice A xs.length c), (9, .int .i64 (xs.length : Int)), (10, .int .i64 (i : Int)), (17, .bool true)] w_14 [Value.bool ((pairErr (xs.getD i at0) : Int) != 0) = Value.bool true] (by kernel_rfl) ⟨congrArg Value.bool (bneT (c_16)), trivial⟩ ?_
      refine XL_nil ?_
      refine X_cond true rfl ?_
      refine X_seq ?_
      refine X_region ?_
      refine XL_run 2 [] [(4, .int .i64 (pairErr (xs.getD i at0) : Int))] w_14 [] (by kernel_rfl) trivial ?_
      refine XL_nil ?_
      refine X_ret ?_
      refine RX.ret_ok (P := Tryd.prog) (fn := Tryd.f30) (N := 45) (R := R_) [.int .i64 (pairErr (xs.getD i at0) : Int)] (by kernel_rfl) (hR_ _ _ ?_)
      have hB_40 : Below w.heap.size w w_14 := (bt (bg (bt HB hb_6) hg_11 (HB).size) hb_15)
      (try simp only [hz] at *)
      have he : attrAt nulls xs i = pairErr (xs.getD i at0) := by unfold attrAt; rw [← geq_iff]; simp_all <;> omega
      rw [chkA_stop nulls xs i (by omega) h0 (by rw [he]; first | decide | (intro e_; omega)), he]
      exact ⟨rfl, hB_40⟩
  · refine XL_run 1 [(11, .eq (.bool false))] [(0, .slice A xs.length c), (1, .bool nulls), (8, .slice A xs.length c), (9, .int .i64 (xs.length : Int)), (10, .int .i64 (i : Int)), (11, .bool false)] wl [Value.bool (decide ((i : Int) < (xs.length : Int))) = Value.bool false] (by kernel_rfl) ⟨congrArg Value.bool (decide_eq_false (c_1)), trivial⟩ ?_
    refine XL_nil ?_
    refine X_seq ?_
    refine X_cond false rfl ?_
    refine X_exit ?_
    refine X_seq ?_
    refine X_region ?_
    refine XL_run 1 [] [(4, .int .i64 0)] wl [] (by kernel_rfl) trivial ?_
    refine XL_nil ?_
    refine X_ret ?_
    refine RX.ret_ok (P := Tryd.prog) (fn := Tryd.f30) (N := 45) (R := R_) [.int .i64 0] (by kernel_rfl) (hR_ _ _ ?_)
    rw [show chkA nulls xs = 0 from by unfold chkA; rw [show xs.length = i from by omega]; exact h0]
    exact ⟨rfl, HB⟩
end Go.Proofs.YtekfdfafhfhfbaaDoor
